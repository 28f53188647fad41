/- The evaluator's operations on integers, fields, slices, variables and rows are right. No conditions beside those in its theorems. -/
import Derived.Test.YtijplfaplkkpcaaGreatE1
import Derived.Laws.Sem
import Derived.Laws.CopyRow
import Derived.Laws.Cells
import Derived.Calls
import Derived.Laws.Entries
set_option linter.unusedVariables false
set_option linter.unusedSimpArgs false
set_option linter.unusedSectionVars false
set_option linter.constructorNameAsVariable false
set_option maxRecDepth 100000
noncomputable section
namespace Eng
open Go
abbrev A1:=Nat->Option (Nat×Nat)
structure Zv where
 rep:World->Prop
 fp:World->Nat->Prop
 lt:∀w r,rep w->fp w r->r<w.heap.size
 loc:∀w w',rep w->(∀r,fp w r->w'.heap[r]? =w.heap[r]?)->rep w'/\∀r,fp w' r↔fp w r
inductive CH where
 |no
 |mk (a:Nat->Zv) (sv:Nat->Int) (sr:Nat->Nat->Nat->Value) (sm:Nat->Int->Option Value) (sb:Nat->CH)
instance:Inhabited Zv:=⟨⟨fun _=>True,fun _ _=>False,fun _ _ _ h=>h.elim,fun _ _ _ _=>⟨trivial,fun _=>Iff.rfl⟩⟩⟩
instance:Inhabited CH:=⟨.no⟩
def CH.at_:CH->Nat->Zv|.no=>fun _=>default|.mk a _ _ _ _=>a
def CH.sv:CH->Nat->Int|.no=>fun _=>0 |.mk _ v _ _ _=>v
def CH.sr:CH->Nat->Nat->Nat->Value|.no=>fun _ _ _=>undef|.mk _ _ r _ _=>r
def CH.sm:CH->Nat->Int->Option Value|.no=>fun _ _=>none|.mk _ _ _ m _=>m
class AD where
 is:Nat->CH->Prop
 qt:Nat->List Int->List (Nat->Nat->Value)->List (Int->Option Value)->List CH->Prop
structure An where
 v:Nat->Int
 r:Nat->Nat->Nat->Value:=fun _ _ _=>undef
 m:Nat->Int->Option Value:=fun _ _=>none
 k:Nat->Option Obj:=fun _=>none
 b:Nat->CH:=fun _=>default
 ro:Nat->Nat:=fun _=>0
instance:CoeFun An (fun _=>Nat->Int):=⟨An.v⟩
def An.B(U:An)(t:Nat×Nat):Zv:=(U.b t.1).at_ (U.ro t.2)
def E5(op:BinOp)(k:IntKind)(x y:Int):Int:=
 match op with
 |.add=>k.wrap (x+y)
 |.sub=>k.wrap (x-y)
 |.mul=>k.wrap (x*y)
 |.quo=>k.wrap (x.tdiv y)
 |.rem=>x.tmod y
 |.and=>k.wrap (BitVec.ofInt k.bits x &&& BitVec.ofInt k.bits y).toNat
 |.or=>k.wrap (BitVec.ofInt k.bits x ||| BitVec.ofInt k.bits y).toNat
 |.xor=>k.wrap (BitVec.ofInt k.bits x^^^BitVec.ofInt k.bits y).toNat
 |.andNot=>k.wrap (BitVec.ofInt k.bits x &&& ~~~ BitVec.ofInt k.bits y).toNat
 |.shl=>k.wrap (x*2^(min y.toNat k.bits))
 |.shr=>x.fdiv (2^(min y.toNat k.bits))
 |_=>0
def numOf:Value->Int
 |.int _ n=>n
 |.bool b=>if b then 1 else 0
 |_=>0
def Dm(v:Option Value)(c:Nat):Int:=match v with
 |some (.agg cs)=>(match cs[c]? with |some v=>numOf v|none=>0)
 |some v=>numOf v
 |none=>0
def E.den(U:An):E->Int
 |.lit n=>n
 |.var i=>U i
 |.bin op k a b=>E5 op k (a.den U) (b.den U)
 |.conv k a=>k.wrap (a.den U)
 |.cell t a c=>numOf (U.r t (a.den U).toNat c)
 |.Bd t a c=>Dm (U.m t (a.den U)) c
def BQ(op:BinOp)(x y:Int):Bool:=
 match op with
 |.eql=>x==y
 |.neq=>x != y
 |.lss=>x<y
 |.leq=>x<=y
 |.gtr=>x>y
 |.geq=>x>=y
 |_=>false
inductive F2{α β:Type}(R:α->β->Prop):List α->List β->Prop
 |nil:F2 R [] []
 |cons {a b as bs}:R a b->F2 R as bs->F2 R (a::as) (b::bs)
variable (J:A1) (U:An)
def WK(r o t es N:Nat):Prop:=∃(cs:Array Value) (ty:TypeId) (z:Nat×Nat),U.k r=some (.cells cs ty z)/\o+N*es<=cs.size/\∀j c,j<N->c<es->∃u,cs[o+(j*es+c)]? =some u/\u=U.r t j c/\u.oneCell'=true
def AeP(b:Nat)(v:Value):Prop:=∃r S,J b=some (r,S)/\v=.pointer (some ⟨r,0,none⟩)
def AR(a:A)(v:Value):Prop:=
 match a with
 |.bool b=>v=.bool b
 |.int k n=>v=.int k n
 |.sym k e=>v=.int k (e.den U)
 |.str s=>v=.string s
 |.ptr b off=>∃r S,J b=some (r,S)/\v=.pointer (some ⟨r,off,none⟩)
 |.HB=>v=.pointer none
 |.slice b off len cap=>∃r S,J b=some (r,S)/\v=.slice (some ⟨r,off,none⟩) len cap
 |.KW b off len es=>∃r S c,J b=some (r,S)/\v=.slice (some ⟨r,off,none⟩) len c/\off+c*es=S
 |.B7=>v=.slice none 0 0
 |.emp=>∃a c,v=.slice (some a) 0 c
 |.map r=>∃x S,J r=some (x,S)/\v=.map (some x)
 |.Jv=>v=.map none
 |.fn f DD=>∃vs:List Value,v=.func (.func f) #[] vs.toArray/\F2 (AeP J) DD vs
 |.Qe l=>∃r S,J l=some (r,S)/\v=.func (.yield r) #[] #[]
 |.KF=>v=.nilFunc
 |.any=>∃p n c,v=.slice p n c
 |.Wz b es n=>∃r S N,J b=some (r,S)/\v=.slice (some ⟨r,0,none⟩) N N/\((N:Nat):Int)=n.den U/\N*es=S
 |.pt b e es c=>∃r S N,J b=some (r,S)/\v=.pointer (some ⟨r,N*es+c,none⟩)/\((N:Nat):Int)=e.den U
 |.C2 b es n=>∃p N k,v=.slice p N k/\((N:Nat):Int)=n.den U/\((p=none/\N=0/\k=0)\/∃r S,J b=some (r,S)/\p=some ⟨r,0,none⟩/\k*es=S/\N<=k)
 |.Wp b es lo n=>∃p N k,v=.slice p N k/\N<=k/\((N:Nat):Int)=n.den U/\(N=0\/∃r S L,J b=some (r,S)/\p=some ⟨r,L*es,none⟩/\((L:Nat):Int)=lo.den U)
 |.sb e=>v=.bool (decide (e.den U ≠ 0))
 |.rc t e c=>v=U.r t (e.den U).toNat c/\v.oneCell'=true
 |.P3 t es n=>∃p N k,v=.slice p N k/\((N:Nat):Int)=n.den U/\(N=0\/∃r o,p=some ⟨r,o,none⟩/\WK U r o t es N)
 |.NB t e es c=>∃r o N Jzz,v=.pointer (some ⟨r,o+(Jzz*es+c),none⟩)/\((Jzz:Nat):Int)=e.den U/\Jzz<N/\WK U r o t es N
 |.fp t=>v=.pointer (some ⟨U.ro t,0,none⟩)
def VR(x:V)(v:Value):Prop:=
 match x with
 |.one a=>AR J U a v
 |.agg l=>∃vs:List Value,v=.agg vs.toArray/\F2 (AR J U) l vs
def Bb(x:AV)(v:Value):Prop:=
 match x with
 |.one a=>AR J U a v
 |.agg l=>∃vs:List Value,v=.agg vs.toArray/\F2 (AR J U) l vs
 |.Dh l=>∃vs:List Value,v=.tuple vs.toArray/\F2 (VR J U) l vs
theorem VR.av{x:V}{v:Value}(h:VR J U x v):Bb J U x.av v:=by cases x<;>exact h
theorem Bb.ofV{x:V}{v:Value}(h:Bb J U x.av v):VR J U x v:=by cases x<;>exact h
def Zr(nl:Nat)(pt:T AV)(tmps:Array Value):Prop:=∀t v,t<nl->T.get pt t=some v->∃v',tmps[t]? =some v'/\Bb J U v v'
def TlR(nl:Nat)(tl:TL)(tmps:Array Value):Prop:=∀t v,nl<=t->tl.find t=some v->∃v',tmps[t]? =some v'/\Bb J U v v'
def WL(e:ME)(m:MapEntry):Prop:=VR J U e.key m.key/\VR J U e.val m.val/\m.born=e.born
def jpR(j:Option Jp)(c:Option Code):Prop:=
 match j with
 |none=>c=none
 |some .ret=>c=some .ret
 |some (.exit id)=>c=some (.exit id)
def I2(C:AB)(l:I1)(L:Loop):Prop:=
 L.state=l.st/\jpR l.B8 L.pending/\L.fn=l.fn/\L.params.toList=l.params/\L.assign=l.assign/\L.body=l.body/\
 (∃fi,C.fu l.fn=some fi/\fi.nt<=L.tmps.size/\Zr J U fi.nl l.tmps L.tmps)/\(∃S,J l.defs=some (L.defers,S))
def QK(c:T A)(n:Nat)(cs:Array Value):Prop:=∀i a,i<n->T.get c i=some a->∃v,cs[i]? =some v/\AR J U a v
def AuO(m:Option Nat)(m':Option Nat):Prop:=
 match m with
 |none=>m'=none
 |some b=>∃r S,J b=some (r,S)/\m'=some r
def AhY(i:Nat):List (E×A)->Option A
 | []=>none
 |p::l=>if p.1.den U=8*(i:Int) then some p.2 else AhY i l
def Avr(c:T A)(sp:List (E×A))(i:Nat):Option A:=match AhY U i sp with |some a=>some a|none=>T.get c i
def VmR(c:T A)(sp:List (E×A))(cs:Array Value):Prop:=∀i a,i<cs.size->Avr U c sp i=some a->∃v,cs[i]? =some v/\AR J U a v
def Ao(j c:Nat):List (E×Nat×A)->Option A
 | []=>none
 |p::l=>if p.1.den U=(j:Int)/\p.2.1=c then some p.2.2 else Ao j c l
def B3(t:Nat)(sp:List (E×Nat×A))(j c:Nat)(v:Value):Prop:=match Ao U j c sp with |some a=>AR J U a v|none=>v=U.r t j c
def Bp(z:Int):List (E×Option V)->Option (Option V)
 | []=>none
 |p::l=>if p.1.den U=z then some p.2 else Bp z l
def BV(ms:List MapEntry)(z:Int)(p:Value->Prop):Prop:=∃e∈ms,e.key=.int .i64 z/\p e.val
def BY(t:Nat)(kn:List (E×Option V))(ms:List MapEntry)(z:Int):Prop:=match Bp U z kn with
 |some (some v)=>BV ms z fun u=>VR J U v u
 |some none=>∀e∈ms,e.key ≠ .int .i64 z
 |none=>match U.m t z with
  |some u=>BV ms z fun u'=>u'=u
  |none=>∀e∈ms,e.key ≠ .int .i64 z
def CX(ms:List MapEntry)(clock:Nat):Prop:=(∀e∈ms,∃z,e.key=.int .i64 z)/\(ms.Pairwise fun a b=>a.key ≠ b.key)/\(∀e∈ms,e.born<clock)/\ms.Pairwise fun a b=>a.born ≠ b.born
def BR(C:AB)(b:Aj)(o:Obj)(S:Nat):Prop:=
 match b with
 |.cells c n full _=>∃(cs:Array Value) (e:TypeId),o=.cells cs e (0,0)/\cs.size=S/\n<=S/\(full=true->n=S)/\QK J U c n cs
 |.map es clock=>∃ms:List MapEntry,o=.map ms.toArray clock/\F2 (WL J U) es ms
 |.iter m since seen last=>∃m',o=.mapIter m' since seen.toArray last/\AuO J m m'
 |.loop l=>∃L,o=.loop L/\I2 J U C l L
 |.defs opn=>o=.deferred (if opn then some [] else none)
 |.vm c n sp=>∃(cs:Array Value) (e:TypeId),o=.cells cs e (0,0)/\cs.size=S/\n=S/\(∀i,i<S->∃z,cs[i]? =some (.int .u64 z))/\VmR J U c sp cs
 |.row t es n sp=>∃(cs:Array Value) (ty:TypeId) (N:Nat),o=.cells cs ty (0,0)/\cs.size=S/\(N:Int)=n.den U/\N*es<=S/\(∀(i:Nat) (u:Value),i<N*es->cs[i]? =some u->u.oneCell'=true)/\(∀p∈sp,p.1.den U<n.den U)/\∀j c,j<N->c<es->∃u,cs[j*es+c]? =some u/\B3 J U t sp j c u
 |.Ej t kn=>∃(ms:List MapEntry) (clock:Nat),o=.map ms.toArray clock/\CX ms clock/\∀z,BY J U t kn ms z
 |.dead=>True
 |.Am _=>False
def Live(h:H)(b:Nat):Prop:=∃x,h.get b=some x/\x ≠ .dead
def Sib(h:H)(b b':Nat):Prop:=∃c n f,h.get b=some (.cells c n f (some b'))
def GX(o:Obj):Prop:=∀cs e lo hi,o=.cells cs e (lo,hi)->hi<=lo
structure Hr(h:H)(w:World):Prop where
 rep:∀b t,h.get b=some (.Am t)->(U.B t).rep w
 free:∀b t,h.get b=some (.Am t)->∀r,(U.B t).fp w r->(∀b' S,J b' ≠ some (r,S))/\U.k r=none
 Vs:∀b t b' t',h.get b=some (.Am t)->h.get b'=some (.Am t')->b ≠ b'->∀r,(U.B t).fp w r->¬(U.B t').fp w r
def Fo(h:H)(w:World)(r:Nat):Prop:=∃b t,h.get b=some (.Am t)/\(U.B t).fp w r
structure Rel(C:AB)(h:H)(w:World):Prop where
 lt:∀b r S,J b=some (r,S)->b<h.next
 AE:∀b r S,J b=some (r,S)->∃o,w.heap[r]? =some o/\∀x,h.get b=some x->BR J U C x o S
 inj:∀b b' r S S',J b=some (r,S)->J b'=some (r,S')->Live h b->Live h b'->b=b'\/Sib h b b'
 kept:∀r o,U.k r=some o->w.heap[r]? =some o/\∀b S,J b ≠ some (r,S)
 Am:Hr J U h w
structure QN(F F':Nat->Prop)(J J':A1)(h h':H)(w w':World):Prop where
 next:h.next<=h'.next
 CW:∀b,b<h.next->J' b=J b
 new:∀b r S,h.next<=b->J' b=some (r,S)->w.heap.size<=r\/∃b0 S0,J b0=some (r,S0)/\Live h b0
 size:w.heap.size<=w'.heap.size
 live:∀b,b<h.next->Live h' b->Live h b
 frame:∀r,r<w.heap.size->(∀b S,J b=some (r,S)->¬Live h b)->¬F r->w'.heap[r]? =w.heap[r]?
 fo:∀r,F' r->w.heap.size<=r\/F r
 os:w'.os=w.os
 tape:w'.tape=w.tape
 output:w'.output=w.output
 fz:∀a,a.block<w.heap.size->w'.frozen? a=w.frozen? a
abbrev Ext(U:An)(J J':A1)(h h':H)(w w':World):Prop:=QN (Fo U h w) (Fo U h' w') J J' h h' w w'
variable {J U}
def Sub(J J':A1):Prop:=∀b x,J b=some x->J' b=some x
theorem Sub.refl(J:A1):Sub J J:=fun _ _ h=>h
theorem F2.mono{α β:Type}{R R':α->β->Prop}(hr:∀a b,R a b->R' a b){l:List α}{m:List β}(h:F2 R l m):F2 R' l m:=by
 induction h with
 |nil=>exact .nil
 |cons h _ ih=>exact .cons (hr _ _ h) ih
theorem F2.length{α β:Type}{R:α->β->Prop}{l:List α}{m:List β}(h:F2 R l m):l.length=m.length:=by
 induction h with
 |nil=>rfl
 |cons _ _ ih=>simp[ih]
theorem F2.get{α β:Type}{R:α->β->Prop}{l:List α}{m:List β}(h:F2 R l m):∀{i:Nat} {a:α},l[i]? =some a->∃b,m[i]? =some b/\R a b:=by
 induction h with
 |nil=>intro i a h;simp at h
 |cons Ny _ ih=>
  intro i a h;cases i with
  |zero=>simp at h;subst h;exact⟨_,by simp,Ny⟩
  |succ i=>simpa using ih (by simpa using h)
theorem F2.append{α β:Type}{R:α->β->Prop}{l l':List α}{m m':List β}(h:F2 R l m)(h':F2 R l' m'):F2 R (l++l') (m++m'):=by
 induction h with
 |nil=>exact h'
 |cons Ny _ ih=>exact .cons Ny ih
theorem F2.take{α β:Type}{R:α->β->Prop}{l:List α}{m:List β}(h:F2 R l m)(n:Nat):F2 R (l.take n) (m.take n):=by
 induction h generalizing n with
 |nil=>simp;exact .nil
 |cons Ny _ ih=>cases n with
  |zero=>simp;exact .nil
  |succ n=>exact .cons Ny (ih n)
theorem F2.drop{α β:Type}{R:α->β->Prop}{l:List α}{m:List β}(h:F2 R l m)(n:Nat):F2 R (l.drop n) (m.drop n):=by
 induction h generalizing n with
 |nil=>simp;exact .nil
 |cons Ny h ih=>cases n with
  |zero=>exact .cons Ny h
  |succ n=>exact ih n
theorem AR.mono{J':A1}(hs:Sub J J'){a:A}{v:Value}(h:AR J U a v):AR J' U a v:=by
 cases a<;>simp only[AR]at h ⊢ <;>try exact h
 ·obtain⟨r,S,h1,h2⟩:=h;exact⟨r,S,hs _ _ h1,h2⟩
 ·obtain⟨r,S,h1,h2⟩:=h;exact⟨r,S,hs _ _ h1,h2⟩
 ·obtain⟨r,S,c,h1,h2⟩:=h;exact⟨r,S,c,hs _ _ h1,h2⟩
 ·obtain⟨r,S,h1,h2⟩:=h;exact⟨r,S,hs _ _ h1,h2⟩
 ·obtain⟨vs,h1,h2⟩:=h;exact⟨vs,h1,h2.mono fun b v ⟨r,S,hb,hv⟩=>⟨r,S,hs _ _ hb,hv⟩⟩
 ·obtain⟨r,S,h1,h2⟩:=h;exact⟨r,S,hs _ _ h1,h2⟩
 ·obtain⟨r,S,N,h1,h2⟩:=h;exact⟨r,S,N,hs _ _ h1,h2⟩
 ·obtain⟨r,S,N,h1,h2⟩:=h;exact⟨r,S,N,hs _ _ h1,h2⟩
 ·obtain⟨p,N,k,h1,h2,h3⟩:=h;refine⟨p,N,k,h1,h2,?_⟩;rcases h3 with h3|⟨r,S,h4,h5⟩
  ·exact .inl h3
  ·exact .inr ⟨r,S,hs _ _ h4,h5⟩
 ·obtain⟨p,N,k,h1,h0,h2,h3⟩:=h;refine⟨p,N,k,h1,h0,h2,?_⟩;rcases h3 with h3|⟨r,S,L,h4,h5⟩
  ·exact .inl h3
  ·exact .inr ⟨r,S,L,hs _ _ h4,h5⟩
theorem VR.mono{J':A1}(hs:Sub J J'){x:V}{v:Value}(h:VR J U x v):VR J' U x v:=by
 cases x with
 |one a=>exact AR.mono hs h
 |agg l=>obtain⟨vs,h1,h2⟩:=h;exact⟨vs,h1,h2.mono fun _ _=>AR.mono hs⟩
theorem Bb.mono{J':A1}(hs:Sub J J'){x:AV}{v:Value}(h:Bb J U x v):Bb J' U x v:=by
 cases x with
 |one a=>exact AR.mono hs h
 |agg l=>obtain⟨vs,h1,h2⟩:=h;exact⟨vs,h1,h2.mono fun _ _=>AR.mono hs⟩
 |Dh l=>obtain⟨vs,h1,h2⟩:=h;exact⟨vs,h1,h2.mono fun _ _=>VR.mono hs⟩
theorem Zr.mono{J':A1}(hs:Sub J J'){nl:Nat}{pt:T AV}{tmps:Array Value}(h:Zr J U nl pt tmps):Zr J' U nl pt tmps:=
 fun t v ht hg=>let ⟨v',h1,h2⟩:=h t v ht hg;⟨v',h1,h2.mono hs⟩
theorem TlR.mono{J':A1}(hs:Sub J J'){nl:Nat}{tl:TL}{tmps:Array Value}(h:TlR J U nl tl tmps):TlR J' U nl tl tmps:=
 fun t v ht hg=>let ⟨v',h1,h2⟩:=h t v ht hg;⟨v',h1,h2.mono hs⟩
theorem QK.mono{J':A1}(hs:Sub J J'){c:T A}{n:Nat}{cs:Array Value}(h:QK J U c n cs):QK J' U c n cs:=
 fun i a hi hg=>let ⟨v',h1,h2⟩:=h i a hi hg;⟨v',h1,h2.mono hs⟩
theorem I2.mono{J':A1}(hs:Sub J J'){C:AB}{l:I1}{L:Loop}(h:I2 J U C l L):I2 J' U C l L:=by
 obtain⟨h1,h2,h3,h4,h5,h6,⟨fi,h7,h8,h9⟩,⟨S,RF⟩⟩:=h;exact⟨h1,h2,h3,h4,h5,h6,⟨fi,h7,h8,h9.mono hs⟩,⟨S,hs _ _ RF⟩⟩
theorem B3.mono{J':A1}(hs:Sub J J'){t:Nat}{sp:List (E×Nat×A)}{j c:Nat}{v:Value}(h:B3 J U t sp j c v):B3 J' U t sp j c v:=by
 unfold B3 at h ⊢;split
 ·rename_i a ha;rw[ha]at h;exact AR.mono hs h
 ·rename_i ha;rw[ha]at h;exact h
theorem BV.mono{ms:List MapEntry}{z:Int}{p q:Value->Prop}(h:BV ms z p)(hpq:∀v,p v->q v):BV ms z q:=let ⟨e,h1,h2,h3⟩:=h;⟨e,h1,h2,hpq _ h3⟩
theorem BY.mono{J':A1}(hs:Sub J J'){t:Nat}{kn:List (E×Option V)}{ms:List MapEntry}{z:Int}(h:BY J U t kn ms z):BY J' U t kn ms z:=by
 unfold BY at h ⊢;split
 ·rename_i v hv;rw[hv]at h;exact h.mono fun _=>VR.mono hs
 ·rename_i hv;rw[hv]at h;exact h
 ·rename_i hv;rw[hv]at h;exact h
theorem BR.mono{J':A1}(hs:Sub J J'){C:AB}{b:Aj}{o:Obj}{S:Nat}(h:BR J U C b o S):BR J' U C b o S:=by
 cases b with
 |cells c n f s=>obtain⟨cs,e,h1,h2,h3,h4,h5⟩:=h;exact⟨cs,e,h1,h2,h3,h4,h5.mono hs⟩
 |map es clock=>obtain⟨ms,h1,h2⟩:=h;exact⟨ms,h1,h2.mono fun _ _ ⟨a,b,c⟩=>⟨a.mono hs,b.mono hs,c⟩⟩
 |iter m since seen last=>
  obtain⟨m',h1,h2⟩:=h;refine⟨m',h1,?_⟩;cases m with
  |none=>exact h2
  |some b=>obtain⟨r,S,h3,h4⟩:=h2;exact⟨r,S,hs _ _ h3,h4⟩
 |loop l=>obtain⟨L,h1,h2⟩:=h;exact⟨L,h1,h2.mono hs⟩
 |defs o=>exact h
 |vm c n sp=>obtain⟨cs,e,h1,h2,h3,h4,h5⟩:=h;exact⟨cs,e,h1,h2,h3,h4,fun i a hi ha=>let ⟨v,h6,h7⟩:=h5 i a hi ha;⟨v,h6,h7.mono hs⟩⟩
 |row t es n sp=>obtain⟨cs,ty,N,h1,h2,h3,h4,h5,h6,h7⟩:=h;exact⟨cs,ty,N,h1,h2,h3,h4,h5,h6,fun j c hj hc=>let ⟨u,q1,q2⟩:=h7 j c hj hc;⟨u,q1,q2.mono hs⟩⟩
 |Ej t kn=>obtain⟨ms,clock,h1,h2,h3⟩:=h;exact⟨ms,clock,h1,h2,fun z=>(h3 z).mono hs⟩
 |dead=>trivial
 |Am t=>exact h
theorem Rel.EY{C:AB}{h:H}{w:World}(hr:Rel J U C h w){b:Nat}(hb:h.next<=b):J b=none:=by
 cases he:J b with
 |none=>rfl
 |some x=>exact absurd (hr.lt b x.1 x.2 he) (by omega)
theorem Ext.sub{C:AB}{J':A1}{h h':H}{w w':World}(he:Ext U J J' h h' w w')(hr:Rel J U C h w):Sub J J':=by
 intro b x hb;rw[he.CW b (hr.lt b x.1 x.2 hb)];exact hb
theorem Hr.step{J J':A1}{U:An}{h h':H}{w w':World}(hr:Hr J U h w)(hb:∀b t,h'.get b=some (.Am t)->h.get b=some (.Am t))(hw:∀r,Fo U h w r->w'.heap[r]? =w.heap[r]?)
 (hρ:∀b r S,J' b=some (r,S)->(∃b0 S0,J b0=some (r,S0))\/w.heap.size<=r):Hr J' U h' w'/\∀n r,Fo U h' w' r->n<=r\/Fo U h w r:=by
 have key:∀b t,h'.get b=some (.Am t)->(U.B t).rep w'/\∀r,(U.B t).fp w' r↔(U.B t).fp w r:=fun b t hg=>(U.B t).loc w w' (hr.rep b t (hb b t hg)) fun r hf=>hw r ⟨b,t,hb b t hg,hf⟩
 refine⟨⟨fun b t hg=>(key b t hg).1,fun b t hg r hf=>?_,fun b t b' t' hg HZ Bs r hf hf'=>?_⟩,fun n r ⟨b,t,hg,hf⟩=>.inr ⟨b,t,hb b t hg,((key b t hg).2 r).1 hf⟩⟩
 ·have hf:=((key b t hg).2 r).1 hf;obtain⟨q1,q2⟩:=hr.free b t (hb b t hg) r hf;refine⟨fun b' S hρ'=>?_,q2⟩;rcases hρ b' r S hρ' with ⟨b0,S0,e⟩|e
  ·exact q1 b0 S0 e
  ·have:=(U.B t).lt w r (hr.rep b t (hb b t hg)) hf;omega
 ·exact hr.Vs b t b' t' (hb b t hg) (hb b' t' HZ) Bs r (((key b t hg).2 r).1 hf) (((key b' t' HZ).2 r).1 hf')
theorem Hr.lt{J:A1}{U:An}{h:H}{w:World}(hr:Hr J U h w){r:Nat}(hf:Fo U h w r):r<w.heap.size:=let ⟨b,t,h1,h2⟩:=hf;(U.B t).lt w r (hr.rep b t h1) h2
theorem Hr.ours{J:A1}{U:An}{h:H}{w:World}(hr:Hr J U h w){b r S:Nat}(hb:J b=some (r,S)):¬Fo U h w r:=fun⟨b',t,h1,h2⟩=>(hr.free b' t h1 r h2).1 b S hb
theorem Hr.none{J:A1}{U:An}{h:H}{w:World}(hb:∀b t,h.get b ≠ some (.Am t)):Hr J U h w:=⟨fun b t hg=>absurd hg (hb b t),fun b t hg=>absurd hg (hb b t),fun b t _ _ hg=>absurd hg (hb b t)⟩
theorem Ext.refl(J:A1)(h:H)(w:World){C:AB}(hr:Rel J U C h w):Ext U J J h h w w:=
 ⟨Nat.le_refl _,fun _ _=>rfl,fun b r S hb he=>by rw[hr.EY hb]at he;simp at he,Nat.le_refl _,fun _ _ h=>h,fun _ _ _ _=>rfl,fun _ h=>.inr h,rfl,rfl,rfl,fun _ _=>rfl⟩
end Eng
namespace Eng
open Go
variable {J J':A1} {U:An} {C:AB}
theorem H.By{h:H}{b:Nat}{x:Aj}{b':Nat}{y:Aj}(hg:(h.put b x).get b'=some y):(b'=b/\y=x)\/(b' ≠ b/\h.get b'=some y):=T.DT hg
theorem H.CJ{h:H}{x:Aj}{b':Nat}{y:Aj}(hg:(h.new x).get b'=some y):(b'=h.next/\y=x)\/(b' ≠ h.next/\h.get b'=some y):=T.DT hg
theorem Ext.trans{Jq1 Jq2:A1}{h h1 h2:H}{w w1 w2:World}(hr:Rel J U C h w)(Ic:Rel Jq1 U C h1 w1)
 (e:Ext U J Jq1 h h1 w w1) (f:Ext U Jq1 Jq2 h1 h2 w1 w2):Ext U J Jq2 h h2 w w2 where
 next:=Nat.le_trans e.next f.next
 CW:=fun b hb=>by rw[f.CW b (IM hb e.next),e.CW b hb]
 new:=by
  intro b r S hb MA
  by_cases h1:b<h1.next
  ·rw[f.CW b h1]at MA;exact e.new b r S hb MA
  ·rcases f.new b r S (by omega) MA with h3|⟨b0,S0,h3,h4⟩
   ·exact .inl (Nat.le_trans e.size h3)
   ·by_cases h5:b0<h.next
    ·rw[e.CW b0 h5]at h3;exact .inr ⟨b0,S0,h3,e.live b0 h5 h4⟩
    ·exact e.new b0 r S0 (by omega) h3
 size:=Nat.le_trans e.size f.size
 live:=fun b hb hl=>e.live b hb (f.live b (IM hb e.next) hl)
 frame:=by
  intro r IQ hn hfo;rw[f.frame r (IM IQ e.size) ?_ fun hx=>(e.fo r hx).elim (fun h=>by omega) hfo,e.frame r IQ hn hfo];intro b S hb hl
  by_cases h5:b<h.next
  ·rw[e.CW b h5]at hb;exact hn b S hb (e.live b h5 hl)
  ·rcases e.new b r S (by omega) hb with h3|⟨b0,S0,h3,h4⟩
   ·omega
   ·exact hn b0 S0 h3 h4
 fo:=fun r hx=>(f.fo r hx).elim (fun h=>.inl (Nat.le_trans e.size h)) (e.fo r)
 os:=f.os.trans e.os
 tape:=f.tape.trans e.tape
 output:=f.output.trans e.output
 fz:=fun a ha=>(f.fz a (IM ha e.size)).trans (e.fz a ha)
theorem Rel.drew{h:H}{w:World}(hr:Rel J U C h w)(n:Nat):Rel J U C h {w with drawn:=n}:=⟨hr.lt,hr.AE,hr.inj,hr.kept,(hr.Am.step (w':={w with drawn:=n}) (fun _ _ h=>h) (fun _ _=>rfl) fun b r S hb=>.inl ⟨b,S,hb⟩).1⟩
theorem Ext.drew{h:H}{w:World}(hr:Rel J U C h w)(n:Nat):Ext U J J h h w {w with drawn:=n}:=
 ⟨Nat.le_refl _,fun _ _=>rfl,fun b r S hb he=>by rw[hr.EY hb]at he;simp at he,Nat.le_refl _,fun _ _ h=>h,fun _ _ _ _=>rfl,(hr.Am.step (J':=J) (w':={w with drawn:=n}) (fun _ _ h=>h) (fun _ _=>rfl) fun b r S hb=>.inl ⟨b,S,hb⟩).2 _,rfl,rfl,rfl,fun _ _=>rfl⟩
theorem Jb{h:H}{b:Nat}{x:Aj}(hx:∀t,x ≠ .Am t)(b':Nat)(t:Nat×Nat)(hg:(h.put b x).get b'=some (.Am t)):h.get b'=some (.Am t):=by
 rcases H.By hg with ⟨_,e⟩|⟨_,e⟩
 ·exact absurd e.symm (hx t)
 ·exact e
theorem Ql{h:H}{x:Aj}(hx:∀t,x ≠ .Am t)(b':Nat)(t:Nat×Nat)(hg:(h.new x).get b'=some (.Am t)):h.get b'=some (.Am t):=by
 rcases H.CJ hg with ⟨_,e⟩|⟨_,e⟩
 ·exact absurd e.symm (hx t)
 ·exact e
theorem BR.Fw{x:Aj}{o:Obj}{S:Nat}(h:BR J U C x o S)(t:Nat×Nat):x ≠ .Am t:=fun e=>by subst e;exact h
theorem AdH{es:Array MapEntry}{c:Nat}:GX (.map es c):=fun _ _ _ _ h=>nomatch h
theorem EM{cs:Array Value}{e:TypeId}:GX (.cells cs e (0,0)):=by intro _ _ _ _ h;cases h;exact Nat.le_refl _
def GG(J:A1)(b:Nat)(x:Nat×Nat):A1:=fun i=>if i=b then some x else J i
theorem Ay(J:A1)(b:Nat)(x:Nat×Nat):GG J b x b=some x:=by simp[GG]
theorem A6(J:A1){b i:Nat}(x:Nat×Nat)(h:i ≠ b):GG J b x i=J i:=by simp[GG,h]
theorem QI{n:Nat}(N S:Nat)(b r S':Nat)(hb:GG J n (N,S) b=some (r,S')):(∃b0 S0,J b0=some (r,S0))\/N<=r:=by
 by_cases e:b=n
 ·subst e;rw[Ay]at hb;cases hb;exact .inr (Nat.le_refl _)
 ·rw[A6 J _ e]at hb;exact .inl ⟨b,S',hb⟩
theorem AcH{n b1 r1 S1:Nat}(h1:J b1=some (r1,S1))(S:Nat){N:Nat}(b r S':Nat)(hb:GG J n (r1,S) b=some (r,S')):(∃b0 S0,J b0=some (r,S0))\/N<=r:=by
 by_cases e:b=n
 ·subst e;rw[Ay]at hb;cases hb;exact .inl ⟨b1,S1,h1⟩
 ·rw[A6 J _ e]at hb;exact .inl ⟨b,S',hb⟩
theorem Rel.Gn{h:H}{w:World}(hr:Rel J U C h w)(x:Nat×Nat):Sub J (GG J h.next x):=by
 intro b y hb;have:=hr.lt b y.1 y.2 hb;rw[A6 J x (by omega)];exact hb
def push(w:World)(o:Obj):World:={w with heap:=w.heap.push o}
theorem C9(w:World)(o:Obj){r:Nat}(h:r<w.heap.size):(push w o).heap[r]? =w.heap[r]? :=by
 show (w.heap.push o)[r]? =_
 rw[Array.getElem?_push,if_neg (by omega)]
theorem Hi(w:World)(o:Obj):(push w o).heap[w.heap.size]? =some o:=by
 show (w.heap.push o)[w.heap.size]? =_
 simp
theorem Rel.lt_size{h:H}{w:World}(hr:Rel J U C h w){b r S:Nat}(hb:J b=some (r,S)):r<w.heap.size:=by
 obtain⟨o,ho,_⟩:=hr.AE b r S hb;exact (Ht.1 ho).1
theorem Mw{o:Obj}(hz:GX o)(a:Addr):(match some o with |some (.cells _ _ (lo,hi))=>decide (lo<=a.off)&&decide (a.off<hi)|_=>false)=false:=by
 cases o with
 |cells cs t r=>
  obtain⟨lo,hi⟩:=r;have:=hz cs t lo hi rfl;show (decide (lo<=a.off)&&decide (a.off<hi))=false
  by_cases h1:lo<=a.off
  ·have:¬a.off<hi:=by omega
   simp[this]
  ·simp[h1]
 |_=>rfl
theorem K4(w:World){o:Obj}(hz:GX o)(a:Addr):(push w o).frozen? a=w.frozen? a:=by
 unfold World.frozen?
 by_cases e:a.block=w.heap.size
 ·rw[e,Hi,show w.heap[w.heap.size]? =none by simp];exact Mw hz a
 ·have:(push w o).heap[a.block]? =w.heap[a.block]? :=by
   show (w.heap.push o)[a.block]? =_
   rw[Array.getElem?_push,if_neg e]
  rw[this]
theorem BR.GX{x:Aj}{o:Obj}{S:Nat}(h:BR J U C x o S)(hd:x ≠ .dead):GX o:=by
 intro cs e lo hi he;cases x with
 |cells c n f s=>obtain⟨KU,e',h1,_⟩:=h;rw[h1]at he;cases he;exact Nat.le_refl _
 |map es clock=>obtain⟨ms,h1,_⟩:=h;rw[h1]at he;cases he
 |iter m since seen last=>obtain⟨m',h1,_⟩:=h;rw[h1]at he;cases he
 |loop l=>obtain⟨L,h1,_⟩:=h;rw[h1]at he;cases he
 |defs opn=>have h1:o=.deferred (if opn then some [] else none):=h;rw[h1]at he;cases he
 |vm c n sp=>obtain⟨KU,e',h1,_⟩:=h;rw[h1]at he;cases he;exact Nat.le_refl _
 |row t es n sp=>obtain⟨KU,ty,N,h1,_⟩:=h;rw[h1]at he;cases he;exact Nat.le_refl _
 |Ej t kn=>obtain⟨ms,clock,h1,_⟩:=h;rw[h1]at he;cases he
 |Am t=>exact h.elim
 |dead=>exact absurd rfl hd
theorem Rel.new{h:H}{w:World}(hr:Rel J U C h w)(x:Aj)(o:Obj)(S:Nat)(hx:BR (GG J h.next (w.heap.size,S)) U C x o S)(hz:GX o:=by intro cs e lo hi h;cases h<;>exact Nat.le_refl _):
 Rel (GG J h.next (w.heap.size,S)) U C (h.new x) (push w o)/\Ext U J (GG J h.next (w.heap.size,S)) h (h.new x) w (push w o):=by
 have DU:=hr.Gn (w.heap.size,S);have ES:=hr.Am.step (J':=GG J h.next (w.heap.size,S)) (h':=h.new x) (w':=push w o) (Ql hx.Fw) (fun r' hf=>C9 w o (hr.Am.lt hf)) (QI w.heap.size S);refine⟨⟨?_,?_,?_,?_,ES.1⟩,⟨?_,?_,?_,?_,?_,?_,ES.2 _,rfl,rfl,rfl,fun a _=>K4 w hz a⟩⟩
 ·intro b r S' hb
  by_cases e:b=h.next
  ·subst e;show _<h.next+1;omega
  ·rw[A6 J _ e]at hb;have:=hr.lt b r S' hb;show _<h.next+1;omega
 ·intro b r S' hb
  by_cases e:b=h.next
  ·subst e;rw[Ay]at hb;cases hb;refine⟨o,Hi w o,?_⟩;intro y hy;rcases H.CJ hy with ⟨_,e2⟩|⟨e2,_⟩
   ·subst e2;exact hx
   ·exact absurd rfl e2
  ·rw[A6 J _ e]at hb;obtain⟨o',ho,hy⟩:=hr.AE b r S' hb;refine⟨o',by rw[C9 w o (hr.lt_size hb)];exact ho,?_⟩;intro y hg;rcases H.CJ hg with ⟨e2,_⟩|⟨_,e2⟩
   ·exact absurd e2 e
   ·exact (hy y e2).mono DU
 ·intro b b' r S1 S2 hb AS hl Py
  by_cases e:b=h.next
  ·by_cases e':b'=h.next
   ·exact .inl (e.trans e'.symm)
   ·subst e;rw[Ay]at hb;rw[A6 J _ e']at AS;cases hb;have:=hr.lt_size AS;omega
  ·by_cases e':b'=h.next
   ·subst e';rw[Ay]at AS;rw[A6 J _ e]at hb;cases AS;have:=hr.lt_size hb;omega
   ·rw[A6 J _ e]at hb;rw[A6 J _ e']at AS;obtain⟨y,hy,KY⟩:=hl;obtain⟨y',FH,Qb⟩:=Py;have gy:h.get b=some y:=by rcases H.CJ hy with ⟨e2,_⟩|⟨_,e2⟩;exact absurd e2 e;exact e2
    have gy':h.get b'=some y':=by rcases H.CJ FH with ⟨e2,_⟩|⟨_,e2⟩;exact absurd e2 e';exact e2
    rcases hr.inj b b' r S1 S2 hb AS ⟨y,gy,KY⟩ ⟨y',gy',Qb⟩ with h1|⟨c,n,f,h1⟩
    ·exact .inl h1
    ·right;rw[gy]at h1;exact⟨c,n,f,hy.trans h1⟩
 ·intro r o' hk;obtain⟨k1,k2⟩:=hr.kept r o' hk;have hrs:=(Ht.1 k1).1;refine⟨by rw[C9 w o hrs];exact k1,fun b S' hb=>?_⟩
  by_cases e:b=h.next
  ·subst e;rw[Ay]at hb;cases hb;omega
  ·rw[A6 J _ e]at hb;exact k2 b S' hb
 ·show _<=h.next+1;omega
 ·intro b hb;exact A6 J _ (by omega)
 ·intro b r S' hb he
  by_cases e:b=h.next
  ·subst e;rw[Ay]at he;cases he;exact .inl (Nat.le_refl _)
  ·rw[A6 J _ e,hr.EY hb]at he;simp at he
 ·show _<=(w.heap.push o).size;simp
 ·intro b hb ⟨y,hy,KY⟩;rcases H.CJ hy with ⟨e2,_⟩|⟨_,e2⟩
  ·omega
  ·exact⟨y,e2,KY⟩
 ·intro r IQ _ _;exact C9 w o IQ
theorem Rel.die{h:H}{w:World}(hr:Rel J U C h w)(s:Nat):Rel J U C (h.put s .dead) w where
 lt:=hr.lt
 Am:=(hr.Am.step (Jb fun _ e=>Aj.noConfusion e) (fun _ _=>rfl) fun b r S hb=>.inl ⟨b,S,hb⟩).1
 kept:=hr.kept
 AE:=by
  intro b r S hb;obtain⟨o,ho,hx⟩:=hr.AE b r S hb;refine⟨o,ho,?_⟩;intro y hy;rcases H.By hy with ⟨_,e⟩|⟨_,e⟩
  ·subst e;trivial
  ·exact hx y e
 inj:=by
  intro b b' r S1 S2 hb AS ⟨y,hy,KY⟩ ⟨y',FH,Qb⟩;rcases H.By hy with ⟨_,e⟩|⟨_,gy⟩
  ·exact absurd e KY
  rcases H.By FH with ⟨_,e⟩|⟨_,gy'⟩
  ·exact absurd e Qb
  rcases hr.inj b b' r S1 S2 hb AS ⟨y,gy,KY⟩ ⟨y',gy',Qb⟩ with h1|⟨c,n,f,h1⟩
  ·exact .inl h1
  ·right;rw[gy]at h1;exact⟨c,n,f,hy.trans h1⟩
theorem Ag0{h:H}{s b:Nat}(hl:Live (h.put s .dead) b):b ≠ s/\Live h b:=by
 obtain⟨y,hy,KY⟩:=hl;rcases H.By hy with ⟨_,e⟩|⟨e1,e⟩
 ·exact absurd e KY
 ·exact⟨e1,y,e,KY⟩
theorem Ext.die{h:H}{w:World}(hr:Rel J U C h w)(s:Nat):Ext U J J h (h.put s .dead) w w:=
 ⟨Nat.le_refl _,fun _ _=>rfl,fun b r S hb he=>by rw[hr.EY hb]at he;simp at he,Nat.le_refl _,fun _ _ hl=>(Ag0 hl).2,fun _ _ _ _=>rfl,(hr.Am.step (J':=J) (Jb fun _ e=>Aj.noConfusion e) (fun _ _=>rfl) fun b r S hb=>.inl ⟨b,S,hb⟩).2 _,rfl,rfl,rfl,fun _ _=>rfl⟩
def putObj(w:World)(r:Nat)(o:Obj):World:={w with heap:=w.heap.setIfInBounds r o}
theorem BM(w:World)(o:Obj){r i:Nat}(h:i ≠ r):(putObj w r o).heap[i]? =w.heap[i]? :=by
 show (w.heap.setIfInBounds r o)[i]? =_
 rw[Array.getElem?_setIfInBounds,if_neg (by omega)]
theorem Cf(w:World)(o:Obj){r:Nat}(h:r<w.heap.size):(putObj w r o).heap[r]? =some o:=by
 show (w.heap.setIfInBounds r o)[r]? =_
 simp[h]
theorem Rel.Ge{h:H}{w:World}(hr:Rel J U C h w){b r S:Nat}(hb:J b=some (r,S))(Dk:Live h b){o:Obj}(hz:GX o)(a:Addr):(putObj w r o).frozen? a=w.frozen? a:=by
 obtain⟨CW,ho,hx⟩:=hr.AE b r S hb;obtain⟨x,hg,hd⟩:=Dk;have hold:=(hx x hg).GX hd;unfold World.frozen?
 by_cases e:a.block=r
 ·rw[e,Cf w o (hr.lt_size hb),ho];exact (Mw hz a).trans (Mw hold a).symm
 ·rw[BM w o e]
theorem Rel.put{h:H}{w:World}(hr:Rel J U C h w){b r S:Nat}(hb:J b=some (r,S))(Dk:Live h b)
 (hone:∀b' S',b' ≠ b->J b'=some (r,S')->¬Live h b') (x:Aj) (o:Obj) (hx:BR J U C x o S) (hz:GX o:=by intro cs e lo hi h;cases h<;>exact Nat.le_refl _):
 Rel J U C (h.put b x) (putObj w r o)/\Ext U J J h (h.put b x) w (putObj w r o):=by
 have ES:=hr.Am.step (J':=J) (h':=h.put b x) (w':=putObj w r o) (Jb hx.Fw) (fun r' hf=>BM w o fun e=>hr.Am.ours hb (e▸hf)) fun b r S hb=>.inl ⟨b,S,hb⟩
 refine⟨⟨hr.lt,?_,?_,fun r' o' hk=>⟨by have Bs:r' ≠ r:=(fun e=>(hr.kept r' o' hk).2 b S (by rw[e];exact hb));rw[BM w o Bs];exact (hr.kept r' o' hk).1,(hr.kept r' o' hk).2⟩,ES.1⟩,⟨Nat.le_refl _,fun _ _=>rfl,fun b r S hb he=>by rw[hr.EY hb]at he;simp at he,?_,?_,?_,ES.2 _,rfl,rfl,rfl,fun a _=>hr.Ge hb Dk hz a⟩⟩
 ·intro b' r' S' AS
  by_cases e:b'=b
  ·subst e;rw[hb]at AS;cases AS;refine⟨o,Cf w o (hr.lt_size hb),?_⟩;intro y hy;rcases H.By hy with ⟨_,e2⟩|⟨e2,_⟩
   ·subst e2;exact hx
   ·exact absurd rfl e2
  ·obtain⟨o',ho,hy⟩:=hr.AE b' r' S' AS
   by_cases e3:r'=r
   ·subst e3;refine⟨o,Cf w o (hr.lt_size hb),?_⟩;intro y hg;rcases H.By hg with ⟨e2,_⟩|⟨_,e2⟩
    ·exact absurd e2 e
    ·by_cases hd:y=.dead
     ·subst hd;trivial
     ·exact absurd ⟨y,e2,hd⟩ (hone b' S' e AS)
   ·refine⟨o',by rw[BM w o e3];exact ho,?_⟩;intro y hg;rcases H.By hg with ⟨e2,_⟩|⟨_,e2⟩
    ·exact absurd e2 e
    ·exact hy y e2
 ·intro b1 b2 r' S1 S2 DN MA hl1 hl2
  by_cases e1:b1=b
  ·by_cases e2:b2=b
   ·exact .inl (e1.trans e2.symm)
   ·subst e1;rw[hb]at DN;cases DN;obtain⟨y,hy,KY⟩:=hl2;rcases H.By hy with ⟨e3,_⟩|⟨_,e3⟩
    ·exact absurd e3 e2
    ·exact absurd ⟨y,e3,KY⟩ (hone b2 S2 e2 MA)
  ·by_cases e2:b2=b
   ·subst e2;rw[hb]at MA;cases MA;obtain⟨y,hy,KY⟩:=hl1;rcases H.By hy with ⟨e3,_⟩|⟨_,e3⟩
    ·exact absurd e3 e1
    ·exact absurd ⟨y,e3,KY⟩ (hone b1 S1 e1 DN)
   ·obtain⟨y,hy,KY⟩:=hl1;obtain⟨y',FH,Qb⟩:=hl2;have gy:h.get b1=some y:=by rcases H.By hy with ⟨e3,_⟩|⟨_,e3⟩;exact absurd e3 e1;exact e3
    have gy':h.get b2=some y':=by rcases H.By FH with ⟨e3,_⟩|⟨_,e3⟩;exact absurd e3 e2;exact e3
    rcases hr.inj b1 b2 r' S1 S2 DN MA ⟨y,gy,KY⟩ ⟨y',gy',Qb⟩ with h1|⟨c,n,f,h1⟩
    ·exact .inl h1
    ·right;rw[gy]at h1;exact⟨c,n,f,hy.trans h1⟩
 ·show _<=(w.heap.setIfInBounds r o).size;simp
 ·intro b' AS ⟨y,hy,KY⟩;rcases H.By hy with ⟨e2,_⟩|⟨_,e2⟩
  ·subst e2;exact Dk
  ·exact⟨y,e2,KY⟩
 ·intro r' IQ hn _
  by_cases e:r'=r
  ·subst e;exact absurd Dk (hn b S hb)
  ·exact BM w o e
theorem Rel.one{h:H}{w:World}(hr:Rel J U C h w){b r S:Nat}(hb:J b=some (r,S)){x:Aj}(hg:h.get b=some x)(hx:∀c n f s,x ≠ .cells c n f (some s))(hd:x ≠ .dead):
 ∀b' S',b' ≠ b->J b'=some (r,S')->¬Live h b':=by
 intro b' S' Bs AS hl;rcases hr.inj b b' r S S' hb AS ⟨x,hg,hd⟩ hl with e|⟨c,n,f,e⟩
 ·exact Bs e.symm
 ·rw[hg]at e;exact hx c n f b' (Option.some.inj e)
theorem Rel.Yf{h:H}{w:World}(hr:Rel J U C h w){r:Nat}{o:Obj}(hk:U.k r=some o):r<w.heap.size:=(Ht.1 (hr.kept r o hk).1).1
theorem Rel.Alf{h:H}{w:World}(hr:Rel J U C h w){b r S S2 n:Nat}(hb:J b=some (r,S)){r':Nat}{o:Obj}(hk:U.k r'=some o):∀i S',GG J n (r,S2) i ≠ some (r',S'):=by
 intro i S' hi
 by_cases e:i=n
 ·subst e;rw[Ay]at hi;cases hi;exact (hr.kept _ o hk).2 b S hb
 ·rw[A6 J _ e]at hi;exact (hr.kept r' o hk).2 i S' hi
theorem Rel.Age{h:H}{w:World}(hr:Rel J U C h w){r S2 n:Nat}(hs:w.heap.size<=r){r':Nat}{o:Obj}(hk:U.k r'=some o):∀i S',GG J n (r,S2) i ≠ some (r',S'):=by
 intro i S' hi;have:=hr.Yf hk
 by_cases e:i=n
 ·subst e;rw[Ay]at hi;cases hi;omega
 ·rw[A6 J _ e]at hi;exact (hr.kept r' o hk).2 i S' hi
theorem Rel.Ale{h:H}{w:World}(hr:Rel J U C h w){b r S:Nat}(hb:J b=some (r,S)){r':Nat}{o:Obj}(hk:U.k r'=some o)(ob:Obj):(putObj w r ob).heap[r']? =some o:=by
 have Bs:r' ≠ r:=fun e=>(hr.kept r' o hk).2 b S (by rw[e];exact hb)
 rw[BM w ob Bs];exact (hr.kept r' o hk).1
end Eng
namespace Eng
open Go
variable {J J':A1} {U:An} {C:AB}
theorem AN{a b:Nat}(h:Nat.ble a b=true):a<=b:=Nat.le_of_ble_eq_true h
theorem Js{a b:Nat}(h:a<=b):Nat.ble a b=true:=Nat.ble_eq_true_of_le h
theorem TH{a b:Nat}(h:Nat.ble a b=false):b<a:=by
 rcases Nat.lt_or_ge b a with h1|h1
 ·exact h1
 ·rw[Js h1]at h;cases h
theorem beq_eq{a b:Nat}(h:Nat.beq a b=true):a=b:=Nat.eq_of_beq_eq_true h
theorem B5{a b:Nat}(h:Nat.beq a b=false):a ≠ b:=by intro e;subst e;simp at h
theorem Ca{b:Bool}{x y:OR}{r:Rs}(h:@Bool.rec (fun _=>OR) x y b=some r):(b=false/\x=some r)\/(b=true/\y=some r):=by
 cases b with
 |false=>exact .inl ⟨rfl,h⟩
 |true=>exact .inr ⟨rfl,h⟩
theorem Sv{h:H}{b off:Nat}{k:A->OR}{r:Rs}(hk:h.YH b off k=some r):
 ∃c n f s a,h.get b=some (.cells c n f s)/\off<n/\T.get c off=some a/\k a=some r:=by
 obtain⟨x,hx,hk⟩:=Ar (o:=h.get b) hk;obtain⟨c,n,f,s,rfl,hk⟩:=Gs hk;rcases Ca hk with ⟨_,h1⟩|⟨hb,h1⟩
 ·cases h1
 ·obtain⟨a,ha,h1⟩:=Ar (o:=T.get c off) h1;exact⟨c,n,f,s,a,hx,AN hb,ha,h1⟩
theorem HJ{h:H}{b off m:Nat}{k:List A->OR}{r:Rs}(hk:h.KK b off m k=some r):
 ∃c n f s l,h.get b=some (.cells c n f s)/\off+m<=n/\T.slice c off m=some l/\k l=some r:=by
 obtain⟨x,hx,hk⟩:=Ar (o:=h.get b) hk;obtain⟨c,n,f,s,rfl,hk⟩:=Gs hk;rcases Ca hk with ⟨_,h1⟩|⟨hb,h1⟩
 ·cases h1
 ·obtain⟨a,ha,h1⟩:=Ar (o:=T.slice c off m) h1;exact⟨c,n,f,s,a,hx,AN hb,ha,h1⟩
theorem M7{h:H}{b off:Nat}{vs:List A}{k:H->OR}{r:Rs}(hk:h.write b off vs k=some r):
 ∃c n f s,h.get b=some (.cells c n f s)/\off+vs.length<=n/\k (CP (h.put b (.cells (T.over c off vs) n f none)) s)=some r:=by
 obtain⟨x,hx,hk⟩:=Ar (o:=h.get b) hk;obtain⟨c,n,f,s,rfl,hk⟩:=Gs hk;rcases Ca hk with ⟨_,h1⟩|⟨hb,h1⟩
 ·cases h1
 ·have:=AN hb;rw[E8]at this;exact⟨c,n,f,s,hx,this,h1⟩
theorem Bg(r off i:Nat):(⟨r,off,none⟩:Addr).add i=⟨r,off+i,none⟩:=by unfold Addr.add;split<;>simp_all
theorem cell_of{w:World}{r off:Nat}{cs:Array Value}{e:TypeId}{fz:Nat×Nat}(h:w.heap[r]? =some (.cells cs e fz)):w.cell? ⟨r,off,none⟩=cs[off]? :=by
 simp[World.cell?,h]
theorem Rel.cell{h:H}{w:World}(hr:Rel J U C h w){b r S:Nat}(hb:J b=some (r,S)){c:T A}{n:Nat}{f:Bool}{s:Option Nat}(hg:h.get b=some (.cells c n f s))
 {off:Nat} {a:A} (ho:off<n) (ha:T.get c off=some a):∃v,w.cell? ⟨r,off,none⟩=some v/\AR J U a v:=by
 obtain⟨o,hw,hx⟩:=hr.AE b r S hb;obtain⟨cs,e,rfl,h1,h2,h3,h4⟩:=hx _ hg;obtain⟨v,hv,Gy⟩:=h4 off a ho ha;exact⟨v,by rw[cell_of hw];exact hv,Gy⟩
theorem Rel.cells{h:H}{w:World}(hr:Rel J U C h w){b r S:Nat}(hb:J b=some (r,S)){c:T A}{n:Nat}{f:Bool}{s:Option Nat}(hg:h.get b=some (.cells c n f s))
 {off m:Nat} {l:List A} (ho:off+m<=n) (hl:T.slice c off m=some l):
 ∃vs:List Value,F2 (AR J U) l vs/\vs.length=m/\(∀j v,vs[j]? =some v->w.cell? ((⟨r,off,none⟩:Addr).add j)=some v):=by
 obtain⟨hlen,Bl⟩:=T.Ll m c off l hl;have key:∀(l':List A) (d:Nat),(∀i x,l'[i]? =some x->T.get c (off+d+i)=some x)->d+l'.length<=m->
  ∃vs:List Value,F2 (AR J U) l' vs/\∀j v,vs[j]? =some v->w.cell? ((⟨r,off,none⟩:Addr).add (d+j))=some v:=by
  intro l'
  induction l' with
  |nil=>intro d _ _;exact⟨[],.nil,by simp⟩
  |cons a l' ih=>
   intro d hx hd;obtain⟨vs,h1,h2⟩:=ih (d+1) (fun i x hi=>by have:=hx (i+1) x (by simpa using hi);rwa [show off+(d+1)+i=off+d+(i+1) by omega]) (by simp at hd;omega);obtain⟨v,hv,Gy⟩:=hr.cell hb hg (off:=off+d) (a:=a) (by simp at hd;omega) (by simpa using hx 0 a (by simp));refine⟨v::vs,.cons Gy h1,?_⟩;intro j u hj;cases j with
   |zero=>simp at hj;subst hj;rw[Bg];simpa using hv
   |succ j=>have:=h2 j u (by simpa using hj);rwa [show d+(j+1)=d+1+j by omega]
 obtain⟨vs,h1,h2⟩:=key l 0 (fun i x hi=>by simpa using Bl i x hi) (by omega);exact⟨vs,h1,by rw[<-h1.length];exact hlen,fun j v hj=>by simpa using h2 j v hj⟩
theorem Gf{a:A}{v:Value}(h:AR J U a v):v.oneCell'=true:=by
 cases a<;>simp only[AR]at h
 all_goals first
  |(subst h;rfl)
  |(obtain⟨r,S,_,rfl⟩:=h;rfl)
  |(obtain⟨r,S,c,_,rfl,_⟩:=h;rfl)
  |(obtain⟨a,c,rfl⟩:=h;rfl)
  |exact h.2
  |(obtain⟨p,N,k,rfl,_⟩:=h;rfl)
  |(obtain⟨vs,rfl,_⟩:=h;rfl)
theorem Rel.Avo{h h':H}{w:World}(hr:Rel J U C h w){b r S:Nat}(hb:J b=some (r,S))(Dk:Live h b)(x:Aj)(o:Obj)(hx:BR J U C x o S)
 (hz:GX o) (hn:h'.next=h.next) (Bl:∀b' y,h'.get b'=some y->y ≠ .dead->(b'=b/\y=x)\/(b' ≠ b/\h.get b'=some y/\∀S',J b' ≠ some (r,S'))):
 Rel J U C h' (putObj w r o)/\Ext U J J h h' w (putObj w r o):=by
 have ES:=hr.Am.step (J':=J) (h':=h') (w':=putObj w r o) (fun b' t hg=>by
  rcases Bl b' _ hg (fun e=>Aj.noConfusion e) with ⟨_,e⟩|⟨_,e,_⟩
  ·exact absurd e.symm (hx.Fw t)
  ·exact e) (fun r' hf=>BM w o fun e=>hr.Am.ours hb (e▸hf)) fun b r S hb=>.inl ⟨b,S,hb⟩
 refine⟨⟨fun b r S hb=>by rw[hn];exact hr.lt b r S hb,?_,?_,fun r' o' hk=>⟨by have Bs:r' ≠ r:=(fun e=>(hr.kept r' o' hk).2 b S (by rw[e];exact hb));rw[BM w o Bs];exact (hr.kept r' o' hk).1,(hr.kept r' o' hk).2⟩,ES.1⟩,⟨by rw[hn];exact Nat.le_refl _,fun _ _=>rfl,fun b r S hb he=>by rw[hr.EY hb]at he;simp at he,?_,?_,?_,ES.2 _,rfl,rfl,rfl,fun a _=>hr.Ge hb Dk hz a⟩⟩
 ·intro b' r' S' AS
  by_cases e3:r'=r
  ·subst e3;refine⟨o,Cf w o (hr.lt_size hb),?_⟩;intro y hy
   by_cases hd:y=.dead
   ·subst hd;trivial
   ·rcases Bl b' y hy hd with ⟨e1,e2⟩|⟨_,_,e2⟩
    ·subst e1;subst e2;rw[hb]at AS;cases AS;exact hx
    ·exact absurd AS (e2 S')
  ·obtain⟨o',ho,FH⟩:=hr.AE b' r' S' AS;refine⟨o',by rw[BM w o e3];exact ho,?_⟩;intro y hy
   by_cases hd:y=.dead
   ·subst hd;trivial
   ·rcases Bl b' y hy hd with ⟨e1,e2⟩|⟨_,e1,_⟩
    ·subst e1;rw[hb]at AS;cases AS;exact absurd rfl e3
    ·exact FH y e1
 ·intro b1 b2 r' S1 S2 DN MA ⟨y1,hy1,hd1⟩ ⟨y2,hy2,hd2⟩;rcases Bl b1 y1 hy1 hd1 with ⟨e1,e2⟩|⟨_,g1,n1⟩
  ·rcases Bl b2 y2 hy2 hd2 with ⟨e3,e4⟩|⟨_,g2,n2⟩
   ·exact .inl (e1.trans e3.symm)
   ·subst e1;rw[hb]at DN;cases DN;exact absurd MA (n2 S2)
  ·rcases Bl b2 y2 hy2 hd2 with ⟨e3,e4⟩|⟨_,g2,n2⟩
   ·subst e3;rw[hb]at MA;cases MA;exact absurd DN (n1 S1)
   ·rcases hr.inj b1 b2 r' S1 S2 DN MA ⟨y1,g1,hd1⟩ ⟨y2,g2,hd2⟩ with e|⟨c,n,f,e⟩
    ·exact .inl e
    ·right;rw[g1]at e;exact⟨c,n,f,hy1.trans e⟩
 ·show _<=(w.heap.setIfInBounds r o).size;simp
 ·intro b' AS ⟨y,hy,hd⟩;rcases Bl b' y hy hd with ⟨e1,_⟩|⟨_,g1,_⟩
  ·subst e1;exact Dk
  ·exact⟨y,g1,hd⟩
 ·intro r' IQ hn' _
  by_cases e:r'=r
  ·subst e;exact absurd Dk (hn' b S hb)
  ·exact BM w o e
theorem Rz{h:H}{s:Option Nat}{b:Nat}{y:Aj}(hg:(CP h s).get b=some y)(hd:y ≠ .dead):s ≠ some b/\h.get b=some y:=by
 cases s with
 |none=>exact⟨by simp,hg⟩
 |some x=>
  rcases H.By (h:=h) (b:=x) (x:=.dead) hg with ⟨_,e⟩|⟨e1,e⟩
  ·exact absurd e hd
  ·exact⟨fun e2=>e1 (Option.some.inj e2).symm,e⟩
theorem KO(h:H)(s:Option Nat):(CP h s).next=h.next:=by cases s<;>rfl
theorem Rel.shares{h:H}{w:World}(hr:Rel J U C h w){b r S:Nat}(hb:J b=some (r,S)){c:T A}{n:Nat}{f:Bool}{s:Option Nat}(hg:h.get b=some (.cells c n f s))
 {b' S':Nat} (AS:J b'=some (r,S')) (hl:Live h b'):b'=b\/s=some b':=by
 rcases hr.inj b b' r S S' hb AS ⟨_,hg,by simp⟩ hl with e|⟨c',n',f',e⟩
 ·exact .inl e.symm
 ·right;rw[hg]at e;cases e;rfl
theorem Ew(w:World)(g:Nat)(CW cs:Array Value)(t:TypeId)(hg:w.heap[g]? =some (.cells CW t (0,0))):w.setRow g cs=putObj w g (.cells cs t (0,0)):=by
 unfold World.setRow putObj
 congr 1
 apply Array.ext_getElem?;intro i;rw[Array.getElem?_modify,Array.getElem?_setIfInBounds];obtain⟨Au,hv⟩:=Ht.1 hg
 by_cases e:g=i
 ·subst e;simp[Au,hv]
 ·simp[e]
theorem Rel.write{P:Program}{h:H}{w:World}(hr:Rel J U C h w){b r S:Nat}(hb:J b=some (r,S)){c:T A}{n:Nat}{f:Bool}{s:Option Nat}(hg:h.get b=some (.cells c n f s))
 {off:Nat} {l:List A} {vs:List Value} (ho:off+l.length<=n) (hl:F2 (AR J U) l vs):
 ∃w',(storeCells ⟨r,off,none⟩ vs).run P w=.ok () w'/\Rel J U C (CP (h.put b (.cells (T.over c off l) n f none)) s) w'/\
  Ext U J J h (CP (h.put b (.cells (T.over c off l) n f none)) s) w w':=by
 obtain⟨o,hw,hx⟩:=hr.AE b r S hb;obtain⟨cs,e,rfl,h1,h2,h3,h4⟩:=hx _ hg;have hlen:=hl.length;have hone:∀v∈vs,v.oneCell'=true:=by
  intro v hv;obtain⟨i,hi⟩:=List.getElem?_of_mem hv;clear ho h4;have:∀{l:List A} {vs:List Value},F2 (AR J U) l vs->∀v∈vs,v.oneCell'=true:=by
   intro l vs hf
   induction hf with
   |nil=>simp
   |cons Ny _ ih=>intro v hv;rcases BL.1 hv with e|e;exact e▸Gf Ny;exact ih v e
  exact this hl v hv
 have AM:=run_storeCells_at (P:=P) r off e vs 0 cs w hw (by omega) hone;rw[Ew w r cs _ e hw]at AM;refine⟨_,AM,?_⟩;have hturn:=hr.Avo hb ⟨_,hg,by simp⟩ (.cells (T.over c off l) n f none) (.cells (cs.toList.take (off+0)++vs++cs.toList.drop (off+0+vs.length)).toArray e (0,0)) ?_
  (h':=CP (h.put b (.cells (T.over c off l) n f none)) s) EM (by rw[KO];rfl) ?_
 ·exact hturn
 ·refine⟨_,e,rfl,?_,h2,h3,?_⟩
  ·simp;omega
  ·intro i a hi ha;rcases T.X2 l c off i a ha with ⟨h5,h6,h7⟩|⟨h5,h6⟩
   ·obtain⟨v,hv,Gy⟩:=hl.get h7;refine⟨v,?_,Gy⟩;simp only[Nat.add_zero,List.getElem?_toArray];rw[List.append_assoc,List.getElem?_append_right (by simp;omega),List.getElem?_append_left (by simp;omega)];rw[<-hv];congr 1;simp;omega
   ·obtain⟨v,hv,Gy⟩:=h4 i a hi h6;refine⟨v,?_,Gy⟩;simp only[Nat.add_zero,List.getElem?_toArray]
    by_cases h7:i<off
    ·rw[List.append_assoc,List.getElem?_append_left (by simp;omega),List.getElem?_take_of_lt h7];simpa using hv
    ·rw[List.append_assoc,List.getElem?_append_right (by simp;omega),List.getElem?_append_right (by simp;omega),List.getElem?_drop];rw[<-hv,<-Array.getElem?_toList];congr 1;simp;omega
 ·intro b' y hy hd;obtain⟨hs,hy⟩:=Rz hy hd;rcases H.By hy with ⟨e1,e2⟩|⟨e1,e2⟩
  ·exact .inl ⟨e1,e2⟩
  ·refine .inr ⟨e1,e2,?_⟩;intro S' AS;rcases hr.shares hb hg AS ⟨y,e2,hd⟩ with e3|e3
   ·exact e1 e3
   ·exact hs e3
end Eng
namespace Eng
open Go
variable {J J':A1} {U:An} {C:AB} {P:Program}
structure Qk(P:Program)(t:TypeId)(ti:TI):Prop where
 CR:P.underlying t=some ti.CR
 info:∃i,P.info? t=some i/\i.size=ti.size/\i.bytes=ti.bytes/\∃z,i.zero=some z/\∃zs:List Value,z.cells=zs.toArray/\
  (∀(J:A1) (U:An),F2 (AR J U) ti.zero zs)/\ti.zero.length=ti.size/\(ti.agg=true->z=.agg zs.toArray)/\(ti.agg=false->zs=[z])
 agg:ti.agg=(match ti.CR with |.struct _|.array _ _=>true|_=>false)
 plain:ti.plain=true->P.stoodInHeld t=false
structure WI(P:Program)(f:FuncId)(fi:FI):Prop where
 ex:∃fn,P.funcs[f]? =some fn/\fn.body=some fi.body/\fn.ntmps=fi.nt/\fn.results.toList=fi.results/\fn.name ≠ "runtime.NumGoroutine"
structure A4(P:Program)(C:AB)(U:An):Prop where
 ty:∀t ti,C.ty t=some ti->Qk P t ti
 fu:∀f fi,C.fu f=some fi->WI P f fi
 cmp:∀op x y r,C.cmp op x y=some r->BQ op (x.den U) (y.den U)=r
 norm:∀e n,C.norm e=some n->e.den U=n
 mixed:P.follows .mixedOrders=true
 sum:∀a b e,C.sum a b=some e->e.den U=a.den U+b.den U
 dif:∀a b e,C.dif a b=some e->e.den U=a.den U-b.den U
 rd:∀t e c a,C.rd t e c=some a->∀(J:A1) (v:Value),v=U.r t (e.den U).toNat c->AR J U a v
 mr:∀t e o,C.mr t e=some o->∀J:A1,match o with |some v=>∃u,U.m t (e.den U)=some u/\VR J U v u|none=>U.m t (e.den U)=none
 cat:∀t n t2 lo m t',C.cat t n t2 lo m=some t'->∀N M:Nat,(N:Int)=n.den U->(M:Int)=m.den U->∀j c,j<N+M->U.r t' j c=if j<N then U.r t j c else U.r t2 ((lo.den U).toNat+(j-N)) c
theorem Qk.Bu{t:TypeId}{ti:TI}(h:Qk P t ti)(w:World):(underlying t).run P w=.ok ti.CR w:=run_underlying h.CR w
theorem Qk.BE{t:TypeId}{ti:TI}(h:Qk P t ti)(w:World):(Go.sizeOf t).run P w=.ok ti.size w:=by
 obtain⟨i,h1,h2,h3,_⟩:=h.info;simp[Go.sizeOf,typeInfo,h1,h2]
theorem Qk.GR{t:TypeId}{ti:TI}(h:Qk P t ti)(w:World):(isAgg t).run P w=.ok ti.agg w:=by
 rw[h.agg];simp only[isAgg,Sem.run_bind,h.Bu,Result.andThen_ok];cases ti.CR<;>rfl
theorem Qk.Ac2{t:TypeId}{ti:TI}(h:Qk P t ti)(w:World):∃z zs,(zeroValue t).run P w=.ok z w/\z.cells=zs.toArray/\(∀(J:A1) (U:An),F2 (AR J U) ti.zero zs)/\
 ti.zero.length=ti.size/\(ti.agg=true->z=.agg zs.toArray)/\(ti.agg=false->zs=[z]):=by
 obtain⟨i,h1,h2,h3,z,h4,zs,h5⟩:=h.info;exact⟨z,zs,by simp[zeroValue,typeInfo,h1,h4],h5⟩
def Fk(P:Program)(e:Operand->Value)(o:Oper)(w:World)(v:Value)(w':World):Prop:=
 (execOp e o).run P w=.ok (.value v) w'\/(v=undef/\(execOp e o).run P w=.ok .skip w')
def Gp(J:A1)(U:An)(nl:Nat)(o:Op)(pt:T AV)(tl:TL)(e:Operand->Value):Prop:=
 ∀x∈o.operands,∀u,(od nl x).val pt tl=some u->Bb J U u (e x)
def CU(C:AB)(nl:Nat)(o:Oper)(f:Fx):Prop:=∀rec X k pt tl h r,f rec X k pt tl h=some r->∃v,
 (∀Bn X' k' h',f Bn X' k' pt tl h'=k' v h')/\
 ∀P U J e w,A4 P C U->Gp J U nl o.op pt tl e->∃v',Fk P e o w v' w/\Bb J U v v'
def En(C:AB)(nl:Nat)(o:Oper)(f:Fx):Prop:=∀rec X k pt tl h r,f rec X k pt tl h=some r->∃v,
 (∀Bn X' k',f Bn X' k' pt tl h=k' v h)/\
 ∀P U J e w,A4 P C U->Rel J U C h w->Gp J U nl o.op pt tl e->∃v',Fk P e o w v' w/\Bb J U v v'
def IV(C:AB)(nl:Nat)(o:Oper)(f:Fx):Prop:=∀rec X k pt tl h r,f rec X k pt tl h=some r->∃(mk:Nat->AV) (AE:Aj),
 (∀Bn X' k' h',f Bn X' k' pt tl h'=k' (mk h'.next) (h'.new AE))/\(∀t,AE ≠ .Am t)/\
 ∀P U J e w,A4 P C U->Gp J U nl o.op pt tl e->∃obj v' S,Fk P e o w v' (push w obj)/\GX obj/\BR J U C AE obj S/\
  ∀J' id,Sub J J'->J' id=some (w.heap.size,S)->Bb J' U (mk id) v'
def Ks(C:AB)(nl:Nat)(o:Oper)(f:Fx):Prop:=∀rec X k pt tl h r,f rec X k pt tl h=some r->∃v h',k v h'=some r/\
 ∀P U J e w,A4 P C U->Rel J U C h w->Gp J U nl o.op pt tl e->∃v' w' J',Fk P e o w v' w'/\Bb J' U v v'/\Rel J' U C h' w'/\Ext U J J' h h' w w'
theorem CU.read{nl:Nat}{o:Oper}{f:Fx}(h:CU C nl o f):En C nl o f:=by
 intro rec X k pt tl hh r hk;obtain⟨v,h1,h2⟩:=h rec X k pt tl hh r hk;exact⟨v,fun Bn X' k'=>h1 Bn X' k' hh,fun P U J e w hc _ ho=>h2 P U J e w hc ho⟩
theorem En.Pq{nl:Nat}{o:Oper}{f:Fx}(h:En C nl o f):Ks C nl o f:=by
 intro rec X k pt tl hh r hk;obtain⟨v,h1,h2⟩:=h rec X k pt tl hh r hk;refine⟨v,hh,by rw[<-h1 rec X k];exact hk,?_⟩;intro P U J e w hc hr ho;obtain⟨v',h3,h4⟩:=h2 P U J e w hc hr ho;exact⟨v',w,J,h3,h4,hr,Ext.refl J hh w hr⟩
theorem IV.Pq{nl:Nat}{o:Oper}{f:Fx}(h:IV C nl o f):Ks C nl o f:=by
 intro rec X k pt tl hh r hk;obtain⟨mk,AE,h1,_,h2⟩:=h rec X k pt tl hh r hk;refine⟨mk hh.next,hh.new AE,by rw[<-h1 rec X k];exact hk,?_⟩;intro P U J e w hc hr ho;obtain⟨obj,v',S,h3,hz,h4,h5⟩:=h2 P U J e w hc ho;have hs:=hr.Gn (w.heap.size,S);obtain⟨h6,h7⟩:=hr.new AE obj S (h4.mono hs) hz;exact⟨v',_,_,h3,h5 _ _ hs (Ay _ _ _),h6,h7⟩
theorem AhO{t:Nat}{k:AV->OR}{v:AV}:∀{tl:TL},tl.find t=some v->Zm t tl k=k v:=by
 intro tl
 induction tl with
 |nil=>intro h;cases h
 |cons d u r ih=>
  intro h;show @Bool.rec (fun _=>OR) (Zm t r k) (k u) (Nat.beq d t)=k v
  by_cases hd:d=t
  ·subst hd;simp[TL.find]at h;subst h;rw[show Nat.beq d d=true from Nat.beq_refl d]
  ·have:Nat.beq d t=false:=by
    cases hb:Nat.beq d t with
    |false=>rfl
    |true=>exact absurd (beq_eq hb) hd
   rw[this];simp[TL.find,hd]at h;exact ih h
theorem AQ{x:Od}{pt:T AV}{tl:TL}{k:AV->OR}{v:AV}(h:x.val pt tl=some v):ev x pt tl k=k v:=by
 cases x with
 |lo t=>
  show @Option.rec AV (fun _=>OR) none k (T.get pt t)=k v;rw[show T.get pt t=some v from h]
 |tm t=>exact AhO h
 |c u=>cases h;rfl
 |bad=>cases h
theorem Afy{pt:T AV}{tl:TL}:∀{l:List Od} {vs:List AV} {k:List AV->OR},M6 pt tl l=some vs->JQ l pt tl k=k vs:=by
 intro l
 induction l with
 |nil=>intro vs k h;cases h;rfl
 |cons x xs ih=>
  intro vs k h;simp only[M6]at h;split at h
  ·rename_i v us hv hus;cases h;show ev x pt tl (fun v=>JQ xs pt tl fun vs=>k (v::vs))=_;rw[AQ hv];exact ih hus
  ·cases h
theorem BI{α:Type}{o:Option α}{k:α->OR}{x:α}(h:o=some x):BS o k=k x:=by subst h;rfl
theorem Cv{b:Bool}{k:OR}(h:b=true):Dy b k=k:=by subst h;rfl
theorem Ahj{h:H}{b off:Nat}{k:A->OR}{c:T A}{n:Nat}{f:Bool}{s:Option Nat}{a:A}(hg:h.get b=some (.cells c n f s))(ho:off<n)(ha:T.get c off=some a):h.YH b off k=k a:=by
 show @Option.rec Aj (fun _=>OR) none (fun x=>Kz x fun c n _ _=>@Bool.rec (fun _=>OR) none (@Option.rec A (fun _=>OR) none k (T.get c off)) (Nat.ble (Nat.succ off) n)) (h.get b)=_;rw[hg];show @Bool.rec (fun _=>OR) none (@Option.rec A (fun _=>OR) none k (T.get c off)) (Nat.ble (Nat.succ off) n)=_;rw[Js ho,ha]
theorem Ahk{h:H}{b off m:Nat}{k:List A->OR}{c:T A}{n:Nat}{f:Bool}{s:Option Nat}{l:List A}(hg:h.get b=some (.cells c n f s))(ho:off+m<=n)(ha:T.slice c off m=some l):h.KK b off m k=k l:=by
 show @Option.rec Aj (fun _=>OR) none (fun x=>Kz x fun c n _ _=>@Bool.rec (fun _=>OR) none (@Option.rec (List A) (fun _=>OR) none k (T.slice c off m)) (Nat.ble (Nat.add off m) n)) (h.get b)=_;rw[hg];show @Bool.rec (fun _=>OR) none (@Option.rec (List A) (fun _=>OR) none k (T.slice c off m)) (Nat.ble (Nat.add off m) n)=_;rw[Js (show Nat.add off m<=n from ho),ha]
theorem AlX(x:V)(k:V->OR):vK x.av k=k x:=by cases x<;>rfl
theorem AI{α:Type}{t:TypeId}{bad:α}{k:TI->α}{ti:TI}(h:C.ty t=some ti):JH C t bad k=k ti:=by
 show @Option.rec TI (fun _=>α) bad k (C.ty t)=_;rw[h]
theorem AH{α:Type}{t:TypeId}{bad:α}{k:TI->α}(h:C.ty t=none):JH C t bad k=bad:=by
 show @Option.rec TI (fun _=>α) bad k (C.ty t)=_;rw[h]
section
variable {nl:Nat} {o:Oper}
theorem NH{x:Operand}(ho:o.op=.move x\/o.op=.assign x):CU C nl o (A5 (.n1 Alu (od nl x))):=by
 intro rec X k pt tl h r hk;obtain⟨v,hv,_⟩:=Aq (show ev (od nl x) pt tl _=some r from hk);refine⟨v,fun Bn X' k' h'=>AQ (k:=fun v=>k' v h') hv,?_⟩;intro P U J e w hc A8;refine⟨e x,.inl ?_,A8 x ?_ v hv⟩
 ·rcases ho with ho|ho<;>simp[execOp,ho]
 ·rcases ho with ho|ho<;>simp[ho,Op.operands]
theorem Uz{c a b:Operand}(ho:o.op=.pick c a b):CU C nl o (A5 (.n3 AgP (od nl c) (od nl a) (od nl b))):=by
 intro rec X k pt tl h r hk;obtain⟨u,hu,hk⟩:=Aq (show ev (od nl c) pt tl _=some r from hk);obtain⟨t,rfl,hk⟩:=QX hk;have hc:∀{P:Program} {U:An} {J:A1} {e:Operand->Value},Gp J U nl o.op pt tl e->e c=.bool t:=by
  intro P U J e A8;exact A8 c (by simp[ho,Op.operands]) _ hu
 cases t with
 |true=>
  obtain⟨v,hv,_⟩:=Aq (show ev (od nl a) pt tl _=some r from hk);refine⟨v,?_,?_⟩
  ·intro Bn X' k' h';show ev (od nl c) pt tl _=_;rw[AQ hu];exact AQ (k:=fun v=>k' v h') hv
  ·intro P U J e w hc' A8;refine⟨e a,.inl ?_,A8 a (by simp[ho,Op.operands]) v hv⟩;simp[execOp,ho,hc (P:=P) A8,asBool]
 |false=>
  obtain⟨v,hv,_⟩:=Aq (show ev (od nl b) pt tl _=some r from hk);refine⟨v,?_,?_⟩
  ·intro Bn X' k' h';show ev (od nl c) pt tl _=_;rw[AQ hu];exact AQ (k:=fun v=>k' v h') hv
  ·intro P U J e w hc' A8;refine⟨e b,.inl ?_,A8 b (by simp[ho,Op.operands]) v hv⟩;simp[execOp,ho,hc (P:=P) A8,asBool]
theorem Yu{x:Operand}(ho:o.op=.nilCheck x):CU C nl o (A5 (.n1 AgO (od nl x))):=by
 intro rec X k pt tl h r hk;obtain⟨u,hu,hk⟩:=Aq (show ev (od nl x) pt tl _=some r from hk);obtain⟨a,rfl,hk⟩:=AY hk;have hx:∀{J:A1} {U:An} {e:Operand->Value},Gp J U nl o.op pt tl e->AR J U a (e x):=fun A8=>A8 x (by simp[ho,Op.operands]) _ hu
 have key:∀(a':A),a=a'->(∀(K:A->OR),Arq K a'=K a')->(∀(J:A1) (U:An) (v:Value),AR J U a' v->∀(P:Program) w,Fk P (fun _=>v) {o with op:=.nilCheck (.tmp 0)} w v w)->∃v,
  (∀Bn X' k' h',A5 (.n1 AgO (od nl x)) Bn X' k' pt tl h'=k' v h')/\
  ∀P U J e w,A4 P C U->Gp J U nl o.op pt tl e->∃v',Fk P e o w v' w/\Bb J U v v':=by
  rintro a' rfl h1 h2
  refine⟨.one a,?_,?_⟩
  ·intro Bn X' k' h';show ev (od nl x) pt tl _=_;rw[AQ hu];exact h1 (fun a=>k' (.one a) h')
  ·intro P U J e w hc A8;refine⟨e x,?_,hx A8⟩;have:=h2 J U (e x) (hx A8) P w;simpa [Fk,execOp,ho] using this
 cases a with
 |ptr b off=>
  refine key _ rfl (fun _=>rfl) ?_
  rintro J U v ⟨r,S,_,rfl⟩ P w
  exact .inl rfl
 |pt b e es c=>
  refine key _ rfl (fun _=>rfl) ?_
  rintro J U v ⟨r,S,N,_,rfl,_⟩ P w
  exact .inl rfl
 |NB t e es c=>
  refine key _ rfl (fun _=>rfl) ?_
  rintro J U v ⟨r,o,N,Jzz,rfl,_⟩ P w
  exact .inl rfl
 |fp t=>
  refine key _ rfl (fun _=>rfl) ?_
  rintro J U v rfl P w
  exact .inl rfl
 |fn f cs=>
  refine key _ rfl (fun _=>rfl) ?_
  rintro J U v ⟨vs,rfl,_⟩ P w
  exact .inl rfl
 |Qe l=>
  refine key _ rfl (fun _=>rfl) ?_
  rintro J U v ⟨r,S,_,rfl⟩ P w
  exact .inl rfl
 |_=>cases hk
end
end Eng
namespace Eng
open Go
variable {J J':A1} {U:An} {C:AB} {P:Program}
theorem Kw{α:Type}(b:Bool)(x y:α):@Bool.rec (fun _=>α) x y b=if b=true then y else x:=by cases b<;>rfl
theorem Vd{a b:Nat}:Nat.ble a b=true↔a<=b:=⟨AN,Js⟩
theorem VK(k:IntKind):Fp k=2^k.bits:=by cases k<;>rfl
theorem Ys(k:IntKind):0<Fp k:=by cases k<;>decide
theorem AbH(k:IntKind):half k<=Fp k:=by cases k<;>decide
theorem TG(k:IntKind):bitsOf k=k.bits:=by cases k<;>rfl
theorem Ry(k:IntKind)(r:Nat)(hr:r<Fp k):Fe k r=if half k<=r then (r:Int)-Fp k else r:=by
 unfold Fe;rw[Kw];simp only[Vd]
 by_cases h:half k<=r
 ·rw[if_pos h,if_pos h];have e:Nat.pred (Nat.sub (Fp k) r)=Fp k-r-1:=rfl;rw[e,Int.negSucc_eq];omega
 ·rw[if_neg h,if_neg h];rfl
theorem NS(k:IntKind)(n:Int):(Ii k n:Int)=n % (Fp k:Int):=by
 have hp:=Ys k;cases n with
 |ofNat m=>
  show ((m % Fp k:Nat):Int)=(m:Int) % _;simp
 |negSucc m=>
  show ((Nat.pred (Fp k)-m % Fp k:Nat):Int)=_;have h1:=Nat.mod_lt m hp;rw[Int.negSucc_emod m (by omega)];have:Nat.pred (Fp k)=Fp k-1:=rfl;rw[this];omega
theorem NT(k:IntKind)(n:Int):Ii k n<Fp k:=by
 have h1:=NS k n;have h2:=Int.emod_lt_of_pos n (show (0:Int)<Fp k by have:=Ys k;omega);omega
theorem Zo(k:IntKind)(n:Int):k.wrap n=Fe k (Ii k n):=by
 rw[Ry k _ (NT k n)];have h1:=NS k n;have h2:=NT k n;generalize Ii k n=r at *;unfold IntKind.wrap;have e:(2^k.bits:Int)=(Fp k:Int):=by rw[VK];push_cast;rfl
 rw[e,<-h1];cases k<;>simp only[IntKind.signed,IntKind.bits,half,Fp]at* <;>simp<;>omega
theorem Ty(k:IntKind)(m:Nat)(h:m<half k):Fe k m=m:=by
 have:=AbH k;rw[Ry k m (by omega),if_neg (by omega)]
theorem GI(k:IntKind)(n:Int):KS k n=k.wrap n:=by
 rw[Zo];cases n with
 |ofNat m=>
  show @Bool.rec _ _ _ _=_;rw[Kw];simp only[Vd]
  by_cases h:m.succ<=half k
  ·rw[if_pos h];have h2:=AbH k;have:Ii k (.ofNat m)=m:=by show m % Fp k=m;exact Nat.mod_eq_of_lt (by omega)
   rw[this,Ty k m (by omega)];rfl
  ·rw[if_neg h];rfl
 |negSucc m=>rfl
theorem V7(x y:Int):Aau x y=x+y:=by cases x<;>cases y<;>rfl
theorem VB(x y:Int):Ad7 x y=x-y:=by
 cases x with
 |negSucc a=>rfl
 |ofNat a=>cases y with
  |negSucc b=>rfl
  |ofNat b=>
   show @Bool.rec _ _ _ _=_;rw[Kw];simp only[Vd]
   by_cases h:b<=a
   ·rw[if_pos h];show ((a-b:Nat):Int)=(a:Int)-b;omega
   ·rw[if_neg h];have e:Nat.pred (Nat.sub b a)=b-a-1:=rfl;rw[e,Int.negSucc_eq];show _=(a:Int)-b;omega
theorem Ajs(x y:Int):AqQ x y=x*y:=by cases x<;>cases y<;>rfl
theorem BC(x y:Int):BX x y=(x==y):=by
 cases x with
 |ofNat a=>cases y with
  |ofNat b=>
   show Nat.beq a b=_
   by_cases h:a=b
   ·subst h;simp
   ·have:Nat.beq a b=false:=by
     cases hb:Nat.beq a b with
     |false=>rfl
     |true=>exact absurd (beq_eq hb) h
    rw[this];symm;simp;omega
  |negSucc b=>show false=_;symm;simp
 |negSucc a=>cases y with
  |ofNat b=>show false=_;symm;simp
  |negSucc b=>
   show Nat.beq a b=_
   by_cases h:a=b
   ·subst h;simp
   ·have:Nat.beq a b=false:=by
     cases hb:Nat.beq a b with
     |false=>rfl
     |true=>exact absurd (beq_eq hb) h
    rw[this];symm;simp;omega
theorem QW(a b:Nat):Nat.ble a b=decide (a<=b):=by
 by_cases h:a<=b
 ·rw[Js h];simp[h]
 ·cases hb:Nat.ble a b with
  |false=>simp[h]
  |true=>exact absurd (AN hb) h
theorem Ie(x y:Int):Ev x y=decide (x<y):=by
 cases x with
 |ofNat a=>cases y with
  |ofNat b=>show Nat.ble _ _=_;rw[QW];apply decide_eq_decide.2;show a+1<=b↔(a:Int)<b;omega
  |negSucc b=>show false=_;symm;apply decide_eq_false;rw[Int.negSucc_eq];show ¬(a:Int)<_;omega
 |negSucc a=>cases y with
  |ofNat b=>show true=_;symm;apply decide_eq_true;rw[Int.negSucc_eq];show _<(b:Int);omega
  |negSucc b=>show Nat.ble _ _=_;rw[QW];apply decide_eq_decide.2;rw[Int.negSucc_eq,Int.negSucc_eq];show b+1<=a↔_;omega
theorem Qn(b:Bool):C3 b= !b:=by cases b<;>rfl
theorem DB(a b:Bool):C6 a b=(a==b):=by cases a<;>cases b<;>rfl
theorem Bt{k k':IntKind}(h:Nat.beq (Ax k) (Ax k')=true):k=k':=by
 have:=beq_eq h;cases k<;>cases k'<;>first|rfl|(simp[Ax]at this)
theorem Ad5{op:BinOp}{f:Int->Int->Bool}(h:intCmp op=some f)(x y:Int):f x y=BQ op x y:=by
 cases op<;>simp only[intCmp]at h<;>cases h<;>simp only[BQ,Qn,BC,Ie]
 ·rfl
 ·rw[Bool.eq_iff_iff];simp
 ·rw[Bool.eq_iff_iff];simp
theorem toNat_ofInt(k:IntKind)(x:Int):(BitVec.ofInt k.bits x).toNat=Ii k x:=by
 have h1:=NS k x;rw[BitVec.toNat_ofInt];have e:((2^k.bits:Nat):Int)=(Fp k:Int):=by rw[VK]
 rw[e,<-h1];simp
theorem Og(k:IntKind)(r:Nat)(h:r<Fp k):k.wrap (r:Int)=Fe k r:=by
 rw[Zo];congr 1;have:=NS k r;rw[Int.emod_eq_of_lt (by omega) (by omega)]at this;omega
theorem OJ{op:BinOp}{k:IntKind}{x y n:Int}(h:E7 op k x y=some n):n=E5 op k x y/\(op=.quo\/op=.rem->y ≠ 0)/\(op=.shl\/op=.shr->0<=y)/\IA op=false:=by
 have hx:=NT k x;have hy:=NT k y;have hm:=VK k;cases op<;>simp only[E7]at h
 case add=>cases h;exact⟨by rw[GI,V7];rfl,by simp,by simp,rfl⟩
 case sub=>cases h;exact⟨by rw[GI,VB];rfl,by simp,by simp,rfl⟩
 case mul=>cases h;exact⟨by rw[GI,Ajs];rfl,by simp,by simp,rfl⟩
 case quo=>
  split at h
  ·rename_i a b;cases hb:Nat.beq b 0 with
   |true=>rw[hb]at h;cases h
   |false=>
    rw[hb]at h;cases h;have:=B5 hb;refine⟨?_,fun _ e=>this (by have:(b:Int)=0:=e;omega),by simp,rfl⟩;rw[GI];show _=k.wrap (Int.tdiv (a:Int) (b:Int));rw[Int.tdiv_eq_ediv_of_nonneg (by omega)];rfl
  ·cases h
 case rem=>
  split at h
  ·rename_i a b;cases hb:Nat.beq b 0 with
   |true=>rw[hb]at h;cases h
   |false=>
    rw[hb]at h;cases h;have:=B5 hb;refine⟨?_,fun _ e=>this (by have:(b:Int)=0:=e;omega),by simp,rfl⟩;show _=Int.tmod (a:Int) (b:Int);rw[Int.tmod_eq_emod_of_nonneg (by omega)];rfl
  ·cases h
 case and=>
  cases h;refine⟨?_,by simp,by simp,rfl⟩;show _=k.wrap _;rw[BitVec.toNat_and,toNat_ofInt,toNat_ofInt,Og];rfl;exact Nat.lt_of_le_of_lt Nat.and_le_left hx
 case or=>
  cases h;refine⟨?_,by simp,by simp,rfl⟩;show _=k.wrap _;rw[BitVec.toNat_or,toNat_ofInt,toNat_ofInt,Og];rfl;rw[hm];exact Nat.or_lt_two_pow (hm▸hx) (hm▸hy)
 case xor=>
  cases h;refine⟨?_,by simp,by simp,rfl⟩;show _=k.wrap _;rw[BitVec.toNat_xor,toNat_ofInt,toNat_ofInt,Og];rfl;rw[hm];exact Nat.xor_lt_two_pow (hm▸hx) (hm▸hy)
 case andNot=>
  cases h;refine⟨?_,by simp,by simp,rfl⟩;show _=k.wrap _;rw[BitVec.toNat_and,BitVec.toNat_not,toNat_ofInt,toNat_ofInt,<-hm,Og];rfl;exact Nat.lt_of_le_of_lt Nat.and_le_left hx
 case shl=>
  split at h
  ·rename_i a b;cases hb:Nat.ble b (bitsOf k) with
   |false=>rw[hb]at h;cases h
   |true=>
    rw[hb]at h;cases h;have AS:=AN hb;rw[TG]at AS;refine⟨?_,by simp,fun _=>by show (0:Int)<=(b:Int);omega,rfl⟩;rw[GI];show _=k.wrap ((a:Int)*2^(min (Int.toNat (b:Int)) k.bits));simp only[Int.toNat_natCast,Nat.min_eq_left AS]
    congr 1
  ·cases h
 case shr=>
  split at h
  ·rename_i a b;cases hb:Nat.ble b (bitsOf k) with
   |false=>rw[hb]at h;cases h
   |true=>
    rw[hb]at h;cases h;have AS:=AN hb;rw[TG]at AS;refine⟨?_,by simp,fun _=>by show (0:Int)<=(b:Int);omega,rfl⟩;show _=Int.fdiv (a:Int) (2^(min (Int.toNat (b:Int)) k.bits));simp only[Int.toNat_natCast,Nat.min_eq_left AS];rw[Int.fdiv_eq_ediv_of_nonneg _ (Int.le_of_lt (Int.pow_pos (by decide)))];show ((a / 2^b:Nat):Int)=_;push_cast;rfl
  ·cases h
 all_goals cases h
theorem Ac:∀{a b:E},a.AJ b=true->a=b:=by
 intro a
 induction a with
 |lit n=>intro b h;cases b<;>simp only[E.AJ]at h<;>first|(rw[BC]at h;simp at h;subst h;rfl)|cases h
 |var i=>intro b h;cases b<;>simp only[E.AJ]at h<;>first|(have:=beq_eq h;subst this;rfl)|cases h
 |bin o k x y ih1 ih2=>
  intro b h;cases b with
  |bin o' k' x' y'=>
   simp only[E.AJ,Ah]at h;obtain⟨⟨⟨h1,h2⟩,h3⟩,h4⟩:=h;have e1:o=o':=by have:=beq_eq h1;cases o<;>cases o'<;>first|rfl|(simp[Dw]at this)
   rw[e1,Bt h2,ih1 h3,ih2 h4]
  |_=>cases h
 |conv k x ih=>
  intro b h;cases b with
  |conv k' x'=>
   simp only[E.AJ,Ah]at h;rw[Bt h.1,ih h.2]
  |_=>cases h
 |cell t x c ih=>
  intro b h;cases b with
  |cell t' x' c'=>
   simp only[E.AJ,Ah]at h;rw[beq_eq h.1,beq_eq h.2.1,ih h.2.2]
  |_=>cases h
 |Bd t x c ih=>
  intro b h;cases b with
  |Bd t' x' c'=>
   simp only[E.AJ,Ah]at h;rw[beq_eq h.1,beq_eq h.2.1,ih h.2.2]
  |_=>cases h
def FJ(op:BinOp)(q:IntKind)(a b:Int):Value:=if IA op then .bool (BQ op a b) else .int q (E5 op q a b)
theorem Gk{op:BinOp}{t:TypeId}{q q':IntKind}{a b:Int}{w:World}(h1:q=q'\/op=.shl\/op=.shr)(h2:op=.quo\/op=.rem->b ≠ 0)(h3:op=.shl\/op=.shr->0<=b):
 (binOp op t (.int q a) (.int q' b)).run P w=.ok (FJ op q a b) w:=by
 cases op
 case shl=>have:=h3 (.inl rfl);simp[binOp,Op.shift,FJ,IA,E5,Int.not_lt.2 this]
 case shr=>have:=h3 (.inr rfl);simp[binOp,Op.shift,FJ,IA,E5,Int.not_lt.2 this]
 all_goals
  obtain rfl:q=q':=by rcases h1 with h|h|h<;>first|exact h|cases h
 case quo=>have:=h2 (.inl rfl);simp[binOp,Op.intDiv,FJ,IA,E5,this]
 case rem=>have:=h2 (.inr rfl);simp[binOp,Op.intDiv,FJ,IA,E5,this]
 all_goals simp[binOp,Op.intArith,Op.intBits,Op.intCmp,FJ,IA,E5,BQ]
theorem Ez{op:BinOp}{t:TypeId}{x y:Operand}{q q':IntKind}{a b:Int}{w:World}:(eqGuard op t x y (.int q a) (.int q' b)).run P w=.ok () w:=by
 unfold eqGuard;cases op<;>simp
def A.ie:A->Option (IntKind×E)
 |.int q n=>some (q,.lit n)
 |.sym q e=>some (q,e)
 |_=>none
theorem AR.ie{a:A}{q:IntKind}{e:E}{v:Value}(h:a.ie=some (q,e))(hv:AR J U a v):v=.int q (e.den U):=by
 cases a<;>simp[A.ie]at h
 ·obtain⟨rfl,rfl⟩:=h;exact hv
 ·obtain⟨rfl,rfl⟩:=h;exact hv
theorem WU{op:BinOp}{q:IntKind}{a b:E}{v:A}(h:Jc C op q a b=some v)(hc:A4 P C U):
 AR J U v (FJ op q (a.den U) (b.den U))/\(op=.quo\/op=.rem->b.den U ≠ 0)/\(op=.shl\/op=.shr->0<=b.den U):=by
 unfold Jc at h;cases hi:IA op with
 |true=>
  have hn:¬(op=.quo\/op=.rem)/\¬(op=.shl\/op=.shr):=by cases op<;>simp[IA]at hi<;>simp
  rw[hi]at h;refine⟨?_,fun e=>absurd e hn.1,fun e=>absurd e hn.2⟩;simp only[FJ,hi,if_true];cases hcmp:C.cmp op a b with
  |some r=>
   simp[hcmp]at h;subst h;rw[hc.cmp op a b r hcmp];rfl
  |none=>
   simp only[hcmp,cond_true]at h;cases he:a.AJ b with
   |false=>rw[he]at h;cases h
   |true=>
    rw[he]at h;have:=Ac he;subst this;cases op<;>simp[IA]at hi<;>cases h<;>simp[AR,BQ]
 |false=>
  rw[hi]at h;simp only[cond_false]at h;cases hs:AcA op b with
  |false=>rw[hs]at h;cases h
  |true=>
   rw[hs]at h;simp only[cond_true]at h;refine⟨?_,?_,?_⟩
   ·cases hq:C.norm (.bin op q a b) with
    |some n=>
     simp only[hq]at h;cases h;have:=hc.norm _ _ hq;simp only[E.den]at this;simp[FJ,hi,AR,this]
    |none=>
     simp only[hq]at h;cases h;simp[FJ,hi,AR,E.den]
   ·rintro (rfl|rfl)<;>(cases b<;>simp[AcA,Ie]at hs;simp[E.den];omega)
   ·rintro (rfl|rfl)<;>(cases b<;>simp[AcA,Qn,Ie]at hs;simp[E.den];omega)
theorem DG{a b:A}{k:IntKind->Int->IntKind->Int->OR}{r:OR}:(∃q x q' y,a=.int q x/\b=.int q' y/\RL a b k r=k q x q' y)\/((¬ ∃q x q' y,a=.int q x/\b=.int q' y)/\RL a b k r=r):=by
 cases a with
 |int q x=>cases b with
  |int q' y=>exact .inl ⟨_,_,_,_,rfl,rfl,rfl⟩
  |_=>exact .inr ⟨(by rintro ⟨_,_,_,_,_,e⟩;cases e),rfl⟩
 |_=>exact .inr ⟨(by rintro ⟨_,_,_,_,e,_⟩;cases e),rfl⟩
theorem AcW{op:BinOp}{a b:A}{k:A->OR}{r:Rs}(h:Mg C op a b k=some r):∃q q' x y v,a.ie=some (q,x)/\b.ie=some (q',y)/\(q=q'\/op=.shl\/op=.shr)/\
 Jc C op q x y=some v/\k v=some r/\∀k',Mg C op a b k'=k' v:=by
 cases a with
 |int q x=>cases b with
  |sym q' y=>
   obtain⟨h1,h2⟩:=Ap h;obtain⟨v,h3,h4⟩:=Ar h2;exact⟨q,q',_,_,v,rfl,rfl,.inl (Bt h1),h3,h4,fun k'=>by show Dy _ _=_;rw[Cv h1,BI h3]⟩
  |_=>cases h
 |sym q x=>cases b with
  |sym q' y=>
   obtain⟨h1,h2⟩:=Ap h;obtain⟨v,h3,h4⟩:=Ar h2;exact⟨q,q',_,_,v,rfl,rfl,.inl (Bt h1),h3,h4,fun k'=>by show Dy _ _=_;rw[Cv h1,BI h3]⟩
  |int q' y=>
   by_cases A8:op=.shl\/op=.shr
   ·have e:∀k',Mg C op (.sym q x) (.int q' y) k'=BS (Jc C op q x (.lit y)) k':=by intro k';rcases A8 with rfl|rfl<;>rfl
    rw[e]at h;obtain⟨v,h3,h4⟩:=Ar h;exact⟨q,q',_,_,v,rfl,rfl,.inr A8,h3,h4,fun k'=>by rw[e,BI h3]⟩
   ·have e:∀k',Mg C op (.sym q x) (.int q' y) k'=Dy (Nat.beq (Ax q) (Ax q')) (BS (Jc C op q x (.lit y)) k'):=by
     intro k';cases op<;>first|rfl|(simp at A8)
    rw[e]at h;obtain⟨h1,h2⟩:=Ap h;obtain⟨v,h3,h4⟩:=Ar h2;exact⟨q,q',_,_,v,rfl,rfl,.inl (Bt h1),h3,h4,fun k'=>by rw[e,Cv h1,BI h3]⟩
  |_=>cases h
 |_=>cases h
def AsX(C:AB)(op:BinOp)(f:A->A->(A->OR)->OR):Prop:=∀a b k r,f a b k=some r->∃v,(∀k',f a b k'=k' v)/\
 ∀P U J va vb t x y w,A4 P C U->AR J U a va->AR J U b vb->∃v',(binOp op t va vb).run P w=.ok v' w/\(eqGuard op t x y va vb).run P w=.ok () w/\AR J U v v'
theorem ZA{op:BinOp}{a b:A}{k:A->OR}{r:Rs}(h:Mg C op a b k=some r):∃v,(∀k',Mg C op a b k'=k' v)/\
 ∀P U J va vb t x y w,A4 P C U->AR J U a va->AR J U b vb->∃v',(binOp op t va vb).run P w=.ok v' w/\(eqGuard op t x y va vb).run P w=.ok () w/\AR J U v v':=by
 obtain⟨q,q',x,y,v,h1,h2,h3,h4,h5,h6⟩:=AcW h;refine⟨v,h6,?_⟩;intro P U J va vb t ox oy w hc ha hb;obtain rfl:=AR.ie h1 ha;obtain rfl:=AR.ie h2 hb;obtain⟨h7,h8,h9⟩:=WU (J:=J) h4 hc;exact⟨_,Gk h3 h8 h9,Ez,h7⟩
theorem AeJ{op:BinOp}{f:Int->Int->Bool}(h:intCmp op=some f):ZB C op=Vc C op f:=by unfold ZB;rw[h]
theorem AiB{op:BinOp}(h:op=.shl\/op=.shr):ZB C op=Abl C op (E7 op):=by rcases h with rfl|rfl<;>rfl
theorem AiA{op:BinOp}(h:intCmp op=none)(h':¬(op=.shl\/op=.shr)):ZB C op=Abk C op (E7 op):=by
 cases op<;>first|rfl|(simp[intCmp]at h;done)|(simp at h';done)
theorem Amt(op:BinOp):AsX C op (ZB C op):=by
 intro a b k r h;cases hi:intCmp op with
 |some f=>
  rw[AeJ hi]at h ⊢;have hcmp:IA op=true:=by cases op<;>simp[intCmp]at hi<;>rfl
  have hn:¬(op=.quo\/op=.rem)/\¬(op=.shl\/op=.shr):=by cases op<;>simp[IA]at hcmp<;>simp
  rcases DG (a:=a) (b:=b) (k:=fun q x q' y=>Dy (Nat.beq (Ax q) (Ax q')) (k (.bool (f x y)))) (r:=Mg C op a b k) with ⟨q,x,q',y,rfl,rfl,e⟩|⟨Km,e⟩
  ·rw[show Vc C op f _ _ k=_ from e]at h;obtain⟨h1,h2⟩:=Ap h;obtain rfl:=Bt h1;refine⟨.bool (f x y),fun k'=>Cv h1,?_⟩;intro P U J va vb t ox oy w hc ha hb;obtain rfl:va=_:=ha;obtain rfl:vb=_:=hb;refine⟨_,Gk (.inl rfl) (fun e=>absurd e hn.1) (fun e=>absurd e hn.2),Ez,?_⟩;simp[FJ,hcmp,AR,Ad5 hi]
  ·rw[show Vc C op f _ _ k=_ from e]at h;obtain⟨v,h1,h2⟩:=ZA h;refine⟨v,?_,h2⟩;intro k';rcases DG (a:=a) (b:=b) (k:=fun q x q' y=>Dy (Nat.beq (Ax q) (Ax q')) (k' (.bool (f x y)))) (r:=Mg C op a b k') with ⟨q,x,q',y,ha,hb,_⟩|⟨_,e'⟩
   ·exact absurd ⟨q,x,q',y,ha,hb⟩ Km
   ·exact e'.trans (h1 k')
 |none=>
  by_cases A8:op=.shl\/op=.shr
  ·rw[AiB A8]at h ⊢;rcases DG (a:=a) (b:=b) (k:=fun q x _ y=>BS (E7 op q x y) fun n=>k (.int q n)) (r:=Mg C op a b k) with ⟨q,x,q',y,rfl,rfl,e⟩|⟨Km,e⟩
   ·rw[show Abl C op (E7 op) _ _ k=_ from e]at h;obtain⟨n,h1,h2⟩:=Ar h;obtain⟨h3,h4,h5,h6⟩:=OJ h1;refine⟨.int q n,fun k'=>BI h1,?_⟩;intro P U J va vb t ox oy w hc ha hb;obtain rfl:va=_:=ha;obtain rfl:vb=_:=hb;refine⟨_,Gk (.inr A8) h4 h5,Ez,?_⟩;simp[FJ,h6,AR,h3]
   ·rw[show Abl C op (E7 op) _ _ k=_ from e]at h;obtain⟨v,h1,h2⟩:=ZA h;refine⟨v,?_,h2⟩;intro k';rcases DG (a:=a) (b:=b) (k:=fun q x _ y=>BS (E7 op q x y) fun n=>k' (.int q n)) (r:=Mg C op a b k') with ⟨q,x,q',y,ha,hb,_⟩|⟨_,e'⟩
    ·exact absurd ⟨q,x,q',y,ha,hb⟩ Km
    ·exact e'.trans (h1 k')
  ·rw[AiA hi A8]at h ⊢;rcases DG (a:=a) (b:=b) (k:=fun q x q' y=>Dy (Nat.beq (Ax q) (Ax q')) (BS (E7 op q x y) fun n=>k (.int q n))) (r:=Mg C op a b k) with ⟨q,x,q',y,rfl,rfl,e⟩|⟨Km,e⟩
   ·rw[show Abk C op (E7 op) _ _ k=_ from e]at h;obtain⟨h0,h9⟩:=Ap h;obtain rfl:=Bt h0;obtain⟨n,h1,h2⟩:=Ar h9;obtain⟨h3,h4,h5,h6⟩:=OJ h1;refine⟨.int q n,fun k'=>(Cv h0).trans (BI h1),?_⟩;intro P U J va vb t ox oy w hc ha hb;obtain rfl:va=_:=ha;obtain rfl:vb=_:=hb;refine⟨_,Gk (.inl rfl) h4 h5,Ez,?_⟩;simp[FJ,h6,AR,h3]
   ·rw[show Abk C op (E7 op) _ _ k=_ from e]at h;obtain⟨v,h1,h2⟩:=ZA h;refine⟨v,?_,h2⟩;intro k';rcases DG (a:=a) (b:=b) (k:=fun q x q' y=>Dy (Nat.beq (Ax q) (Ax q')) (BS (E7 op q x y) fun n=>k' (.int q n))) (r:=Mg C op a b k') with ⟨q,x,q',y,ha,hb,_⟩|⟨_,e'⟩
    ·exact absurd ⟨q,x,q',y,ha,hb⟩ Km
    ·exact e'.trans (h1 k')
theorem AeL{nl:Nat}{o:Oper}{op:BinOp}{t yt:TypeId}{x y:Operand}(ho:o.op=.binOp op t x y yt):CU C nl o (A5 (.n2 (Alq (ZB C op)) (od nl x) (od nl y))):=by
 intro rec X k pt tl h r hk;obtain⟨u,hu,hk⟩:=Aq (show ev (od nl x) pt tl _=some r from hk);obtain⟨a,rfl,hk⟩:=AY hk;obtain⟨u',CT,hk⟩:=Aq (show ev (od nl y) pt tl _=some r from hk);obtain⟨b,rfl,hk⟩:=AY hk;obtain⟨v,h1,h2⟩:=Amt op a b _ r hk;refine⟨.one v,?_,?_⟩
 ·intro Bn X' k' h';show ev (od nl x) pt tl _=_;rw[AQ hu];show ev (od nl y) pt tl _=_;rw[AQ CT];exact h1 _
 ·intro P U J e w hc A8;obtain⟨v',h3,h4,h5⟩:=h2 P U J (e x) (e y) t x y w hc (A8 x (by simp[ho,Op.operands]) _ hu) (A8 y (by simp[ho,Op.operands]) _ CT);exact⟨v',.inl (by simp[execOp,ho,h3,h4]),h5⟩
end Eng
namespace Eng
open Go
variable {J J':A1} {U:An} {C:AB} {P:Program}
theorem GC(a:A)(k:A->OR):DI (.one a) k=k a:=rfl
theorem Q7{x:Option Bool}(h:W7 x=true):x=some true:=by
 cases x with
 |none=>cases h
 |some b=>rw[show b=true from h]
theorem Ju(hc:A4 P C U){a b:E}(h:W9 C a b=true):a.den U<b.den U:=by
 cases a<;>cases b<;>first
  |exact of_decide_eq_true (hc.cmp _ _ _ _ (Q7 h))
  |(rename_i x y;have h:Ev x y=true:=h;rw[Ie]at h;exact of_decide_eq_true h)
theorem ON(hc:A4 P C U){a b:E}(h:leE C a b=true):a.den U<=b.den U:=by
 have key:∀{a b:E},(bif a.AJ b then true else W7 (C.cmp .leq a b))=true->a.den U<=b.den U:=by
  intro a b h;cases hb:a.AJ b with
  |true=>rw[Eng.Ac hb];exact Int.le_refl _
  |false=>rw[hb]at h;exact of_decide_eq_true (hc.cmp _ _ _ _ (Q7 h))
 cases a with
 |lit x=>
  cases b with
  |lit y=>
   have h:C3 (Ev y x)=true:=h;rw[Ie]at h;show x<=y;have:¬y<x:=by
    intro e;rw[decide_eq_true e]at h;cases h
   omega
  |_=>exact of_decide_eq_true (hc.cmp _ _ _ _ (Q7 h))
 |_=>exact key h
theorem Afv(hc:A4 P C U){a b:E}{r:Bool}(h:eqE C a b=some r):(a.den U==b.den U)=r:=by
 unfold eqE at h;cases hb:E.AJ a b with
 |true=>
  rw[hb]at h;cases h;rw[Eng.Ac hb];exact beq_self_eq_true _
 |false=>
  rw[hb]at h;simp only[cond_false]at h;split at h
  ·split at h
   ·cases h;rw[BC];rfl
   ·exact hc.cmp _ _ _ _ h
  ·exact hc.cmp _ _ _ _ h
theorem JG(hc:A4 P C U){a b e:E}(h:SV C a b=some e):e.den U=a.den U+b.den U:=by
 unfold SV at h;split at h
 ·rename_i x;cases hb:BX x 0 with
  |true=>
   rw[hb]at h;cases h;rw[BC]at hb;have:=eq_of_beq hb;subst this;show _=0+_;omega
  |false=>
   rw[hb]at h;simp only[cond_false]at h;split at h
   ·cases h;show Aau _ _=_;rw[V7];rfl
   ·exact hc.sum _ _ _ h
 ·split at h
  ·rename_i y;cases hb:BX y 0 with
   |true=>
    rw[hb]at h;cases h;rw[BC]at hb;have:=eq_of_beq hb;subst this;show _=_+0;omega
   |false=>rw[hb]at h;exact hc.sum _ _ _ h
  ·exact hc.sum _ _ _ h
theorem AiR(hc:A4 P C U){a b e:E}(h:AiQ C a b=some e):e.den U=a.den U-b.den U:=by
 unfold AiQ at h;split at h
 ·rename_i y;cases hb:BX y 0 with
  |true=>
   rw[hb]at h;cases h;rw[BC]at hb;have:=eq_of_beq hb;subst this;show _=_-0;omega
  |false=>
   rw[hb]at h;simp only[cond_false]at h;split at h
   ·cases h;show Ad7 _ _=_;rw[VB];rfl
   ·exact hc.dif _ _ _ h
 ·exact hc.dif _ _ _ h
theorem KH{v:AV}{k:Nat->E->Nat->Nat->OR}{r:OR}{x:Rs}(h:ptK v k r=some x):(∃b e es c,v=.one (.pt b e es c)/\k b e es c=some x)\/(r=some x/\∀k' r',ptK v k' r'=r'):=by
 unfold ptK at h ⊢;split at h
 ·exact .inl ⟨_,_,_,_,rfl,h⟩
 ·rename_i hn;exact .inr ⟨h,fun k' r'=>rfl⟩
theorem OM{v:AV}{k:Nat->E->Nat->Nat->OR}{r:OR}{x:Rs}(h:AdB v k r=some x):(∃t e es c,v=.one (.NB t e es c)/\k t e es c=some x)\/(r=some x/\∀k' r',AdB v k' r'=r'):=by
 unfold AdB at h ⊢;split at h
 ·exact .inl ⟨_,_,_,_,rfl,h⟩
 ·rename_i hn;exact .inr ⟨h,fun k' r'=>rfl⟩
theorem Ui{a:A}{k:Nat->Nat->E->OR}{r:OR}{x:Rs}(h:Agp a k r=some x):(∃t es n,a=.P3 t es n/\k t es n=some x)\/(r=some x/\∀k' r',Agp a k' r'=r'):=by
 unfold Agp at h ⊢;split at h
 ·exact .inl ⟨_,_,_,rfl,h⟩
 ·rename_i hn;exact .inr ⟨h,fun k' r'=>rfl⟩
def Atc(J:A1)(U:An)(b es:Nat)(lo n:E)(v:Value):Prop:=∃p N k,v=.slice p N k/\N<=k/\((N:Nat):Int)=n.den U/\(N=0\/∃r S L,J b=some (r,S)/\p=some ⟨r,L*es,none⟩/\((L:Nat):Int)=lo.den U)
theorem Lj{a:A}{k:Nat->Nat->E->E->OR}{r:OR}{x:Rs}(h:YR a k r=some x):
 (∃b es lo n,(∀k' r',YR a k' r'=k' b es lo n)/\(∀J U v,AR J U a v->Atc J U b es lo n v)/\k b es lo n=some x)\/(r=some x/\∀k' r',YR a k' r'=r'):=by
 cases a with
 |C2 b es n=>
  refine .inl ⟨b,es,.lit 0,n,fun _ _=>rfl,?_,h⟩
  rintro J U v ⟨p,N,k,h1,h2,h3⟩
  rcases h3 with ⟨h4,h5,h6⟩|⟨r,S,h4,h5,h6,h7⟩
  ·exact⟨p,N,k,h1,by omega,h2,.inl h5⟩
  ·exact⟨p,N,k,h1,h7,h2,.inr ⟨r,S,0,h4,by rw[Nat.zero_mul];exact h5,rfl⟩⟩
 |Wp b es lo n=>exact .inl ⟨b,es,lo,n,fun _ _=>rfl,fun J U v h=>h,h⟩
 |_=>exact .inr ⟨h,fun _ _=>rfl⟩
theorem V8(hc:A4 P C U){a:A}{e:E}(h:AfQ C a=some e){v:Value}(ha:AR J U a v):∃(q:IntKind) (j:Nat),v=.int q (j:Int)/\(j:Int)=e.den U:=by
 cases a with
 |int q z=>
  cases z with
  |ofNat n=>cases h;exact⟨q,n,ha,rfl⟩
  |negSucc n=>cases h
 |sym q e'=>
  have h:(bif W7 (C.cmp .geq e' (.lit 0)) then some e' else none)=some e:=h;cases hb:W7 (C.cmp .geq e' (.lit 0)) with
  |false=>rw[hb]at h;cases h
  |true=>
   rw[hb]at h;have h0:e'=e:=Option.some.inj h;subst h0;have h1:decide (e'.den U>=0)=true:=hc.cmp _ _ _ _ (Q7 hb);have h2:0<=e'.den U:=of_decide_eq_true h1;have h3:v=.int q (e'.den U):=ha;exact⟨q,(e'.den U).toNat,by rw[h3,Int.toNat_of_nonneg h2],Int.toNat_of_nonneg h2⟩
 |_=>cases h
theorem AgF(hc:A4 P C U){a:A}{v:Value}(h:AR J U a v):AR J U (Alo C a) v:=by
 cases a with
 |sb e=>
  show AR J U (match C.norm e with |some n=>A.bool (C3 (BX n 0))|none=>.sb e) v;cases hn:C.norm e with
  |none=>exact h
  |some n=>
   have h1:=hc.norm e n hn;have h:v=.bool (decide (e.den U ≠ 0)):=h;show v=.bool (C3 (BX n 0));rw[h,h1,BC]
   by_cases e0:n=0
   ·subst e0;rfl
   ·have:(n==0)=false:=by simpa using e0
    rw[this,decide_eq_true e0];rfl
 |sym k e=>
  show AR J U (match C.norm e with |some n=>A.int k n|none=>.sym k e) v;cases hn:C.norm e with
  |none=>exact h
  |some n=>
   have h1:=hc.norm e n hn;have h:v=.int k (e.den U):=h;show v=.int k n;rw[h,h1]
 |_=>exact h
theorem Sz(hc:A4 P C U){e:E}{c:Nat}{j:Nat}(hj:(j:Int)=e.den U):∀{sp:List (E×Nat×A)} {q:Option A},NW C e c sp=some q->Ao U j c sp=q:=by
 intro sp
 induction sp with
 |nil=>intro q h;cases h;rfl
 |cons p l ih=>
  intro q h;have h':@Bool.rec (fun _=>Option (Option A)) (NW C e c l) (match eqE C p.1 e with |some b=>bif b then some (some p.2.2) else NW C e c l|none=>none) (Nat.beq p.2.1 c)=some q:=h;show (if p.1.den U=(j:Int)/\p.2.1=c then some p.2.2 else Ao U j c l)=q;cases hb:Nat.beq p.2.1 c with
  |false=>
   rw[hb]at h';rw[if_neg (fun x=>B5 hb x.2)];exact ih h'
  |true=>
   rw[hb]at h';have PW:=beq_eq hb;have h':(match eqE C p.1 e with |some b=>bif b then some (some p.2.2) else NW C e c l|none=>none)=some q:=h';split at h'
   ·rename_i b hq;have h1:=Afv hc hq;cases b with
    |true=>
     cases h';rw[if_pos ⟨(eq_of_beq h1).trans hj.symm,PW⟩]
    |false=>
     rw[if_neg (fun x=>by rw[x.1,hj,beq_self_eq_true]at h1;cases h1)];exact ih h'
   ·cases h'
theorem U3(hc:A4 P C U){t:Nat}{e:E}{c:Nat}{sp:List (E×Nat×A)}{a:A}(h:OZ C t e c sp=some a){j:Nat}(hj:(j:Int)=e.den U){v:Value}(hv:B3 J U t sp j c v)(h1:v.oneCell'=true):AR J U a v:=by
 unfold OZ at h;unfold B3 at hv;split at h
 ·rename_i a' hf;cases h;rw[Sz hc hj hf]at hv;exact AgF hc hv
 ·rename_i hf;cases h;rw[Sz hc hj hf]at hv;have hv:v=U.r t (e.den U).toNat c:=by rw[<-hj];exact hv
  split
  ·rename_i a ha;exact hc.rd _ _ _ _ ha J v hv
  ·exact⟨hv,h1⟩
 ·cases h
theorem Hk{t:Nat}{e:E}{sp:List (E×Nat×A)}{m c:Nat}{l:List A}(h:Gj C t e sp (m+1) c=some l):∃a l',OZ C t e c sp=some a/\Gj C t e sp m (c+1)=some l'/\l=a::l':=by
 have h':Pp (OZ C t e c sp) (Gj C t e sp m (c+1))=some l:=h;cases h1:OZ C t e c sp with
 |none=>rw[h1]at h';cases h'
 |some a=>
  rw[h1]at h';cases h2:Gj C t e sp m (c+1) with
  |none=>rw[h2]at h';cases h'
  |some l'=>rw[h2]at h';cases h';exact⟨a,l',rfl,rfl,rfl⟩
theorem Li{h:H}{b:Nat}{k:Nat->Nat->E->List (E×Nat×A)->OR}{x:Rs}(hk:CO h b k=some x):∃t es n sp,h.get b=some (.row t es n sp)/\k t es n sp=some x:=by
 unfold CO at hk;split at hk
 ·rename_i t es n sp hg;exact⟨t,es,n,sp,hg,hk⟩
 ·cases hk
theorem Akh{h:H}{b:Nat}{k:Nat->Nat->E->List (E×Nat×A)->OR}{t es:Nat}{n:E}{sp:List (E×Nat×A)}(hg:h.get b=some (.row t es n sp)):CO h b k=k t es n sp:=by
 unfold CO;rw[hg]
theorem P9{h:H}{b:Nat}{e:E}{es c m:Nat}{k:List A->OR}{x:Rs}(hk:OW C h b e es c m k=some x):
 ∃t n sp l,h.get b=some (.row t es n sp)/\c+m<=es/\W9 C e n=true/\Gj C t e sp m c=some l/\k l=some x/\∀k',OW C h b e es c m k'=k' l:=by
 obtain⟨t,JP,n,sp,hg,B1⟩:=Li hk;obtain⟨hb,AW⟩:=Ap B1;have AS:=hb;simp only[Ah]at AS;have e1:=beq_eq AS.1;subst e1;cases hl:Gj C t e sp m c with
 |none=>rw[hl]at AW;cases AW
 |some l=>
  rw[hl]at AW;refine⟨t,n,sp,l,hg,AN AS.2.1,AS.2.2,hl,AW,fun k'=>?_⟩;show CO h b _=_;rw[Akh hg,Cv hb,hl];rfl
theorem Rel.row{h:H}{w:World}(hr:Rel J U C h w){b r S:Nat}(hb:J b=some (r,S)){t es:Nat}{n:E}{sp:List (E×Nat×A)}(hg:h.get b=some (.row t es n sp)):
 ∃(cs:Array Value) (ty:TypeId) (N:Nat),w.heap[r]? =some (.cells cs ty (0,0))/\cs.size=S/\(N:Int)=n.den U/\N*es<=S/\(∀(i:Nat) (u:Value),i<N*es->cs[i]? =some u->u.oneCell'=true)/\(∀p∈sp,p.1.den U<n.den U)/\∀j c,j<N->c<es->∃u,cs[j*es+c]? =some u/\B3 J U t sp j c u:=by
 obtain⟨o,hw,hx⟩:=hr.AE b r S hb;obtain⟨cs,ty,N,rfl,h1,h2,h3,h4,h5⟩:=hx _ hg;exact⟨cs,ty,N,hw,h1,h2,h3,h4,h5⟩
theorem Rel.YN(hc:A4 P C U){h:H}{w:World}(hr:Rel J U C h w){b r S:Nat}(hb:J b=some (r,S)){t es:Nat}{n:E}{sp:List (E×Nat×A)}(hg:h.get b=some (.row t es n sp))
 {e:E} {j:Nat} (hj:(j:Int)=e.den U) (Au:W9 C e n=true):∀{m c:Nat} {l:List A},c+m<=es->Gj C t e sp m c=some l->
 ∃vs:List Value,F2 (AR J U) l vs/\vs.length=m/\∀i v,vs[i]? =some v->w.cell? ((⟨r,j*es+c,none⟩:Addr).add i)=some v:=by
 obtain⟨cs,ty,N,hw,h1,h2,h3,h4,Ol,h5⟩:=hr.row hb hg;have hjN:j<N:=by have:=Ju hc Au;rw[<-hj,<-h2]at this;omega
 intro m
 induction m with
 |zero=>intro c l _ hl;cases hl;exact⟨[],.nil,rfl,by simp⟩
 |succ m ih=>
  intro c l LG hl;obtain⟨a,l',q1,q2,rfl⟩:=Hk hl;obtain⟨vs,g1,g2,g3⟩:=ih (by omega) q2;obtain⟨u,hu,hru⟩:=h5 j c hjN (by omega);refine⟨u::vs,.cons (U3 hc q1 hj hru (h4 (j*es+c) u (by have:(j+1)*es<=N*es:=Nat.mul_le_mul_right es hjN;rw[Nat.succ_mul]at this;omega) hu)) g1,by simp[g2],?_⟩;intro i v hv;cases i with
  |zero=>
   simp at hv;subst hv;rw[Bg,cell_of hw];exact hu
  |succ i=>
   have:=g3 i v (by simpa using hv);rw[Bg]at this ⊢;rw[show j*es+c+(i+1)=j*es+(c+1)+i by omega];exact this
theorem Rel.Agc(hc:A4 P C U){h:H}{w:World}(hr:Rel J U C h w){r o t es N:Nat}(hk:WK U r o t es N){e:E}{j:Nat}(hj:(j:Int)=e.den U)(hjN:j<N):∀{m c:Nat} {l:List A},c+m<=es->Gj C t e [] m c=some l->
 ∃vs:List Value,F2 (AR J U) l vs/\vs.length=m/\∀i v,vs[i]? =some v->w.cell? ((⟨r,o+(j*es+c),none⟩:Addr).add i)=some v:=by
 obtain⟨cs,ty,z,B1,Dr,AW⟩:=hk;obtain⟨hw,_⟩:=hr.kept r _ B1;intro m
 induction m with
 |zero=>intro c l _ hl;cases hl;exact⟨[],.nil,rfl,by simp⟩
 |succ m ih=>
  intro c l LG hl;obtain⟨a,l',q1,q2,rfl⟩:=Hk hl;obtain⟨vs,g1,g2,g3⟩:=ih (by omega) q2;obtain⟨u,hu,hru,h1⟩:=AW j c hjN (by omega);refine⟨u::vs,.cons (U3 hc q1 hj hru h1) g1,by simp[g2],?_⟩;intro i v hv;cases i with
  |zero=>
   simp at hv;subst hv;rw[Bg,cell_of hw];exact hu
  |succ i=>
   have:=g3 i v (by simpa using hv);rw[Bg]at this ⊢;rw[show o+(j*es+c)+(i+1)=o+(j*es+(c+1))+i by omega];exact this
theorem Hl{e:E}{j:Nat}{c':Nat}{sp:List (E×Nat×A)}:∀{l:List A} {c:Nat},Ao U j c' (HF e l sp c)=if e.den U=(j:Int)/\c<=c'/\c'<c+l.length then l[c'-c]? else Ao U j c' sp:=by
 intro l
 induction l with
 |nil=>intro c;rw[if_neg (by rintro ⟨_,q1,q2⟩;simp at q2;omega)];rfl
 |cons a l ih=>
  intro c;show (if e.den U=(j:Int)/\c=c' then some a else Ao U j c' (HF e l sp (c+1)))=_;rw[ih]
  by_cases h1:e.den U=(j:Int)
  ·by_cases h2:c=c'
   ·subst h2;rw[if_pos ⟨h1,rfl⟩,if_pos ⟨h1,by omega,by simp⟩];simp
   ·rw[if_neg (fun x=>h2 x.2)]
    by_cases h3:c+1<=c'/\c'<c+1+l.length
    ·rw[if_pos ⟨h1,h3⟩,if_pos ⟨h1,by omega,by simp;omega⟩];obtain⟨d,rfl⟩:∃d,c'=c+1+d:=⟨c'-(c+1),by omega⟩
     rw[show c+1+d-(c+1)=d by omega,show c+1+d-c=d+1 by omega];simp
    ·rw[if_neg (fun x=>h3 x.2),if_neg (fun x=>h3 ⟨by omega,by have:=x.2.2;simp at this;omega⟩)]
  ·rw[if_neg (fun x=>h1 x.1),if_neg (fun x=>h1 x.1),if_neg (fun x=>h1 x.1)]
theorem U0{e n:E}(he:e.den U<n.den U){sp:List (E×Nat×A)}(h:∀p∈sp,p.1.den U<n.den U):∀{l:List A} {c:Nat},∀p∈HF e l sp c,p.1.den U<n.den U:=by
 intro l
 induction l with
 |nil=>intro c p hp;exact h p hp
 |cons a l ih=>
  intro c p hp;have hp':p∈(e,c,a)::HF e l sp (c+1):=hp;rcases BL.1 hp' with e1|e1
  ·subst e1;exact he
  ·exact ih p e1
theorem F2.AjR{l:List A}{vs:List Value}(hf:F2 (AR J U) l vs):∀v∈vs,v.oneCell'=true:=by
 induction hf with
 |nil=>simp
 |cons Ny _ ih=>intro v hv;rcases BL.1 hv with e|e;exact e▸Gf Ny;exact ih v e
theorem VY{h:H}{b:Nat}{e:E}{es c:Nat}{l:List A}{k:H->OR}{x:Rs}(hk:Acq C h b e es c l k=some x):
 ∃t n sp,h.get b=some (.row t es n sp)/\c+l.length<=es/\W9 C e n=true/\k (h.put b (.row t es n (HF e l sp c)))=some x:=by
 obtain⟨t,JP,n,sp,hg,B1⟩:=Li hk;obtain⟨hb,AW⟩:=Ap B1;simp only[Ah]at hb;have e1:=beq_eq hb.1;subst e1;exact⟨t,n,sp,hg,by have:=AN hb.2.1;rw[E8]at this;exact this,hb.2.2,AW⟩
theorem Y8(cs:Array Value)(vs:List Value)(off:Nat)(h:off+vs.length<=cs.size)(i:Nat):
 (cs.toList.take off++vs++cs.toList.drop (off+vs.length)).toArray[i]? =if off<=i/\i<off+vs.length then vs[i-off]? else cs[i]? :=by
 simp only[List.getElem?_toArray];have h1:(cs.toList.take off).length=off:=by simp;omega
 by_cases h2:i<off
 ·rw[if_neg (by omega),List.append_assoc,List.getElem?_append_left (by omega),List.getElem?_take_of_lt h2];simp
 ·by_cases h3:i<off+vs.length
  ·rw[if_pos ⟨by omega,h3⟩,List.append_assoc,List.getElem?_append_right (by omega),List.getElem?_append_left (by omega),h1]
  ·rw[if_neg (by omega),List.append_assoc,List.getElem?_append_right (by omega),List.getElem?_append_right (by omega),List.getElem?_drop,h1];rw[<-Array.getElem?_toList]
   congr 1
   omega
theorem Rel.Ahu(hc:A4 P C U){h:H}{w:World}(hr:Rel J U C h w){b r S:Nat}(hb:J b=some (r,S)){t es:Nat}{n:E}{sp:List (E×Nat×A)}(hg:h.get b=some (.row t es n sp))
 {e:E} {j:Nat} (hj:(j:Int)=e.den U) (Au:W9 C e n=true) {l:List A} {vs:List Value} {c:Nat} (FF:c+l.length<=es) (hl:F2 (AR J U) l vs):
 ∃w',(storeCells ⟨r,j*es+c,none⟩ vs).run P w=.ok () w'/\Rel J U C (h.put b (.row t es n (HF e l sp c))) w'/\Ext U J J h (h.put b (.row t es n (HF e l sp c))) w w':=by
 obtain⟨cs,ty,N,hw,h1,h2,h3,h4,Ol,h5⟩:=hr.row hb hg;have hjN:j<N:=by have:=Ju hc Au;rw[<-hj,<-h2]at this;omega
 have hlen:=hl.length;have Eu:j*es+c+vs.length<=cs.size:=by
  have:(j+1)*es<=N*es:=Nat.mul_le_mul_right es hjN;rw[Nat.succ_mul]at this;omega
 have AM:=run_storeCells_at (P:=P) r (j*es+c) ty vs 0 cs w hw (by omega) hl.AjR;rw[Ew w r cs _ ty hw]at AM;refine⟨_,AM,?_⟩;refine hr.put hb ⟨_,hg,by simp⟩ (hr.one hb hg (by simp) (by simp)) _ _ ?_;have Bl:=Y8 cs vs (j*es+c) Eu;refine⟨_,ty,N,rfl,?_,h2,h3,?_,?_,?_⟩
 ·simp;omega
 ·intro i u hi hu;rw[Nat.add_zero,Bl]at hu;split at hu
  ·exact hl.AjR u (Oj hu)
  ·exact h4 i u hi hu
 ·exact U0 (Ju hc Au) Ol
 ·intro j' c' He hc';obtain⟨u,hu,hru⟩:=h5 j' c' He hc';unfold B3 at hru
  by_cases hjj:j'=j
  ·subst hjj
   by_cases PW:c<=c'/\c'<c+l.length
   ·obtain⟨a,ha⟩:∃a,l[c'-c]? =some a:=⟨_,List.getElem?_eq_getElem (show c'-c<l.length by omega)⟩
    obtain⟨v,hv,Gy⟩:=hl.get ha;refine⟨v,?_,?_⟩
    ·rw[Nat.add_zero,Bl,if_pos (by omega),<-hv]
     congr 1
     omega
    ·unfold B3;rw[Hl,if_pos ⟨hj.symm,PW⟩,ha];exact Gy
   ·refine⟨u,?_,?_⟩
    ·rw[Nat.add_zero,Bl,if_neg (by omega)];exact hu
    ·unfold B3;rw[Hl,if_neg (fun x=>PW x.2)];exact hru
  ·refine⟨u,?_,?_⟩
   ·rw[Nat.add_zero,Bl,if_neg ?_]
    ·exact hu
    ·rintro ⟨q1,q2⟩
     rcases Nat.lt_or_ge j' j with e1|e1
     ·have:(j'+1)*es<=j*es:=Nat.mul_le_mul_right es e1;rw[Nat.succ_mul]at this;omega
     ·have:(j+1)*es<=j'*es:=Nat.mul_le_mul_right es (by omega);rw[Nat.succ_mul]at this;omega
   ·unfold B3;rw[Hl,if_neg (fun x=>hjj (by have:=x.1;rw[<-hj]at this;omega))];exact hru
end Eng
end
