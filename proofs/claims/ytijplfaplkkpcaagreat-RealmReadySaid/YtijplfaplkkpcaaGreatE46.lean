/- The law's call, whatever the acts; its argument, opened. No conditions beside those in its theorems. -/
import Derived.Test.YtijplfaplkkpcaaGreatE44
import Derived.Test.YtijplfaplkkpcaaGreatGLh
import Derived.ChangeArms
import Derived.ProofKit
import Derived.OpenShut
import Derived.ReadAgain
import Derived.Deep.Slices
set_option linter.unusedVariables false
set_option linter.unusedSimpArgs false
set_option linter.unusedSectionVars false
set_option linter.constructorNameAsVariable false
set_option maxRecDepth 100000
noncomputable section
namespace V
open Go Eng Go.Proofs
variable {v0:Value} {w:World}
def Ve:Bq:=Dx e26 5
theorem Aat:Kt [BG e26 5,Tx Ve 4 [.one (.P3 0 8 (.var 0))] [] 0 1 [⟨.gtr,.var 0,.lit 60,true⟩,geL 0] [(0,i8)],AV.AJ Ve.fst.v (.one (.bool true))]=true:=by decide +kernel
theorem An3{n:Nat}{kA:Nat->Option Obj}{BO:Nat->Nat->Value}(hA:WC w v0 n kA BO)(hn:60<n):Ci WD.P 4 #[v0] w fun v' w'=>v'=.bool true/\Kept (fun _=>False) w w':=by
 have ht:=HY (Ab Aat (i:=1) rfl);have hc:=Bw AmL (Ab Aat (i:=0) rfl);have hv:=AV.Ac (Ab Aat (i:=2) rfl);obtain⟨U',hg,_,AM⟩:=Bq.runs (c:=Ve) hc.1 (Uqi:=sgI n kA BO) (show Ve.pre (sgI n kA BO) from ⟨by
  rw[show Ve.cf=_ from ht.cf];exact .cons ((BU (by decide)).2 (show decide ((n:Int)>60)=true from decide_eq_true (by omega))) (.cons (FN (show (0:Int)<=(n:Int) by omega)) .nil),by
  rw[show Ve.rd=_ from ht.rd];exact .cons ⟨fun j c=>hA.kind j c,trivial⟩ .nil,hc.2 _,by
  rw[show Ve.mp=_ from ht.mp];exact .nil⟩) ht.one
 have hnp:Ve.np=1:=ht.np;have hk:U'.k=kA:=hg.k;have OI:U'.v 0=n:=hg.v 0 (by show 0<Ve.np;omega);have IS:U'.r 0=BO:=hg.r 0 (by show 0<Ve.np;omega);have hr:Rel (fun _=>none) U' (CS WD) (Aa Ve.bl Ve.n) w:=by
  rw[show Ve.bl=[] from ht.bl,show Ve.n=0 from ht.n];exact IF fun r o h=>by rw[hk]at h;exact (hA.obj r o h).2
 have ha:F2 (Bb (fun _=>none) U') Ve.args [v0]:=by
  rw[show Ve.args=_ from ht.args];obtain⟨p,k,e,h⟩:=hA.val;refine .cons ⟨p,n,k,e,OI.symm,h.imp id ?_⟩ .nil
  rintro ⟨r,o,cs,ty,z,q1,q2,q3,q4⟩
  exact⟨r,o,q1,cs,ty,z,by rw[hk];exact q2,q3,by rw[IS];exact q4⟩
 have h:=AM _ w [v0] hr ha;have hf:Ve.f=4:=ht.f;rw[hf]at h;refine Ci.mono h ?_
 rintro v' w' ⟨J',h1,g1,_,g3,_⟩
 rw[hv]at g1;refine⟨g1,g3.kept.mono fun r hr=>?_⟩;rw[show Ve.bl=[] from ht.bl,show Ve.n=0 from ht.n]at hr;exact Ld hr
theorem Aj2{n:Nat}{kA:Nat->Option Obj}{BO:Nat->Nat->Value}(hA:WC w v0 n kA BO):Ci WD.P 4 #[v0] w fun v' w'=>v'=.bool true/\Kept (fun _=>False) w w':=by
 by_cases h:n<=60
 ·exact An5 hA h
 ·exact An3 hA (by omega)
end V
namespace Flat
open Go
variable {H:Type} {enc:TypeId×Value->H} {P:Program} {w w':World} {base base':Nat} {spare spare':Nat->Bool} {held held':Bool}
inductive FK where
 |b
 |n (k:IntKind)
def kinds(P:Program):Nat->TypeId->Option (List FK)
 | 0,_=>none
 |n+1,t=>match P.underlying t with
  |some (.int k)=>some [.n k]
  |some .bool=>some [.b]
  |some (.struct fs)=>(fs.toList.mapM fun f=>kinds P n f.type).map List.flatten
  |some (.array m e)=>(kinds P n e).map fun ks=>(List.replicate m ks).flatten
  |_=>none
theorem VD{n:Nat}{t:TypeId}{fs:Array Field}{ks:List FK}(hu:P.underlying t=some (.struct fs))(h:kinds P (n+1) t=some ks):∃kss,fs.toList.mapM (fun f=>kinds P n f.type)=some kss/\ks=kss.flatten:=by
 unfold kinds at h;rw[hu]at h;simp only[Option.map_eq_some_iff]at h;obtain⟨kss,h1,h2⟩:=h;exact⟨kss,h1,h2.symm⟩
theorem Yl{n m:Nat}{t e:TypeId}{ks:List FK}(hu:P.underlying t=some (.array m e))(h:kinds P (n+1) t=some ks):∃k0,kinds P n e=some k0/\ks=(List.replicate m k0).flatten:=by
 unfold kinds at h;rw[hu]at h;simp only[Option.map_eq_some_iff]at h;obtain⟨k0,h1,h2⟩:=h;exact⟨k0,h1,h2.symm⟩
inductive Cells:List FK->List Value->Prop
 |nil:Cells [] []
 |cons {k ks z cs}:(Lit.int k z).wf=true->Cells ks cs->Cells (.n k::ks) (.int k z::cs)
 |bool {ks z cs}:Cells ks cs->Cells (.b::ks) (.bool z::cs)
theorem Cells.append{ks ks':List FK}{cs KU:List Value}(h:Cells ks cs)(h':Cells ks' KU):Cells (ks++ks') (cs++KU):=by
 induction h with
 |nil=>exact h'
 |cons hz _ ih=>exact .cons hz ih
 |bool _ ih=>exact .bool ih
def Rf(P:Program):List Field->Nat->Nat->Bool
 | [],o,total=>o==total
 |f::l,o,total=>f.offset==o&&Rf P l (o+P.cellsOf f.type) total
def lay(P:Program):Nat->TypeId->Bool
 | 0,_=>false
 |n+1,t=>match P.underlying t with
  |some (.int _)=>true
  |some .bool=>true
  |some (.struct fs)=>Rf P fs.toList 0 (P.cellsOf t)&&fs.toList.all fun f=>lay P n f.type
  |some (.array m e)=>m*P.cellsOf e==P.cellsOf t&&lay P n e
  |_=>false
theorem cut(cs:List Value)(o s:Nat):cs.drop o=(cs.drop o).take s++cs.drop (o+s):=by
 rw[<-List.drop_drop,List.take_append_drop]
theorem H9{α β:Type}{f:α->Option β}{x:α}{l:List α}{r:List β}(h:(x::l).mapM f=some r):∃y ys,f x=some y/\l.mapM f=some ys/\r=y::ys:=by
 rw[List.mapM_cons]at h;cases hx:f x with
 |none=>rw[hx]at h;cases h
 |some y=>
  rw[hx]at h;cases hl:l.mapM f with
  |none=>rw[hl]at h;cases h
  |some ys=>rw[hl]at h;cases h;exact⟨y,ys,rfl,rfl,rfl⟩
theorem Aba:∀(n:Nat) {t:TypeId} {ks:List FK},kinds P n t=some ks->lay P n t=true->∀(fuel:Nat) (cs:List Value) (x:DataW H×List MemPlace),DataW.trod enc P w base spare held fuel t cs=some x->x.2=[]/\Cells ks cs:=by
 intro n
 induction n with
 |zero=>intro t ks h;cases h
 |succ n ih=>
  intro t ks h hl fuel cs x hx;cases fuel with
  |zero=>cases hx
  |succ fuel=>
   cases hu:P.underlying t with
   |none=>unfold kinds at h;rw[hu]at h;cases h
   |some d=>
    cases d with
    |int k=>
     unfold kinds at h;rw[hu]at h;cases h;unfold DataW.trod at hx;rw[hu]at hx;cases cs with
     |nil=>cases hx
     |cons c cs=>
      cases cs with
      |cons c2 cs=>cases c<;>cases hx
      |nil=>
       cases c with
       |int k' z=>
        simp only[]at hx;split at hx
        ·rename_i hc;cases hx;obtain⟨rfl,hw⟩:=hc;exact⟨rfl,.cons hw .nil⟩
        ·cases hx
       |_=>cases hx
    |bool=>
     unfold kinds at h;rw[hu]at h;cases h;unfold DataW.trod at hx;rw[hu]at hx;cases cs with
     |nil=>cases hx
     |cons c cs=>
      cases cs with
      |cons c2 cs=>cases c<;>cases hx
      |nil=>
       cases c with
       |bool z=>
        cases hx;exact⟨rfl,.bool .nil⟩
       |_=>cases hx
    |struct fs=>
     obtain⟨kss,h1,rfl⟩:=VD hu h;unfold lay at hl;rw[hu]at hl;simp only[Bool.and_eq_true,List.all_eq_true]at hl;unfold DataW.trod at hx;rw[hu]at hx;simp only[]at hx;split at hx
     ·rename_i hlen;simp only[Option.map_eq_some_iff]at hx;obtain⟨xs,FG,rfl⟩:=hx;have key:∀(l:List Field) (o:Nat) (kss:List (List FK)) (xs:List (DataW H×List MemPlace)),(∀f∈l,lay P n f.type=true)->Rf P l o cs.length=true->l.mapM (fun f=>kinds P n f.type)=some kss->
       l.mapM (fun f=>DataW.trod enc P w base spare held fuel f.type ((cs.drop f.offset).take (P.cellsOf f.type)))=some xs->xs.flatMap (·.2)=[]/\Cells kss.flatten (cs.drop o):=by
       intro l
       induction l with
       |nil=>
        intro o kss xs _ hc hk hx;simp at hk hx;subst hk;subst hx;have:o=cs.length:=by simpa [Rf] using hc
        subst this;exact⟨rfl,by simp;exact .nil⟩
       |cons f l ihl=>
        intro o kss xs hlay hc hk hx;obtain⟨k0,kss',hk0,B1,rfl⟩:=H9 hk;obtain⟨y,ys,hy,hys,rfl⟩:=H9 hx;simp only[Rf,Bool.and_eq_true,beq_iff_eq]at hc;obtain⟨rfl,hc⟩:=hc;obtain⟨e1,e2⟩:=ih hk0 (hlay f (by simp)) fuel _ y hy;obtain⟨e3,e4⟩:=ihl _ kss' ys (fun g hg=>hlay g (List.mem_cons_of_mem _ hg)) hc B1 hys;refine⟨by simp[e1,e3],?_⟩;rw[List.flatten_cons,cut cs f.offset (P.cellsOf f.type)];exact e2.append e4
      have:=key fs.toList 0 kss xs hl.2 (by rw[hlen];exact hl.1) h1 FG;exact⟨this.1,by simpa using this.2⟩
     ·cases hx
    |array m e=>
     obtain⟨k0,h1,rfl⟩:=Yl hu h;unfold lay at hl;rw[hu]at hl;simp only[Bool.and_eq_true,beq_iff_eq]at hl;unfold DataW.trod at hx;rw[hu]at hx;simp only[]at hx;split at hx
     ·rename_i hlen;simp only[Option.map_eq_some_iff]at hx;obtain⟨xs,FG,rfl⟩:=hx;have key:∀(c i:Nat) (xs:List (DataW H×List MemPlace)),(i+c)*P.cellsOf e=cs.length->
       (List.range' i c).mapM (fun i=>DataW.trod enc P w base spare held fuel e ((cs.drop (i*P.cellsOf e)).take (P.cellsOf e)))=some xs->xs.flatMap (·.2)=[]/\Cells (List.replicate c k0).flatten (cs.drop (i*P.cellsOf e)):=by
       intro c
       induction c with
       |zero=>
        intro i xs hc hx;simp at hx;subst hx;rw[Nat.add_zero]at hc;rw[hc];exact⟨rfl,by simp;exact .nil⟩
       |succ c ihc=>
        intro i xs hc hx;rw[List.range'_succ]at hx;obtain⟨y,ys,hy,hys,rfl⟩:=H9 hx;obtain⟨e1,e2⟩:=ih h1 hl.2 fuel _ y hy;obtain⟨e3,e4⟩:=ihc (i+1) ys (by rw[<-hc];congr 1;omega) hys;refine⟨by simp[e1,e3],?_⟩;rw[List.replicate_succ,List.flatten_cons,cut cs (i*P.cellsOf e) (P.cellsOf e)];rw[Nat.add_mul,Nat.one_mul]at e4;exact e2.append e4
      have:=key m 0 xs (by rw[Nat.zero_add,hl.1,hlen]) (by rw[<-List.range_eq_range'];exact FG);exact⟨this.1,by simpa using this.2⟩
     ·cases hx
    |_=>unfold kinds at h;rw[hu]at h;cases h
end Flat
section
namespace Flat
open Go
theorem Cells.get{ks:List FK}{cs:List Value}(h:Cells ks cs):∀(i:Nat) (k:IntKind),ks[i]? =some (.n k)->∃z,cs[i]? =some (.int k z)/\(Lit.int k z).wf=true:=by
 induction h with
 |nil=>intro i k hi;simp at hi
 |cons hw _ ih=>
  intro i k hi;cases i with
  |zero=>simp at hi;subst hi;exact⟨_,rfl,hw⟩
  |succ i=>simpa using ih i k (by simpa using hi)
 |bool _ ih=>
  intro i k hi;cases i with
  |zero=>simp at hi
  |succ i=>simpa using ih i k (by simpa using hi)
end Flat
namespace V
open Go Eng Go.Proofs Go.ChangeShapes Go.WideShapes Go.ChangeAt Go.RowKit Go.Deep
noncomputable section
theorem Agf{W w:World}(h:Kept (fun _=>False) W w):W.keptBut w (fun _=>False):=by
 refine⟨h.os,h.output,?_⟩;intro i hi;rw[h.heap i hi id];exact (World.keptBut_refl W (fun _=>False)).2.2 i hi
theorem AdQ{H:Type}{enc:TypeId×Value->H}{P:Program}{f:Func}{s:ChangeSpec}{apart fresh handsOn again:Bool}{W W':World}{args:Array Value}{v:Value}{ds gs:List (DataW H)}{before pa pv:List MemPlace}
 (hW:DataW.Whole enc P f.params.toList s.vars apart W args.toList ds gs before)
 (hres:∀(b:Nat) (sp:Nat->Bool) (hd:Bool),DataW.TrodAll enc P W' b sp hd f.resultTypes.toList (v.resultList f.resultTypes.size) (s.fn H (ds++gs)).results [])
 (Fg:∀sp:Nat->Bool,(∀p∈before,sp p.block=true)->DataW.TrodAll enc P W' 0 sp true f.params.toList args.toList (s.fn H (ds++gs)).args pa)
 (hvars:∀sp:Nat->Bool,(∀p∈before,sp p.block=true)->DataW.TrodVars enc P W' sp s.vars (s.fn H (ds++gs)).vars pv)
 (hps:before=pa++pv) (u:Kept (fun _=>False) W W')
 (Iy:∀(j:Nat) (t:TypeId) (r:Value),f.resultTypes[j]? =some t->(v.resultList f.resultTypes.size)[j]? =some r->Value.okWide P W' .any 0 t r):
 s.post enc P f apart fresh handsOn again W args v W':=by
 have hold:∀p∈before,(fun b=>decide (b<W.heap.size)) p.block=true:=fun p hp=>by simpa using hW.lt p hp
 have hW2:=hW;refine⟨ds,gs,before,[],pa,pv,hW,hres _ _ _,Fg _ hold,hvars _ hold,World.keptBut_mono (fun p hp=>⟨hp.elim,?_⟩) (Agf u),fun _=>?_⟩
 ·exact hp.elim
 ·obtain⟨_,_,_,_,_,hz,hn⟩:=hW;refine⟨Iy,_,_,([]++pa)++pv,⟨[]++pa,pv,trodAll_append (Fg _ (fun _ _=>rfl)) (hres _ _ _),hvars _ (fun _ _=>rfl),rfl,?_,?_⟩,?_⟩
  ·intro b off hp;have hm:MemPlace.cell b off∈before:=by rw[hps];simpa using hp
   exact (u.fz _ (hW2.lt _ hm)).trans (hz b off hm)
  ·intro ha;have:=hn ha;rw[hps]at this;simpa using this
  ·intro p hp _;rw[hps];simpa using hp
def zAt(W:World)(a:Option Addr)(es n j t:Nat):Int:=
 if j<n/\t<es then (match a with
  |some ⟨b,off,_⟩=>(match W.cell? ⟨b,off+j*es+t,none⟩ with |some (.int _ z)=>z|_=>0)
  |none=>0) else 0
def Fr(W:World)(es:Nat)(ks:List Flat.FK)(a:Option Addr)(n:Nat):Prop:=
 ∀i,i<n->∃(b off:Nat) (c:List Value),a=some ⟨b,off,none⟩/\c.length=es/\Flat.Cells ks c/\∀j,j<es->W.cell? ⟨b,off+i*es+j,none⟩=c[j]?
theorem Fr.z{W:World}{es:Nat}{ks:List Flat.FK}{a:Option Addr}{n:Nat}(h:Fr W es ks a n){i t:Nat}{k:IntKind}(hi:i<n)(ht:t<es)(hk:ks[t]? =some (.n k)):
 (Lit.int k (zAt W a es n i t)).wf=true/\∃b off,a=some ⟨b,off,none⟩/\W.cell? ⟨b,off+i*es+t,none⟩=some (.int k (zAt W a es n i t)):=by
 obtain⟨b,off,c,rfl,hl,hc,LD⟩:=h i hi;obtain⟨z,hz,hw⟩:=hc.get t k hk;have h1:=(LD t ht).trans hz;have h2:zAt W (some ⟨b,off,none⟩) es n i t=z:=by simp[zAt,hi,ht,h1]
 rw[h2];exact⟨hw,b,off,rfl,h1⟩
theorem Aea{H:Type}{enc:TypeId×Value->H}{P:Program}{W:World}{spare:Nat->Bool}{held:Bool}{t e es:Nat}{ks:List Flat.FK}(ht:P.underlying t=some (.slice e))(hk:Flat.kinds P 5 e=some ks)(hl:Flat.lay P 5 e=true)(hes:P.cellsOf e=es)(OG:0<es)
 {fuel:Nat} {cs:List Value} {x:DataW H×List MemPlace} (h:DataW.trod enc P W 0 spare held fuel t cs=some x):∃a n c,cs=[.slice a n c]/\Fr W es ks a n:=by
 rcases open_slice ht h with ⟨rfl,_⟩|⟨a,len,cap,m,n,D,Pl,rfl,_,hlc,LG,hmm,hx,hel⟩
 ·exact⟨_,_,_,rfl,fun i hi=>by omega⟩
 ·refine⟨_,_,_,rfl,fun i hi=>?_⟩;obtain⟨c,hc,htr⟩:=hel i (by rw[hmm];split<;>omega);rw[hes]at hc;obtain⟨c0,hc0,_⟩:=hel 0 (by rw[hmm];split<;>omega);rw[hes]at hc0;obtain⟨b,off,spot⟩:=a;obtain⟨_,hl0',hcell0⟩:=World.cells?_some hc0;have hspot:spot=none:=by
   have h1:=hcell0 0 OG;obtain⟨y,hy⟩:∃y,c0[0]? =some y:=⟨_,List.getElem?_eq_getElem (by omega)⟩
   rw[hy]at h1;simpa [Addr.add] using World.cell?_spot h1
  subst hspot;obtain⟨_,hl0,LD⟩:=World.cells?_some hc;obtain⟨_,FF⟩:=Flat.Aba 5 hk hl _ _ _ htr;refine⟨b,off,c,rfl,hl0,FF,fun j hj=>?_⟩;have h1:=LD j hj;rw[Addr.add_lit,Addr.add_lit]at h1;exact h1
theorem Xc{W:World}{b o:Nat}{v:Value}(h:W.cell? ⟨b,o,none⟩=some v):∃cs ty z,W.heap[b]? =some (.cells cs ty z)/\cs[o]? =some v:=by
 unfold World.cell? at h;simp only[Option.isSome_none,Bool.false_eq_true,if_false]at h;split at h
 ·next c e z hb=>exact⟨c,e,z,hb,h⟩
 ·cases h
def kO(W:World)(a:Option Addr)(r:Nat):Option Obj:=match a with
 |some ⟨b,_,_⟩=>if r=b then W.heap[b]? else none
 |none=>none
theorem An0{W:World}{a:Option Addr}{r:Nat}{o:Obj}(h:kO W a r=some o):r<W.heap.size/\W.heap[r]? =some o:=by
 unfold kO at h;split at h
 ·split at h
  ·next he=>subst he;exact⟨(Ht.1 h).1,h⟩
  ·cases h
 ·cases h
theorem Ajq(x:Nat->Nat->Int)(j c:Nat):A9 (i8.getD c .u) (.int .i64 (x j c)):=by
 by_cases h:c<8
 ·rw[show i8.getD c .u=.i .i64 by
   match c,h with
   | 0,_| 1,_| 2,_| 3,_| 4,_| 5,_| 6,_| 7,_=>rfl]
  exact⟨_,rfl⟩
 ·rw[show i8.getD c .u=.u by
   rw[Iw,List.getElem?_eq_none (by simp[i8];omega)];rfl]
  trivial
theorem Aix{W:World}{a:Option Addr}{n k:Nat}{ks:List Flat.FK}(hk:∀t,t<8->ks[t]? =some (.n .i64))(h:Fr W 8 ks a n):WC W (.slice a n k) n (kO W a) fun j c=>.int .i64 (zAt W a 8 n j c):=by
 refine⟨⟨a,k,rfl,?_⟩,fun r o hr=>An0 hr,Ajq _⟩
 by_cases hn:n=0
 ·exact .inl hn
 ·right;obtain⟨_,b,off,rfl,h1⟩:=h.z (i:=n-1) (t:=7) (by omega) (by omega) (hk 7 (by omega));obtain⟨cs,ty,z,e1,e2⟩:=Xc h1;have Dr:=(Ht.1 e2).1;refine⟨b,off,cs,ty,z,rfl,by simp[kO,e1],by omega,fun j c hj hc=>⟨_,?_,rfl,rfl⟩⟩;obtain⟨_,b',off',q,h2⟩:=h.z (i:=j) (t:=c) hj hc (hk c hc);cases q;obtain⟨KU,ty',z',f1,f2⟩:=Xc h2;rw[e1]at f1;cases f1;rw[<-Nat.add_assoc];exact f2
theorem AeV{P:Program}{f:Nat}{args:Array Value}{w:World}{Q:Value->World->Prop}(h:Ci P f args w Q):Calls P f args w fun e w'=>∃v,e=.returned v/\Q v w':=by
 intro cs;obtain⟨v,w',fr,q,s,e,l⟩:=h.2 cs;exact⟨.returned v,w',fr,⟨v,rfl,q⟩,s,e,l⟩
end
end V
end
end
