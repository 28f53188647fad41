/- Equality, lengths and maps are evaluated right. No conditions beside those in its theorems. -/
import Derived.Test.YtijplfaplkkpcaaGreatE3
import Derived.ChangeKeysEq
import Derived.LaidEql
import Derived.Deep.AppendSrc
import Derived.Room.Entries
set_option linter.unusedVariables false
set_option linter.unusedSimpArgs false
set_option linter.unusedSectionVars false
set_option linter.constructorNameAsVariable false
set_option maxRecDepth 100000
noncomputable section
namespace Eng
open Go
variable {J J':A1} {U:An} {C:AB} {P:Program} {nl:Nat} {o:Oper}
def ckT(c:CK):TypeDesc:=
 match c with
 |.int k=>.int k
 |.bool=>.bool
 |.str=>.string
theorem Hq(hc:A4 P C U){x y:E}{r:Bool}(h:Zj C x y=some r):r=(x.den U==y.den U):=by
 unfold Zj at h;split at h
 ·rename_i q hq;cases h;have:=hc.cmp .eql x y _ hq;simpa [BQ] using this.symm
 ·cases he:x.AJ y with
  |false=>rw[he]at h;cases h
  |true=>
   rw[he]at h;cases h;have:=Ac he;subst this;simp
theorem SC{c:CK}{a b:A}{r:Bool}(h:E6 C c a b=some r)(hc:A4 P C U){va vb:Value}(ha:AR J U a va)(hb:AR J U b vb){t:TypeId}(ht:P.underlying t=some (ckT c))(d:Nat)(w:World):
 (Op.equalIn (d+1) t va vb).run P w=.ok r w:=by
 cases c with
 |int q=>
  have key:∀(k k':IntKind) (x y:Int),va=.int k x->vb=.int k' y->Ax k=Ax q->Ax k'=Ax q->r=(x==y)->(Op.equalIn (d+1) t va vb).run P w=.ok r w:=by
   intro k k' x y h1 h2 h3 h4 h5;have e1:=Bt (k:=k) (k':=q) (by rw[h3];exact Nat.beq_refl _);have e2:=Bt (k:=k') (k':=q) (by rw[h4];exact Nat.beq_refl _);subst e1;subst e2;rw[h1,h2,h5];exact run_equalIn_int w d t _ _ x y ht
  have spl:∀{p q':Bool} {u:Option Bool},(bif p&&q' then u else none)=some r->p=true/\q'=true/\u=some r:=by
   intro p q' u h;cases p<;>cases q'<;>simp_all
  unfold E6 at h;simp only at h;split at h
  ·obtain⟨h1,h2,h3⟩:=spl h;cases h3;exact key _ _ _ _ ha hb (beq_eq h1) (beq_eq h2) (BC _ _)
  ·obtain⟨h1,h2,h3⟩:=spl h;exact key _ _ _ _ ha hb (beq_eq h1) (beq_eq h2) (Hq hc h3)
  ·obtain⟨h1,h2,h3⟩:=spl h;exact key _ _ _ _ ha hb (beq_eq h1) (beq_eq h2) (Hq hc h3)
  ·obtain⟨h1,h2,h3⟩:=spl h;exact key _ _ _ _ ha hb (beq_eq h1) (beq_eq h2) (Hq hc h3)
  ·cases h
 |bool=>
  unfold E6 at h;simp only at h;split at h
  ·cases h;obtain rfl:va=_:=ha;obtain rfl:vb=_:=hb;rw[run_equalIn_bool' w d t _ _ ht,DB]
  ·cases h
 |str=>
  unfold E6 at h;simp only at h;split at h
  ·cases h;obtain rfl:va=_:=ha;obtain rfl:vb=_:=hb;simp[Op.equalIn,run_underlying ht,ckT]
  ·cases h
theorem HW(la lb:List A){r:Bool}(h:Cj C [] la lb=some r):la=[]/\lb=[]/\r=true:=by
 cases la with
 |nil=>cases lb with
  |nil=>cases h;exact⟨rfl,rfl,rfl⟩
  |cons=>cases h
 |cons=>cases h
theorem Hd{c:CK}{cs:List CK}{la lb:List A}{r:Bool}(h:Cj C (c::cs) la lb=some r):∃a as b bs,la=a::as/\lb=b::bs/\Z4 (E6 C c a b) (Cj C cs as bs)=some r:=by
 cases la with
 |nil=>cases h
 |cons a as=>cases lb with
  |nil=>cases h
  |cons b bs=>exact⟨a,as,b,bs,rfl,rfl,h⟩
theorem Ot{a b:Option Bool}{r:Bool}(h:Z4 a b=some r):(a=some false/\r=false)\/(a=some true/\b=some r):=by
 cases a with
 |none=>cases h
 |some x=>cases x with
  |false=>cases h;exact .inl ⟨rfl,rfl⟩
  |true=>exact .inr ⟨rfl,h⟩
theorem Ps{c2:List CK}{r:Bool}:∀{c1:List CK} {la lb:List A},Cj C (c1++c2) la lb=some r->
 (Cj C c1 (la.take c1.length) (lb.take c1.length)=some false/\r=false)\/(Cj C c1 (la.take c1.length) (lb.take c1.length)=some true/\Cj C c2 (la.drop c1.length) (lb.drop c1.length)=some r):=by
 intro c1
 induction c1 with
 |nil=>intro la lb h;exact .inr ⟨rfl,h⟩
 |cons c c1 ih=>
  intro la lb h;obtain⟨a,as,b,bs,rfl,rfl,h1⟩:=Hd (show Cj C (c::(c1++c2)) la lb=some r from h);rcases Ot h1 with ⟨h2,h3⟩|⟨h2,h3⟩
  ·left;refine⟨?_,h3⟩;show Z4 (E6 C c a b) _=_;rw[h2];rfl
  ·rcases ih h3 with ⟨h4,h5⟩|⟨h4,h5⟩
   ·left;refine⟨?_,h5⟩;show Z4 (E6 C c a b) (Cj C c1 (as.take c1.length) (bs.take c1.length))=_;rw[h2,h4];rfl
   ·right;refine⟨?_,h5⟩;show Z4 (E6 C c a b) (Cj C c1 (as.take c1.length) (bs.take c1.length))=_;rw[h2,h4];rfl
theorem Rp{cs:List CK}{la lb:List A}{r:Bool}(h:Cj C cs la lb=some r)(hc:cs ≠ []):la ≠ []/\lb ≠ []:=by
 cases cs with
 |nil=>exact absurd rfl hc
 |cons c cs=>
  obtain⟨a,as,b,bs,rfl,rfl,_⟩:=Hd h;exact⟨by simp,by simp⟩
def Vof(agg:Bool)(v:Value)(vs:List Value):Prop:=(agg=true->v=.agg vs.toArray)/\(agg=false->vs=[v])
theorem Qk.Ze{t:TypeId}{ti:TI}(h:Qk P t ti)(ha:ti.agg=false):ti.size=1:=by
 obtain⟨i,_,_,_,z,_,zs,_,h2,h3,_,h5⟩:=h.info;have:=(h2 (fun _=>none) {v:=fun _=>0}).length;rw[h5 ha,h3]at this;simpa using this
theorem Pb{t:TypeId}{ti:TI}(ht:Qk P t ti){vs:List Value}{off:Nat}(Bs:(vs.drop off).take ti.size ≠ [])(w:World):
 ∃v,(part t vs.toArray off).run P w=.ok v w/\Vof ti.agg v ((vs.drop off).take ti.size):=by
 have h1:=ht.GR w;have h2:=ht.BE w;cases ha:ti.agg with
 |true=>
  rw[ha]at h1;refine⟨.agg ((vs.drop off).take ti.size).toArray,?_,fun _=>rfl,fun h=>by cases h⟩;simp[part,h1,h2,List.extract_eq_take_drop]
 |false=>
  rw[ha]at h1;rw[ht.Ze ha]at Bs ⊢;cases hv:vs[off]? with
  |none=>
   exfalso;apply Bs;have:=List.getElem?_eq_none_iff.1 hv;rw[List.drop_eq_nil_of_le this];rfl
  |some v=>
   refine⟨v,?_,fun h=>(by cases h),fun _=>?_⟩
   ·simp[part,h1,hv]
   ·obtain⟨Au,rfl⟩:=Oq.1 hv;rw[List.drop_eq_getElem_cons Au];rfl
def Vo(C:AB)(r:TypeId->Option (List CK))(ti:TI):Option (List CK):=
 match ti.CR with
 |.int k=>some [.int k]
 |.bool=>some [.bool]
 |.string=>some [.str]
 |.struct fs=>bif ti.plain&&DF C fs.toList 0 ti.size then P0 (fs.toList.map fun f=>r f.type) else none
 |.array n e=>match C.ty e with
  |some ei=>bif Nat.beq ti.size (Nat.mul n ei.size)&&Nat.ble 1 ei.size then (match r e with |some l=>some (C0 l n)|none=>none) else none
  |none=>none
 |_=>none
theorem Re{f:Nat}{t:TypeId}{cs:List CK}(h:Tu C (f+1) t=some cs):∃ti,C.ty t=some ti/\Vo C (Tu C f) ti=some cs:=by
 have h':(match C.ty t with |some ti=>Vo C (Tu C f) ti|none=>none)=some cs:=h;split at h'
 ·rename_i ti hti;exact⟨ti,hti,h'⟩
 ·cases h'
def US(P:Program)(C:AB)(U:An)(f:Nat)(t:TypeId)(cs:List CK):Prop:=
 ∀ti,C.ty t=some ti->cs.length=ti.size/\(∀d,f<=d->P.eqGuardType d t=false)/\
  ∀(J:A1) (la lb:List A) (va vb:List Value) (x y:Value) (r:Bool) (w:World) (d:Nat),f<=d->Cj C cs la lb=some r->F2 (AR J U) la va->F2 (AR J U) lb vb->Vof ti.agg x va->Vof ti.agg y vb->
   (Op.equalIn d t x y).run P w=.ok r w
theorem RP{x:Option (List CK)}{xs:List (Option (List CK))}{cs:List CK}(h:P0 (x::xs)=some cs):∃a b,x=some a/\P0 xs=some b/\cs=a++b:=by
 unfold P0 at h;split at h
 ·rename_i a b h2;cases h;exact⟨a,b,rfl,h2,by rw[Me]⟩
 ·cases h
theorem V0(hc:A4 P C U){f:Nat}(ih:∀t cs,Tu C f t=some cs->US P C U f t cs):∀(fs:List Field) (off size:Nat) (cs:List CK),DF C fs off size=true->P0 (fs.map fun g=>Tu C f g.type)=some cs->
 off+cs.length=size/\(∀d,f<=d->(fs.any fun g=>g.name != "_" &&P.eqGuardType d g.type)=false)/\
 ∀(J:A1) (la lb:List A) (va vb:List Value) (r:Bool) (w:World) (d:Nat),f<=d->Cj C cs (la.drop off) (lb.drop off)=some r->F2 (AR J U) la va->F2 (AR J U) lb vb->
  (Op.eqFields d va.toArray vb.toArray fs).run P w=.ok r w:=by
 intro fs
 induction fs with
 |nil=>
  intro off size cs h1 h2;cases h2;refine⟨beq_eq h1,fun _ _=>rfl,?_⟩;intro J la lb va vb r w d _ he _ _;obtain⟨_,_,rfl⟩:=HW _ _ he;rfl
 |cons g fs ihf=>
  intro off size cs h1 h2;obtain⟨a,b,h3,h4,rfl⟩:=RP h2;unfold DF at h1;split at h1
  ·rename_i ti hti;simp only[Ah,bne_iff_ne,ne_eq]at h1;obtain⟨⟨h5,h6⟩,h7⟩:=h1;have h5:=beq_eq h5;obtain⟨h8,h9,RF⟩:=ih g.type a h3 ti hti;obtain⟨h11,h12,h13⟩:=ihf _ _ _ h7 h4;refine⟨?_,?_,?_⟩
   ·have:Nat.add off ti.size=off+ti.size:=rfl;rw[List.length_append];omega
   ·intro d hd;simp only[List.any_cons,h9 d hd,Bool.and_false,Bool.false_or];exact h12 d hd
   ·intro J la lb va vb r w d hd he ha hb;simp only[Op.eqFields];rw[if_pos (show g.name ≠ "_" from h6)];have part:∀(la:List A) (va:List Value),F2 (AR J U) la va->(a=[]->False)->(la.drop off).take a.length ≠ []->∃v,(part g.type va.toArray g.offset).run P w=.ok v w/\Vof ti.agg v ((va.drop off).take ti.size):=by
     intro la va hf _ Bs;rw[h5];refine Pb (hc.ty _ ti hti) ?_ w;have:=((hf.drop off).take a.length).length;rw[h8]at this Bs;intro e;rw[e]at this;exact Bs (List.length_eq_zero_iff.1 this)
    by_cases h0:a=[]
    ·
     subst h0;have Dr:ti.size=0:=by simpa using h8.symm
     have Df:ti.agg=true:=by
      cases hg:ti.agg with
      |true=>rfl
      |false=>have:=(hc.ty _ ti hti).Ze hg;omega
     have hp:∀va:List Value,(Go.part g.type va.toArray g.offset).run P w=.ok (.agg #[]) w:=by
      intro va;have e1:=(hc.ty _ ti hti).GR w;have e2:=(hc.ty _ ti hti).BE w;rw[Df]at e1;rw[Dr]at e2;simp[Go.part,e1,e2]
     have hq:=RF J [] [] [] [] (.agg #[]) (.agg #[]) true w d hd rfl .nil .nil ⟨fun _=>rfl,fun h=>by rw[Df]at h;cases h⟩ ⟨fun _=>rfl,fun h=>by rw[Df]at h;cases h⟩;simp only[Sem.run_bind,hp,Result.andThen_ok,hq];simp only[Bool.not_true,Bool.false_eq_true,if_false];refine h13 J la lb va vb r w d hd ?_ ha hb;rw[Dr];exact he
    ·have Mm:=Ps he;have hsome:∃q,Cj C a ((la.drop off).take a.length) ((lb.drop off).take a.length)=some q:=by
      rcases Mm with ⟨h,_⟩|⟨h,_⟩<;>exact⟨_,h⟩
     obtain⟨q,hq⟩:=hsome;obtain⟨n1,n2⟩:=Rp hq h0;obtain⟨u,hu,CT⟩:=part la va ha h0 n1;obtain⟨v,hv,hv'⟩:=part lb vb hb h0 n2;have f1:F2 (AR J U) ((la.drop off).take a.length) ((va.drop off).take ti.size):=by rw[h8];exact (ha.drop off).take _
     have f2:F2 (AR J U) ((lb.drop off).take a.length) ((vb.drop off).take ti.size):=by rw[h8];exact (hb.drop off).take _
     have AM:=RF J _ _ _ _ u v q w d hd hq f1 f2 CT hv';simp only[Sem.run_bind,hu,hv,Result.andThen_ok,AM];rcases Mm with ⟨e1,e2⟩|⟨e1,e2⟩
     ·rw[hq]at e1;cases e1;subst e2;rfl
     ·rw[hq]at e1;cases e1;simp only[Bool.not_true,Bool.false_eq_true,if_false];refine h13 J la lb va vb r w d hd ?_ ha hb;rw[List.drop_drop,List.drop_drop,h8]at e2;exact e2
  ·cases h1
theorem Ye(hc:A4 P C U){f:Nat}{e:TypeId}{ei:TI}{l:List CK}(he:C.ty e=some ei)(hl:US P C U f e l)(OG:0<ei.size){J:A1}{la lb:List A}{va vb:List Value}{d:Nat}(hd:f<=d)
 (ha:F2 (AR J U) la va) (hb:F2 (AR J U) lb vb) (w:World):∀(n i:Nat) (r:Bool),Cj C (C0 l n) (la.drop (i*ei.size)) (lb.drop (i*ei.size))=some r->
 (Op.eqItems d e (P.cellsOf e) va.toArray vb.toArray (List.range' i n)).run P w=.ok r w:=by
 obtain⟨h1,h2,h3⟩:=hl ei he;have LD:P.cellsOf e=ei.size:=by
  obtain⟨ie,g1,g2,_⟩:=(hc.ty _ ei he).info;simp[Program.cellsOf,g1,g2]
 have h0:l ≠ []:=by intro e;rw[e]at h1;simp at h1;omega
 intro n
 induction n with
 |zero=>
  intro i r hr;obtain⟨_,_,rfl⟩:=HW _ _ hr;rfl
 |succ n ih=>
  intro i r hr;rw[Jz]at hr;have Mm:=Ps hr;have hsome:∃q,Cj C l ((la.drop (i*ei.size)).take l.length) ((lb.drop (i*ei.size)).take l.length)=some q:=by
   rcases Mm with ⟨h,_⟩|⟨h,_⟩<;>exact⟨_,h⟩
  obtain⟨q,hq⟩:=hsome;obtain⟨n1,n2⟩:=Rp hq h0;have part:∀(la:List A) (va:List Value),F2 (AR J U) la va->(la.drop (i*ei.size)).take l.length ≠ []->∃v,(part e va.toArray (i*P.cellsOf e)).run P w=.ok v w/\Vof ei.agg v ((va.drop (i*ei.size)).take ei.size):=by
   intro la va hf Bs;rw[LD];refine Pb (hc.ty _ ei he) ?_ w;have:=((hf.drop (i*ei.size)).take l.length).length;rw[h1]at this Bs;intro e;rw[e]at this;exact Bs (List.length_eq_zero_iff.1 this)
  obtain⟨u,hu,CT⟩:=part la va ha n1;obtain⟨v,hv,hv'⟩:=part lb vb hb n2;have f1:F2 (AR J U) ((la.drop (i*ei.size)).take l.length) ((va.drop (i*ei.size)).take ei.size):=by rw[h1];exact (ha.drop _).take _
  have f2:F2 (AR J U) ((lb.drop (i*ei.size)).take l.length) ((vb.drop (i*ei.size)).take ei.size):=by rw[h1];exact (hb.drop _).take _
  have AM:=h3 J _ _ _ _ u v q w d hd hq f1 f2 CT hv';rw[List.range'_succ];simp only[Op.eqItems,Sem.run_bind,hu,hv,Result.andThen_ok,AM];rcases Mm with ⟨e1,e2⟩|⟨e1,e2⟩
  ·rw[hq]at e1;cases e1;subst e2;rfl
  ·rw[hq]at e1;cases e1;simp only[Bool.not_true,Bool.false_eq_true,if_false];refine ih (i+1) r ?_;rw[List.drop_drop,List.drop_drop,h1]at e2;rw[Nat.succ_mul];exact e2
theorem RT(hc:A4 P C U):∀(f:Nat) (t:TypeId) (cs:List CK),Tu C f t=some cs->US P C U f t cs:=by
 intro f
 induction f with
 |zero=>intro t cs h;cases h
 |succ f ih=>
  intro t cs h ti hti;obtain⟨ti',hti',hu⟩:=Re h;rw[hti]at hti';cases hti';have hT:=hc.ty t ti hti;have Bx:=hT.CR;have flat:∀c:CK,ti.CR=ckT c->cs=[c]->ti.agg=false->cs.length=ti.size/\(∀d,f+1<=d->P.eqGuardType d t=false)/\
   ∀(J:A1) (la lb:List A) (va vb:List Value) (x y:Value) (r:Bool) (w:World) (d:Nat),f+1<=d->Cj C cs la lb=some r->F2 (AR J U) la va->F2 (AR J U) lb vb->Vof ti.agg x va->Vof ti.agg y vb->
    (Op.equalIn d t x y).run P w=.ok r w:=by
   intro c hcu Ix Df;subst Ix;rw[hcu]at Bx;refine⟨by rw[hT.Ze Df];rfl,?_,?_⟩
   ·intro d hd;obtain⟨d,rfl⟩:∃d',d=d'+1:=⟨d-1,by omega⟩
    simp only[Program.eqGuardType,Bx];cases c<;>rfl
   ·intro J la lb va vb x y r w d hd he ha hb hx hy;obtain⟨d,rfl⟩:∃d',d=d'+1:=⟨d-1,by omega⟩
    obtain⟨a,as,b,bs,rfl,rfl,h1⟩:=Hd he;have:=hx.2 Df;subst this;have:=hy.2 Df;subst this;cases ha with
    |cons ha ha'=>cases hb with
     |cons hb AS=>
      rcases Ot h1 with ⟨h2,h3⟩|⟨h2,h3⟩
      ·subst h3;exact SC h2 hc ha hb Bx d w
      ·obtain⟨_,_,rfl⟩:=HW _ _ h3;exact SC h2 hc ha hb Bx d w
  have Iu:=hT.agg;unfold Vo at hu;split at hu
  ·rename_i k hk;cases hu;rw[hk]at Iu;exact flat (.int k) hk rfl Iu
  ·rename_i hk;cases hu;rw[hk]at Iu;exact flat .bool hk rfl Iu
  ·rename_i hk;cases hu;rw[hk]at Iu;exact flat .str hk rfl Iu
  ·rename_i fs hk;rw[hk]at Iu Bx;simp only at Iu;cases hb:(ti.plain&&DF C fs.toList 0 ti.size) with
   |false=>rw[hb]at hu;cases hu
   |true=>
    rw[hb]at hu;simp only[cond_true]at hu;simp only[Ah]at hb;obtain⟨h1,h2,h3⟩:=V0 hc ih fs.toList 0 ti.size cs hb.2 hu;refine⟨by omega,?_,?_⟩
    ·intro d hd;obtain⟨d,rfl⟩:∃d',d=d'+1:=⟨d-1,by omega⟩
     simp only[Program.eqGuardType,Bx];rw[<-Array.any_toList];exact h2 d (by omega)
    ·intro J la lb va vb x y r w d hd he hva hvb hx hy;obtain⟨d,rfl⟩:∃d',d=d'+1:=⟨d-1,by omega⟩
     rw[hx.1 Iu,hy.1 Iu];have hf:P.fieldsOf t=fs:=by simp[Program.fieldsOf,Bx]
     rw[run_equalIn_struct w d t _ _ (by rw[hf];exact Bx) (hT.plain hb.1),hf];exact h3 J la lb va vb r w d (by omega) he hva hvb
  ·rename_i n e hk;rw[hk]at Iu Bx;simp only at Iu;split at hu
   ·rename_i ei hei;cases hb:(Nat.beq ti.size (Nat.mul n ei.size)&&Nat.ble 1 ei.size) with
    |false=>rw[hb]at hu;cases hu
    |true=>
     rw[hb]at hu;simp only[cond_true]at hu;split at hu
     ·rename_i l hl;cases hu;simp only[Ah]at hb;have Dr:ti.size=n*ei.size:=beq_eq hb.1;have OG:0<ei.size:=AN hb.2;have Iy:=ih e l hl;obtain⟨h1,h2,h3⟩:=Iy ei hei;refine⟨by rw[Cg,h1,Dr],?_,?_⟩
      ·intro d hd;obtain⟨d,rfl⟩:∃d',d=d'+1:=⟨d-1,by omega⟩
       simp only[Program.eqGuardType,Bx];exact h2 d (by omega)
      ·intro J la lb va vb x y r w d hd he hva hvb hx hy;obtain⟨d,rfl⟩:∃d',d=d'+1:=⟨d-1,by omega⟩
       rw[hx.1 Iu,hy.1 Iu];obtain⟨ie,g1,g2,_⟩:=(hc.ty _ ei hei).info;rw[run_equalIn_array w d va.toArray vb.toArray Bx g1,List.range_eq_range'];exact Ye hc hei Iy OG (by omega) hva hvb w n 0 r (by simpa using he)
     ·cases hu
   ·cases hu
  ·cases hu
def NK(ne:Bool):BinOp:=bif ne then .neq else .eql
def eqB(op:BinOp)(t:TypeId)(a b:Value):Sem Value:=do
 let r <-Op.equal t a b
 pure (.bool (if op=.neq then !r else r))
def Shp(v:Value):Prop:=
 match v with
 |.bool _|.pointer _|.slice .. |.map _|.func .. |.nilFunc=>True
 |_=>False
theorem Aeg{v:Value}(h:Shp v)(op:BinOp)(t:TypeId)(x y:Operand)(b:Value):eqGuard op t x y v b=pure ():=by
 cases v<;>first|cases h;done|(cases op<;>rfl)
theorem Akq{v:Value}(h:Shp v){op:BinOp}(ho:op=.eql\/op=.neq)(t:TypeId)(b:Value):binOp op t v b=eqB op t v b:=by
 rcases ho with rfl|rfl<;>(cases v<;>first|cases h;done|(cases b<;>rfl))
theorem Xu{ne:Bool}{t t':TypeId}{x y:Operand}(ho:o.op=.binOp (NK ne) t x y t'){e:Operand->Value}{w:World}{r:Bool}
 (hg:(eqGuard (NK ne) t x y (e x) (e y)).run P w=.ok () w) (hb:binOp (NK ne) t (e x) (e y)=eqB (NK ne) t (e x) (e y))
 (h:(Op.equal t (e x) (e y)).run P w=.ok r w):Fk P e o w (.bool (bif ne then C3 r else r)) w:=by
 left;simp only[execOp,ho,Sem.run_bind,hg,Result.andThen_ok,hb];cases ne<;>simp[NK,Qn,h,eqB]
theorem Aeb{t:TypeId}{a b:Value}{r:Bool}{w:World}(h:∀d,(Op.equalIn (d+1) t a b).run P w=.ok r w):(Op.equal t a b).run P w=.ok r w:=h 9999
theorem MV{ne:Bool}{t t':TypeId}{x y:Operand}{F:H->A->A->Option Bool}(ho:o.op=.binOp (NK ne) t x y t'){f:Fx}
 (hf:f=fun _ _ k pt tl h=>ev (od nl x) pt tl fun a=>DI a fun a=>ev (od nl y) pt tl fun b=>DI b fun b=>BS (F h a b) fun r=>k (.one (.bool (bif ne then C3 r else r))) h)
 {rec:Rec} {X:Ctx} {k:K} {pt:T AV} {tl:TL} {h:H} {r:Rs} (hk:f rec X k pt tl h=some r):
 ∃v,(∀Bn X' k' h',(∀a b,F h' a b=F h a b)->f Bn X' k' pt tl h'=k' v h')/\
 ∀P U J e w,(∀a b q,F h a b=some q->∀va vb,AR J U a va->AR J U b vb->Shp va/\∀d,(Op.equalIn (d+1) t va vb).run P w=.ok q w)->Gp J U nl o.op pt tl e->∃v',Fk P e o w v' w/\Bb J U v v':=by
 subst hf;obtain⟨u,hu,B1⟩:=Aq (show ev (od nl x) pt tl _=some r from hk);obtain⟨a,rfl,AW⟩:=AY B1;obtain⟨u',CT,B9⟩:=Aq (show ev (od nl y) pt tl _=some r from AW);obtain⟨b,rfl,Eb⟩:=AY B9;obtain⟨q,hq,I7⟩:=Ar Eb;refine⟨.one (.bool (bif ne then C3 q else q)),?_,?_⟩
 ·intro Bn X' k' h' hF;show ev (od nl x) pt tl _=_;rw[AQ hu];show ev (od nl y) pt tl _=_;rw[AQ CT];show BS (F h' a b) _=_;rw[hF a b];exact BI hq
 ·intro P U J e w AM A8;have hx:=A8 x (by simp[ho,Op.operands]) _ hu;have hy:=A8 y (by simp[ho,Op.operands]) _ CT;obtain⟨h1,h2⟩:=AM a b q hq _ _ hx hy;exact⟨_,Xu ho (by rw[Aeg h1];rfl) (Akq h1 (by cases ne<;>simp[NK]) _ _) (Aeb h2),rfl⟩
theorem Xq{ne:Bool}{t t':TypeId}{x y:Operand}{ti:TI}(ho:o.op=.binOp (NK ne) t x y t')(ht:C.ty t=some ti)(CV:ti.CR=.bool):
 CU C nl o (A5 (.n2 (Y3 ne) (od nl x) (od nl y))):=by
 intro rec X k pt tl h r hk;obtain⟨v,h1,h2⟩:=MV (F:=fun _=>ZQ) (rec:=rec) (X:=X) ho rfl hk;refine⟨v,fun Bn X' k' h'=>h1 Bn X' k' h' fun _ _=>rfl,?_⟩;intro P U J e w hc A8;refine h2 P U J e w ?_ A8;intro a b q hq va vb ha hb;have Bx:=(hc.ty t ti ht).CR;rw[CV]at Bx;unfold ZQ at hq;split at hq
 ·cases hq;obtain rfl:va=_:=ha;obtain rfl:vb=_:=hb;exact⟨trivial,fun d=>by rw[run_equalIn_bool' w d t _ _ Bx,DB]⟩
 ·cases hq
theorem Xt{ne:Bool}{t t':TypeId}{x y:Operand}{ti:TI}(ho:o.op=.binOp (NK ne) t x y t')(ht:C.ty t=some ti)(CV:∃e,ti.CR=.slice e):
 CU C nl o (A5 (.n2 (Lb ZT ne) (od nl x) (od nl y))):=by
 intro rec X k pt tl h r hk;obtain⟨v,h1,h2⟩:=MV (F:=fun _=>ZT) (rec:=rec) (X:=X) ho rfl hk;refine⟨v,fun Bn X' k' h'=>h1 Bn X' k' h' fun _ _=>rfl,?_⟩;intro P U J e w hc A8;refine h2 P U J e w ?_ A8;intro a b q hq va vb ha hb;have Bx:=(hc.ty t ti ht).CR;obtain⟨_,CV⟩:=CV;rw[CV]at Bx;cases a<;>cases b<;>first
  |(cases hq;done)
  |(cases hq
    simp only[AR]at ha hb
    first
     |(obtain⟨_,_,_,OB⟩:=ha;subst OB;subst hb;exact⟨trivial,fun d=>by simp[Op.equalIn,run_underlying Bx]⟩)
     |(obtain⟨_,_,_,DN⟩:=hb;subst DN;subst ha;exact⟨trivial,fun d=>by simp[Op.equalIn,run_underlying Bx]⟩)
     |(obtain⟨_,_,_,_,OB,_⟩:=ha;subst OB;subst hb;exact⟨trivial,fun d=>by simp[Op.equalIn,run_underlying Bx]⟩)
     |(obtain⟨_,_,_,_,DN,_⟩:=hb;subst DN;subst ha;exact⟨trivial,fun d=>by simp[Op.equalIn,run_underlying Bx]⟩)
     |(obtain⟨_,_,OB⟩:=ha;subst OB;subst hb;exact⟨trivial,fun d=>by simp[Op.equalIn,run_underlying Bx]⟩)
     |(obtain⟨_,_,DN⟩:=hb;subst DN;subst ha;exact⟨trivial,fun d=>by simp[Op.equalIn,run_underlying Bx]⟩)
     |(obtain⟨_,OB,_⟩:=ha;subst OB;subst hb;exact⟨trivial,fun d=>by simp[Op.equalIn,run_underlying Bx]⟩)
     |(obtain⟨_,DN,_⟩:=hb;subst DN;subst ha;exact⟨trivial,fun d=>by simp[Op.equalIn,run_underlying Bx]⟩)
     |(subst ha;subst hb;exact⟨trivial,fun d=>by simp[Op.equalIn,run_underlying Bx]⟩))
theorem Xs{ne:Bool}{t t':TypeId}{x y:Operand}{ti:TI}(ho:o.op=.binOp (NK ne) t x y t')(ht:C.ty t=some ti)(CV:∃a b,ti.CR=.map a b):
 CU C nl o (A5 (.n2 (Lb ZS ne) (od nl x) (od nl y))):=by
 intro rec X k pt tl h r hk;obtain⟨v,h1,h2⟩:=MV (F:=fun _=>ZS) (rec:=rec) (X:=X) ho rfl hk;refine⟨v,fun Bn X' k' h'=>h1 Bn X' k' h' fun _ _=>rfl,?_⟩;intro P U J e w hc A8;refine h2 P U J e w ?_ A8;intro a b q hq va vb ha hb;have Bx:=(hc.ty t ti ht).CR;obtain⟨_,_,CV⟩:=CV;rw[CV]at Bx;cases a<;>cases b<;>first
  |(cases hq;done)
  |(cases hq
    simp only[AR]at ha hb
    first
     |(obtain⟨_,_,_,OB⟩:=ha;subst OB;subst hb;exact⟨trivial,fun d=>by simp[Op.equalIn,run_underlying Bx]⟩)
     |(obtain⟨_,_,_,DN⟩:=hb;subst DN;subst ha;exact⟨trivial,fun d=>by simp[Op.equalIn,run_underlying Bx]⟩)
     |(obtain⟨_,_,_,_,OB,_⟩:=ha;subst OB;subst hb;exact⟨trivial,fun d=>by simp[Op.equalIn,run_underlying Bx]⟩)
     |(obtain⟨_,_,_,_,DN,_⟩:=hb;subst DN;subst ha;exact⟨trivial,fun d=>by simp[Op.equalIn,run_underlying Bx]⟩)
     |(obtain⟨_,_,OB⟩:=ha;subst OB;subst hb;exact⟨trivial,fun d=>by simp[Op.equalIn,run_underlying Bx]⟩)
     |(obtain⟨_,_,DN⟩:=hb;subst DN;subst ha;exact⟨trivial,fun d=>by simp[Op.equalIn,run_underlying Bx]⟩)
     |(obtain⟨_,OB,_⟩:=ha;subst OB;subst hb;exact⟨trivial,fun d=>by simp[Op.equalIn,run_underlying Bx]⟩)
     |(obtain⟨_,DN,_⟩:=hb;subst DN;subst ha;exact⟨trivial,fun d=>by simp[Op.equalIn,run_underlying Bx]⟩)
     |(subst ha;subst hb;exact⟨trivial,fun d=>by simp[Op.equalIn,run_underlying Bx]⟩))
theorem Xr{ne:Bool}{t t':TypeId}{x y:Operand}{ti:TI}(ho:o.op=.binOp (NK ne) t x y t')(ht:C.ty t=some ti)(CV:∃a b c,ti.CR=.func a b c):
 CU C nl o (A5 (.n2 (Lb ZR ne) (od nl x) (od nl y))):=by
 intro rec X k pt tl h r hk;obtain⟨v,h1,h2⟩:=MV (F:=fun _=>ZR) (rec:=rec) (X:=X) ho rfl hk;refine⟨v,fun Bn X' k' h'=>h1 Bn X' k' h' fun _ _=>rfl,?_⟩;intro P U J e w hc A8;refine h2 P U J e w ?_ A8;intro a b q hq va vb ha hb;have Bx:=(hc.ty t ti ht).CR;obtain⟨_,_,_,CV⟩:=CV;rw[CV]at Bx;cases a<;>cases b<;>first
  |(cases hq;done)
  |(cases hq
    simp only[AR]at ha hb
    first
     |(obtain⟨_,_,_,OB⟩:=ha;subst OB;subst hb;exact⟨trivial,fun d=>by simp[Op.equalIn,run_underlying Bx]⟩)
     |(obtain⟨_,_,_,DN⟩:=hb;subst DN;subst ha;exact⟨trivial,fun d=>by simp[Op.equalIn,run_underlying Bx]⟩)
     |(obtain⟨_,_,_,_,OB,_⟩:=ha;subst OB;subst hb;exact⟨trivial,fun d=>by simp[Op.equalIn,run_underlying Bx]⟩)
     |(obtain⟨_,_,_,_,DN,_⟩:=hb;subst DN;subst ha;exact⟨trivial,fun d=>by simp[Op.equalIn,run_underlying Bx]⟩)
     |(obtain⟨_,_,OB⟩:=ha;subst OB;subst hb;exact⟨trivial,fun d=>by simp[Op.equalIn,run_underlying Bx]⟩)
     |(obtain⟨_,_,DN⟩:=hb;subst DN;subst ha;exact⟨trivial,fun d=>by simp[Op.equalIn,run_underlying Bx]⟩)
     |(obtain⟨_,OB,_⟩:=ha;subst OB;subst hb;exact⟨trivial,fun d=>by simp[Op.equalIn,run_underlying Bx]⟩)
     |(obtain⟨_,DN,_⟩:=hb;subst DN;subst ha;exact⟨trivial,fun d=>by simp[Op.equalIn,run_underlying Bx]⟩)
     |(subst ha;subst hb;exact⟨trivial,fun d=>by simp[Op.equalIn,run_underlying Bx]⟩))
theorem ZV{ne:Bool}{t t' el:TypeId}{x y:Operand}{ti ei:TI}(ho:o.op=.binOp (NK ne) t x y t')(ht:C.ty t=some ti)(CV:ti.CR=.pointer el)(he:C.ty el=some ei)(hz:Nat.beq ei.size 0=false):
 En C nl o (A5 (.n2 (Acg ne) (od nl x) (od nl y))):=by
 intro rec X k pt tl h r hk;obtain⟨v,h1,h2⟩:=MV (F:=Afw) (rec:=rec) (X:=X) ho rfl hk;refine⟨v,fun Bn X' k'=>h1 Bn X' k' h fun _ _=>rfl,?_⟩;intro P U J e w hc hr A8;refine h2 P U J e w ?_ A8;intro a b q hq va vb ha hb;have Bx:=(hc.ty t ti ht).CR;rw[CV]at Bx;have Dr:=(hc.ty _ ei he).BE w;have L5:=B5 hz;have hpl:∀c,ID h c=true->∃x n f,h.get c=some (.cells x n f none):=by
  intro c hcb;unfold ID at hcb;split at hcb
  ·rename_i x n f hg;exact⟨x,n,f,hg⟩
  ·cases hcb
 unfold Afw at hq;split at hq
 ·rename_i b1 o1 b2 o2;obtain⟨r1,S1,DN,rfl⟩:=ha;obtain⟨r2,S2,MA,rfl⟩:=hb;refine⟨trivial,fun d=>?_⟩;cases e1:Nat.beq b1 b2 with
  |true=>
   rw[e1]at hq;cases hq;have:=beq_eq e1;subst this;rw[DN]at MA;cases MA
   by_cases e2:o1=o2
   ·subst e2;simp[Op.equalIn,run_underlying Bx,Dr,run_sameAddr_same]
   ·have:Nat.beq o1 o2=false:=by
     cases e3:Nat.beq o1 o2 with
     |true=>exact absurd (beq_eq e3) e2
     |false=>rfl
    rw[this];simp[Op.equalIn,run_underlying Bx,Dr,L5,sameAddr,e2]
  |false=>
   rw[e1]at hq;cases e2:(ID h b1&&ID h b2) with
   |false=>rw[e2]at hq;cases hq
   |true=>
    rw[e2]at hq;cases hq;simp only[Ah]at e2;obtain⟨x1,n1,f1,g1⟩:=hpl _ e2.1;obtain⟨x2,n2,f2,g2⟩:=hpl _ e2.2;have Bs:r1 ≠ r2:=by
     rintro rfl
     rcases hr.inj b1 b2 r1 S1 S2 DN MA ⟨_,g1,by simp⟩ ⟨_,g2,by simp⟩ with e3|⟨c,n,f,e3⟩
     ·exact B5 e1 e3
     ·rw[g1]at e3;cases e3
    obtain⟨ob1,hw1,Qa⟩:=hr.AE b1 r1 S1 DN;obtain⟨cs1,t1,rfl,_⟩:=Qa _ g1;obtain⟨ob2,hw2,hx2⟩:=hr.AE b2 r2 S2 MA;obtain⟨cs2,t2,rfl,_⟩:=hx2 _ g2;have:=run_sameAddr_other (P:=P) (a:=⟨r1,o1,none⟩) (b:=⟨r2,o2,none⟩) w (by intro h;exact Bs (congrArg Addr.block h)) hw1 hw2;simp[Op.equalIn,run_underlying Bx,Dr,L5,this]
 ·obtain⟨r1,S1,DN,rfl⟩:=ha;obtain rfl:vb=_:=hb;cases hq;exact⟨trivial,fun d=>by simp[Op.equalIn,run_underlying Bx]⟩
 ·obtain⟨r1,S1,DN,rfl⟩:=hb;obtain rfl:va=_:=ha;cases hq;exact⟨trivial,fun d=>by simp[Op.equalIn,run_underlying Bx]⟩
 ·obtain⟨r1,o1,N1,J1,rfl,_⟩:=ha;obtain rfl:vb=_:=hb;cases hq;exact⟨trivial,fun d=>by simp[Op.equalIn,run_underlying Bx]⟩
 ·obtain⟨r1,o1,N1,J1,rfl,_⟩:=hb;obtain rfl:va=_:=ha;cases hq;exact⟨trivial,fun d=>by simp[Op.equalIn,run_underlying Bx]⟩
 ·obtain rfl:va=_:=ha;obtain rfl:vb=_:=hb;cases hq;exact⟨trivial,fun d=>by simp[Op.equalIn,run_underlying Bx]⟩
 ·obtain rfl:va=_:=ha;obtain rfl:vb=_:=hb;cases hq;exact⟨trivial,fun d=>by simp[Op.equalIn,run_underlying Bx]⟩
 ·obtain rfl:va=_:=ha;obtain rfl:vb=_:=hb;cases hq;exact⟨trivial,fun d=>by simp[Op.equalIn,run_underlying Bx]⟩
 ·cases hq
theorem Ro{ne:Bool}{t t':TypeId}{x y:Operand}{ti:TI}{cs:List CK}(ho:o.op=.binOp (NK ne) t x y t')(ht:C.ty t=some ti)(Bx:(∃fs,ti.CR=.struct fs)\/∃n e,ti.CR=.array n e)(Ix:Tu C 8 t=some cs):
 CU C nl o (A5 (.n2 (QD C ne cs) (od nl x) (od nl y))):=by
 intro rec X k pt tl h r hk;obtain⟨u,hu,B1⟩:=Aq (show ev (od nl x) pt tl _=some r from hk);obtain⟨u',CT,AW⟩:=Aq (show ev (od nl y) pt tl _=some r from B1);cases u with
 |agg la=>
  cases u' with
  |agg lb=>
   obtain⟨q,hq,B9⟩:=Ar AW;refine⟨.one (.bool (bif ne then C3 q else q)),?_,?_⟩
   ·intro Bn X' k' h';show ev (od nl x) pt tl _=_;rw[AQ hu];show ev (od nl y) pt tl _=_;rw[AQ CT];exact BI hq
   ·intro P U J e w hc A8;obtain⟨va,hx,hva⟩:=A8 x (by simp[ho,Op.operands]) _ hu;obtain⟨vb,hy,hvb⟩:=A8 y (by simp[ho,Op.operands]) _ CT;obtain⟨_,h1,h2⟩:=RT hc 8 t cs Ix ti ht;have Df:ti.agg=true:=by
     have:=(hc.ty t ti ht).agg;rcases Bx with ⟨_,hu⟩|⟨_,_,hu⟩<;>(rw[hu]at this;exact this)
    have hd:8<=P.depth:=by simp[Program.depth,Made.depth];omega
    refine⟨_,Xu ho ?_ ?_ ?_,rfl⟩
    ·rw[hx,hy];exact run_eqGuard_agg w _ t x y _ _ (h1 _ hd)
    ·rw[hx,hy];cases ne<;>rfl
    ·exact h2 J la lb va vb (e x) (e y) q w 10000 (by omega) hq hva hvb ⟨fun _=>hx,fun h=>by rw[Df]at h;cases h⟩ ⟨fun _=>hy,fun h=>by rw[Df]at h;cases h⟩
  |_=>cases AW
 |_=>cases AW
end Eng
namespace Eng
open Go
variable {J J':A1} {U:An} {C:AB} {P:Program} {nl:Nat} {o:Oper}
theorem FE{c:Call}{b:Builtin}(ho:o.op=.call c)(Cb:c.callee=.builtin b)(e:Operand->Value)(w:World):
 (execOp e o).run P w=(builtin b c.argTypes o.type (c.args.map fun|.const _=>true|_=>false) (c.args.map e)).run P w:=by
 simp only[execOp,ho,resolve,Cb,Sem.run_bind,Sem.run_pure,Result.andThen_ok,invoke];rfl
theorem B2{w:World}{r:Nat}{es:Array MapEntry}{clock:Nat}(hb:w.heap[r]? =some (.map es clock)):(getObj r).run P w=.ok (.map es clock) w:=by
 simp[getObj,Sem.run,hb]
theorem DK{w:World}{r:Nat}{es:Array MapEntry}{clock:Nat}(ob:Obj)(hb:w.heap[r]? =some (.map es clock)):(setObj r ob).run P w=.ok () (putObj w r ob):=by
 simp[setObj,Sem.run,hb,putObj]
theorem PQ{α:Type}{a:Array α}{x:α}(h:a.toList=[x]):a= #[x]:=by apply Array.ext';simp[h]
theorem Ir{α:Type}{a:Array α}{x y:α}(h:a.toList=[x,y]):a= #[x,y]:=by apply Array.ext';simp[h]
theorem Ts{α:Type}{a:Array α}{x:α}{l:List α}(h:a.toList=x::l):a[0]? =some x:=by rw[<-Array.getElem?_toList,h];rfl
theorem OO{a:A}{k:Nat->OR}{r:Rs}(h:AdC a k=some r):∃n,k n=some r/\(∀k',AdC a k'=k' n)/\∀(J:A1) (U:An) v,AR J U a v->∃base c,v=.slice base n c:=by
 cases a with
 |slice b off ln c=>exact⟨ln,h,fun _=>rfl,fun J U v ⟨r,S,_,hv⟩=>⟨_,_,hv⟩⟩
 |KW b off ln es=>exact⟨ln,h,fun _=>rfl,fun J U v ⟨r,S,c,_,hv,_⟩=>⟨_,_,hv⟩⟩
 |B7=>exact⟨0,h,fun _=>rfl,fun J U v hv=>⟨_,_,hv⟩⟩
 |emp=>exact⟨0,h,fun _=>rfl,fun J U v ⟨a,c,hv⟩=>⟨_,_,hv⟩⟩
 |_=>cases h
theorem Agy{c:Call}{t:TypeId}{ts:List TypeId}{x:Operand}{ti:TI}{el:TypeId}(ho:o.op=.call c)(Cb:c.callee=.builtin .len)(LI:c.argTypes.toList=t::ts)(FG:c.args.toList=[x])
 (ht:C.ty t=some ti) (CV:ti.CR=.slice el):CU C nl o (A5 (.n1 Als (od nl x))):=by
 intro rec X k pt tl h r hk;obtain⟨u,hu,B1⟩:=Aq (show ev (od nl x) pt tl _=some r from hk);obtain⟨a,rfl,AW⟩:=AY B1;rcases Ui AW with ⟨t',es,n,rfl,B9⟩|⟨hk2',hno0⟩
 ·refine⟨.one (Aj8 n),?_,?_⟩
  ·intro Bn X' k' h';show ev (od nl x) pt tl _=_;rw[AQ hu];rfl
  ·intro P U J e w hc A8;obtain⟨p,N,cp,hv,hN,_⟩:=A8 x (by simp[ho,Op.operands,Call.operands,Cb,PQ FG]) _ hu;have h3:=(hc.ty t ti ht).Bu w;rw[CV]at h3;refine⟨goInt N,.inl ?_,?_⟩
   ·rw[FE ho Cb];simp[builtin,Builtin.len_,Ts LI,PQ FG,h3,hv]
   ·cases n<;>exact congrArg (Value.int .i64) hN
 clear AW;have AW:=hk2';clear hk2';rcases Lj AW with ⟨b,es,lo,n,heq,Gy,B9⟩|⟨B9,Km⟩
 ·refine⟨.one (Aj8 n),?_,?_⟩
  ·intro Bn X' k' h';show ev (od nl x) pt tl _=_;rw[AQ hu,GC,hno0,heq]
  ·intro P U J e w hc A8;obtain⟨p,N,cp,hv,_,hN,_⟩:=Gy J U _ (A8 x (by simp[ho,Op.operands,Call.operands,Cb,PQ FG]) _ hu);have h3:=(hc.ty t ti ht).Bu w;rw[CV]at h3;refine⟨goInt N,.inl ?_,?_⟩
   ·rw[FE ho Cb];simp[builtin,Builtin.len_,Ts LI,PQ FG,h3,hv]
   ·cases n<;>exact congrArg (Value.int .i64) hN
 replace AW:=B9
 clear B9
 by_cases hw:∃b es n,a=.Wz b es n
 ·obtain⟨b,es,n,rfl⟩:=hw;refine⟨.one (.sym .i64 n),?_,?_⟩
  ·intro Bn X' k' h';show ev (od nl x) pt tl _=_;rw[AQ hu,GC,hno0,Km];rfl
  ·intro P U J e w hc A8;obtain⟨r,S,N,_,hv,hN,_⟩:=A8 x (by simp[ho,Op.operands,Call.operands,Cb,PQ FG]) _ hu;have h3:=(hc.ty t ti ht).Bu w;rw[CV]at h3;refine⟨goInt N,.inl ?_,by show goInt N=.int .i64 _;rw[<-hN];rfl⟩;rw[FE ho Cb];simp[builtin,Builtin.len_,Ts LI,PQ FG,h3,hv]
 have hws:∀K r,Ak6 a K r=r:=fun K r=>by
  cases a with
  |Wz b es n=>exact (hw ⟨b,es,n,rfl⟩).elim
  |_=>rfl
 rw[hws]at AW;obtain⟨n,B9,h1,h2⟩:=OO AW;refine⟨.one (.int .i64 (.ofNat n)),?_,?_⟩
 ·intro Bn X' k' h';show ev (od nl x) pt tl _=_;rw[AQ hu];rw[GC,hno0,Km,hws];exact h1 (fun n=>k' (.one (.int .i64 (.ofNat n))) h')
 ·intro P U J e w hc A8;obtain⟨base,cp,hv⟩:=h2 J U (e x) (A8 x (by simp[ho,Op.operands,Call.operands,Cb,PQ FG]) _ hu);have h3:=(hc.ty t ti ht).Bu w;rw[CV]at h3;refine⟨goInt n,.inl ?_,rfl⟩;rw[FE ho Cb];simp[builtin,Builtin.len_,Ts LI,PQ FG,h3,hv]
theorem Uj{c:Call}{t:TypeId}{ts:List TypeId}{x:Operand}{n:Nat}(ho:o.op=.call c)(Cb:c.callee=.builtin .len)(LI:c.argTypes.toList=t::ts)(FG:c.args.toList=[x])
 (ht:∀P U w (v:Value),A4 P C U->(Builtin.len_ c.argTypes o.type #[v]).run P w=.ok (goInt n) w):CU C nl o (A5 (.n0 (AaC n))):=by
 intro rec X k pt tl h r hk;refine⟨.one (.int .i64 (.ofNat n)),fun _ _ _ _=>rfl,?_⟩;intro P U J e w hc A8;refine⟨goInt n,.inl ?_,rfl⟩;rw[FE ho Cb];have:=ht P U w (e x) hc;simp[builtin,PQ FG,this]
theorem Rm{h:H}{a:A}{k:List ME->OR}{r:Rs}(hk:Abu h a k=some r):∃es,k es=some r/\(∀k',Abu h a k'=k' es)/\
 ((a=.Jv/\es=[])\/∃b clock,a=.map b/\h.get b=some (.map es clock)):=by
 cases a with
 |Jv=>exact⟨[],hk,fun _=>rfl,.inl ⟨rfl,rfl⟩⟩
 |map b=>
  have Cs:(match h.get b with |some (.map es _)=>k es|_=>none)=some r:=hk;cases hg:h.get b with
  |none=>rw[hg]at Cs;cases Cs
  |some y=>
   rw[hg]at Cs;cases y with
   |map es clock=>
    refine⟨es,Cs,?_,.inr ⟨b,clock,rfl,hg⟩⟩;intro k';show (match h.get b with |some (.map es _)=>k' es|_=>none)=_;rw[hg]
   |_=>cases Cs
 |_=>cases hk
theorem Rel.map{h:H}{w:World}(hr:Rel J U C h w){b r S:Nat}(hb:J b=some (r,S)){es:List ME}{clock:Nat}(hg:h.get b=some (.map es clock)):
 ∃ms:List MapEntry,w.heap[r]? =some (.map ms.toArray clock)/\F2 (WL J U) es ms:=by
 obtain⟨ob,hw,hx⟩:=hr.AE b r S hb;obtain⟨ms,rfl,L4⟩:=hx _ hg;exact⟨ms,hw,L4⟩
theorem Yo{c:Call}{t q el:TypeId}{ts:List TypeId}{x:Operand}{ti:TI}(ho:o.op=.call c)(Cb:c.callee=.builtin .len)(LI:c.argTypes.toList=t::ts)(FG:c.args.toList=[x])
 (ht:C.ty t=some ti) (CV:ti.CR=.map q el):En C nl o (A5 (.n1 Y4 (od nl x))):=by
 intro rec X k pt tl h r hk;obtain⟨u,hu,B1⟩:=Aq (show ev (od nl x) pt tl _=some r from hk);obtain⟨a,rfl,AW⟩:=AY B1;obtain⟨es,B9,h1,h2⟩:=Rm AW;refine⟨.one (.int .i64 (.ofNat (len es))),?_,?_⟩
 ·intro Bn X' k';show ev (od nl x) pt tl _=_;rw[AQ hu];exact h1 (fun es=>k' (.one (.int .i64 (.ofNat (len es)))) h)
 ·intro P U J e w hc hr A8;have hx:=A8 x (by simp[ho,Op.operands,Call.operands,Cb,PQ FG]) _ hu;have h3:=(hc.ty t ti ht).Bu w;rw[CV]at h3;refine⟨goInt es.length,.inl ?_,by rw[E8];rfl⟩;rw[FE ho Cb];rcases h2 with ⟨rfl,rfl⟩|⟨b,clock,rfl,hg⟩
  ·have hx:e x=.map none:=hx;simp[builtin,Builtin.len_,Ts LI,PQ FG,h3,hx]
  ·obtain⟨rr,S,hb,he⟩:=hx;obtain⟨ms,hw,L4⟩:=hr.map hb hg;have:=B2 (P:=P) hw;simp[builtin,Builtin.len_,Ts LI,PQ FG,h3,he,this,L4.length]
theorem AkS{a:A}{q:IntKind}{x:E}{v:Value}(h:eOf a=some (q,x))(ha:AR J U a v):v=.int q (x.den U):=by
 cases a with
 |int k n=>cases h;exact ha
 |sym k e=>cases h;exact ha
 |_=>cases h
theorem Apk(q:IntKind)(x:E):AR J U (aOf q x) (.int q (x.den U)):=by cases x<;>rfl
theorem P6{c:Call}{mx:Bool}{x y:Operand}(ho:o.op=.call c)(Cb:c.callee=.builtin (bif mx then .max else .min))(FG:c.args.toList=[x,y]):CU C nl o (A5 (.n2 (NJ C mx) (od nl x) (od nl y))):=by
 intro rec X k pt tl h r hk;obtain⟨u,hu,B1⟩:=Aq (show ev (od nl x) pt tl _=some r from hk);obtain⟨a,rfl,AW⟩:=AY B1;obtain⟨u',CT,B9⟩:=Aq (show ev (od nl y) pt tl _=some r from AW);obtain⟨b,rfl,Eb⟩:=AY B9;have Ke:∀Bn X' (k':K) h',A5 (.n2 (NJ C mx) (od nl x) (od nl y)) Bn X' k' pt tl h'=RL a b (fun q m _ n=>k' (.one (.int q (bif bif mx then Ev m n else Ev n m then n else m))) h') (BS (mmA C mx a b) fun r=>k' (.one r) h'):=by
  intro Bn X' k' h';show ev (od nl x) pt tl _=_;rw[AQ hu];show ev (od nl y) pt tl _=_;rw[AQ CT];rfl
 rcases DG (a:=a) (b:=b) (k:=fun q m _ n=>k (.one (.int q (bif bif mx then Ev m n else Ev n m then n else m))) h) (r:=BS (mmA C mx a b) fun r=>k (.one r) h) with ⟨q,m,q',n,rfl,rfl,e⟩|⟨Km,e⟩
 ·refine⟨.one (.int q (bif bif mx then Ev m n else Ev n m then n else m)),fun Bn X' k' h'=>by rw[Ke];rfl,?_⟩;intro P U J e w hc A8;have hx:e x=.int q m:=A8 x (by simp[ho,Op.operands,Call.operands,Ir FG]) _ hu;have hy:e y=.int q' n:=A8 y (by simp[ho,Op.operands,Call.operands,Ir FG]) _ CT;refine⟨_,.inl ?_,rfl⟩;rw[FE ho Cb];cases mx with
  |true=>
   simp[builtin,Builtin.max_,Ir FG,hx,hy,Builtin.max2,Ie]
  |false=>
   simp[builtin,Builtin.min_,Ir FG,hx,hy,Builtin.min2,Ie]
 ·have I7:BS (mmA C mx a b) (fun r=>k (.one r) h)=some r:=by rw[<-e];exact Eb
  obtain⟨z,hz,_⟩:=Ar I7;refine⟨.one z,fun Bn X' k' h'=>?_,?_⟩
  ·rw[Ke];rcases DG (a:=a) (b:=b) (k:=fun q m _ n=>k' (.one (.int q (bif bif mx then Ev m n else Ev n m then n else m))) h') (r:=BS (mmA C mx a b) fun r=>k' (.one r) h') with ⟨q,m,q',n,ha,hb,_⟩|⟨_,e'⟩
   ·exact absurd ⟨q,m,q',n,ha,hb⟩ Km
   ·rw[e',hz];rfl
  ·intro P U J e w hc A8;unfold mmA at hz;split at hz
   ·rename_i q xe q' ye h1 h2;have hx:e x=.int q (xe.den U):=AkS h1 (A8 x (by simp[ho,Op.operands,Call.operands,Ir FG]) _ hu);have hy:e y=.int q' (ye.den U):=AkS h2 (A8 y (by simp[ho,Op.operands,Call.operands,Ir FG]) _ CT);split at hz
    ·rename_i t ht;cases hz;refine⟨.int q ((bif t then ye else xe).den U),.inl ?_,Apk _ _⟩;rw[FE ho Cb];cases mx with
     |true=>
      have h3:=hc.cmp _ _ _ _ ht;simp only[BQ]at h3;cases t<;>simp at h3<;>simp[builtin,Builtin.max_,Ir FG,hx,hy,Builtin.max2]<;>omega
     |false=>
      have h3:=hc.cmp _ _ _ _ ht;simp only[BQ]at h3;cases t<;>simp at h3<;>simp[builtin,Builtin.min_,Ir FG,hx,hy,Builtin.min2]<;>omega
    ·cases hz
   ·cases hz
end Eng
namespace Eng
open Go
variable {J J':A1} {U:An} {C:AB} {P:Program} {nl:Nat} {o:Oper}
theorem U5{t:TypeId}{ti:TI}(ht:Qk P t ti){vs:List Value}{off:Nat}(hle:off+ti.size<=vs.length)(w:World):
 ∃v,(part t vs.toArray off).run P w=.ok v w/\Vof ti.agg v ((vs.drop off).take ti.size)/\((vs.drop off).take ti.size).length=ti.size:=by
 have hlen:((vs.drop off).take ti.size).length=ti.size:=by simp;omega
 by_cases h0:ti.size=0
 ·have Df:ti.agg=true:=by
   cases hg:ti.agg with
   |true=>rfl
   |false=>have:=ht.Ze hg;omega
  have h1:=ht.GR w;have h2:=ht.BE w;rw[Df]at h1;refine⟨.agg ((vs.drop off).take ti.size).toArray,?_,⟨fun _=>rfl,fun h=>by rw[Df]at h;cases h⟩,hlen⟩;simp[part,h1,h2,List.extract_eq_take_drop]
 ·obtain⟨v,h1,h2⟩:=Pb ht (vs:=vs) (off:=off) (by intro e;rw[e]at hlen;simp at hlen;omega) w;exact⟨v,h1,h2,hlen⟩
def Ae0(P:Program)(C:AB)(f:Nat)(t:TypeId):Prop:=
 ∀ti,C.ty t=some ti->∀(e:Bool) (d:Nat) (vs:List Value) (v:Value) (w:World),f<=d->vs.length=ti.size->Vof ti.agg v vs->(Instr.checkKey e d t v).run P w=.ok () w
theorem ZY(hc:A4 P C U){f:Nat}(ih:∀t cs,Tu C f t=some cs->Ae0 P C f t){e:Bool}{d:Nat}(hd:f<=d){vs:List Value}{w:World}:∀(fs:List Field) (off:Nat) (cs:List CK),DF C fs off vs.length=true->
 P0 (fs.map fun g=>Tu C f g.type)=some cs->
 (forIn fs PUnit.unit fun g (_:PUnit)=>if g.name ≠ "_" then do let x <-part g.type vs.toArray g.offset;Instr.checkKey e d g.type x;pure (ForInStep.yield PUnit.unit) else pure (ForInStep.yield PUnit.unit):Sem PUnit).run P w=.ok PUnit.unit w:=by
 intro fs
 induction fs with
 |nil=>intro off cs _ _;simp
 |cons g fs ihf=>
  intro off cs h1 h2;obtain⟨a,b,h3,h4,rfl⟩:=RP h2;unfold DF at h1;split at h1
  ·rename_i ti hti;simp only[Ah,bne_iff_ne,ne_eq]at h1;obtain⟨⟨h5,h6⟩,h7⟩:=h1;have h5:=beq_eq h5;have hle:∀(fs:List Field) (off:Nat),DF C fs off vs.length=true->off<=vs.length:=by
    intro fs
    induction fs with
    |nil=>intro off h;have:=beq_eq h;omega
    |cons g fs ih=>
     intro off h;unfold DF at h;split at h
     ·simp only[Ah]at h;have:=ih _ h.2;have:Nat.add off (‹TI›).size=off+(‹TI›).size:=rfl;omega
     ·cases h
   have h8:=hle fs _ h7;have h8':off+ti.size<=vs.length:=h8;obtain⟨x,Qa,hx2,hx3⟩:=U5 (hc.ty _ ti hti) h8' w;have hk:=ih g.type a h3 ti hti e d _ x w hd hx3 hx2;rw[List.forIn_cons];rw[if_pos (show g.name ≠ "_" from h6),h5];simp only[Sem.run_bind,Qa,Result.andThen_ok,hk,Sem.run_pure];exact ihf _ b h7 h4
  ·cases h1
theorem AbN(hc:A4 P C U):∀(f:Nat) (t:TypeId) (cs:List CK),Tu C f t=some cs->Ae0 P C f t:=by
 intro f
 induction f with
 |zero=>intro t cs h;cases h
 |succ f ih=>
  intro t cs h ti hti e d vs v w hd hlen hv;obtain⟨d,rfl⟩:∃d',d=d'+1:=⟨d-1,by omega⟩
  obtain⟨ti',hti',hu⟩:=Re h;rw[hti]at hti';cases hti';have hT:=hc.ty t ti hti;have Bx:=hT.Bu w;have Iu:=hT.agg;unfold Vo at hu;split at hu
  ·rename_i hk;rw[hk]at Bx;simp[Instr.checkKey,Bx]
  ·rename_i hk;rw[hk]at Bx;simp[Instr.checkKey,Bx]
  ·rename_i hk;rw[hk]at Bx;simp[Instr.checkKey,Bx]
  ·rename_i fs hk;rw[hk]at Iu Bx;simp only at Iu;cases hb:(ti.plain&&DF C fs.toList 0 ti.size) with
   |false=>rw[hb]at hu;cases hu
   |true=>
    rw[hb]at hu;simp only[cond_true]at hu;simp only[Ah]at hb;rw[hv.1 Iu];have:=ZY hc ih (e:=e) (d:=d) (by omega) (w:=w) fs.toList 0 cs (by rw[hlen];exact hb.2) hu;simp only[Instr.checkKey,Sem.run_bind,Bx,Result.andThen_ok];rw[<-Array.forIn_toList];show (Sem.run P (forIn fs.toList PUnit.unit _) w).andThen _=_;erw [this];rfl
  ·rename_i n el hk;rw[hk]at Iu Bx;simp only at Iu;split at hu
   ·rename_i ei hei;cases hb:(Nat.beq ti.size (Nat.mul n ei.size)&&Nat.ble 1 ei.size) with
    |false=>rw[hb]at hu;cases hu
    |true=>
     rw[hb]at hu;simp only[cond_true]at hu;split at hu
     ·rename_i l hl;simp only[Ah]at hb;have Dr:ti.size=n*ei.size:=beq_eq hb.1;have hsize:=(hc.ty _ ei hei).BE w;rw[hv.1 Iu];simp only[Instr.checkKey,Sem.run_bind,Bx,Result.andThen_ok];simp only[Std.Legacy.Range.forIn_eq_forIn_range',Std.Legacy.Range.size,Nat.sub_zero,Nat.add_one_sub_one,Nat.div_one];have key:∀(m i:Nat),i+m=n->(forIn (List.range' i m) PUnit.unit fun i (_:PUnit)=>do
       let y <-Go.sizeOf el;let x <-part el vs.toArray (i*y);Instr.checkKey e d el x;pure (ForInStep.yield PUnit.unit):Sem PUnit).run P w=.ok PUnit.unit w:=by
       intro m
       induction m with
       |zero=>intro i _;simp
       |succ m ihm=>
        intro i him;have hle:i*ei.size+ei.size<=vs.length:=by
         rw[hlen,Dr]
         calc i*ei.size+ei.size=(i+1)*ei.size:=by rw[Nat.succ_mul]
          _<=n*ei.size:=Nat.mul_le_mul_right _ (by omega)
        obtain⟨x,Qa,hx2,hx3⟩:=U5 (hc.ty _ ei hei) hle w;have hk:=ih el l hl ei hei e d _ x w (by omega) hx3 hx2;rw[List.range'_succ,List.forIn_cons];simp only[Sem.run_bind,hsize,Qa,Result.andThen_ok,hk,Sem.run_pure];exact ihm (i+1) (by omega)
      have:=key n 0 (by omega);show (Sem.run P (forIn (List.range' 0 n) PUnit.unit _) w).andThen _=_;erw [this];rfl
     ·cases hu
   ·cases hu
  ·cases hu
theorem Qc{t:TypeId}(h:P.underlying t=some .string)(d:Nat)(a b:ByteArray)(w:World):(Op.equalIn (d+1) t (.string a) (.string b)).run P w=.ok (a==b) w:=by
 simp[Op.equalIn,run_underlying h]
theorem SE{t:TypeId}{CR:TypeDesc}(hu:P.underlying t=some CR){x y:Value}{b:Bool}{w:World}(h:(Op.equal t x y).run P w=.ok b w):Instr.sameNow CR x y=none\/Instr.sameNow CR x y=some b:=by
 have h':(Op.equalIn 10000 t x y).run P w=.ok b w:=h;cases CR<;>try exact .inl rfl
 ·cases x<;>try exact .inl rfl
  cases y<;>try exact .inl rfl
  rw[run_equalIn_bool' w 9999 t _ _ hu]at h';cases h';exact .inr rfl
 ·rename_i q;cases x<;>try exact .inl rfl
  rename_i k a;cases y<;>try exact .inl rfl
  rename_i k' b'
  by_cases e:k=k'
  ·subst e;rw[run_equalIn_int w 9999 t _ _ a b' hu]at h';cases h';exact .inr (by simp[Instr.sameNow])
  ·exact .inl (by simp[Instr.sameNow,e])
 ·cases x<;>try exact .inl rfl
  cases y<;>try exact .inl rfl
  rw[Qc hu 9999]at h';cases h';exact .inr rfl
theorem Abv(hc:A4 P C U){t:TypeId}{tt:TI}{kc:List CK}(hk:Tu C 8 t=some kc)(ht:C.ty t=some tt){a b:V}{r:Bool}(h:eqV C tt.agg kc a b=some r){va vb:Value}(ha:VR J U a va)(hb:VR J U b vb)(w:World):
 (Op.equal t va vb).run P w=.ok r w:=by
 have h3:=(RT hc 8 t kc hk tt ht).2.2;unfold eqV at h;split at h
 ·rename_i x y;cases Df:tt.agg with
  |true=>rw[Df]at h;cases h
  |false=>
   rw[Df]at h;simp only[cond_false]at h;split at h
   ·rename_i c;refine h3 J [x] [y] [va] [vb] va vb r w 10000 (by omega) ?_ (.cons ha .nil) (.cons hb .nil) ⟨(fun e=>by rw[Df]at e;cases e),fun _=>rfl⟩ ⟨(fun e=>by rw[Df]at e;cases e),fun _=>rfl⟩;show Z4 (E6 C c x y) (some true)=some r;rw[h];cases r<;>rfl
   ·cases h
 ·rename_i x y;cases Df:tt.agg with
  |false=>rw[Df]at h;cases h
  |true=>
   rw[Df]at h;simp only[cond_true]at h;obtain⟨vx,rfl,hx⟩:=ha;obtain⟨vy,rfl,hy⟩:=hb;exact h3 J x y vx vy _ _ r w 10000 (by omega) h hx hy ⟨fun _=>rfl,fun e=>by rw[Df]at e;cases e⟩ ⟨fun _=>rfl,fun e=>by rw[Df]at e;cases e⟩
 ·cases h
theorem AfD(hc:A4 P C U){t:TypeId}{tt:TI}{kc:List CK}(hk:Tu C 8 t=some kc)(ht:C.ty t=some tt){q:V}{vq:Value}(hq:VR J U q vq)(w:World):∀(es:List ME) (ms:List MapEntry) (i:Nat) (res:Option (Nat×ME)),
 F2 (WL J U) es ms->LC C tt.agg kc q es i=some res->
 (∃out,(Instr.findAsking t vq ms i).run P w=.ok out w/\(Instr.findNow tt.CR vq ms i=none\/Instr.findNow tt.CR vq ms i=some out)/\
  ((res=none/\out=none)\/∃j e m,res=some (i+j,e)/\out=some (i+j,m.val)/\es[j]? =some e/\ms[j]? =some m/\(Op.equal t vq m.key).run P w=.ok true w/\eqV C tt.agg kc q e.key=some true)):=by
 intro es
 induction es with
 |nil=>
  intro ms i res hf h;cases hf;cases h;exact⟨none,rfl,.inr rfl,.inl ⟨rfl,rfl⟩⟩
 |cons e es ih=>
  intro ms i res hf h;cases hf with
  |cons hm hf=>
   rename_i m ms;have h':Xw e i (eqV C tt.agg kc q e.key) (LC C tt.agg kc q es)=some res:=h;cases hv:eqV C tt.agg kc q e.key with
   |none=>rw[hv]at h';cases h'
   |some b=>
    rw[hv]at h';have AM:=Abv hc hk ht hv hq hm.1 w;have hnow:=SE (hc.ty t tt ht).CR AM;cases b with
    |true=>
     cases h';refine⟨some (i,m.val),by simp[Instr.findAsking,AM],?_,.inr ⟨0,e,m,rfl,rfl,rfl,rfl,AM,hv⟩⟩;rcases hnow with h1|h1
     ·left;simp[Instr.findNow,h1]
     ·right;simp[Instr.findNow,h1]
    |false=>
     obtain⟨out,g1,g2,g3⟩:=ih ms (i+1) res hf h';refine⟨out,by simp[Instr.findAsking,AM,g1],?_,?_⟩
     ·rcases hnow with h1|h1
      ·left;simp[Instr.findNow,h1]
      ·simp only[Instr.findNow,h1];exact g2
     ·rcases g3 with ⟨h1,h2⟩|⟨j,e',m',h1,h2,h3,h4,h5⟩
      ·exact .inl ⟨h1,h2⟩
      ·exact .inr ⟨j+1,e',m',by rw[h1];congr 2;omega,by rw[h2];congr 2;omega,h3,h4,h5⟩
theorem Gu(hc:A4 P C U){t:TypeId}{tt:TI}{kc:List CK}(hk:Tu C 8 t=some kc)(ht:C.ty t=some tt){q:V}{vq:Value}(hq:VR J U q vq)(w:World){es:List ME}{ms:List MapEntry}{res:Option (Nat×ME)}
 (hf:F2 (WL J U) es ms) (h:LC C tt.agg kc q es 0=some res):
 (res=none/\(Instr.findKey t vq ms).run P w=.ok none w)\/∃j e m,res=some (j,e)/\es[j]? =some e/\ms[j]? =some m/\(Instr.findKey t vq ms).run P w=.ok (some (j,m.val)) w/\eqV C tt.agg kc q e.key=some true:=by
 obtain⟨out,h1,h2,h3⟩:=AfD hc hk ht hq w es ms 0 res hf h;have hu:=(hc.ty t tt ht).Bu w;have AM:(Instr.findKey t vq ms).run P w=.ok out w:=by
  simp only[Instr.findKey,Sem.run_bind,hu,Result.andThen_ok];rcases h2 with h2|h2<;>rw[h2]
  ·exact h1
  ·rfl
 rcases h3 with ⟨rfl,rfl⟩|⟨j,e,m,h4,h5,h6,h7,_,h8⟩
 ·exact .inl ⟨rfl,AM⟩
 ·refine .inr ⟨j,e,m,by rw[h4];simp,h6,h7,?_,h8⟩;rw[AM,h5];simp
theorem DV(hc:A4 P C U){t:TypeId}{tt:TI}{kc:List CK}(hk:Tu C 8 t=some kc)(ht:C.ty t=some tt){q:V}{vq:Value}(hq:VR J U q vq)(h:Yi tt.agg kc q=true)(e:Bool)(w:World):
 (Instr.checkKey e 10000 t vq).run P w=.ok () w:=by
 have hlen:=(RT hc 8 t kc hk tt ht).1;cases q with
 |one a=>
  have Df:tt.agg=false:=by cases hg:tt.agg with |false=>rfl|true=>rw[hg]at h;cases h
  refine AbN hc 8 t kc hk tt ht e 10000 [vq] vq w (by omega) ?_ ⟨(fun e=>by rw[Df]at e;cases e),fun _=>rfl⟩;rw[(hc.ty t tt ht).Ze Df];rfl
 |agg l=>
  have h':(tt.agg&&Nat.beq (len l) (len kc))=true:=h;simp only[Ah]at h';obtain⟨vs,rfl,hv⟩:=hq;have h2:len l=len kc:=beq_eq h'.2;rw[E8,E8]at h2;exact AbN hc 8 t kc hk tt ht e 10000 vs _ w (by omega) (by rw[<-hv.length];omega) ⟨fun _=>rfl,fun e=>by rw[h'.1]at e;cases e⟩
end Eng
namespace Eng
open Go
variable {J J':A1} {U:An} {C:AB} {P:Program} {nl:Nat} {o:Oper}
theorem OS{h:H}{m:A}{k:Nat->Nat->List (E×Option V)->OR}{r:OR}{x:Rs}(hk:Aa5 h m k r=some x):
 (∃b t kn,m=.map b/\h.get b=some (.Ej t kn)/\k b t kn=some x)\/(r=some x/\∀k' r',Aa5 h m k' r'=r'):=by
 cases m with
 |map b=>
  have hk:(match h.get b with |some (.Ej t kn)=>k b t kn|_=>r)=some x:=hk;have hu:∀k' r',Aa5 h (.map b) k' r'=(match h.get b with |some (.Ej t kn)=>k' b t kn|_=>r'):=fun _ _=>rfl
  cases hg:h.get b with
  |none=>rw[hg]at hk;exact .inr ⟨hk,fun k' r'=>by rw[hu,hg]⟩
  |some y=>
   cases y with
   |Ej t kn=>rw[hg]at hk;exact .inl ⟨b,t,kn,rfl,hg,hk⟩
   |_=>rw[hg]at hk;exact .inr ⟨hk,fun k' r'=>by rw[hu,hg]⟩
 |_=>exact .inr ⟨hk,fun _ _=>rfl⟩
theorem AjI{h:H}{b t:Nat}{kn:List (E×Option V)}(hg:h.get b=some (.Ej t kn))(k:Nat->Nat->List (E×Option V)->OR)(r:OR):Aa5 h (.map b) k r=k b t kn:=by
 show (match h.get b with |some (.Ej t kn)=>k b t kn|_=>r)=_;rw[hg]
theorem OK{ka:Bool}{kc:List CK}{q:V}{e:E}(h:Agh ka kc q=some e):ka=false/\kc=[.int .i64]/\Yi ka kc q=true/\∀(J:A1) (U:An) v,VR J U q v->v=.int .i64 (e.den U):=by
 unfold Agh at h;split at h
 ·rename_i a;cases ka with
  |true=>cases h
  |false=>
   simp only[cond_false]at h;split at h
   ·refine⟨rfl,rfl,rfl,?_⟩;split at h
    ·cases h;intro J U v hv;exact hv
    ·cases h;intro J U v hv;exact hv
    ·cases h
   ·cases h
 ·cases h
theorem AdA(hc:A4 P C U){t:Nat}{e:E}{ms:List MapEntry}:∀{kn:List (E×Option V)} {o:Option V},Aa1 C t e kn=some o->BY J U t kn ms (e.den U)->match o with |some v=>BV ms (e.den U) fun u=>VR J U v u|none=>∀x∈ms,x.key ≠ .int .i64 (e.den U):=by
 intro kn
 induction kn with
 |nil=>
  intro o h hm;have h1:=hc.mr t e o h J;have hm:(match U.m t (e.den U) with |some u=>BV ms (e.den U) fun u'=>u'=u|none=>∀x∈ms,x.key ≠ .int .i64 (e.den U)):=hm;cases o with
  |none=>rw[show U.m t (e.den U)=none from h1]at hm;exact hm
  |some v=>
   obtain⟨u,h2,h3⟩:=h1;rw[h2]at hm;exact BV.mono hm fun u' e=>by rw[e];exact h3
 |cons p l ih=>
  intro o h hm;have h':(match eqE C p.1 e with |some b=>bif b then some p.2 else Aa1 C t e l|none=>none)=some o:=h;have K9:(match (if p.1.den U=e.den U then some p.2 else Bp U (e.den U) l) with
   |some (some v)=>BV ms (e.den U) fun u=>VR J U v u
   |some none=>∀x∈ms,x.key ≠ .int .i64 (e.den U)
   |none=>match U.m t (e.den U) with
    |some u=>BV ms (e.den U) fun u'=>u'=u
    |none=>∀x∈ms,x.key ≠ .int .i64 (e.den U)):=hm
  cases hq:eqE C p.1 e with
  |none=>rw[hq]at h';cases h'
  |some b=>
   rw[hq]at h';have h1:=Afv hc hq;cases b with
   |true=>
    rw[if_pos (eq_of_beq h1)]at K9;have h'':some p.2=some o:=h';cases h'';cases hp:p.2 with
    |none=>rw[hp]at K9;exact K9
    |some v=>rw[hp]at K9;exact K9
   |false=>
    rw[if_neg (fun x=>by rw[x,beq_self_eq_true]at h1;cases h1)]at K9;exact ih h' K9
theorem key_inj{l:List MapEntry}(h:l.Pairwise fun a b=>a.key ≠ b.key){e e':MapEntry}(he:e∈l)(GJ:e'∈l)(hk:e.key=e'.key):e=e':=by
 induction h with
 |nil=>cases he
 |cons h1 h2 ih=>
  rcases BL.1 he with e1|e1<;>rcases BL.1 GJ with e2|e2
  ·rw[e1,e2]
  ·subst e1;exact absurd hk (h1 _ e2)
  ·subst e2;exact absurd hk.symm (h1 _ e1)
  ·exact ih e1 e2
theorem AfC(hc:A4 P C U){t:TypeId}{tt:TI}(hk:Tu C 8 t=some [.int .i64])(ht:C.ty t=some tt)(Df:tt.agg=false)(z:Int)(w:World):∀(ms:List MapEntry) (i:Nat),(∀e∈ms,∃z',e.key=.int .i64 z')->
 ∃out,(Instr.findAsking t (.int .i64 z) ms i).run P w=.ok out w/\(Instr.findNow tt.CR (.int .i64 z) ms i=none\/Instr.findNow tt.CR (.int .i64 z) ms i=some out)/\
  ((out=none/\∀e∈ms,e.key ≠ .int .i64 z)\/∃j m,out=some (i+j,m.val)/\ms[j]? =some m/\m.key=.int .i64 z):=by
 intro ms
 induction ms with
 |nil=>intro i _;exact⟨none,rfl,.inr rfl,.inl ⟨rfl,fun e he=>by cases he⟩⟩
 |cons m ms ih=>
  intro i L4;obtain⟨z',L5⟩:=L4 m (by simp);have hv:eqV C tt.agg [.int .i64] (.one (.int .i64 z)) (.one (.int .i64 z'))=some (BX z z'):=by rw[Df];rfl
  have AM:=Abv hc hk ht hv (J:=fun _=>none) (U:=U) (va:=.int .i64 z) (vb:=m.key) rfl L5 w;have hnow:=SE (hc.ty t tt ht).CR AM;cases hb:BX z z' with
  |true=>
   rw[hb]at AM hnow;rw[BC]at hb;have hzz:=eq_of_beq hb;refine⟨some (i,m.val),by simp[Instr.findAsking,AM],?_,.inr ⟨0,m,rfl,rfl,by rw[L5,hzz]⟩⟩;rcases hnow with h1|h1
   ·left;simp[Instr.findNow,h1]
   ·right;simp[Instr.findNow,h1]
  |false=>
   rw[hb]at AM hnow;rw[BC]at hb;obtain⟨out,g1,g2,g3⟩:=ih (i+1) (fun e he=>L4 e (by simp[he]));refine⟨out,by simp[Instr.findAsking,AM,g1],?_,?_⟩
   ·rcases hnow with h1|h1
    ·left;simp[Instr.findNow,h1]
    ·simp only[Instr.findNow,h1];exact g2
   ·rcases g3 with ⟨h1,h2⟩|⟨j,m',h1,h2,h3⟩
    ·refine .inl ⟨h1,fun e he=>?_⟩;rcases BL.1 he with e1|e1
     ·subst e1;rw[L5];intro e2;cases e2;rw[beq_self_eq_true]at hb;cases hb
     ·exact h2 e e1
    ·exact .inr ⟨j+1,m',by rw[h1];congr 2;omega,h2,h3⟩
theorem K2(hc:A4 P C U){t:TypeId}{tt:TI}(hk:Tu C 8 t=some [.int .i64])(ht:C.ty t=some tt)(Df:tt.agg=false)(z:Int)(w:World){ms:List MapEntry}(L4:∀e∈ms,∃z',e.key=.int .i64 z'):
 ((Instr.findKey t (.int .i64 z) ms).run P w=.ok none w/\∀e∈ms,e.key ≠ .int .i64 z)\/∃j m,ms[j]? =some m/\m.key=.int .i64 z/\(Instr.findKey t (.int .i64 z) ms).run P w=.ok (some (j,m.val)) w:=by
 obtain⟨out,h1,h2,h3⟩:=AfC hc hk ht Df z w ms 0 L4;have hu:=(hc.ty t tt ht).Bu w;have AM:(Instr.findKey t (.int .i64 z) ms).run P w=.ok out w:=by
  simp only[Instr.findKey,Sem.run_bind,hu,Result.andThen_ok];rcases h2 with h2|h2<;>rw[h2]
  ·exact h1
  ·rfl
 rcases h3 with ⟨rfl,h4⟩|⟨j,m,h4,h5,h6⟩
 ·exact .inl ⟨AM,h4⟩
 ·refine .inr ⟨j,m,h5,h6,?_⟩;rw[AM,h4];simp
theorem Rel.Ej{h:H}{w:World}(hr:Rel J U C h w){b r S:Nat}(hb:J b=some (r,S)){t:Nat}{kn:List (E×Option V)}(hg:h.get b=some (.Ej t kn)):
 ∃(ms:List MapEntry) (clock:Nat),w.heap[r]? =some (.map ms.toArray clock)/\CX ms clock/\∀z,BY J U t kn ms z:=by
 obtain⟨o,hw,hx⟩:=hr.AE b r S hb;obtain⟨ms,clock,rfl,h1,h2⟩:=hx _ hg;exact⟨ms,clock,hw,h1,h2⟩
theorem Rel.Wa{h:H}{w:World}(hr:Rel J U C h w){b r S:Nat}(hb:J b=some (r,S)){t:Nat}{kn kn':List (E×Option V)}(hg:h.get b=some (.Ej t kn)){ms':List MapEntry}{Dt:Nat}(h1:CX ms' Dt)(h2:∀z,BY J U t kn' ms' z):
 Rel J U C (h.put b (.Ej t kn')) (putObj w r (.map ms'.toArray Dt))/\Ext U J J h (h.put b (.Ej t kn')) w (putObj w r (.map ms'.toArray Dt)):=
 hr.put hb ⟨_,hg,by simp⟩ (hr.one hb hg (by simp) (by simp)) _ _ ⟨ms',Dt,rfl,h1,h2⟩
theorem BY.other{t:Nat}{kn:List (E×Option V)}{ms ms':List MapEntry}{z:Int}{e:E}{q:Option V}(h:BY J U t kn ms z)(hz:e.den U ≠ z)(hm:∀x:MapEntry,x.key=.int .i64 z->(x∈ms↔x∈ms')):BY J U t ((e,q)::kn) ms' z:=by
 have h1:Bp U z ((e,q)::kn)=Bp U z kn:=if_neg hz;have ha:∀p:Value->Prop,BV ms z p->BV ms' z p:=fun p ⟨x,q1,q2,q3⟩=>⟨x,(hm x q2).1 q1,q2,q3⟩
 have hb:(∀x∈ms,x.key ≠ .int .i64 z)->∀x∈ms',x.key ≠ .int .i64 z:=fun g x hx hk=>g x ((hm x hk).2 hx) hk
 unfold BY at h ⊢;rw[h1];cases hq:Bp U z kn with
 |none=>
  rw[hq]at h;cases hs:U.m t z with
  |none=>simp only[hs]at h ⊢;exact hb h
  |some u=>simp only[hs]at h ⊢;exact ha _ h
 |some y=>
  rw[hq]at h;cases y with
  |none=>exact hb h
  |some v=>exact ha _ h
theorem BY.here{t:Nat}{kn:List (E×Option V)}{ms:List MapEntry}{e:E}{v:V}(h:BV ms (e.den U) fun u=>VR J U v u):BY J U t ((e,some v)::kn) ms (e.den U):=by
 unfold BY;rw[show Bp U (e.den U) ((e,some v)::kn)=some (some v) from if_pos rfl];exact h
theorem BY.gone{t:Nat}{kn:List (E×Option V)}{ms:List MapEntry}{e:E}(h:∀x∈ms,x.key ≠ .int .i64 (e.den U)):BY J U t ((e,none)::kn) ms (e.den U):=by
 unfold BY;rw[show Bp U (e.den U) ((e,(none:Option V))::kn)=some none from if_pos rfl];exact h
theorem CX.push{ms:List MapEntry}{clock:Nat}(h:CX ms clock){z:Int}(hz:∀e∈ms,e.key ≠ .int .i64 z){x:MapEntry}(hx:x.key=.int .i64 z)(hb:x.born=clock):CX (ms++[x]) (clock+1):=by
 refine⟨fun e he=>?_,?_,fun e he=>?_,?_⟩
 ·rcases List.mem_append.1 he with e1|e1
  ·exact h.1 e e1
  ·rw[List.mem_singleton.1 e1];exact⟨z,hx⟩
 ·rw[List.pairwise_append];refine⟨h.2.1,by simp,?_⟩;intro a ha b hb;rw[List.mem_singleton.1 hb,hx];exact hz a ha
 ·rcases List.mem_append.1 he with e1|e1
  ·exact Nat.lt_succ_of_lt (h.2.2.1 e e1)
  ·rw[List.mem_singleton.1 e1,hb];exact Nat.lt_succ_self _
 ·rw[List.pairwise_append];refine⟨h.2.2.2,by simp,?_⟩;intro a ha b AS;rw[List.mem_singleton.1 AS,hb];exact Nat.ne_of_lt (h.2.2.1 a ha)
theorem CX.set{ms:List MapEntry}{clock:Nat}(h:CX ms clock){j:Nat}{m x:MapEntry}(hm:ms[j]? =some m)(hx:x.key=m.key)(hb:x.born=m.born):CX (ms.set j x) clock:=by
 have I8:(ms.set j x).map (·.key)=ms.map (·.key):=by
  rw[List.map_set,hx];apply List.ext_getElem?;intro i
  by_cases hi:j=i
  ·subst hi;have Au:=(Oq.1 hm).1;rw[List.getElem?_set_self (by simpa using Au)];simp[hm]
  ·rw[List.getElem?_set_ne hi]
 have hmapb:(ms.set j x).map (·.born)=ms.map (·.born):=by
  rw[List.map_set,hb];apply List.ext_getElem?;intro i
  by_cases hi:j=i
  ·subst hi;have Au:=(Oq.1 hm).1;rw[List.getElem?_set_self (by simpa using Au)];simp[hm]
  ·rw[List.getElem?_set_ne hi]
 refine⟨fun e he=>?_,?_,fun e he=>?_,?_⟩
 ·have:e.key∈(ms.set j x).map (·.key):=List.mem_map.2 ⟨e,he,rfl⟩;rw[I8]at this;obtain⟨e',h1,h2⟩:=List.mem_map.1 this;rw[<-h2];exact h.1 e' h1
 ·have h2:=h.2.1;rw[<-List.pairwise_map (R:=(· ≠ ·)) (f:=MapEntry.key)]at h2 ⊢;rw[I8];exact h2
 ·have:e.born∈(ms.set j x).map (·.born):=List.mem_map.2 ⟨e,he,rfl⟩;rw[hmapb]at this;obtain⟨e',h1,h2⟩:=List.mem_map.1 this;rw[<-h2];exact h.2.2.1 e' h1
 ·have h2:=h.2.2.2;rw[<-List.pairwise_map (R:=(· ≠ ·)) (f:=MapEntry.born)]at h2 ⊢;rw[hmapb];exact h2
theorem T2{ms:List MapEntry}{j:Nat}{m x:MapEntry}{z:Int}(hm:ms[j]? =some m)(hmz:m.key ≠ .int .i64 z)(hxz:x.key ≠ .int .i64 z)(y:MapEntry)(hy:y.key=.int .i64 z):y∈ms↔y∈ms.set j x:=by
 constructor
 ·intro h;obtain⟨i,hi⟩:=List.getElem?_of_mem h;have hij:j ≠ i:=by rintro rfl;rw[hm]at hi;cases hi;exact hmz hy
  exact Oj (i:=i) (by rw[List.getElem?_set_ne hij];exact hi)
 ·intro h;rcases List.mem_or_eq_of_mem_set h with e|e
  ·exact e
  ·subst e;exact absurd hy hxz
theorem CX.erase{ms:List MapEntry}{clock:Nat}(h:CX ms clock)(j:Nat):CX (ms.eraseIdx j) clock:=
 ⟨fun e he=>h.1 e (List.mem_of_mem_eraseIdx he),h.2.1.sublist (List.eraseIdx_sublist ms j),fun e he=>h.2.2.1 e (List.mem_of_mem_eraseIdx he),h.2.2.2.sublist (List.eraseIdx_sublist ms j)⟩
theorem mem_erase{ms:List MapEntry}{clock:Nat}(h:CX ms clock){j:Nat}{m:MapEntry}(hm:ms[j]? =some m)(y:MapEntry):y∈ms.eraseIdx j↔y∈ms/\y.key ≠ m.key:=by
 constructor
 ·intro hy;refine⟨List.mem_of_mem_eraseIdx hy,fun hk=>?_⟩;obtain⟨i,hi⟩:=List.getElem?_of_mem hy;rw[List.getElem?_eraseIdx]at hi;have hpw:=List.pairwise_iff_getElem.1 h.2.1;obtain⟨g1,g2⟩:=Oq.1 hm;split at hi
  ·obtain⟨g3,g4⟩:=Oq.1 hi;exact hpw i j g3 g1 (by assumption) (by rw[g4,g2];exact hk)
  ·obtain⟨g3,g4⟩:=Oq.1 hi;exact hpw j (i+1) g1 g3 (by omega) (by rw[g4,g2];exact hk.symm)
 ·rintro ⟨hy,hk⟩
  obtain⟨i,hi⟩:=List.getElem?_of_mem hy;have hij:i ≠ j:=by rintro rfl;rw[hm]at hi;cases hi;exact hk rfl
  rcases Nat.lt_or_ge i j with e|e
  ·exact Oj (i:=i) (by rw[List.getElem?_eraseIdx,if_pos e];exact hi)
  ·exact Oj (i:=i-1) (by rw[List.getElem?_eraseIdx,if_neg (by omega),show i-1+1=i by omega];exact hi)
end Eng
namespace Eng
open Go
variable {J J':A1} {U:An} {C:AB} {P:Program} {nl:Nat} {o:Oper}
theorem Ace(a:A)(k:A->OR):DI (.one a) k=k a:=rfl
theorem RR{t:TypeId}{k:Bool->List CK->Kk}(M:Kk->Prop)(PU:M (.n0 A7))
 (h:∀ti q e tt l,C.ty t=some ti->ti.CR=.map q e->C.ty q=some tt->Tu C 8 q=some l->M (k tt.agg l)):M (Yh C t k):=by
 unfold Yh;cases ht:C.ty t with
 |none=>rw[AH ht];exact PU
 |some ti=>
  rw[AI ht];split
  ·rename_i q e hu;split
   ·rename_i l hl;obtain⟨tt,htt,_⟩:=Re (f:=7) hl;have:Aav C q=tt.agg:=by unfold Aav;rw[htt]
    rw[this];exact h ti q e tt l ht hu htt hl
   ·exact PU
  ·exact PU
theorem Ada{t:TypeId}{k:V->Kk}(M:Kk->Prop)(PU:M (.n0 A7))
 (h:∀ti q e ei z,C.ty t=some ti->ti.CR=.map q e->C.ty e=some ei->zeroV ei=some z->M (k z)):M (Abn C t k):=by
 unfold Abn;cases ht:C.ty t with
 |none=>rw[AH ht];exact PU
 |some ti=>
  rw[AI ht];split
  ·rename_i q e hu;cases he:C.ty e with
   |none=>rw[AH he];exact PU
   |some ei=>
    rw[AI he];split
    ·rename_i z hz;exact h ti q e ei z ht hu he hz
    ·exact PU
  ·exact PU
theorem UG{t:TypeId}{ti:TI}(ht:Qk P t ti){z:V}(hz:zeroV ti=some z)(w:World):∃v,(zeroValue t).run P w=.ok v w/\∀(J:A1) (U:An),VR J U z v:=by
 obtain⟨v,zs,h1,h2,h3,h4,h5,h6⟩:=ht.Ac2 w;refine⟨v,h1,?_⟩;intro J U;unfold zeroV at hz;cases ha:ti.agg with
 |true=>
  rw[ha]at hz;cases hz;exact⟨zs,h5 ha,h3 J U⟩
 |false=>
  rw[ha]at hz;simp only[cond_false]at hz;split at hz
  ·rename_i z0 hz0;cases hz;have:=h3 J U;rw[hz0,h6 ha]at this;cases this with
   |cons h _=>exact h
  ·cases hz
theorem Acd{v:V}{va:Value}(h:VR J U v va)(ok b:Bool):Bb J U (okV ok v b) (if ok then .tuple #[va,.bool b] else va):=by
 cases ok with
 |true=>exact⟨[va,.bool b],rfl,.cons h (.cons rfl .nil)⟩
 |false=>exact VR.av _ _ h
def Are(ok:Bool)(z:V)(res:Option (Nat×ME)):AV:=match res with |some (_,e)=>okV ok e.val true|none=>okV ok z false
theorem P5{t:TypeId}{x q:Operand}{ok:Bool}(ho:o.op=.lookup t x q ok):En C nl o (A5 (Yh C t fun ka kc=>Abn C t fun z=>.n2 (Sm C ka kc z ok) (od nl x) (od nl q))):=by
 refine RR (fun a=>En C nl o (A5 a)) Bv ?_;intro ti kt et tt kc ht CV htt hkc;refine Ada (fun a=>En C nl o (A5 a)) Bv ?_;intro ti' kt' et' ei z ht' hu0' hei hz;rw[ht]at ht';cases ht';rw[CV]at hu0';cases hu0';intro rec X k pt tl h r hk;obtain⟨u,hu,B1⟩:=Aq (show ev (od nl x) pt tl _=some r from hk);obtain⟨a,rfl,AW⟩:=AY B1;rcases OS AW with ⟨b,t0,kn,rfl,hg,B9⟩|⟨B9,Km⟩
 ·obtain⟨u',CT,Eb⟩:=Aq (show ev (od nl q) pt tl _=some r from B9);obtain⟨qv,rfl,I7⟩:=Ho Eb;obtain⟨e0,he0,KX⟩:=Ar I7;obtain⟨oo,hoo,N4⟩:=Ar KX;obtain⟨Df,rfl,hkok,hqv⟩:=OK he0;have core:∀P U J e w,A4 P C U->Rel J U C h w->Gp J U nl o.op pt tl e->∃v',Fk P e o w v' w/\Bb J U (match oo with |some v=>okV ok v true|none=>okV ok z false) v':=by
   intro P U J e w hc hr A8;obtain⟨rr,S,hb,he⟩:=A8 x (by simp[ho,Op.operands]) _ hu;have hq:=Bb.ofV _ _ (A8 q (by simp[ho,Op.operands]) _ CT);have hqi:=hqv J U _ hq;have h1:=(hc.ty t ti ht).Bu w;rw[CV]at h1;obtain⟨ms,clock,hw,Ia,hM⟩:=hr.Ej hb hg;have I5:=fun b=>DV hc hkc htt hq hkok b w
   obtain⟨zv,hz1,hz2⟩:=UG (hc.ty _ ei hei) hz w;have hM0:=AdA hc hoo (hM (e0.den U));rw[hqi]at I5;rcases K2 hc hkc htt Df (e0.den U) w Ia.1 with ⟨hf,Ib⟩|⟨j,m,hm,hmk,hf⟩
   ·cases oo with
    |none=>
     refine⟨_,.inl ?_,Acd (hz2 J U) ok false⟩;simp[execOp,ho,Instr.lookup,h1,he,B2 (P:=P) hw,hqi,I5,hf,hz1]
    |some v=>
     obtain⟨e1,g1,g2,_⟩:=hM0;exact absurd g2 (Ib e1 g1)
   ·cases oo with
    |none=>exact absurd hmk (hM0 m (Oj hm))
    |some v=>
     obtain⟨e1,g1,g2,g3⟩:=hM0;have:=key_inj Ia.2.1 g1 (Oj hm) (g2.trans hmk.symm);subst this;refine⟨_,.inl ?_,Acd g3 ok true⟩;simp[execOp,ho,Instr.lookup,h1,he,B2 (P:=P) hw,hqi,I5,hf]
  refine⟨_,?_,core⟩;intro Bn X' k';show ev (od nl x) pt tl _=_;rw[AQ hu,Ace,AjI hg,AQ CT,AlX,BI he0,BI hoo];cases oo<;>rfl
 replace AW:=B9
 clear B9;obtain⟨es,B9,hes,I8⟩:=Rm AW;obtain⟨u',CT,Eb⟩:=Aq (show ev (od nl q) pt tl _=some r from B9);obtain⟨qv,rfl,I7⟩:=Ho Eb;obtain⟨Iy,KX⟩:=Ap I7;have key:∀res,LC C tt.agg kc qv es 0=some res->∃v,(∀Bn X' k',A5 (.n2 (Sm C tt.agg kc z ok) (od nl x) (od nl q)) Bn X' k' pt tl h=k' v h)/\
  ∀P U J e w,A4 P C U->Rel J U C h w->Gp J U nl o.op pt tl e->∃v',Fk P e o w v' w/\Bb J U v v':=by
  intro res JU;refine⟨Are ok z res,?_,?_⟩
  ·intro Bn X' k';show ev (od nl x) pt tl _=_;rw[AQ hu,Ace,Km,hes,AQ CT,AlX,Cv Iy,JU];cases res with
   |none=>rfl
   |some p=>rfl
  ·intro P U J e w hc hr A8;have hx:=A8 x (by simp[ho,Op.operands]) _ hu;have hq:=Bb.ofV _ _ (A8 q (by simp[ho,Op.operands]) _ CT);have h1:=(hc.ty t ti ht).Bu w;rw[CV]at h1;have hm:∃ms:List MapEntry,F2 (WL J U) es ms/\(do
    let es <-match e x with
     |.map none=>pure #[]
     |.map (some r)=>do
      let .map es _ <-getObj r|stuck "Lookup: map expected"
      pure es
     |_=>stuck "Lookup: map expected"
    pure es:Sem (Array MapEntry)).run P w=.ok ms.toArray w:=by
    rcases I8 with ⟨rfl,rfl⟩|⟨b,clock,rfl,hg⟩
    ·have hx:e x=.map none:=hx;exact⟨[],.nil,by simp[hx]⟩
    ·obtain⟨rr,S,hb,he⟩:=hx;obtain⟨ms,hw,L4⟩:=hr.map hb hg;exact⟨ms,L4,by simp[he,B2 (P:=P) hw]⟩
   obtain⟨ms,L4,AM⟩:=hm;have I5:=fun b=>DV hc hkc htt hq Iy b w
   obtain⟨zv,hz1,hz2⟩:=UG (hc.ty _ ei hei) hz w;rcases Gu hc hkc htt hq w L4 JU with ⟨rfl,hf⟩|⟨j,e',m,rfl,GJ,K9,hf,_⟩
   ·refine⟨_,.inl ?_,Acd (hz2 J U) ok false⟩;rcases I8 with ⟨rfl,rfl⟩|⟨b,clock,rfl,hg⟩
    ·have hx:e x=.map none:=hx;cases L4;simp[execOp,ho,Instr.lookup,h1,hx,I5,hf,hz1]
    ·obtain⟨rr,S,hb,he⟩:=hx;obtain⟨ms',hw,hms'⟩:=hr.map hb hg;simp only[he,Sem.run_bind,B2 (P:=P) hw,Result.andThen_ok,Sem.run_pure]at AM;cases AM;simp[execOp,ho,Instr.lookup,h1,he,B2 (P:=P) hw,I5,hf,hz1]
   ·obtain⟨m2,hm2,MB⟩:=L4.get GJ;rw[K9]at hm2;cases hm2;refine⟨_,.inl ?_,Acd MB.2.1 ok true⟩;rcases I8 with ⟨rfl,rfl⟩|⟨b,clock,rfl,hg⟩
    ·simp at GJ
    ·obtain⟨rr,S,hb,he⟩:=hx;obtain⟨ms',hw,hms'⟩:=hr.map hb hg;simp only[he,Sem.run_bind,B2 (P:=P) hw,Result.andThen_ok,Sem.run_pure]at AM;cases AM;simp[execOp,ho,Instr.lookup,h1,he,B2 (P:=P) hw,I5,hf]
 cases hfk:LC C tt.agg kc qv es 0 with
 |none=>rw[hfk]at KX;cases KX
 |some res=>exact key res hfk
theorem Um{h:H}{v:AV}{k:Nat->List ME->Nat->OR}{r:Rs}(hk:AjE h v k=some r):∃b es clock,v=.one (.map b)/\h.get b=some (.map es clock)/\k b es clock=some r:=by
 unfold AjE at hk;split at hk
 ·rename_i b;split at hk
  ·rename_i es clock hg;exact⟨b,es,clock,rfl,hg,hk⟩
  ·cases hk
 ·cases hk
theorem AdG(e:ME):∀(es:List ME) (i:Nat),VJ es i e=es.set i e:=by
 intro es
 induction es with
 |nil=>intro i;rfl
 |cons x t ih=>
  intro i;cases i with
  |zero=>rfl
  |succ i=>show x::VJ t i e=_;rw[ih];rfl
theorem Adi:∀(es:List ME) (i:Nat),Vr es i=es.eraseIdx i:=by
 intro es
 induction es with
 |nil=>intro i;rfl
 |cons x t ih=>
  intro i;cases i with
  |zero=>rfl
  |succ i=>show x::Vr t i=_;rw[ih];rfl
theorem F2.erase{α β:Type}{R:α->β->Prop}{l:List α}{m:List β}(h:F2 R l m)(i:Nat):F2 R (l.eraseIdx i) (m.eraseIdx i):=by
 induction h generalizing i with
 |nil=>exact .nil
 |cons h0 h ih=>cases i with
  |zero=>exact h
  |succ i=>exact .cons h0 (ih i)
theorem Sh(ms:List MapEntry)(i:Nat)(f:MapEntry->MapEntry){m:MapEntry}(h:ms[i]? =some m):ms.toArray.modify i f=(ms.set i (f m)).toArray:=by
 apply Array.ext';rw[Array.toList_modify];show ms.modify i f=ms.set i (f m);apply List.ext_getElem?;intro j;rw[List.getElem?_modify,List.getElem?_set]
 by_cases e:i=j
 ·subst e;obtain⟨h1,h2⟩:=Oq.1 h;simp[h1,h2]
 ·simp[e]
theorem AeR{x y:ByteArray}(h:(x==y)=true):x=y:=by
 rw[beq_toListBytes,ByteArray.toList_eq,ByteArray.toList_eq]at h;have h:=eq_of_beq h;cases x;cases y;simp at h;rw[h]
theorem QZ(x:ByteArray):(x==x)=true:=by rw[beq_toListBytes];exact beq_self_eq_true _
theorem Pr{c:CK}{a b:A}(hc:A4 P C U)(h:E6 C c a b=some true){va vb:Value}(ha:AR J U a va)(hb:AR J U b vb):(∃k n,va=.int k n/\vb=.int k n)\/(∃q,va=.bool q/\vb=.bool q)\/∃s,va=.string s/\vb=.string s:=by
 cases c with
 |int q=>
  left;have key:∀(k k':IntKind) (x y:Int),va=.int k x->vb=.int k' y->Nat.beq (Ax k) (Ax q)=true->Nat.beq (Ax k') (Ax q)=true->(x==y)=true->∃k n,va=.int k n/\vb=.int k n:=by
   intro k k' x y h1 h2 h3 h4 h5;have e1:=Bt h3;have e2:=Bt h4;subst e1;subst e2;have:=eq_of_beq h5;subst this;exact⟨_,_,h1,h2⟩
  have spl:∀{p q':Bool} {u:Option Bool},(bif p&&q' then u else none)=some true->p=true/\q'=true/\u=some true:=by
   intro p q' u h;cases p<;>cases q'<;>simp_all
  unfold E6 at h;simp only at h;split at h
  ·obtain⟨h1,h2,h3⟩:=spl h;exact key _ _ _ _ ha hb h1 h2 (by rw[<-BC];exact Option.some.inj h3)
  ·obtain⟨h1,h2,h3⟩:=spl h;exact key _ _ _ _ ha hb h1 h2 (Hq hc h3).symm
  ·obtain⟨h1,h2,h3⟩:=spl h;exact key _ _ _ _ ha hb h1 h2 (Hq hc h3).symm
  ·obtain⟨h1,h2,h3⟩:=spl h;exact key _ _ _ _ ha hb h1 h2 (Hq hc h3).symm
  ·cases h
 |bool=>
  unfold E6 at h;simp only at h;split at h
  ·rename_i x y;have:x=y:=by rw[DB]at h;simpa using h
   subst this;exact .inr (.inl ⟨x,ha,hb⟩)
  ·cases h
 |str=>
  unfold E6 at h;simp only at h;split at h
  ·rename_i x y;have:x=y:=AeR (Option.some.inj h);subst this;exact .inr (.inr ⟨x,ha,hb⟩)
  ·cases h
theorem Vx(hc:A4 P C U):∀{cs:List CK} {la lb:List A} {va vb:List Value},Cj C cs la lb=some true->F2 (AR J U) la va->F2 (AR J U) lb vb->va=vb/\∀n,∀v∈va,Instr.sameBits n v v=true:=by
 intro cs
 induction cs with
 |nil=>
  intro la lb va vb h ha hb;obtain⟨rfl,rfl,_⟩:=HW _ _ h;cases ha;cases hb;exact⟨rfl,fun n v hv=>nomatch hv⟩
 |cons c cs ih=>
  intro la lb va vb h ha hb;obtain⟨a,as,b,bs,rfl,rfl,h1⟩:=Hd h;cases ha with
  |cons ha has=>cases hb with
   |cons hb hbs=>
    rcases Ot h1 with ⟨_,h3⟩|⟨h2,h3⟩
    ·cases h3
    ·obtain⟨e,h4⟩:=ih h3 has hbs;subst e;rcases Pr hc h2 ha hb with ⟨k,n,rfl,rfl⟩|⟨q,rfl,rfl⟩|⟨s,rfl,rfl⟩
     all_goals
      refine⟨rfl,fun m v hv=>?_⟩;rcases BL.1 hv with e|e
      ·subst e;cases m<;>simp[Instr.sameBits,QZ]
      ·exact h4 m v e
theorem Afx(hc:A4 P C U){ka:Bool}{kc:List CK}{a b:V}(h:eqV C ka kc a b=some true){va vb:Value}(ha:VR J U a va)(hb:VR J U b vb):va=vb/\Instr.sameBits 10000 va va=true:=by
 unfold eqV at h;split at h
 ·rename_i x y;cases ka with
  |true=>cases h
  |false=>
   simp only[cond_false]at h;split at h
   ·rename_i c;rcases Pr hc h ha hb with ⟨k,n,rfl,rfl⟩|⟨q,rfl,rfl⟩|⟨s,rfl,rfl⟩<;>exact⟨rfl,by simp[Instr.sameBits,QZ]⟩
   ·cases h
 ·rename_i x y;cases ka with
  |false=>cases h
  |true=>
   simp only[cond_true]at h;obtain⟨vx,rfl,hx⟩:=ha;obtain⟨vy,rfl,hy⟩:=hb;obtain⟨e,h2⟩:=Vx hc h hx hy;subst e;refine⟨rfl,?_⟩;show (vx.toArray.size==vx.toArray.size&&(vx.toArray.toList.zip vx.toArray.toList).all fun (x,y)=>Instr.sameBits 9999 x y)=true;simp only[beq_self_eq_true,Bool.true_and,Bf]
   rintro ⟨p,q⟩ hpq
   have:p=q/\p∈vx:=by
    obtain⟨i,hi⟩:=List.getElem?_of_mem (show (p,q)∈vx.zip vx from hpq);rw[List.getElem?_zip_eq_some]at hi;have h3:=hi.1.symm.trans hi.2;exact⟨Option.some.inj h3,Oj hi.1⟩
   obtain⟨rfl,hp⟩:=this;exact h2 9999 p hp
 ·cases h
theorem Yj{v:Value}(h:Instr.sameBits 10000 v v=true)(w:World):(Instr.keyThatStays v v).run P w=.ok v w:=by
 simp[Instr.keyThatStays,h]
theorem Rel.VZ{h:H}{w:World}(hr:Rel J U C h w){b r S:Nat}(hb:J b=some (r,S)){es JP:List ME}{clock Dt:Nat}(hg:h.get b=some (.map es clock)){ms':List MapEntry}(L4:F2 (WL J U) JP ms'):
 Rel J U C (h.put b (.map JP Dt)) (putObj w r (.map ms'.toArray Dt))/\Ext U J J h (h.put b (.map JP Dt)) w (putObj w r (.map ms'.toArray Dt)):=
 hr.put hb ⟨_,hg,by simp⟩ (hr.one hb hg (by simp) (by simp)) _ _ ⟨ms',rfl,L4⟩
theorem RZ{t:TypeId}{m q x:Operand}(ho:o.op=.mapUpdate t m q x\/o.op=.insert t m q x):Ks C nl o (A5 (Yh C t fun ka kc=>.n3 (Y5 C ka kc) (od nl m) (od nl q) (od nl x))):=by
 refine RR (fun a=>Ks C nl o (A5 a)) EZ ?_;intro ti kt et tt kc ht CV htt hkc rec X k pt tl h r hk;obtain⟨u,hu,B1⟩:=Aq (show ev (od nl m) pt tl _=some r from hk);obtain⟨a,rfl,B1⟩:=AY B1;rcases OS B1 with ⟨b,t0,kn,rfl,hg,B9⟩|⟨B9,Km⟩
 ·obtain⟨u',CT,Eb⟩:=Aq (show ev (od nl q) pt tl _=some r from B9);obtain⟨qv,rfl,I7⟩:=Ho Eb;obtain⟨u'',hu'',KX⟩:=Aq (show ev (od nl x) pt tl _=some r from I7);obtain⟨xv,rfl,N4⟩:=Ho KX;obtain⟨e0,he0,N5⟩:=Ar N4;obtain⟨Df,rfl,hkok,hqv⟩:=OK he0;refine⟨.Dh [],_,N5,?_⟩;intro P U J e w hc hr A8;have PX:m∈o.op.operands/\q∈o.op.operands/\x∈o.op.operands:=by rcases ho with ho|ho<;>simp[ho,Op.operands]
  obtain⟨rr,S,hb,he⟩:=A8 m PX.1 _ hu;have hq:=Bb.ofV _ _ (A8 q PX.2.1 _ CT);have hx:=Bb.ofV _ _ (A8 x PX.2.2 _ hu'');have hqi:=hqv J U _ hq;have hex:∀w',(Instr.mapUpdate t (e m) (e q) (e x)).run P w=.ok () w'->Fk P e o w undef w':=by
   intro w' AM;right;refine⟨rfl,?_⟩;rcases ho with ho|ho<;>simp[execOp,ho,AM]
  have h1:=(hc.ty t ti ht).Bu w;rw[CV]at h1;obtain⟨ms,clock,hw,Ia,hM⟩:=hr.Ej hb hg;have h3:=DV hc hkc htt hq hkok false w;rw[hqi]at h3;rcases K2 hc hkc htt Df (e0.den U) w Ia.1 with ⟨hf,Ib⟩|⟨j,m',hm,hmk,hf⟩
  ·obtain⟨r1,x1⟩:=hr.Wa hb hg (kn':=(e0,some xv)::kn) (ms':=ms++[{key:=e q,val:=e x,born:=clock}]) (Dt:=clock+1) (Ia.push Ib hqi rfl) (by
    intro z
    by_cases hz:e0.den U=z
    ·subst hz;exact .here ⟨{key:=e q,val:=e x,born:=clock},by simp,hqi,hx⟩
    ·exact (hM z).other hz fun y hy=>by
      simp only[List.mem_append,List.mem_singleton];refine⟨fun h=>.inl h,fun h=>h.resolve_right fun h2=>?_⟩;subst h2;have hy:e q=_:=hy;rw[hqi]at hy;cases hy;exact hz rfl)
   refine⟨undef,_,J,hex _ ?_,⟨[],rfl,.nil⟩,r1,x1⟩;have h4:=DK (P:=P) (.map (ms++[({key:=e q,val:=e x,born:=clock}:MapEntry)]).toArray (clock+1)) hw;rw[hqi]at h4 ⊢;simp only[Instr.mapUpdate,Sem.run_bind,h1,Result.andThen_ok,he,B2 (P:=P) hw,h3,hf];simpa using h4
  ·obtain⟨r1,x1⟩:=hr.Wa hb hg (kn':=(e0,some xv)::kn) (ms':=ms.set j {m' with key:=e q,val:=e x}) (Dt:=clock) (Ia.set hm (hqi.trans hmk.symm) rfl) (by
    intro z;have Au:=(Oq.1 hm).1
    by_cases hz:e0.den U=z
    ·subst hz;exact .here ⟨_,Oj (i:=j) (by rw[List.getElem?_set_self Au]),hqi,hx⟩
    ·exact (hM z).other hz fun y hy=>T2 hm (by rw[hmk];intro h;cases h;exact hz rfl) (by show e q ≠ _;rw[hqi];intro h;cases h;exact hz rfl) y hy)
   refine⟨undef,_,J,hex _ ?_,⟨[],rfl,.nil⟩,r1,x1⟩;have h4:=DK (P:=P) (.map (ms.set j {m' with key:=e q,val:=e x}).toArray clock) hw;have h5:=Yj (P:=P) (v:=.int .i64 (e0.den U)) (by simp[Instr.sameBits]) w;have h6:((ms.toArray[j]?).map (·.key)).getD (e q)=.int .i64 (e0.den U):=by simp[hm,hmk]
   rw[hqi]at h4 h6 ⊢;simp only[Instr.mapUpdate,Sem.run_bind,h1,Result.andThen_ok,he,B2 (P:=P) hw,h3,hf,h6,h5];rw[Sh ms j _ hm];simpa using h4
 have B1:=B9;clear B9;obtain⟨b,es,clock,hmm,hg,AW⟩:=Um B1;cases hmm;obtain⟨u',CT,B9⟩:=Aq (show ev (od nl q) pt tl _=some r from AW);obtain⟨qv,rfl,Eb⟩:=Ho B9;obtain⟨u'',hu'',I7⟩:=Aq (show ev (od nl x) pt tl _=some r from Eb);obtain⟨xv,rfl,KX⟩:=Ho I7;obtain⟨Iy,N4⟩:=Ap KX;have I6:∀{P:Program} {U:An} {J:A1} {e:Operand->Value},Gp J U nl o.op pt tl e->(∃rr S,J b=some (rr,S)/\e m=.map (some rr))/\VR J U qv (e q)/\VR J U xv (e x)/\
  ∀w w',(Instr.mapUpdate t (e m) (e q) (e x)).run P w=.ok () w'->Fk P e o w undef w':=by
  intro P U J e A8;have PX:m∈o.op.operands/\q∈o.op.operands/\x∈o.op.operands:=by rcases ho with ho|ho<;>simp[ho,Op.operands]
  refine⟨A8 m PX.1 _ hu,Bb.ofV _ _ (A8 q PX.2.1 _ CT),Bb.ofV _ _ (A8 x PX.2.2 _ hu''),?_⟩;intro w w' AM;right;refine⟨rfl,?_⟩;rcases ho with ho|ho<;>simp[execOp,ho,AM]
 cases JU:LC C tt.agg kc qv es 0 with
 |none=>rw[JU]at N4;cases N4
 |some res=>
  rw[JU]at N4;cases res with
  |none=>
   refine⟨.Dh [],_,N4,?_⟩;intro P U J e w hc hr A8;obtain⟨⟨rr,S,hb,hm⟩,hq,hx,hex⟩:=I6 (P:=P) A8;have h1:=(hc.ty t ti ht).Bu w;rw[CV]at h1;obtain⟨ms,hw,L4⟩:=hr.map hb hg;rcases Gu hc hkc htt hq w L4 JU with ⟨_,hf⟩|⟨j,e',m',h2,_⟩
   ·have C7:F2 (WL J U) (app es [⟨qv,xv,clock⟩]) (ms++[{key:=e q,val:=e x,born:=clock}]):=by
     rw[Me];exact L4.append (.cons ⟨hq,hx,rfl⟩ .nil)
    obtain⟨r1,x1⟩:=hr.VZ hb hg (Dt:=clock+1) C7;refine⟨undef,_,J,hex w _ ?_,⟨[],rfl,.nil⟩,r1,x1⟩;have h3:=DV hc hkc htt hq Iy false w;have h4:=DK (P:=P) (.map (ms++[({key:=e q,val:=e x,born:=clock}:MapEntry)]).toArray (clock+1)) hw;simp only[Instr.mapUpdate,Sem.run_bind,h1,Result.andThen_ok,hm,B2 (P:=P) hw,h3,hf];simpa using h4
   ·cases h2
  |some p=>
   obtain⟨j,e0⟩:=p;refine⟨.Dh [],_,N4,?_⟩;intro P U J e w hc hr A8;obtain⟨⟨rr,S,hb,hm⟩,hq,hx,hex⟩:=I6 (P:=P) A8;have h1:=(hc.ty t ti ht).Bu w;rw[CV]at h1;obtain⟨ms,hw,L4⟩:=hr.map hb hg;rcases Gu hc hkc htt hq w L4 JU with ⟨h2,_⟩|⟨j',e',m',h2,GJ,K9,hf,heq⟩
   ·cases h2
   ·cases h2;obtain⟨m2,hm2,MB⟩:=L4.get GJ;rw[K9]at hm2;cases hm2;obtain⟨PY,H5⟩:=Afx hc heq hq MB.1;have C7:F2 (WL J U) (VJ es j ⟨qv,xv,e0.born⟩) (ms.set j {m' with key:=e q,val:=e x}):=by
     rw[AdG];exact L4.set (show WL J U ⟨qv,xv,e0.born⟩ {m' with key:=e q,val:=e x} from ⟨hq,hx,MB.2.2⟩) j
    obtain⟨r1,x1⟩:=hr.VZ hb hg (Dt:=clock) C7;refine⟨undef,_,J,hex w _ ?_,⟨[],rfl,.nil⟩,r1,x1⟩;have h3:=DV hc hkc htt hq Iy false w;have h4:=DK (P:=P) (.map (ms.set j {m' with key:=e q,val:=e x}).toArray clock) hw;have h5:=Yj (P:=P) H5 w;have h6:((ms.toArray[j]?).map (·.key)).getD (e q)=e q:=by simp[K9,<-PY]
    simp only[Instr.mapUpdate,Sem.run_bind,h1,Result.andThen_ok,hm,B2 (P:=P) hw,h3,hf,h6,h5];rw[Sh ms j _ K9];simpa using h4
theorem ZO{c:Call}{t:TypeId}{ts:List TypeId}{m q:Operand}(ho:o.op=.call c)(Cb:c.callee=.builtin .delete)(LI:c.argTypes.toList=t::ts)(FG:c.args.toList=[m,q]):
 Ks C nl o (A5 (Yh C t fun ka kc=>.n2 (Y2 C ka kc) (od nl m) (od nl q))):=by
 refine RR (fun a=>Ks C nl o (A5 a)) EZ ?_;intro ti kt et tt kc ht CV htt hkc rec X k pt tl h r hk;obtain⟨u,hu,B1⟩:=Aq (show ev (od nl m) pt tl _=some r from hk);obtain⟨a,rfl,B1⟩:=AY B1;have hmem0:m∈o.op.operands/\q∈o.op.operands:=by simp[ho,Op.operands,Call.operands,Cb,Ir FG]
 rcases OS B1 with ⟨b,t0,kn,rfl,hg,B9⟩|⟨B9,Km⟩
 ·obtain⟨u',CT,Eb⟩:=Aq (show ev (od nl q) pt tl _=some r from B9);obtain⟨qv,rfl,I7⟩:=Ho Eb;obtain⟨e0,he0,N5⟩:=Ar I7;obtain⟨Df,rfl,hkok,hqv⟩:=OK he0;refine⟨.Dh [],_,N5,?_⟩;intro P U J e w hc hr A8;obtain⟨rr,S,hb,he⟩:=A8 m hmem0.1 _ hu;have hq:=Bb.ofV _ _ (A8 q hmem0.2 _ CT);have hqi:=hqv J U _ hq;have hex:∀w',(Builtin.delete_ c.argTypes o.type #[e m,e q]).run P w=.ok (.tuple #[]) w'->Fk P e o w undef w':=by
   intro w' h;left;rw[FE ho Cb];simp only[builtin,Ir FG,Sem.run_bind];have:Array.map e #[m,q]= #[e m,e q]:=by simp
   rw[this,h];rfl
  have ht0:=Ts LI;have h1:=(hc.ty t ti ht).Bu w;rw[CV]at h1;obtain⟨ms,clock,hw,Ia,hM⟩:=hr.Ej hb hg;have h3:=fun b=>DV hc hkc htt hq hkok b w
  rw[hqi]at h3;rcases K2 hc hkc htt Df (e0.den U) w Ia.1 with ⟨hf,Ib⟩|⟨j,m',hm,hmk,hf⟩
  ·obtain⟨r1,x1⟩:=hr.Wa hb hg (kn':=(e0,none)::kn) (ms':=ms) (Dt:=clock) Ia (by
    intro z
    by_cases hz:e0.den U=z
    ·subst hz;exact .gone Ib
    ·exact (hM z).other hz fun y hy=>Iff.rfl)
   refine⟨undef,_,J,hex _ ?_,⟨[],rfl,.nil⟩,r1,x1⟩;have h4:=DK (P:=P) (.map ms.toArray clock) hw;rw[hqi];simp[Builtin.delete_,ht0,h1,he,B2 (P:=P) hw,h3,hf,h4]
  ·obtain⟨r1,x1⟩:=hr.Wa hb hg (kn':=(e0,none)::kn) (ms':=ms.eraseIdx j) (Dt:=clock) (Ia.erase j) (by
    intro z
    by_cases hz:e0.den U=z
    ·subst hz;exact .gone fun y hy=>by have:=((mem_erase Ia hm y).1 hy).2;rwa [hmk]at this
    ·exact (hM z).other hz fun y hy=>by
      rw[mem_erase Ia hm y];refine⟨fun h=>⟨h,?_⟩,fun h=>h.1⟩;rw[hy,hmk];intro h2;cases h2;exact hz rfl)
   refine⟨undef,_,J,hex _ ?_,⟨[],rfl,.nil⟩,r1,x1⟩;have h4:=DK (P:=P) (.map (ms.eraseIdx j).toArray clock) hw;have h5:ms.toArray.eraseIdxIfInBounds j=(ms.eraseIdx j).toArray:=by
    apply Array.ext';simp[Array.eraseIdxIfInBounds,(Oq.1 hm).1]
   rw[hqi];simp[Builtin.delete_,ht0,h1,he,B2 (P:=P) hw,h3,hf,h4]
 have B1:=B9;clear B9;obtain⟨u',CT,B9⟩:=Aq (show ev (od nl q) pt tl _=some r from B1);obtain⟨qv,rfl,Eb⟩:=Ho B9;obtain⟨Iy,N4⟩:=Ap Eb;have Cu:m∈o.op.operands/\q∈o.op.operands:=by simp[ho,Op.operands,Call.operands,Cb,Ir FG]
 have I6:∀{P:Program} {e:Operand->Value} {w w':World},(Builtin.delete_ c.argTypes o.type #[e m,e q]).run P w=.ok (.tuple #[]) w'->Fk P e o w undef w':=by
  intro P e w w' h;left;rw[FE ho Cb];simp only[builtin,Ir FG,Sem.run_bind];have:Array.map e #[m,q]= #[e m,e q]:=by simp
  rw[this,h];rfl
 have ht0:=Ts LI;split at N4
 ·rename_i hmq;cases hmq;refine⟨.Dh [],h,N4,?_⟩;intro P U J e w hc hr A8;have hm:e m=.map none:=A8 m Cu.1 _ hu;have hq:=Bb.ofV _ _ (A8 q Cu.2 _ CT);have h1:=(hc.ty t ti ht).Bu w;rw[CV]at h1;have h3:=DV hc hkc htt hq Iy true w;exact⟨undef,w,J,I6 (by simp[Builtin.delete_,ht0,h1,hm,h3]),⟨[],rfl,.nil⟩,hr,Ext.refl J h w hr⟩
 ·obtain⟨b,es,clock,hmq,hg,N5⟩:=Um N4;cases hmq;cases JU:LC C tt.agg kc qv es 0 with
  |none=>rw[JU]at N5;cases N5
  |some res=>
   rw[JU]at N5;cases res with
   |none=>
    refine⟨.Dh [],_,N5,?_⟩;intro P U J e w hc hr A8;obtain⟨rr,S,hb,hm⟩:=A8 m Cu.1 _ hu;have hq:=Bb.ofV _ _ (A8 q Cu.2 _ CT);have h1:=(hc.ty t ti ht).Bu w;rw[CV]at h1;obtain⟨ms,hw,L4⟩:=hr.map hb hg;rcases Gu hc hkc htt hq w L4 JU with ⟨_,hf⟩|⟨j,e',m',h2,_⟩
    ·obtain⟨r1,x1⟩:=hr.VZ hb hg (Dt:=clock) L4;refine⟨undef,_,J,I6 ?_,⟨[],rfl,.nil⟩,r1,x1⟩;have h3:=fun b=>DV hc hkc htt hq Iy b w
     have h4:=DK (P:=P) (.map ms.toArray clock) hw;simp[Builtin.delete_,ht0,h1,hm,B2 (P:=P) hw,h3,hf,h4]
    ·cases h2
   |some p=>
    obtain⟨j,e0⟩:=p;refine⟨.Dh [],_,N5,?_⟩;intro P U J e w hc hr A8;obtain⟨rr,S,hb,hm⟩:=A8 m Cu.1 _ hu;have hq:=Bb.ofV _ _ (A8 q Cu.2 _ CT);have h1:=(hc.ty t ti ht).Bu w;rw[CV]at h1;obtain⟨ms,hw,L4⟩:=hr.map hb hg;rcases Gu hc hkc htt hq w L4 JU with ⟨h2,_⟩|⟨j',e',m',h2,GJ,K9,hf,heq⟩
    ·cases h2
    ·cases h2;have C7:F2 (WL J U) (Vr es j) (ms.eraseIdx j):=by rw[Adi];exact L4.erase j
     obtain⟨r1,x1⟩:=hr.VZ hb hg (Dt:=clock) C7;refine⟨undef,_,J,I6 ?_,⟨[],rfl,.nil⟩,r1,x1⟩;have h3:=fun b=>DV hc hkc htt hq Iy b w
     have h4:=DK (P:=P) (.map (ms.eraseIdx j).toArray clock) hw;have h5:ms.toArray.eraseIdxIfInBounds j=(ms.eraseIdx j).toArray:=by
      apply Array.ext';simp[Array.eraseIdxIfInBounds,(Oq.1 K9).1]
     simp[Builtin.delete_,ht0,h1,hm,B2 (P:=P) hw,h3,hf,h4]
end Eng
namespace Eng
open Go
variable {J J':A1} {U:An} {C:AB} {P:Program} {nl:Nat} {o:Oper}
theorem nb(a b:Nat):(a==b)=Nat.beq a b:=by
 cases h:Nat.beq a b with
 |true=>rw[beq_eq h];simp
 |false=>simp[B5 h]
end Eng
namespace Eng
open Go
variable {J J':A1} {U:An} {C:AB} {P:Program} {nl:Nat} {o:Oper}
theorem F2.one{l:List A}{vs:List Value}(h:F2 (AR J U) l vs):∀v∈vs,v.oneCell'=true:=by
 induction h with
 |nil=>intro v hv;cases hv
 |cons Ny _ ih=>
  intro v hv;rcases BL.1 hv with e|e
  ·exact e▸Gf Ny
  ·exact ih v e
theorem Pt{h:H}{size n:Nat}{a:A}{k:List A->OR}{r:Rs}(hk:ZZ h size n a k=some r):∃l,k l=some r/\l.length=n*size/\
 ∀(P:Program) (U:An) (J:A1) (w:World) (v:Value),Rel J U C h w->AR J U a v->∃vs:List Value,F2 (AR J U) l vs/\∀dn,(Builtin.firstCells size n v).run P {w with drawn:=dn}=.ok vs.toArray {w with drawn:=dn}:=by
 have sl:∀b off,(∀(J:A1) (U:An) v,AR J U a v->∃rr S ln c,J b=some (rr,S)/\v=.slice (some ⟨rr,off,none⟩) ln c)->h.KK b off (Nat.mul n size) k=some r->∃l,k l=some r/\l.length=n*size/\
  ∀(P:Program) (U:An) (J:A1) (w:World) (v:Value),Rel J U C h w->AR J U a v->∃vs:List Value,F2 (AR J U) l vs/\∀dn,(Builtin.firstCells size n v).run P {w with drawn:=dn}=.ok vs.toArray {w with drawn:=dn}:=by
  intro b off hv hk;obtain⟨c,m,f,s,l,hg,hle,hl,B1⟩:=HJ hk;refine⟨l,B1,(T.Ll _ _ _ _ hl).1,?_⟩;intro P U J w v hr ha;obtain⟨rr,S,ln,cp,hb,rfl⟩:=hv J U v ha;obtain⟨vs,hf,hlen,hc⟩:=hr.cells hb hg hle hl;refine⟨vs,hf,fun dn=>?_⟩;have h3:=run_loadCells_list (P:=P) (w:={w with drawn:=dn}) ⟨rr,off,none⟩ vs hc;rw[hlen]at h3;exact h3
 cases a with
 |slice b off ln c=>exact sl b off (fun J U v ⟨r,S,h1,h2⟩=>⟨r,S,_,_,h1,h2⟩) hk
 |KW b off ln es=>exact sl b off (fun J U v ⟨r,S,c,h1,h2,_⟩=>⟨r,S,_,_,h1,h2⟩) hk
 |B7=>
  obtain⟨h0,B1⟩:=Ap hk;have:=beq_eq h0;subst this;refine⟨[],B1,by simp,?_⟩;intro P U J w v _ hv;have hv:v=_:=hv;exact⟨[],.nil,fun _=>by rw[hv];rfl⟩
 |emp=>
  obtain⟨h0,B1⟩:=Ap hk;have:=beq_eq h0;subst this;refine⟨[],B1,by simp,?_⟩;intro P U J w v _ hv;obtain⟨a,c,rfl⟩:=hv;exact⟨[],.nil,fun _=>by simp[Builtin.firstCells,loadCells,loadCellsFrom]⟩
 |_=>cases hk
end Eng
end
