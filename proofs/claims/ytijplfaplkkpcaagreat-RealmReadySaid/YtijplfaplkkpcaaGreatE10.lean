/- Linear consequences by certificates; contracts as data with proofs as trees, checked by reckoning. No conditions beside those in its theorems. -/
import Derived.Test.YtijplfaplkkpcaaGreatE9
set_option linter.unusedVariables false
set_option linter.unusedSimpArgs false
set_option linter.unusedSectionVars false
set_option linter.constructorNameAsVariable false
set_option maxRecDepth 100000
noncomputable section
namespace Eng
open Go Go.RowKit
variable [AD]
variable {U:An} {W:Wd} {s:St} {Q:St->Prop}
abbrev LF:=List (E×Int)
def Eg(l:LF)(U:An):Int:=@List.rec (E×Int) (fun _=>Int) 0 (fun p _ r=>p.2*p.1.den U+r) l
theorem IC{p:E×Int}{l:LF}:Eg (p::l) U=p.2*p.1.den U+Eg l U:=rfl
def Fv(e:E)(c:Int)(l:LF):LF:=@List.rec (E×Int) (fun _=>LF) [(e,c)] (fun p t r=>@Bool.rec (fun _=>LF) (p::r) ((p.1,Aau p.2 c)::t) (E.AJ p.1 e)) l
theorem Cn{e:E}{c:Int}:∀{l:LF},Eg (Fv e c l) U=c*e.den U+Eg l U:=by
 intro l
 induction l with
 |nil=>rfl
 |cons p t ih=>
  show Eg (@Bool.rec (fun _=>LF) (p::Fv e c t) ((p.1,Aau p.2 c)::t) (E.AJ p.1 e)) U=_;cases hb:E.AJ p.1 e with
  |false=>rw[IC,IC,ih];omega
  |true=>
   rw[IC,IC];have e1:=Eng.Ac hb;subst e1;show Aau p.2 c*p.1.den U+Eg t U=c*p.1.den U+(p.2*p.1.den U+Eg t U);rw[V7,Int.add_mul];omega
def Aar(l:List E3)(a b e:E):Bool:=l.any fun p=>E.AJ p.1 a&&(E.AJ p.2.1 b&&E.AJ p.2.2 e)
theorem Ya{l:List E3}{a b e:E}(h:Aar l a b e=true):(a,b,e)∈l:=by
 obtain⟨p,hp,hb⟩:=List.any_eq_true.1 h;simp only[Ah]at hb;obtain⟨x,y,z⟩:=p;rw[<-Eng.Ac hb.1,<-Eng.Ac hb.2.1,<-Eng.Ac hb.2.2];exact hp
def T9(a b:Int):Int:=Int.mul a b
def Oi(a:Int):Int:=Int.neg a
def DL(su di:List E3)(e:E)(c:Int)(acc:LF):LF:=match e with
 |.lit n=>Fv (.lit 1) (T9 c n) acc
 |.bin .add .i64 a b=>@Bool.rec (fun _=>LF) (Fv (.bin .add .i64 a b) c acc) (DL su di a c (DL su di b c acc)) (Aar su a b (.bin .add .i64 a b))
 |.bin .sub .i64 a b=>@Bool.rec (fun _=>LF) (Fv (.bin .sub .i64 a b) c acc) (DL su di a c (DL su di b (Oi c) acc)) (Aar di a b (.bin .sub .i64 a b))
 |e=>Fv e c acc
theorem Ex{su di:List E3}(hs:Al (fun p=>p.2.2.den U=p.1.den U+p.2.1.den U) su)(hd:Al (fun p=>p.2.2.den U=p.1.den U-p.2.1.den U) di):∀(e:E) (c:Int) (acc:LF),Eg (DL su di e c acc) U=c*e.den U+Eg acc U:=by
 intro e
 induction e with
 |lit n=>
  intro c acc;show Eg (Fv (.lit 1) (c*n) acc) U=c*n+Eg acc U;rw[Cn];show (c*n)*1+Eg acc U=c*n+Eg acc U;rw[Int.mul_one]
 |var i=>intro c acc;exact Cn
 |conv k a _=>intro c acc;exact Cn
 |cell t a k _=>intro c acc;exact Cn
 |Bd t a k _=>intro c acc;exact Cn
 |bin o k a b iha ihb=>
  intro c acc;have key1:Eg (@Bool.rec (fun _=>LF) (Fv (.bin .add .i64 a b) c acc) (DL su di a c (DL su di b c acc)) (Aar su a b (.bin .add .i64 a b))) U=c*(E.bin .add .i64 a b).den U+Eg acc U:=by
   cases hb:Aar su a b (.bin .add .i64 a b) with
   |false=>exact Cn
   |true=>
    show Eg (DL su di a c (DL su di b c acc)) U=_;have h0:(E.bin .add .i64 a b).den U=a.den U+b.den U:=hs.mem _ (Ya hb);rw[iha,ihb,h0,Int.mul_add];omega
  have key2:Eg (@Bool.rec (fun _=>LF) (Fv (.bin .sub .i64 a b) c acc) (DL su di a c (DL su di b (Oi c) acc)) (Aar di a b (.bin .sub .i64 a b))) U=c*(E.bin .sub .i64 a b).den U+Eg acc U:=by
   cases hb:Aar di a b (.bin .sub .i64 a b) with
   |false=>exact Cn
   |true=>
    show Eg (DL su di a c (DL su di b (Oi c) acc)) U=_;have h0:(E.bin .sub .i64 a b).den U=a.den U-b.den U:=hd.mem _ (Ya hb);rw[iha,ihb,h0,Int.mul_sub];show c*a.den U+((-c)*b.den U+Eg acc U)=_;rw[Int.neg_mul];omega
  cases o with
  |add=>cases k<;>first|exact key1|exact Cn
  |sub=>cases k<;>first|exact key2|exact Cn
  |_=>cases k<;>exact Cn
inductive Amd where
 |ge (p m:E) (k:Int)
 |eq (p m:E)
 |no
def Ac4(f:CF):Amd:=match f.op,f.r with
 |.lss,true=>.ge f.y f.x (-1)
 |.lss,false=>.ge f.x f.y 0
 |.leq,true=>.ge f.y f.x 0
 |.leq,false=>.ge f.x f.y (-1)
 |.gtr,true=>.ge f.x f.y (-1)
 |.gtr,false=>.ge f.y f.x 0
 |.geq,true=>.ge f.x f.y 0
 |.geq,false=>.ge f.y f.x (-1)
 |.eql,true=>.eq f.x f.y
 |.neq,false=>.eq f.x f.y
 |_,_=>.no
def Amd.ok(s:Amd)(U:An):Prop:=match s with |.ge p m k=>0<=p.den U-m.den U+k|.eq p m=>p.den U=m.den U|.no=>True
theorem Ahz{f:CF}(h:A2 U f):(Ac4 f).ok U:=by
 obtain⟨op,x,y,r⟩:=f
 match op,r,h with
 |.lss,true,h=>have:=RY h;show 0<=y.den U-x.den U+(-1:Int);omega
 |.lss,false,h=>have:=ltF h;show 0<=x.den U-y.den U+(0:Int);omega
 |.leq,true,h=>have:=Ig h;show 0<=y.den U-x.den U+(0:Int);omega
 |.leq,false,h=>have:=leF h;show 0<=x.den U-y.den U+(-1:Int);omega
 |.gtr,true,h=>have:=gtT h;show 0<=x.den U-y.den U+(-1:Int);omega
 |.gtr,false,h=>have:=gtF h;show 0<=y.den U-x.den U+(0:Int);omega
 |.geq,true,h=>have:=H2 h;show 0<=x.den U-y.den U+(0:Int);omega
 |.geq,false,h=>have:=geF h;show 0<=y.den U-x.den U+(-1:Int);omega
 |.eql,true,h=>exact Jj h
 |.neq,false,h=>exact neF h
 |.eql,false,_=>trivial
 |.neq,true,_=>trivial
 |.add,_,_=>trivial
 |.sub,_,_=>trivial
 |.mul,_,_=>trivial
 |.quo,_,_=>trivial
 |.rem,_,_=>trivial
 |.and,_,_=>trivial
 |.or,_,_=>trivial
 |.xor,_,_=>trivial
 |.shl,_,_=>trivial
 |.shr,_,_=>trivial
 |.andNot,_,_=>trivial
def inn(c:Int):Bool:=match c with |.ofNat _=>true|_=>false
theorem Anq{c:Int}(h:inn c=true):0<=c:=by cases c with |ofNat n=>exact Int.natCast_nonneg n|negSucc n=>cases h
def Aiy(su di:List E3)(f:CF)(c:Int)(acc:LF):LF:=match Ac4 f with
 |.ge p m k=>@Bool.rec (fun _=>LF) acc (DL su di p c (DL su di m (Oi c) (Fv (.lit 1) (T9 c k) acc))) (inn c)
 |.eq p m=>DL su di p c (DL su di m (Oi c) acc)
 |.no=>acc
theorem Aiz{su di:List E3}(hs:Al (fun p=>p.2.2.den U=p.1.den U+p.2.1.den U) su)(hd:Al (fun p=>p.2.2.den U=p.1.den U-p.2.1.den U) di){f:CF}(h:A2 U f){c:Int}{acc:LF}(ha:0<=Eg acc U):0<=Eg (Aiy su di f c acc) U:=by
 have h0:=Ahz h;unfold Aiy;cases hf:Ac4 f with
 |no=>exact ha
 |eq p m=>
  rw[hf]at h0;have h0:p.den U=m.den U:=h0;show 0<=Eg (DL su di p c (DL su di m (Oi c) acc)) U;rw[Ex hs hd,Ex hs hd,h0];show 0<=c*m.den U+((-c)*m.den U+Eg acc U);rw[Int.neg_mul];omega
 |ge p m k=>
  rw[hf]at h0;have h0:0<=p.den U-m.den U+k:=h0;show 0<=Eg (@Bool.rec (fun _=>LF) acc (DL su di p c (DL su di m (Oi c) (Fv (.lit 1) (T9 c k) acc))) (inn c)) U;cases hc:inn c with
  |false=>exact ha
  |true=>
   have hc:=Anq hc;show 0<=Eg (DL su di p c (DL su di m (Oi c) (Fv (.lit 1) (T9 c k) acc))) U;rw[Ex hs hd,Ex hs hd,Cn];show 0<=c*p.den U+((-c)*m.den U+((c*k)*1+Eg acc U));have:=Int.mul_nonneg hc h0;rw[Int.mul_add,Int.mul_sub]at this;rw[Int.neg_mul,Int.mul_one];omega
def cert(su di:List E3)(cf:List CF)(l:List (Nat×Int))(acc:LF):LF:=@List.rec (Nat×Int) (fun _=>LF) acc (fun p _ r=>match cf[p.1]? with |some f=>Aiy su di f p.2 r|none=>r) l
theorem Vl{su di:List E3}{cf:List CF}(hs:Al (fun p=>p.2.2.den U=p.1.den U+p.2.1.den U) su)(hd:Al (fun p=>p.2.2.den U=p.1.den U-p.2.1.den U) di)(hc:Al (A2 U) cf){acc:LF}(ha:0<=Eg acc U):∀l,0<=Eg (cert su di cf l acc) U:=by
 intro l
 induction l with
 |nil=>exact ha
 |cons p l ih=>
  show 0<=Eg (match cf[p.1]? with |some f=>Aiy su di f p.2 (cert su di cf l acc)|none=>cert su di cf l acc) U;cases hf:cf[p.1]? with
  |none=>exact ih
  |some f=>exact Aiz hs hd (hc.mem _ (Oj hf)) ih
def isNeg(l:LF):Bool:=l.all (fun p=>BX p.2 0||(E.AJ p.1 (.lit 1)&&Ev p.2 0))&&l.any fun p=>E.AJ p.1 (.lit 1)&&Ev p.2 0
theorem Jq{a b:Int}(h:Ev a b=true):a<b:=by rw[Ie]at h;exact of_decide_eq_true h
theorem RN:∀{l:LF},(l.all (fun p=>BX p.2 0||(E.AJ p.1 (.lit 1)&&Ev p.2 0)))=true->Eg l U<=0/\((l.any fun p=>E.AJ p.1 (.lit 1)&&Ev p.2 0)=true->Eg l U<0):=by
 intro l
 induction l with
 |nil=>intro _;exact⟨Int.le_refl _,fun h=>nomatch h⟩
 |cons p l ih=>
  intro h;simp only[List.all_cons,Ah]at h;obtain⟨h1,h2⟩:=ih h.2;have hp:p.2*p.1.den U<=0/\((E.AJ p.1 (.lit 1)&&Ev p.2 0)=true->p.2*p.1.den U<0):=by
   constructor
   ·rcases Bool.or_eq_true _ _▸h.1 with h0|h0
    ·rw[BC]at h0;rw[eq_of_beq h0,Int.zero_mul];exact Int.le_refl _
    ·rw[Ah]at h0;rw[Eng.Ac h0.1];show p.2*1<=0;have:=Jq h0.2;omega
   ·intro h0;rw[Ah]at h0;rw[Eng.Ac h0.1];show p.2*1<0;have:=Jq h0.2;omega
  rw[IC];refine⟨by omega,fun hany=>?_⟩;rw[List.any_cons,Bool.or_eq_true]at hany;rcases hany with h0|h0
  ·have:=hp.2 h0;omega
  ·have:=h2 h0;omega
def Tz(s:St)(l:List (Nat×Int))(p m:E)(k:Int)(g:Int):Bool:=Ev 0 g&&isNeg (cert s.BD s.BB s.cf l (DL s.BD s.BB m g (DL s.BD s.BB p (Oi g) (Fv (.lit 1) (T9 g (Int.sub (Int.neg k) 1)) []))))
theorem Ff(h:s.ok W U){l:List (Nat×Int)}{p m:E}{k g:Int}(hb:Tz s l p m k g=true):0<=p.den U-m.den U+k:=by
 unfold Tz at hb;rw[Ah]at hb;have hg:=Jq hb.1;apply Classical.byContradiction;intro hn;have hn:0<=m.den U-p.den U-k-1:=by omega
 unfold isNeg at hb;rw[Ah]at hb;have Au:=(RN (U:=U) hb.2.1).2 hb.2.2;have K8:=Vl (U:=U) h.BD h.BB h.cf (acc:=DL s.BD s.BB m g (DL s.BD s.BB p (Oi g) (Fv (.lit 1) (T9 g (Int.sub (Int.neg k) 1)) []))) (by
  rw[Ex h.BD h.BB,Ex h.BD h.BB,Cn];show 0<=g*m.den U+((-g)*p.den U+((g*(-k-1))*1+0));have:=Int.mul_nonneg (Int.le_of_lt hg) hn;rw[Int.mul_sub,Int.mul_sub,Int.mul_sub]at this;rw[Int.neg_mul,Int.mul_one,Int.mul_sub,Int.mul_neg];omega) l
 omega
def An7(s:St)(f:CF)(l:List (Nat×Int))(g:Int)(l2:List (Nat×Int))(g2:Int):Bool:=match Ac4 f with
 |.ge p m k=>Tz s l p m k g
 |.eq p m=>Tz s l p m 0 g&&Tz s l2 m p 0 g2
 |.no=>Yc f.op&&(C3 f.r&&(Tz s l f.x f.y (-1) g||Tz s l f.y f.x (-1) g))
theorem Ard{f:CF}{l:List (Nat×Int)}{g:Int}{l2:List (Nat×Int)}{g2:Int}(h:s.ok W U)(hb:An7 s f l g l2 g2=true):A2 U f:=by
 obtain⟨op,x,y,r⟩:=f
 match op,r,hb with
 |.lss,true,hb=>have:=Ff h (show Tz s l y x (-1) g=true from hb);exact Yr (by omega)
 |.lss,false,hb=>have:=Ff h (show Tz s l x y 0 g=true from hb);exact AuG (by omega)
 |.leq,true,hb=>have:=Ff h (show Tz s l y x 0 g=true from hb);exact Hg (by omega)
 |.leq,false,hb=>have:=Ff h (show Tz s l x y (-1) g=true from hb);exact AuF (by omega)
 |.gtr,true,hb=>have:=Ff h (show Tz s l x y (-1) g=true from hb);exact AuE (by omega)
 |.gtr,false,hb=>have:=Ff h (show Tz s l y x 0 g=true from hb);exact AuD (by omega)
 |.geq,true,hb=>have:=Ff h (show Tz s l x y 0 g=true from hb);exact FN (by omega)
 |.geq,false,hb=>have:=Ff h (show Tz s l y x (-1) g=true from hb);exact AuC (by omega)
 |.eql,true,hb=>
  have hb:(Tz s l x y 0 g&&Tz s l2 y x 0 g2)=true:=hb;rw[Ah]at hb;have h1:=Ff h hb.1;have h2:=Ff h hb.2;exact AnH (by omega)
 |.neq,false,hb=>
  have hb:(Tz s l x y 0 g&&Tz s l2 y x 0 g2)=true:=hb;rw[Ah]at hb;have h1:=Ff h hb.1;have h2:=Ff h hb.2;exact AuH (by omega)
 |.eql,false,hb=>
  have hb:(Tz s l x y (-1) g||Tz s l y x (-1) g)=true:=hb;rw[Bool.or_eq_true]at hb;rcases hb with b3|b3
  ·have:=Ff h b3;exact Arm (by omega)
  ·have:=Ff h b3;exact Arm (by omega)
 |.neq,true,hb=>exact Bool.noConfusion (show false=true from hb)
 |.add,_,hb=>exact Bool.noConfusion (show false=true from hb)
 |.sub,_,hb=>exact Bool.noConfusion (show false=true from hb)
 |.mul,_,hb=>exact Bool.noConfusion (show false=true from hb)
 |.quo,_,hb=>exact Bool.noConfusion (show false=true from hb)
 |.rem,_,hb=>exact Bool.noConfusion (show false=true from hb)
 |.and,_,hb=>exact Bool.noConfusion (show false=true from hb)
 |.or,_,hb=>exact Bool.noConfusion (show false=true from hb)
 |.xor,_,hb=>exact Bool.noConfusion (show false=true from hb)
 |.shl,_,hb=>exact Bool.noConfusion (show false=true from hb)
 |.shr,_,hb=>exact Bool.noConfusion (show false=true from hb)
 |.andNot,_,hb=>exact Bool.noConfusion (show false=true from hb)
theorem Au9{l:List (Nat×Int)}(h:s.ok W U)(hb:isNeg (cert s.BD s.BB s.cf l [])=true):False:=by
 unfold isNeg at hb;rw[Ah]at hb;have Au:=(RN (U:=U) hb.1).2 hb.2;have K8:=Vl (U:=U) h.BD h.BB h.cf (acc:=[]) (Int.le_refl _) l;omega
def Ao7(s:St)(a b:E)(l l2:List (Nat×Int))(g g2:Int):Bool:=
 (Ev 0 g&&isNeg (cert s.BD s.BB s.cf l (DL s.BD s.BB a g (DL s.BD s.BB b g (Fv (.lit 1) (T9 g (-9223372036854775808)) [])))))&&
 (Ev 0 g2&&isNeg (cert s.BD s.BB s.cf l2 (DL s.BD s.BB a (Oi g2) (DL s.BD s.BB b (Oi g2) (Fv (.lit 1) (T9 g2 (-9223372036854775809)) [])))))
theorem Abp(h:s.ok W U){l:List (Nat×Int)}{acc:LF}(hb:isNeg (cert s.BD s.BB s.cf l acc)=true):Eg acc U<0:=by
 apply Classical.byContradiction;intro hn;unfold isNeg at hb;rw[Ah]at hb;have Au:=(RN (U:=U) hb.1).2 hb.2;have K8:=Vl (U:=U) h.BD h.BB h.cf (acc:=acc) (by omega) l;omega
theorem AA.Avl(a b:E)(l l2:List (Nat×Int))(g g2:Int)(hb:Ao7 s a b l l2 g g2=true)(t:AA W {s with BD:=(a,b,.bin .add .i64 a b)::s.BD} Q):AA W s Q:=by
 refine AA.sum a b (.bin .add .i64 a b) (fun U h=>?_) t;unfold Ao7 at hb;simp only[Ah]at hb;obtain⟨⟨b1,b2⟩,b3,b4⟩:=hb;have g1:=Jq b1;have g3:=Jq b3;have c1:=Abp h b2;have c2:=Abp h b4;rw[Ex h.BD h.BB,Ex h.BD h.BB,Cn]at c1 c2;have c1:g*a.den U+(g*b.den U+((g*(-9223372036854775808))*1+0))<0:=c1;have c2:(-g2)*a.den U+((-g2)*b.den U+((g2*(-9223372036854775809))*1+0))<0:=c2;refine Atg ⟨?_,?_⟩
 ·apply Classical.byContradiction;intro hn;have:=Int.mul_nonneg (Int.le_of_lt g3) (show 0<= -9223372036854775809-a.den U-b.den U by omega);rw[Int.mul_sub,Int.mul_sub]at this;rw[Int.neg_mul,Int.neg_mul]at c2;omega
 ·apply Classical.byContradiction;intro hn;have:=Int.mul_nonneg (Int.le_of_lt g1) (show 0<=a.den U+b.den U+(-9223372036854775808) by omega);rw[Int.mul_add,Int.mul_add]at this;omega
def AmC(s:St)(a b:E)(l l2:List (Nat×Int))(g g2:Int):Bool:=
 (Ev 0 g&&isNeg (cert s.BD s.BB s.cf l (DL s.BD s.BB a g (DL s.BD s.BB b (Oi g) (Fv (.lit 1) (T9 g (-9223372036854775808)) [])))))&&
 (Ev 0 g2&&isNeg (cert s.BD s.BB s.cf l2 (DL s.BD s.BB a (Oi g2) (DL s.BD s.BB b g2 (Fv (.lit 1) (T9 g2 (-9223372036854775809)) [])))))
theorem AA.Atm(a b:E)(l l2:List (Nat×Int))(g g2:Int)(hb:AmC s a b l l2 g g2=true)(t:AA W {s with BB:=(a,b,.bin .sub .i64 a b)::s.BB} Q):AA W s Q:=by
 refine AA.dif a b (.bin .sub .i64 a b) (fun U h=>?_) t;unfold AmC at hb;simp only[Ah]at hb;obtain⟨⟨b1,b2⟩,b3,b4⟩:=hb;have g1:=Jq b1;have g3:=Jq b3;have c1:=Abp h b2;have c2:=Abp h b4;rw[Ex h.BD h.BB,Ex h.BD h.BB,Cn]at c1 c2;have c1:g*a.den U+((-g)*b.den U+((g*(-9223372036854775808))*1+0))<0:=c1;have c2:(-g2)*a.den U+(g2*b.den U+((g2*(-9223372036854775809))*1+0))<0:=c2;refine Avj ⟨?_,?_⟩
 ·apply Classical.byContradiction;intro hn;have:=Int.mul_nonneg (Int.le_of_lt g3) (show 0<= -9223372036854775809-a.den U+b.den U by omega);rw[Int.mul_add,Int.mul_sub]at this;rw[Int.neg_mul]at c2;omega
 ·apply Classical.byContradiction;intro hn;have:=Int.mul_nonneg (Int.le_of_lt g1) (show 0<=a.den U-b.den U+(-9223372036854775808) by omega);rw[Int.mul_add,Int.mul_sub]at this;rw[Int.neg_mul]at c1;omega
theorem Ark{T:Sb}{ma mb:E}(b':E)(ha:ma.sub T=ma)(hb:mb.sub T=b')(h1:A2 U ⟨.lss,mb,b',true⟩)(h2:A2 U ⟨.lss,mb,ma,true⟩):(ma.den (T.sig U)-mb.den (T.sig U)).toNat<(ma.den U-mb.den U).toNat:=by
 have h1:=RY h1;have h2:=RY h2;rw[<-E.A3,<-E.A3,ha,hb];omega
theorem Arj{T:Sb}{ma mb:E}(a':E)(ha:ma.sub T=a')(hb:mb.sub T=mb)(h1:A2 U ⟨.lss,a',ma,true⟩)(h2:A2 U ⟨.lss,mb,ma,true⟩):(ma.den (T.sig U)-mb.den (T.sig U)).toNat<(ma.den U-mb.den U).toNat:=by
 have h1:=RY h1;have h2:=RY h2;rw[<-E.A3,<-E.A3,ha,hb];omega
theorem lE{f:CF}(h:s.ok W U)(l:List (Nat×Int))(g:Int)(l2:List (Nat×Int))(g2:Int)(hb:An7 s f l g l2 g2=true):A2 U f:=Ard h hb
end Eng
namespace Eng
open Go Go.RowKit
variable [AD]
variable {P:Program} {C C':AB} {U U':An} {J J' Jq1:A1} {n:Nat} {W:Wd} {Q:St->Prop} {s:St}
def mA1(t:Nat)(e:E)(c:Nat)(k:Ck):A:=match k with |.i k=>.sym k (.Bd t e c)|.b=>.sb (.Bd t e c)|.n=>.B7|.u=>.any|.s=>.any|.p=>.any|.g _=>.any
def Ag4(t:Nat)(e:E):Nat->List Ck->List A:=fun c l=>@List.rec Ck (fun _=>Nat->List A) (fun _=>[]) (fun k _ r c=>mA1 t e c k::r (Nat.succ c)) l c
def noU(k:Ck):Bool:=match k with |.u=>false|.s=>false|.p=>false|.g _=>false|_=>true
theorem AnM{ks:List Ck}(h:ks.all noU=true):ks.all AjN=true:=Bf.2 fun k hk=>by
 have:=Bf.1 h k hk;cases k<;>first|rfl|(cases this;done)
theorem Arh{t:Nat}{e:E}{c:Nat}{k:Ck}(hu:noU k=true){vs:List Value}(hm:U.m t (e.den U)=some (.agg vs.toArray)){v:Value}(hv:vs[c]? =some v)(hk:A9 k v)(J:A1):AR J U (mA1 t e c k) v:=by
 have hn:(E.Bd t e c).den U=numOf v:=by
  show Dm (U.m t (e.den U)) c=numOf v;rw[hm];show (match vs.toArray[c]? with |some v=>numOf v|none=>0)=numOf v;rw[List.getElem?_toArray,hv]
 cases k with
 |i k=>
  obtain⟨z,rfl⟩:=hk;show Value.int k z=.int k ((E.Bd t e c).den U);rw[hn];rfl
 |b=>
  obtain⟨z,rfl⟩:=hk;show Value.bool z=.bool (decide ((E.Bd t e c).den U ≠ 0));rw[hn];cases z<;>rfl
 |n=>exact hk
 |u=>cases hu
 |s=>cases hu
 |p=>cases hu
 |g k=>cases hu
theorem AnD{t:Nat}{e:E}{ks0:List Ck}(hm:∃vs:List Value,U.m t (e.den U)=some (.agg vs.toArray)/\vs.length=ks0.length/\∀c v,vs[c]? =some v->A9 (ks0.getD c .u) v)(hu:ks0.all noU=true)(J:A1):
 ∃u,U.m t (e.den U)=some u/\VR J U (.agg (Ag4 t e 0 ks0)) u:=by
 obtain⟨vs,h1,h2,h3⟩:=hm;refine⟨_,h1,vs,rfl,?_⟩;have key:∀(ks:List Ck) (c:Nat) (ws:List Value),ws.length=ks.length->(∀i,ws[i]? =vs[c+i]?)->(∀i,ks.getD i .u=ks0.getD (c+i) .u)->ks.all noU=true->F2 (AR J U) (Ag4 t e c ks) ws:=by
  intro ks
  induction ks with
  |nil=>intro c ws hl _ _ _;have:=List.eq_nil_of_length_eq_zero (show ws.length=0 from hl);subst this;exact .nil
  |cons k ks ih=>
   intro c ws hl hw hk hu;cases ws with
   |nil=>cases hl
   |cons v ws=>
    simp only[List.all_cons,Ah]at hu;have h0:=hw 0;have hv:vs[c]? =some v:=h0.symm
    refine .cons (Arh hu.1 h1 hv ?_ J) (ih (Nat.succ c) ws (Nat.succ.inj hl) (fun i=>?_) (fun i=>?_) hu.2)
    ·have:=h3 c v hv;have hk0:=hk 0;rw[show ks0.getD c .u=k by rw[show c=c+0 from rfl,<-hk0];rfl]at this;exact this
    ·have:=hw (i+1);rw[show c.succ+i=c+(i+1) by omega,<-this];rfl
    ·have:=hk (i+1);rw[show c.succ+i=c+(i+1) by omega,<-this];rfl
 exact key ks0 0 vs h2 (fun i=>by rw[Nat.zero_add]) (fun i=>by rw[Nat.zero_add]) hu
def mkK(l:List KC)(t:Nat):Option (List Ck):=@List.rec KC (fun _=>Option (List Ck)) none (fun p _ r=>@Bool.rec (fun _=>Option (List Ck)) r (some p.2) (Nat.beq p.1 t)) l
theorem Ag9{t:Nat}{ks:List Ck}:∀{l:List KC},Al (HN U) l->mkK l t=some ks->HN U (t,ks):=by
 intro l h
 induction h with
 |nil=>intro h;cases h
 |cons h0 _ ih=>
  rename_i p l _;intro h;have h':@Bool.rec (fun _=>Option (List Ck)) (mkK l t) (some p.2) (Nat.beq p.1 t)=some ks:=h;cases hb:Nat.beq p.1 t with
  |false=>rw[hb]at h';exact ih h'
  |true=>rw[hb]at h';cases h';rw[<-beq_eq hb];exact h0
def mkB(l:List KC)(t:Nat)(ks:List Ck):Bool:=match mkK l t with |some k=>Av Gt k ks|none=>false
theorem OQ{l:List KC}{t:Nat}{ks:List Ck}(h:mkB l t ks=true)(hl:Al (HN U) l):HN U (t,ks):=by
 unfold mkB at h;split at h
 ·rename_i k hk;rw[<-Ag (fun _ _=>Er) h];exact Ag9 hl hk
 ·cases h
theorem AA.Aua(t:Nat)(e:E)(ks:List Ck)(hl:(mkB s.mp t ks&&(ks.all noU&&(Nat.blt t s.base&&e.lo s.base)))=true)
 (x:AA W {s with DW:=(t,e,none)::s.DW} Q) (y:AA W {s with DW:=(t,e,some (.agg (Ag4 t e 0 ks)))::s.DW} Q):AA W s Q:=by
 intro U hs;simp only[Ah]at hl;obtain⟨l1,l2,l3,l4⟩:=hl;have l3:=AF l3;have step:∀o:Option V,(∀Uq2,Ai s.base U Uq2->Amb Uq2 (t,e,o))->UU W {s with DW:=(t,e,o)::s.DW} U:=by
  intro o ho Uq2 h2;have g:=hs Uq2 h2;exact⟨g.cf,g.rd,g.K,g.hy,g.Kh,g.CI,g.abs,g.BD,g.BB,g.Fy,.cons (ho Uq2 h2) g.DW,g.mp⟩
 cases hm:U.m t (e.den U) with
 |none=>
  refine x U (step none fun Uq2 h2 J=>?_);show Uq2.m t (e.den Uq2)=none;rw[h2.m t l3,E.agree h2 l4];exact hm
 |some u=>
  refine y U (step (some _) fun Uq2 h2 J=>?_);have hm2:Uq2.m t (e.den Uq2)=some u:=by rw[h2.m t l3,E.agree h2 l4];exact hm
  obtain⟨vs,q1,q2,q3⟩:=(MkP.agg (AnM l2)).1 (OQ l1 (hs Uq2 h2).mp _ u hm2).2;exact AnD ⟨vs,by rw[hm2,q1],q2,q3⟩ l2 J
def An.Aow(U:An)(t:Nat)(x:Int->Option Value):An:={U with m:=fun u=>if u=t then x else U.m u}
theorem An.AaN{t:Nat}{x:Int->Option Value}:Ai t U (U.Aow t x):=⟨fun _ _=>rfl,fun _ _=>rfl,fun u hu=>if_neg (by omega),rfl,fun _ _=>rfl,fun _ _=>rfl⟩
def Alx(n:Nat)(o:Option V):Bool:=match o with |some v=>v.lo n|none=>true
theorem V.IL(hg:Ai n U U'){v:V}(hb:v.lo n=true):v.val U'=v.val U:=by
 cases v with
 |one a=>exact A.IL hg hb
 |agg l=>
  show some (Value.agg (l.map fun a=>(a.val U').getD undef).toArray)=some (.agg (l.map fun a=>(a.val U).getD undef).toArray);have hb:l.all (A.lo n)=true:=hb;rw[List.map_congr_left fun a ha=>by rw[A.IL hg (Bf.1 hb a ha)]]
theorem T0(hg:Ai n U U'){z:Int}:∀{l:List (E×Option V)},(l.all fun p=>p.1.lo n)=true->Bp U' z l=Bp U z l:=by
 intro l
 induction l with
 |nil=>intro _;rfl
 |cons p l ih=>
  intro hb;simp only[List.all_cons,Ah]at hb;unfold Bp;rw[E.agree hg hb.1,ih hb.2]
def oVK(rd:List KC)(ks:List Ck)(o:Option V):Bool:=match o with
 |some (.agg l)=>ks.all AjN&&(Nat.beq l.length ks.length&&(List.range l.length).all fun c=>aK rd (ks.getD c .u) (l.getD c .any))
 |some (.one _)=>false
 |none=>true
def Yg(cf:List CF)(p:E×Option V):Bool:=match p.2 with
 |none=>true
 |some _=>(match p.1 with |.lit z=>decide (0<=z)&&decide (z<65536)|_=>false)||((cf.any fun f=>Ep f ⟨.geq,p.1,.lit 0,true⟩)&&cf.any fun f=>Ep f ⟨.lss,p.1,.lit 65536,true⟩)
theorem Agi{cf:List CF}{p:E×Option V}{v:V}(h:Al (A2 U) cf)(e:p.2=some v)(hk:Yg cf p=true):0<=p.1.den U/\p.1.den U<65536:=by
 unfold Yg at hk;rw[e]at hk;have hk:((match p.1 with |.lit z=>decide (0<=z)&&decide (z<65536)|_=>false)||((cf.any fun f=>Ep f ⟨.geq,p.1,.lit 0,true⟩)&&cf.any fun f=>Ep f ⟨.lss,p.1,.lit 65536,true⟩))=true:=hk;rw[Bool.or_eq_true]at hk;rcases hk with hk|hk
 ·obtain⟨p1,p2⟩:=p;cases p1 with
  |lit z=>
   have hk:(decide (0<=z)&&decide (z<65536))=true:=hk;rw[Ah,decide_eq_true_eq,decide_eq_true_eq]at hk;exact hk
  |_=>cases hk
 ·rw[Ah]at hk;obtain⟨f,hf,e1⟩:=List.any_eq_true.1 hk.1;obtain⟨g,hg,e2⟩:=List.any_eq_true.1 hk.2;have h1:=h.mem f hf;have h2:=h.mem g hg;rw[Cr e1]at h1;rw[Cr e2]at h2;exact⟨of_decide_eq_true h1,of_decide_eq_true h2⟩
theorem Yn{z:Int}{o:Option V}:∀{l:List (E×Option V)},Bp U z l=some o->∃p∈l,p.2=o/\p.1.den U=z:=by
 intro l
 induction l with
 |nil=>intro h;cases h
 |cons p l ih=>
  intro h;unfold Bp at h;split at h
  ·rename_i e;cases h;exact⟨p,GU,rfl,e⟩
  ·obtain⟨q,h1,h2⟩:=ih h;exact⟨q,Gq _ h1,h2⟩
theorem AA.AeB(ks:List Ck)(t:Nat)(kn:List (E×Option V))(hl:(mkB s.mp t ks&&(Nat.blt t s.base&&kn.all fun p=>p.1.lo s.base&&(Alx s.base p.2&&(NL p.2&&(oVK s.rd ks p.2&&Yg s.cf p)))))=true)
 (x:AA W {s with base:=s.base+1,Fy:=⟨t,kn,s.base⟩::s.Fy,mp:=(s.base,ks)::s.mp} Q):AA W s Q:=by
 intro U hs;simp only[Ah]at hl;obtain⟨l0,l1,l2⟩:=hl;have l1:=AF l1;have l2:=fun p hp=>Bf.1 l2 p hp
 simp only[Ah]at l2;have l3:(kn.all fun p=>p.1.lo s.base)=true:=Bf.2 fun p hp=>(l2 p hp).1
 have h1:Ai s.base U (U.Aow s.base fun z=>match Bp U z kn with |some (some v)=>v.val U|some none=>none|none=>U.m t z):=An.AaN;have hx:UU W {s with base:=s.base+1,Fy:=⟨t,kn,s.base⟩::s.Fy,mp:=(s.base,ks)::s.mp} (U.Aow s.base fun z=>match Bp U z kn with |some (some v)=>v.val U|some none=>none|none=>U.m t z):=by
  intro Uq2 g2;have g2:Ai (s.base+1) _ Uq2:=g2;have g3:=h1.trans (g2.le (Nat.le_add_right _ _));have g:=hs Uq2 g3;have I8:∀z,Uq2.m s.base z=match Bp Uq2 z kn with |some (some v)=>v.val Uq2|some none=>none|none=>Uq2.m t z:=by
   intro z;rw[g2.m s.base (by omega),T0 g3 l3,g3.m t l1];show (if s.base=s.base then _ else _:Int->Option Value) z=_;rw[if_pos rfl];cases hk:Bp U z kn with
   |none=>rfl
   |some o=>
    cases o with
    |none=>rfl
    |some v=>
     obtain⟨p,hp,e⟩:=FL hk;have:=(l2 p hp).2.1;rw[e]at this;exact (V.IL g3 this).symm
  refine⟨g.cf,g.rd,g.K,g.hy,g.Kh,g.CI,g.abs,g.BD,g.BB,.cons ⟨Bf.2 fun p hp=>(l2 p hp).2.2.1,I8⟩ g.Fy,g.DW,.cons ?_ g.mp⟩;intro z u hu;have hu:Uq2.m s.base z=some u:=hu;rw[I8 z]at hu;cases hk:Bp Uq2 z kn with
  |none=>rw[hk]at hu;exact OQ l0 g.mp z u hu
  |some o=>
   rw[hk]at hu;cases o with
   |none=>cases hu
   |some v=>
    obtain⟨p,hp,e,ez⟩:=Yn hk;have hv:=(l2 p hp).2.2.2.1;have hz:=Agi g.cf e (show Yg s.cf p=true from (l2 p hp).2.2.2.2);rw[ez]at hz;rw[e]at hv;cases v with
    |one a=>cases hv
    |agg l=>
     have hv:(ks.all AjN&&(Nat.beq l.length ks.length&&(List.range l.length).all fun c=>aK s.rd (ks.getD c .u) (l.getD c .any)))=true:=hv;rw[Ah,Ah]at hv;obtain⟨OI,hv⟩:=hv;have hu:some (Value.agg (l.map fun a=>(a.val Uq2).getD undef).toArray)=some u:=hu;cases hu;refine⟨hz,(MkP.agg OI).2 ⟨_,rfl,by rw[List.length_map];exact beq_eq hv.1,fun c v hc=>?_⟩⟩;rw[List.getElem?_map]at hc;cases hl:l[c]? with
     |none=>rw[hl]at hc;cases hc
     |some a=>
      rw[hl]at hc;cases hc;have Au:=(Oq.1 hl).1;have:=Bf.1 hv.2 c (List.mem_range.2 Au);rw[show l.getD c .any=a by rw[Iw,hl];rfl]at this;exact AkF g.rd this
 obtain⟨s',Uq3,q1,q2,q3⟩:=x _ hx;exact⟨s',Uq3,q1,h1.trans (Ai.le (show s.base<=s.base+1 from Nat.le_add_right _ _) q2),q3⟩
end Eng
namespace Eng
open Go Go.RowKit
variable [AD]
variable {P:Program} {C C':AB} {U U':An} {J J' Jq1:A1} {n:Nat} {W:Wd} {Q:St->Prop} {s:St}
def Vk(h:H)(b i:Nat):Bool:=match h.get b with |some (.cells c n _ none)=>(match T.get c i with |some .B7=>Nat.blt i n|_=>false)|_=>false
def Hb(h:H)(b i:Nat)(a:A):H:=match h.get b with |some (.cells c n f none)=>⟨T.set h.1 b (.cells (T.set c i a) n f none),h.2⟩|_=>h
def phC(es tag b i:Nat)(h:H):H:=phH es tag (Hb h b i (.C2 h.2 es (.lit 0)))
def Ar7(b i es tag:Nat)(s:HU):HU:=⟨fun fr h=>Vk h b i&&s.start fr (phC es tag b i h),s.run,fun fr h=>s.fin fr (phC es tag b i h)⟩
theorem Lw.phC{b i es tag:Nat}{s:HU}(hs:Lw P C U s):Lw P C U (Ar7 b i es tag s):=by
 intro fr h BN X c AM J w a bb hb hr hf;have OH:(Vk h b i&&s.start fr (Eng.phC es tag b i h))=true:=BN;rw[Ah]at OH;obtain⟨h1,h2⟩:=OH;unfold Vk at h1;split at h1
 ·rename_i cc n f hg;split at h1
  ·rename_i hc;have hset:Hb h b i (.C2 h.2 es (.lit 0))=⟨T.set h.1 b (.cells (T.set cc i (.C2 h.2 es (.lit 0))) n f none),h.2⟩:=by unfold Hb;rw[hg]
   have Bl:∀b' x,(Hb h b i (.C2 h.2 es (.lit 0))).get b'=some x->(b'=b/\x=.cells (T.set cc i (.C2 h.2 es (.lit 0))) n f none)\/h.get b'=some x:=by
    intro b' x hx;rw[hset]at hx;rcases T.DT (show T.get (T.set h.1 b (.cells (T.set cc i (.C2 h.2 es (.lit 0))) n f none)) b'=some x from hx) with ⟨e1,e2⟩|⟨_,e⟩
    ·exact .inl ⟨e1,e2⟩
    ·exact .inr e
   have Dk:∀b',Live (Hb h b i (.C2 h.2 es (.lit 0))) b'->Live h b':=by
    intro b' ⟨x,hx,hd⟩;rcases Bl b' x hx with ⟨e1,e2⟩|e
    ·rw[e1];exact⟨_,hg,fun e=>nomatch e⟩
    ·exact⟨x,e,hd⟩
   have hn:(Hb h b i (.C2 h.2 es (.lit 0))).next=h.next:=by rw[hset]
   have ES:=hr.Am.step (J':=J) (h':=Hb h b i (.C2 h.2 es (.lit 0))) (w':=w) (fun b' t hx=>by
    rcases Bl b' _ hx with ⟨_,e2⟩|e
    ·exact Aj.noConfusion e2
    ·exact e) (fun _ _=>rfl) fun b r S hb=>.inl ⟨b,S,hb⟩
   have Ic:Rel J U C (Hb h b i (.C2 h.2 es (.lit 0))) w:=by
    refine⟨fun b' r S AS=>by rw[hn];exact hr.lt b' r S AS,?_,?_,hr.kept,ES.1⟩
    ·intro b' r S AS;obtain⟨o,ho,hx⟩:=hr.AE b' r S AS;refine⟨o,ho,fun x hx'=>?_⟩;rcases Bl b' x hx' with ⟨e1,e2⟩|e
     ·subst e1;rw[e2];obtain⟨cs,el,q1,q2,q3,q4,q5⟩:=hx _ hg;refine⟨cs,el,q1,q2,q3,q4,fun j a' hj ha=>?_⟩;rcases T.DT ha with ⟨e3,e4⟩|⟨_,e4⟩
      ·subst e3;rw[e4];obtain⟨v,u1,u2⟩:=q5 j _ hj hc;have u2:v=.slice none 0 0:=u2;exact⟨v,u1,none,0,0,u2,rfl,.inl ⟨rfl,rfl,rfl⟩⟩
      ·exact q5 j a' hj e4
     ·exact hx x e
    ·intro b1 b2 r S S' q1 q2 l1 l2;rcases hr.inj b1 b2 r S S' q1 q2 (Dk b1 l1) (Dk b2 l2) with e|⟨c1,m1,f1,e⟩
     ·exact .inl e
     ·right;obtain⟨x,hx,_⟩:=l1;rcases Bl b1 x hx with ⟨e1,_⟩|e2
      ·rw[e1,hg]at e;cases e
      ·rw[e]at e2;cases e2;exact⟨c1,m1,f1,hx⟩
   have Qa:Ext U J J h (Hb h b i (.C2 h.2 es (.lit 0))) w w:=
    ⟨Nat.le_of_eq hn.symm,fun _ _=>rfl,fun b' r S K8 AS=>by have:=hr.lt b' r S AS;omega,Nat.le_refl _,fun b' _ hl=>Dk b' hl,fun _ _ _ _=>rfl,ES.2 _,rfl,rfl,rfl,fun _ _=>rfl⟩
   obtain⟨g1,g2⟩:=Ic.QE (.row tag es (.lit 0) []);exact (hs _ _ h2 X c AM J w a bb hb g1 hf).mono fun a' w' ⟨J',q2,q3,q4⟩=>⟨J',q2,q3,Qa.trans hr Ic (g2.trans Ic g1 q4)⟩
  ·cases h1
 ·cases h1
def Ahc(ph:List (Nat×Nat×Nat×Nat))(s:HU):HU:=@List.rec (Nat×Nat×Nat×Nat) (fun _=>HU) s (fun p _ r=>Ar7 p.1 p.2.1 p.2.2.1 p.2.2.2 r) ph
theorem Lw.Ahc{s:HU}(hs:Lw P C U s):∀ph,Lw P C U (Ahc ph s):=by
 intro ph
 induction ph with
 |nil=>exact hs
 |cons p ph ih=>exact Lw.phC ih
theorem AA.Aof(f:HU->HU)(hf:∀(P:Program) (C:AB) (U:An) (x:HU),Lw P C U x->Lw P C U (f x)){p:LpF}{l:List LpF}(hl:s.Kh=p::l)(x:AA W {s with Kh:=(p.1,p.2.1,f p.2.2)::l} Q):AA W s Q:=by
 intro U hs;refine x U fun Uq2 h2=>?_
 have g:=hs Uq2 h2;have gl:=g.Kh;rw[hl]at gl;refine⟨g.cf,g.rd,g.K,g.hy,?_,g.CI,g.abs,g.BD,g.BB,g.Fy,g.DW,g.mp⟩;cases gl with
 |cons h0 h1=>exact .cons (fun C hC=>hf W.P C Uq2 _ (h0 C hC)) h1
end Eng
namespace Eng
open Go Go.RowKit
variable [AD]
variable {P:Program} {C C':AB} {U U':An} {J J' Jq1:A1} {n:Nat} {W:Wd} {Q:St->Prop} {s:St}
def ckD(k:Ck):Value:=match k with |.i k=>.int k 0 |.b=>.bool false|_=>.slice none 0 0
theorem O2{k:Ck}:A9 k (ckD k):=by
 cases k with
 |i k=>exact⟨0,rfl⟩
 |b=>exact⟨false,rfl⟩
 |_=>first|rfl|trivial
def rowOf(cs:Array Value)(ks:List Ck)(N:Nat)(j c:Nat):Value:=if j<N/\c<ks.length then cs.getD (j*ks.length+c) undef else ckD (ks.getD c .u)
def An.Ah4(U:An)(t:Nat)(z:Int)(x:Nat->Nat->Value):An:={U with v:=fun u=>if u=t then z else U.v u,r:=fun u=>if u=t then x else U.r u}
theorem An.YY{t:Nat}{z:Int}{x:Nat->Nat->Value}:Ai t U (U.Ah4 t z x):=⟨fun _ h=>if_neg (by omega),fun u hu=>if_neg (by omega),fun _ _=>rfl,rfl,fun _ _=>rfl,fun _ _=>rfl⟩
theorem S7{k:Nat->Option Obj}{ks:List Ck}{r N:Nat}{cs:Array Value}{ty:TypeId}(h:∀j c,j<N->c<ks.length->∃u,cs[j*ks.length+c]? =some u/\u.oneCell'=true/\A9 (ks.getD c .u) u)(j c:Nat):A9 (ks.getD c .u) (rowOf cs ks N j c):=by
 unfold rowOf;split
 ·rename_i hc;obtain⟨u,h1,_,h3⟩:=h j c hc.1 hc.2;rw[Array.getD_eq_getD_getElem?,h1];exact h3
 ·exact O2
theorem NY{ks:List Ck}{N:Nat}{cs:Array Value}{j c:Nat}{u:Value}(hj:j<N)(hc:c<ks.length)(h:cs[j*ks.length+c]? =some u):rowOf cs ks N j c=u:=by
 unfold rowOf;rw[if_pos ⟨hj,hc⟩,Array.getD_eq_getD_getElem?,h];rfl
theorem Aez.row{Uq2:An}{ks:List Ck}{r N:Nat}{cs:Array Value}{ty:TypeId}(h1:Uq2.k r=some (.cells cs ty (0,0)))(h2:N*ks.length<=cs.size)(h3:∀j c,j<N->c<ks.length->∃u,cs[j*ks.length+c]? =some u/\u.oneCell'=true/\A9 (ks.getD c .u) u)
 {t:Nat} (h4:Uq2.r t=rowOf cs ks N):WK Uq2 r 0 t ks.length N:=by
 refine⟨cs,ty,_,h1,by rw[Nat.zero_add];exact h2,fun j c hj hc=>?_⟩;obtain⟨u,g1,g2,_⟩:=h3 j c hj hc;exact⟨u,by rw[Nat.zero_add];exact g1,by rw[h4];exact (NY hj hc g1).symm,g2⟩
theorem AA.AtZ(t:Nat)(e:E)(ks:List Ck)(hn:WA ks=true)(hl:(mkB s.mp t (.s::ks)&&(Nat.blt t s.base&&e.lo s.base))=true)
 (x:AA W {s with DW:=(t,e,none)::s.DW} Q)
 (y:AA W {s with base:=s.base+1,DW:=(t,e,some (.one (.P3 s.base ks.length (.var s.base))))::s.DW,rd:=(s.base,ks)::s.rd,cf:=cG s.base::cM s.base::s.cf} Q):AA W s Q:=by
 intro U hs;simp only[Ah]at hl;obtain⟨l1,l3,l4⟩:=hl;have l3:=AF l3;cases hm:U.m t (e.den U) with
 |none=>
  refine x U ?_;intro Uq2 h2;have g:=hs Uq2 h2;refine⟨g.cf,g.rd,g.K,g.hy,g.Kh,g.CI,g.abs,g.BD,g.BB,g.Fy,.cons (fun J=>?_) g.DW,g.mp⟩;show Uq2.m t (e.den Uq2)=none;rw[h2.m t l3,E.agree h2 l4];exact hm
 |some u=>
  obtain⟨p,N,cap,q1,q0,q2⟩:=(OQ l1 (hs U .refl).mp _ u hm).2;have main:∀(x:Nat->Nat->Value),(∀j c,A9 (ks.getD c .u) (x j c))->(N=0\/∃r,p=some ⟨r,0,none⟩/\∀Uq2:An,Uq2.k=U.k->Uq2.r s.base=x->WK Uq2 r 0 s.base ks.length N)->∃s' U',Q s'/\Ai s.base U U'/\UU W s' U':=by
   intro x hx ET;have h1:Ai s.base U (U.Ah4 s.base N x):=An.YY;have BN:UU W {s with base:=s.base+1,DW:=(t,e,some (.one (.P3 s.base ks.length (.var s.base))))::s.DW,rd:=(s.base,ks)::s.rd,cf:=cG s.base::cM s.base::s.cf} (U.Ah4 s.base N x):=by
    intro Uq2 g2;have g2:Ai (s.base+1) _ Uq2:=g2;have g3:=h1.trans (g2.le (Nat.le_add_right _ _));have g:=hs Uq2 g3;have hv:Uq2.v s.base=(N:Int):=by
     rw[g2.v s.base (by omega)];exact if_pos rfl
    have hr:Uq2.r s.base=x:=by
     rw[g2.r s.base (by omega)];exact if_pos rfl
    refine⟨.cons ?_ (.cons ?_ g.cf),.cons ?_ g.rd,g.K,g.hy,g.Kh,g.CI,g.abs,g.BD,g.BB,g.Fy,.cons ?_ g.DW,g.mp⟩
    ·show decide (Uq2.v s.base>=0)=true;rw[hv];exact decide_eq_true (by omega)
    ·show decide (Uq2.v s.base<=16000)=true;rw[hv];exact decide_eq_true (by omega)
    ·refine⟨fun j c=>?_,Eo hn⟩;show A9 (ks.getD c .u) (Uq2.r s.base j c);rw[hr];exact hx j c
    ·intro J;refine⟨u,by show Uq2.m t (e.den Uq2)=some u;rw[g3.m t l3,E.agree g3 l4];exact hm,p,N,cap,q1,hv.symm,?_⟩;rcases ET with h0|⟨r,h0,h1'⟩
     ·exact .inl h0
     ·exact .inr ⟨r,0,h0,h1' Uq2 (g3.k) hr⟩
   obtain⟨s',Uq3,r1,r2,r3⟩:=y _ BN;exact⟨s',Uq3,r1,h1.trans (Ai.le (show s.base<=s.base+1 from Nat.le_add_right _ _) r2),r3⟩
  rcases q2 with q2|⟨r,q2,cs,ty,q3,q4,q5⟩
  ·exact main (fun _ c=>ckD (ks.getD c .u)) (fun _ _=>O2) (.inl q2)
  ·exact main (rowOf cs ks N) (S7 (k:=U.k) (r:=r) (ty:=ty) q5) (.inr ⟨r,q2,fun Uq2 hk hr=>Aez.row (by rw[hk];exact q3) q4 q5 hr⟩)
theorem AA.Aub(t:Nat)(e:E)(ks:List Ck)(hn:WA ks=true)(hl:(mkB s.mp t (.p::ks)&&(Nat.blt t s.base&&e.lo s.base))=true)
 (x:AA W {s with DW:=(t,e,none)::s.DW} Q)
 (y:AA W {s with base:=s.base+1,DW:=(t,e,some (.one (.NB s.base (.lit 0) ks.length 0)))::s.DW,rd:=(s.base,ks)::s.rd} Q):AA W s Q:=by
 intro U hs;simp only[Ah]at hl;obtain⟨l1,l3,l4⟩:=hl;have l3:=AF l3;cases hm:U.m t (e.den U) with
 |none=>
  refine x U ?_;intro Uq2 h2;have g:=hs Uq2 h2;refine⟨g.cf,g.rd,g.K,g.hy,g.Kh,g.CI,g.abs,g.BD,g.BB,g.Fy,.cons (fun J=>?_) g.DW,g.mp⟩;show Uq2.m t (e.den Uq2)=none;rw[h2.m t l3,E.agree h2 l4];exact hm
 |some u=>
  obtain⟨r,q1,cs,ty,q3,q4,q5⟩:=(OQ l1 (hs U .refl).mp _ u hm).2;have h1:Ai s.base U (U.Wn s.base (rowOf cs ks 1)):=An.JB;have BN:UU W {s with base:=s.base+1,DW:=(t,e,some (.one (.NB s.base (.lit 0) ks.length 0)))::s.DW,rd:=(s.base,ks)::s.rd} (U.Wn s.base (rowOf cs ks 1)):=by
   intro Uq2 g2;have g2:Ai (s.base+1) _ Uq2:=g2;have g3:=h1.trans (g2.le (Nat.le_add_right _ _));have g:=hs Uq2 g3;have hr:Uq2.r s.base=rowOf cs ks 1:=by
    rw[g2.r s.base (by omega)];exact if_pos rfl
   refine⟨g.cf,.cons ?_ g.rd,g.K,g.hy,g.Kh,g.CI,g.abs,g.BD,g.BB,g.Fy,.cons ?_ g.DW,g.mp⟩
   ·refine⟨fun j c=>?_,Eo hn⟩;show A9 (ks.getD c .u) (Uq2.r s.base j c);rw[hr];exact S7 (k:=U.k) (r:=r) (ty:=ty) q5 j c
   ·intro J;refine⟨u,by show Uq2.m t (e.den Uq2)=some u;rw[g3.m t l3,E.agree g3 l4];exact hm,r,0,1,0,by rw[q1,Nat.zero_mul,Nat.zero_add,Nat.zero_add],rfl,by omega,?_⟩;exact Aez.row (by rw[g3.k];exact q3) q4 q5 hr
  obtain⟨s',Uq3,r1,r2,r3⟩:=y _ BN;exact⟨s',Uq3,r1,h1.trans (Ai.le (show s.base<=s.base+1 from Nat.le_add_right _ _) r2),r3⟩
end Eng
namespace Eng
open Go Go.RowKit
variable [AD]
variable {U:An} {W:Wd} {Q:St->Prop} {s:St}
abbrev Ct:=List (Nat×Int)
structure Pf where
 l:Ct:=[]
 g:Int:=1
 l2:Ct:=[]
 g2:Int:=1
abbrev Lg:=List (E×Nat×A)
abbrev Kq:=List (E×Option V)
structure WM where
 v:AV
 AX:List (Nat×Aj)
 n1:Nat
 cf:List CF
 rd:List KC
 mp:List KC
structure Bj where
 f:Nat
 args:List AV
 bl:List (Nat×Aj)
 n:Nat
 np:Nat
 hi:Nat
 cf:List CF
 rd:List KC
 mp:List KC
 nz:List Nat
 outs:List WM
structure LpD where
 f:Nat
 no:Nat
 L:List (Nat×AV)
 bl:List (Nat×Aj)
 n:Nat
 mv:List Nat
 nc:Nat
 nh:Nat
 cf:List CF
 rd:List KC
 mp:List KC
 ma:E
 mb:E
def WM.out(o:WM):Ds:={v:=o.v,AX:=o.AX,n1:=o.n1,cf:=o.cf,rd:=o.rd,mp:=o.mp}
def Bj.Bo(c:Bj):Bq:={f:=c.f,args:=c.args,bl:=c.bl,n:=c.n,np:=c.np,hi:=c.hi,cf:=c.cf,rd:=c.rd,outs:=c.outs.map WM.out,mp:=c.mp,nz:=c.nz}
inductive Tr where
 |nil
 |cons (x y:Tr)
 |test (o:BinOp) (a b:E) (x y:Tr)
 |Zk (t:Nat) (e:E) (c:Nat) (x y:Tr)
 |fact (f:CF) (p:Pf) (x:Tr)
 |sum (a b:E) (p:Pf) (x:Tr)
 |dif (a b:E) (p:Pf) (x:Tr)
 |absurd (l:Ct)
 |AeA (t:Nat) (sp kp:Lg) (x:Tr)
 |AeB (t:Nat) (kn:Kq) (x:Tr)
 |AeX (t:Nat) (n:E) (t2:Nat) (lo m:E) (x:Tr)
 |has (t:Nat) (e:E) (x y:Tr)
 |call (i:Nat) (se:List E) (sr sm sg:List Nat) (ps:List Pf) (x:Tr)
 |loop (i:Nat) (se:List E) (sr sm sg:List Nat) (ph:List (Nat×Nat×Nat)) (phc:List (Nat×Nat×Nat×Nat)) (ps:List Pf) (x:Tr)
 |pick (l:List Nat) (x:Tr)
 |ne (i:Nat) (b:Bool) (p:Pf) (x:Tr)
 |Afb (i j:Nat)
 |done (k:Nat) (ie:List E) (ir im ig:List Nat) (ps:List Pf)
 |way (te:List E) (tr tm tg:List Nat) (ps:List Pf) (p1 p2:Pf)
 |stop
 |key (t:Nat) (e:E) (x:Tr)
 |newRow (ks:List Ck) (x:Tr)
 |Aot (i:Nat) (te:List E) (tr tm:List Nat) (ps:List Pf) (x:Tr)
theorem Al.Cx{α:Type}{p:α->Prop}:∀{l:List α},(∀x∈l,p x)->Al p l:=by
 intro l
 induction l with
 |nil=>intro _;exact .nil
 |cons a l ih=>intro h;exact .cons (h a GU) (ih fun x hx=>h x (Gq _ hx))
def NC(s:St)(f:CF)(p:Pf):Bool:=(s.cf.any fun g=>Ep g f)||An7 s f p.l p.g p.l2 p.g2
theorem Hf{f:CF}{p:Pf}(h:s.ok W U)(hb:NC s f p=true):A2 U f:=by
 unfold NC at hb;rw[Bool.or_eq_true]at hb;rcases hb with hb|hb
 ·obtain⟨g,hg,e⟩:=List.any_eq_true.1 hb;rw[<-Cr e];exact h.cf.mem g hg
 ·exact Ard h hb
def ZK(s:St)(S:Sb):List CF->List Pf->Bool
 | [],_=>true
 |f::l,[]=>(Xe f&&NC s (EG S f) {})&&ZK s S l []
 |f::l,p::ps=>(Xe f&&NC s (EG S f) p)&&ZK s S l ps
theorem Abq{S:Sb}(h:s.ok W U):∀{l:List CF} {ps:List Pf},ZK s S l ps=true->Al (A2 (S.sig U)) l:=by
 intro l
 induction l with
 |nil=>intro ps _;exact .nil
 |cons f l ih=>
  intro ps hb;cases ps with
  |nil=>
   have hb:((Xe f&&NC s (EG S f) {})&&ZK s S l [])=true:=hb;rw[Ah,Ah]at hb;exact .cons (MT hb.1.1 (Hf h hb.1.2)) (ih hb.2)
  |cons p ps=>
   have hb:((Xe f&&NC s (EG S f) p)&&ZK s S l ps)=true:=hb;rw[Ah,Ah]at hb;exact .cons (MT hb.1.1 (Hf h hb.1.2)) (ih hb.2)
def isU(k:Ck):Bool:=match k with |.u=>true|_=>false
def rdB(s:St)(t:Nat)(ks:List Ck):Bool:=(List.range ks.length).all fun c=>isU (ks.getD c .u)||Gt (Wj s.rd t c) (ks.getD c .u)
theorem Ahi{t:Nat}{ks:List Ck}(h:s.ok W U)(hb:rdB s t ks=true)(j c:Nat):A9 (ks.getD c .u) (U.r t j c):=by
 by_cases hc:c<ks.length
 ·have:=Bf.1 hb c (List.mem_range.2 hc);rw[Bool.or_eq_true]at this;rcases this with h1|h1
  ·cases hk:ks.getD c .u with
   |u=>trivial
   |_=>rw[hk]at h1;cases h1
  ·rw[<-Er h1];exact KJ h.rd j c
 ·rw[Iw,List.getElem?_eq_none (by omega)];trivial
def gB(rd:List KC)(t:Nat)(ks:List Ck):Bool:=match ks with |.g k::_=>rd.any (fun p=>Nat.beq p.1 t&&match p.2 with |.g k'::_=>Nat.beq k k'|_=>false)|_=>true
theorem AkY{t:Nat}{ks:List Ck}{rd:List KC}(h:Al (EO U) rd)(hb:gB rd t ks=true):WS ks (U.b t):=by
 match ks,hb with
 | [],_=>trivial
 |.g k::_,hb=>
  obtain⟨p,hp,e⟩:=List.any_eq_true.1 hb;rw[Ah]at e;obtain⟨e1,e2⟩:=e;have h0:=(h.mem p hp).2;rw[beq_eq e1]at h0;obtain⟨p1,p2⟩:=p
  match p2,e2,h0 with
  |.g k'::_,e2,h0=>
   have e2:Nat.beq k k'=true:=e2;have h0:AD.is k' (U.b t):=h0;rw[<-beq_eq e2]at h0;exact h0
 |.i _::_,_=>trivial
 |.b::_,_=>trivial
 |.n::_,_=>trivial
 |.u::_,_=>trivial
 |.s::_,_=>trivial
 |.p::_,_=>trivial
def knB(s:St)(S:Sb)(cf:List CF)(rd mp:List KC)(ps:List Pf):Bool:=ZK s S cf ps&&((rd.all fun k=>rdB s (S.r k.1) k.2&&gB s.rd (S.r k.1) k.2)&&mp.all fun k=>mkB s.mp (S.m k.1) k.2)
theorem RU{S:Sb}{cf:List CF}{rd mp:List KC}{ps:List Pf}(h:s.ok W U)(hb:knB s S cf rd mp ps=true){q:An->Prop}(hq:∀U,q U):Kn cf rd q (S.sig U) mp:=by
 unfold knB at hb;simp only[Ah]at hb;obtain⟨h1,h2,h3⟩:=hb;refine⟨Abq h h1,?_,hq _,?_⟩
 ·clear h1 h3
  induction rd with
  |nil=>exact .nil
  |cons k rd ih=>
   simp only[List.all_cons,Ah]at h2;exact .cons ⟨fun j c=>Ahi h h2.1.1 j c,show WS k.2 (U.b (S.r k.1)) from AkY h.rd h2.1.2⟩ (ih h2.2)
 ·clear h1 h2
  induction mp with
  |nil=>exact .nil
  |cons k mp ih=>
   simp only[List.all_cons,Ah]at h3;exact .cons (fun z u hu=>OQ h3.1 h.mp z u hu) (ih h3.2)
section
variable {R:Type}
def Ly(n:Nat)(k:Nat->R):R:=@Nat.rec (fun _=>R) (k 0) (fun m _=>k (Nat.succ m)) n
theorem Fc{n:Nat}{k:Nat->R}:Ly n k=k n:=by cases n<;>rfl
def fcI(z:Int)(k:Int->R):R:=@Int.rec (fun _=>R) (fun n=>Ly n fun n=>k (.ofNat n)) (fun n=>Ly n fun n=>k (.negSucc n)) z
theorem Ang{z:Int}{k:Int->R}:fcI z k=k z:=by cases z<;>exact Fc (k:=fun n=>k _)
def fcE(e:E):(E->R)->R:=@E.rec (fun _=>(E->R)->R) (fun z k=>fcI z fun z=>k (.lit z)) (fun i k=>Ly i fun i=>k (.var i)) (fun o t _ _ ra rb k=>ra fun a=>rb fun b=>k (.bin o t a b)) (fun t _ ra k=>ra fun a=>k (.conv t a))
 (fun t _ c ra k=>Ly t fun t=>ra fun a=>Ly c fun c=>k (.cell t a c)) (fun t _ c ra k=>Ly t fun t=>ra fun a=>Ly c fun c=>k (.Bd t a c)) e
theorem AfA:∀{e:E} {k:E->R},fcE e k=k e:=by
 intro e
 induction e with
 |lit z=>intro k;exact Ang (k:=fun z=>k (.lit z))
 |var i=>intro k;exact Fc (k:=fun i=>k (.var i))
 |bin o t a b iha ihb=>intro k;exact (iha (k:=fun a=>fcE b fun b=>k (.bin o t a b))).trans (ihb (k:=fun b=>k (.bin o t a b)))
 |conv t a iha=>intro k;exact iha (k:=fun a=>k (.conv t a))
 |cell t a c iha=>intro k;exact (Fc (k:=fun t=>fcE a fun a=>Ly c fun c=>k (.cell t a c))).trans ((iha (k:=fun a=>Ly c fun c=>k (.cell t a c))).trans (Fc (k:=fun c=>k (.cell t a c))))
 |Bd t a c iha=>intro k;exact (Fc (k:=fun t=>fcE a fun a=>Ly c fun c=>k (.Bd t a c))).trans ((iha (k:=fun a=>Ly c fun c=>k (.Bd t a c))).trans (Fc (k:=fun c=>k (.Bd t a c))))
def fcL(l:List CF):(List CF->R)->R:=@List.rec CF (fun _=>(List CF->R)->R) (fun k=>k []) (fun f _ r k=>fcE f.x fun x=>fcE f.y fun y=>r fun l=>k (⟨f.op,x,y,f.r⟩::l)) l
theorem Anh:∀{l:List CF} {k:List CF->R},fcL l k=k l:=by
 intro l
 induction l with
 |nil=>intro k;rfl
 |cons f l ih=>intro k;exact (AfA (k:=fun x=>fcE f.y fun y=>fcL l fun l=>k (⟨f.op,x,y,f.r⟩::l))).trans ((AfA (k:=fun y=>fcL l fun l=>k (⟨f.op,f.x,y,f.r⟩::l))).trans (ih (k:=fun l=>k (⟨f.op,f.x,f.y,f.r⟩::l))))
def fcK(l:List KC):(List KC->R)->R:=@List.rec KC (fun _=>(List KC->R)->R) (fun k=>k []) (fun p _ r k=>Ly p.1 fun t=>r fun l=>k ((t,p.2)::l)) l
theorem AfB:∀{l:List KC} {k:List KC->R},fcK l k=k l:=by
 intro l
 induction l with
 |nil=>intro k;rfl
 |cons f l ih=>intro k;exact (Fc (k:=fun t=>fcK l fun l=>k ((t,f.2)::l))).trans (ih (k:=fun l=>k ((f.1,f.2)::l)))
def fcS(s:St)(k:St->R):R:=Ly s.base fun b=>fcL s.cf fun cf=>fcK s.rd fun rd=>fcK s.mp fun mp=>k {s with base:=b,cf:=cf,rd:=rd,mp:=mp}
theorem Ani{s:St}{k:St->R}:fcS s k=k s:=by
 unfold fcS;rw[Fc,Anh,AfB,AfB]
end
structure Pj where
 ok:Bool
 ws:List Tn:=[]
 os:List PL:=[]
def Pj.and(a b:Pj):Pj:=⟨a.ok&&b.ok,a.ws++b.ws,a.os++b.os⟩
def Pj.BA(b:Bool)(r:Pj):Pj:=⟨b&&r.ok,r.ws,r.os⟩
structure A0 where
 cf:List CF
 rd:List KC:=[]
 abs:List AbE:=[]
 CI:List QJ:=[]
 Fy:List AbM:=[]
 mp:List KC:=[]
 DW:List (Nat×E×Bool):=[]
 Aw:CF
def A0.ok(R:A0):Prop:=∀U,Al (A2 U) R.cf->Al (EO U) R.rd->Al (Kp U) R.abs->Al (WE U) R.CI->Al (TA U) R.Fy->Al (HN U) R.mp->Al (fun p=>(U.m p.1 (p.2.1.den U)).isSome=p.2.2) R.DW->A2 U R.Aw
def AhF(S:Sb)(p:AbE):AbE:=⟨S.r p.t,p.sp.map (SM S),S.r p.t',[]⟩
def AaV(S:Sb)(p:QJ):QJ:=⟨S.r p.t,p.n.sub S,S.r p.t2,p.lo.sub S,p.m.sub S,S.r p.t'⟩
def AhH(S:Sb)(p:AbM):AbM:=⟨S.m p.t,p.kn.map (Uh S),S.m p.t'⟩
def AkG(a b:AbE):Bool:=Nat.beq a.t b.t&&(Av AaR a.sp b.sp&&Nat.beq a.t' b.t')
def AeW(a b:QJ):Bool:=Nat.beq a.t b.t&&(E.AJ a.n b.n&&(Nat.beq a.t2 b.t2&&(E.AJ a.lo b.lo&&(E.AJ a.m b.m&&Nat.beq a.t' b.t'))))
def Ae9(a b:AbM):Bool:=Nat.beq a.t b.t&&(Av Aa0 a.kn b.kn&&Nat.beq a.t' b.t')
theorem AhK(k:IntKind)(e:E):(AaW k e).val U=some (.int k (e.den U)):=by unfold AaW;split<;>rfl
theorem Akm(e:E):(sbA e).val U=some (.bool (decide (e.den U ≠ 0))):=by
 have h:=(Ah0 (J:=fun _=>none) (U:=U) e (.bool (decide (e.den U ≠ 0)))).2 rfl;exact A.Pg (by unfold sbA;split<;>rfl) h
theorem A.val_sub{S:Sb}{a:A}(hp:a.plain=true):(a.sub S).val U=a.val (S.sig U):=by
 cases a with
 |sym k e=>exact (AhK k _).trans (by rw[E.A3];rfl)
 |sb e=>exact (Akm _).trans (by rw[E.A3];rfl)
 |rc t e c=>show some (U.r (S.r t) ((e.sub S).den U).toNat c)=_;rw[E.A3];rfl
 |_=>first|rfl|(cases hp;done)
theorem AhG{S:Sb}{p:AbE}(hp:(p.sp.all fun q=>q.2.2.plain)=true)(hk:p.kp=[])(h:Kp U (AhF S p)):Kp (S.sig U) p:=by
 refine⟨hp,fun j c=>?_,fun a _ b hb=>by rw[hk]at hb;cases hb⟩;have h1:U.r (S.r p.t') j c=match Ao U j c (p.sp.map (SM S)) with |some a=>(a.val U).getD undef|none=>U.r (S.r p.t) j c:=h.row j c
 rw[KM]at h1;show U.r (S.r p.t') j c=_;rw[h1];cases hl:Ao (S.sig U) j c p.sp with
 |none=>rfl
 |some a=>
  obtain⟨q,hq,e⟩:=GD hl;have:=Bf.1 hp q hq;rw[e]at this;show ((a.sub S).val U).getD undef=_;rw[A.val_sub this]
theorem Aeo{S:Sb}{p:QJ}(h:WE U (AaV S p)):WE (S.sig U) p:=by
 intro j c;have:=h j c;have this:U.r (S.r p.t') j c=if (j:Int)<(p.n.sub S).den U then U.r (S.r p.t) j c else U.r (S.r p.t2) (((p.lo.sub S).den U).toNat+(j-((p.n.sub S).den U).toNat)) c:=this
 rw[E.A3,E.A3]at this;exact this
theorem V.val_sub{S:Sb}{v:V}(hp:v.plain=true):(v.sub S).val U=v.val (S.sig U):=by
 cases v with
 |one a=>exact A.val_sub hp
 |agg l=>
  have hp:l.all A.plain=true:=hp;show some (Value.agg ((l.map (A.sub S)).map fun a=>(a.val U).getD undef).toArray)=some (Value.agg (l.map fun a=>(a.val (S.sig U)).getD undef).toArray);have:((l.map (A.sub S)).map fun a=>(a.val U).getD undef)=l.map fun a=>(a.val (S.sig U)).getD undef:=by
   rw[List.map_map];refine List.map_congr_left fun a ha=>?_
   show ((a.sub S).val U).getD undef=_;rw[A.val_sub (Bf.1 hp a ha)]
  rw[this]
structure BP where
 cs:List (Bq×Bool)
 ls:List (D7×Bool)
 rs:List A0:=[]
inductive Gl where
 |Bo (c:Bj)
 |lp (d:LpD)
def GV(l:List KC)(t:Nat):List Ck:=match mkK l t with |some ks=>ks|none=>[]
def Afj(W:Wd)(c:Bq)(s:St)(k:Nat)(ie:List E)(ir im ig:List Nat)(ps:List Pf):Bool:=match c.outs[k]? with
 |none=>false
 |some o=>(Zt s.base ie ir im&&(Nat.ble c.np s.base&&(Nat.ble c.np c.hi&&Mt (sbI s.base c.np c.hi c.n ie ir im ig) (c.sum o))))&&(knB s (sbI s.base c.np c.hi c.n ie ir im ig) o.cf o.rd o.mp ps&&
  U6 (sbI s.base c.np c.hi c.n ie ir im ig) (c.sum o) (abT s.abs s.Fy) (eval (Is W s) 400 xC (.call c.f (c.args.map (NI (nzF c.nz (VP s.cf))))) (Aa c.bl c.n)))
def AoG(d:LpD)(s:St)(te:List E)(tr tm tg:List Nat)(ps:List Pf)(p1 p2:Pf):Bool:=
 Nat.ble d.nh s.base&&(Vp d.nc te tr tm&&(knB s (sbT d.nh te tr tm tg) d.cf d.rd d.mp ps&&(NC s ⟨.lss,d.mb,d.ma,true⟩ p2&&
  ((E.AJ (d.ma.sub (sbT d.nh te tr tm tg)) d.ma&&NC s ⟨.lss,d.mb,d.mb.sub (sbT d.nh te tr tm tg),true⟩ p1)||(E.AJ (d.mb.sub (sbT d.nh te tr tm tg)) d.mb&&NC s ⟨.lss,d.ma.sub (sbT d.nh te tr tm tg),d.ma,true⟩ p1)))))
def ApC(W:Wd)(g:Gl)(s:St)(k:Nat)(ie:List E)(ir im ig:List Nat)(ps:List Pf):Bool:=match g with |.Bo c=>Afj W c.Bo s k ie ir im ig ps|.lp _=>false
def Avt(g:Gl)(s:St)(te:List E)(tr tm tg:List Nat)(ps:List Pf)(p1 p2:Pf):Pj:=match g with |.Bo _=>⟨false,[],[]⟩|.lp d=>⟨AoG d s te tr tm tg ps p1 p2,[⟨s,te,tr,tm,tg⟩],[]⟩
def AlT(d:LpD)(s:St):PL:=⟨s.cf.take (Nat.sub s.cf.length d.cf.length),s.rd.take (Nat.sub s.rd.length d.rd.length),s.hy,Nat.sub s.base d.nh⟩
def Asu(g:Gl)(s:St):Pj:=match g with |.Bo _=>⟨false,[],[]⟩|.lp d=>⟨Nat.ble d.nh s.base,[],[AlT d s]⟩
def St.Alh(s:St)(W:Wd)(l:D7)(se:List E)(sr sm sg:List Nat)(ph:List (Nat×Nat×Nat))(phc:List (Nat×Nat×Nat×Nat))(o:PL):St:=
 {s.loop W l se sr sm sg ph o with Kh:=(l.f,l.no,Ahc phc (phL ph (l.lq W (Ki s.base l.nh se sr sm sg) (Ki s.base l.nc se sr sm sg)).Kh))::s.Kh}
def Ax0(ks:List Ck):Nat:=match ks with |.s::_=>1 |.p::_=>2 |_=>0
def AkZ(s:St)(t:Nat)(e:E)(ks:List Ck):Bool:=mkB s.mp t ks&&(Nat.blt t s.base&&e.lo s.base)
def Agg(s:St)(t:Nat)(e:E):Bool:=(match mkK s.mp t with |some _=>true|none=>false)&&s.DW.any fun p=>Nat.beq p.1 t&&(E.AJ p.2.1 e&&(match p.2.2 with |some _=>true|none=>false))
def St.keyed(s:St)(e:E):St:=(s.cmp ⟨.lss,e,.lit 65536,true⟩).cmp ⟨.geq,e,.lit 0,true⟩
theorem AA.key{t:Nat}{e:E}(h:Agg s t e=true)(x:AA W (s.keyed e) Q):AA W s Q:=by
 have hk:∀U,s.ok W U->0<=e.den U/\e.den U<65536:=by
  intro U hs;unfold Agg at h;rw[Ah]at h;obtain⟨p,hp,hq⟩:=List.any_eq_true.1 h.2;rw[Ah,Ah]at hq;obtain⟨q1,q2,q3⟩:=hq;have hm:=hs.DW.mem p hp (fun _=>none);obtain⟨p1,p2,p3⟩:=p;cases p3 with
  |none=>cases q3
  |some v=>
   obtain⟨u,hu,_⟩:=hm;have e1:=beq_eq q1;have e2:=Eng.Ac q2;have e1:p1=t:=e1;have e2:p2=e:=e2;subst e1;subst e2;cases hk:mkK s.mp p1 with
   |none=>rw[hk]at h;cases h.1
   |some ks=>exact (Ag9 hs.mp hk _ u hu).1
 refine AA.fact ⟨.lss,e,.lit 65536,true⟩ (fun U hs=>?_) (AA.fact ⟨.geq,e,.lit 0,true⟩ (fun U hs=>?_) x)
 ·exact decide_eq_true (hk U hs).2
 ·have h0:s.ok W U:=⟨(match hs.cf with |.cons _ t=>t),hs.rd,hs.K,hs.hy,hs.Kh,hs.CI,hs.abs,hs.BD,hs.BB,hs.Fy,hs.DW,hs.mp⟩;exact decide_eq_true (hk U h0).1
def Ac1(s:St)(R:A0)(S:Sb)(ps:List Pf):Bool:=ZK s S R.cf ps&&((R.rd.all fun k=>rdB s (S.r k.1) k.2&&gB s.rd (S.r k.1) k.2)&&((R.abs.all fun p=>(p.sp.all fun q=>q.2.2.plain)&&(p.kp.isEmpty&&s.abs.any (fun q=>AkG q (AhF S p))))&&((R.CI.all fun p=>s.CI.any fun q=>AeW q (AaV S p))&&((R.Fy.all fun p=>(p.kn.all fun q=>NL q.2)&&s.Fy.any fun q=>Ae9 q (AhH S p))&&((R.mp.all fun k=>mkB s.mp (S.m k.1) k.2)&&R.DW.all fun p=>s.DW.any fun q=>Nat.beq q.1 (S.m p.1)&&(E.AJ q.2.1 (p.2.1.sub S)&&C6 q.2.2.isSome p.2.2))))))
def run(W:Wd)(v':BP)(g:Gl):Tr->(St->Pj)×(List St->Pj)
 |.nil=>(fun _=>⟨false,[],[]⟩,fun l=>⟨l.isEmpty,[],[]⟩)
 |.cons x y=>(fun _=>⟨false,[],[]⟩,fun l=>match l with | []=>⟨false,[],[]⟩|s::l=>.and (fcS s (run W v' g x).1) ((run W v' g y).2 l))
 |.test o a b x y=>(fun s=>.BA (C3 (Nat.beq (Dw o) 0)&&(a.lo s.base&&b.lo s.base)) (.and ((run W v' g x).1 (s.cmp ⟨o,a,b,true⟩)) ((run W v' g y).1 (s.cmp ⟨o,a,b,false⟩))),fun _=>⟨false,[],[]⟩)
 |.Zk t e c x y=>(fun s=>.BA ((match Wj s.rd t c with |.b=>true|_=>false)&&(Nat.blt t s.base&&e.lo s.base)) (.and ((run W v' g x).1 (s.cmp ⟨.eql,.cell t e c,.lit 0,true⟩)) ((run W v' g y).1 (s.cmp ⟨.eql,.cell t e c,.lit 1,true⟩))),fun _=>⟨false,[],[]⟩)
 |.fact f p x=>(fun s=>.BA (NC s f p) ((run W v' g x).1 (s.cmp f)),fun _=>⟨false,[],[]⟩)
 |.sum a b p x=>(fun s=>.BA (Ao7 s a b p.l p.l2 p.g p.g2) ((run W v' g x).1 {s with BD:=(a,b,.bin .add .i64 a b)::s.BD}),fun _=>⟨false,[],[]⟩)
 |.dif a b p x=>(fun s=>.BA (AmC s a b p.l p.l2 p.g p.g2) ((run W v' g x).1 {s with BB:=(a,b,.bin .sub .i64 a b)::s.BB}),fun _=>⟨false,[],[]⟩)
 |.absurd l=>(fun s=>⟨isNeg (cert s.BD s.BB s.cf l []),[],[]⟩,fun _=>⟨false,[],[]⟩)
 |.AeA t sp kp x=>(fun s=>.BA (WA (GV s.rd t)&&(Afh s.cf sp kp&&((Nat.blt t s.base&&sp.all fun p=>p.1.lo s.base&&(p.2.2.lo s.base&&p.2.2.plain))&&(((List.range (GV s.rd t).length).all fun c=>Gt (Wj s.rd t c) ((GV s.rd t).getD c .u))&&spK s.rd (GV s.rd t) sp))))
  (Ly s.base fun b=>(run W v' g x).1 {s with base:=Nat.succ b,abs:=⟨t,sp,b,kp⟩::s.abs,rd:=(b,GV s.rd t)::s.rd}),fun _=>⟨false,[],[]⟩)
 |.AeB t kn x=>(fun s=>.BA (mkB s.mp t (GV s.mp t)&&(Nat.blt t s.base&&kn.all fun p=>p.1.lo s.base&&(Alx s.base p.2&&(NL p.2&&(oVK s.rd (GV s.mp t) p.2&&Yg s.cf p)))))
  (Ly s.base fun b=>(run W v' g x).1 {s with base:=Nat.succ b,Fy:=⟨t,kn,b⟩::s.Fy,mp:=(b,GV s.mp t)::s.mp}),fun _=>⟨false,[],[]⟩)
 |.AeX t n t2 lo m x=>(fun s=>.BA (WA (GV s.rd t2)&&((Nat.blt t s.base&&(Nat.blt t2 s.base&&(n.lo s.base&&lo.lo s.base)))&&((List.range (GV s.rd t2).length).all fun c=>(isZ n||Gt (Wj s.rd t c) ((GV s.rd t2).getD c .u))&&Gt (Wj s.rd t2 c) ((GV s.rd t2).getD c .u))))
  (Ly s.base fun b=>(run W v' g x).1 {s with base:=Nat.succ b,CI:=⟨t,n,t2,lo,m,b⟩::s.CI,rd:=(b,GV s.rd t2)::s.rd}),fun _=>⟨false,[],[]⟩)
 |.has t e x y=>(fun s=>.BA (AkZ s t e (GV s.mp t)) (.and ((run W v' g x).1 {s with DW:=(t,e,none)::s.DW}) (match GV s.mp t with
  |.s::ks=>.BA (WA ks) <| Ly s.base fun b=>(run W v' g y).1 {s with base:=Nat.succ b,DW:=(t,e,some (.one (.P3 b ks.length (.var b))))::s.DW,rd:=(b,ks)::s.rd,cf:=cG b::cM b::s.cf}
  |.p::ks=>.BA (WA ks) <| Ly s.base fun b=>(run W v' g y).1 {s with base:=Nat.succ b,DW:=(t,e,some (.one (.NB b (.lit 0) ks.length 0)))::s.DW,rd:=(b,ks)::s.rd}
  |ks=>.BA (ks.all noU) ((run W v' g y).1 {s with DW:=(t,e,some (.agg (Ag4 t e 0 ks)))::s.DW}))),fun _=>⟨false,[],[]⟩)
 |.call i se sr sm sg ps x=>(fun s=>match v'.cs[i]? with
  |none=>⟨false,[],[]⟩
  |some c=>.BA (c.2&&(knB s (Ki s.base c.1.np se sr sm sg) c.1.cf c.1.rd c.1.mp ps&&(Zt s.base se sr sm&&Nat.ble c.1.np c.1.hi))) ((run W v' g x).2 (c.1.outs.map fun o=>s.call c.1 se sr sm sg o)),fun _=>⟨false,[],[]⟩)
 |.loop i se sr sm sg ph phc ps x=>(fun s=>match v'.ls[i]? with
  |none=>⟨false,[],[]⟩
  |some l=>.BA (l.2&&(knB s (Ki s.base l.1.nh se sr sm sg) l.1.cf l.1.rd l.1.mp ps&&(Zt s.base se sr sm&&Nat.ble l.1.nc l.1.nh))) ((run W v' g x).2 (l.1.outs.map fun o=>s.Alh W l.1 se sr sm sg ph phc o)),fun _=>⟨false,[],[]⟩)
 |.key t e x=>(fun s=>.BA (Agg s t e) ((run W v' g x).1 (s.keyed e)),fun _=>⟨false,[],[]⟩)
 |.newRow ks x=>(fun s=>.BA (WA ks) (Ly s.base fun b=>(run W v' g x).1 {s with base:=Nat.succ b,rd:=(b,ks)::s.rd}),fun _=>⟨false,[],[]⟩)
 |.Aot i te tr tm ps x=>(fun s=>match v'.rs[i]? with
  |none=>⟨false,[],[]⟩
  |some R=>.BA (Ac1 s R (sbT 0 te tr tm []) ps) ((run W v' g x).1 (s.cmp (EG (sbT 0 te tr tm []) R.Aw))),fun _=>⟨false,[],[]⟩)
 |.pick l x=>(fun s=>(run W v' g x).1 {s with cf:=Aco s.cf l},fun _=>⟨false,[],[]⟩)
 |.ne i b p x=>(fun s=>match s.cf[i]? with
  |some ⟨.eql,u,v,false⟩=>bif b then .BA (NC s ⟨.leq,u,v,true⟩ p) ((run W v' g x).1 (s.cmp ⟨.lss,u,v,true⟩)) else .BA (NC s ⟨.leq,v,u,true⟩ p) ((run W v' g x).1 (s.cmp ⟨.lss,v,u,true⟩))
  |_=>⟨false,[],[]⟩,fun _=>⟨false,[],[]⟩)
 |.Afb i j=>(fun s=>⟨match s.cf[i]?,s.cf[j]? with |some f,some h=>C3 (Nat.beq (Dw f.op) 0)&&Ep ⟨f.op,f.x,f.y,C3 f.r⟩ h|_,_=>false,[],[]⟩,fun _=>⟨false,[],[]⟩)
 |.done k ie ir im ig ps=>(fun s=>⟨ApC W g s k ie ir im ig ps,[],[]⟩,fun _=>⟨false,[],[]⟩)
 |.way te tr tm tg ps p1 p2=>(fun s=>Avt g s te tr tm tg ps p1 p2,fun _=>⟨false,[],[]⟩)
 |.stop=>(fun s=>Asu g s,fun _=>⟨false,[],[]⟩)
theorem AA.newRow{ks:List Ck}(hk:WA ks=true)(x:AA W {s with base:=s.base+1,rd:=(s.base,ks)::s.rd} Q):AA W s Q:=by
 intro U hs;have h1:Ai s.base U (U.Wn s.base fun _ c=>ckD (ks.getD c .u)):=An.JB;have hx:UU W {s with base:=s.base+1,rd:=(s.base,ks)::s.rd} (U.Wn s.base fun _ c=>ckD (ks.getD c .u)):=by
  intro Uq2 g2;have g2:Ai (s.base+1) _ Uq2:=g2;have g:=hs Uq2 (h1.trans (g2.le (Nat.le_add_right _ _)));refine⟨g.cf,.cons ⟨fun j c=>?_,Eo hk⟩ g.rd,g.K,g.hy,g.Kh,g.CI,g.abs,g.BD,g.BB,g.Fy,g.DW,g.mp⟩;show A9 (ks.getD c .u) (Uq2.r s.base j c);rw[g2.r s.base (by omega)];show A9 (ks.getD c .u) ((if s.base=s.base then fun _ c=>ckD (ks.getD c .u) else U.r s.base:Nat->Nat->Value) j c);rw[if_pos rfl];exact O2
 obtain⟨s',Uq3,q1,q2,q3⟩:=x _ hx;exact⟨s',Uq3,q1,h1.trans (Ai.le (show s.base<=s.base+1 from Nat.le_add_right _ _) q2),q3⟩
theorem Ahv{R:A0}{S:Sb}{ps:List Pf}(h:s.ok W U)(hb:Ac1 s R S ps=true)(hR:R.ok):A2 (S.sig U) R.Aw:=by
 unfold Ac1 at hb;simp only[Ah]at hb;obtain⟨h1,h2,h3,h4,h5,h6,h7m⟩:=hb;refine hR _ (Abq h h1) (Al.Cx fun k hk=>?_) (Al.Cx fun p hp=>?_) (Al.Cx fun p hp=>?_) (Al.Cx fun p hp=>?_) (Al.Cx fun k hk=>?_) (Al.Cx fun p hp=>?_)
 ·have:=Bf.1 h2 k hk;rw[Ah]at this;exact⟨fun j c=>Ahi h this.1 j c,show WS k.2 (U.b (S.r k.1)) from AkY h.rd this.2⟩
 ·have:=Bf.1 h3 p hp;simp only[Ah]at this;obtain⟨q,hq,e⟩:=List.any_eq_true.1 this.2.2;have h7:Kp U (AhF S p):=by
   have h7:=h.abs.mem q hq;unfold AkG at e;simp only[Ah]at e;obtain⟨a1,a2,a3,a4⟩:=q;have k2:a1=S.r p.t:=beq_eq e.1;have k3:a2=p.sp.map (SM S):=Ag (fun _ _=>Wo) e.2.1;have k4:a3=S.r p.t':=beq_eq e.2.2;subst k2 k3 k4;exact⟨h7.plain,h7.row,fun _ _ _ hb=>nomatch hb⟩
  exact AhG this.1 (List.isEmpty_iff.1 this.2.1) h7
 ·obtain⟨q,hq,e⟩:=List.any_eq_true.1 (Bf.1 h4 p hp);have e2:q=AaV S p:=by
   unfold AeW at e;simp only[Ah]at e;obtain⟨a1,a2,a3,a4,a5,a6⟩:=q;obtain⟨k1,k2,k3,k4,k5,k6⟩:=e;have k1:a1=S.r p.t:=beq_eq k1;have k2:a2=p.n.sub S:=Eng.Ac k2;have k3:a3=S.r p.t2:=beq_eq k3;have k4:a4=p.lo.sub S:=Eng.Ac k4;have k5:a5=p.m.sub S:=Eng.Ac k5;have k6:a6=S.r p.t':=beq_eq k6;rw[k1,k2,k3,k4,k5,k6];rfl
  have h7:=h.CI.mem q hq;rw[e2]at h7;exact Aeo h7
 ·have:=Bf.1 h5 p hp;rw[Ah]at this;obtain⟨q,hq,e⟩:=List.any_eq_true.1 this.2;have e2:q=AhH S p:=by
   unfold Ae9 at e;simp only[Ah]at e;obtain⟨a1,a2,a3⟩:=q;have k1:a1=S.m p.t:=beq_eq e.1;have k2:a2=p.kn.map (Uh S):=Ag (fun _ _=>VE) e.2.1;have k3:a3=S.m p.t':=beq_eq e.2.2;rw[k1,k2,k3];rfl
  have h7:=h.Fy.mem q hq;rw[e2]at h7;refine⟨this.1,fun z=>?_⟩;have h8:U.m (S.m p.t') z=match Bp U z (p.kn.map (Uh S)) with |some (some v)=>v.val U|some none=>none|none=>U.m (S.m p.t) z:=h7.map z
  rw[Mu]at h8;show U.m (S.m p.t') z=_;rw[h8];cases hl:Bp (S.sig U) z p.kn with
  |none=>rfl
  |some o=>
   cases o with
   |none=>rfl
   |some w=>
    obtain⟨q0,hq0,e0⟩:=FL hl;have h9:=Bf.1 this.1 q0 hq0;rw[e0]at h9;exact V.val_sub h9
 ·exact fun z u hu=>OQ (Bf.1 h6 k hk) h.mp z u hu
 ·obtain⟨q,hq,e⟩:=List.any_eq_true.1 (Bf.1 h7m p hp);simp only[Ah]at e;have hm:=h.DW.mem q hq (fun _=>none);obtain⟨q1,q2,q3⟩:=q;have k1:q1=S.m p.1:=beq_eq e.1;have k2:q2=p.2.1.sub S:=Eng.Ac e.2.1;have k3:q3.isSome=p.2.2:=Gr e.2.2;show (U.m (S.m p.1) (p.2.1.den (S.sig U))).isSome=p.2.2;rw[<-E.A3,<-k1,<-k2,<-k3];cases q3 with
  |none=>
   have hm:U.m q1 (q2.den U)=none:=hm;rw[hm];rfl
  |some v=>
   obtain⟨u,hu,_⟩:=hm;have hu:U.m q1 (q2.den U)=some u:=hu;rw[hu];rfl
structure AZ(W:Wd)(v:BP):Prop where
 cs:Al (fun p:Bq×Bool=>p.1.ok W/\(p.2=true->∀U,p.1.q U)) v.cs
 ls:Al (fun p:D7×Bool=>p.1.ok W/\(p.2=true->∀U,p.1.q U)) v.ls
 rs:Al A0.ok v.rs
def K3(k:Nat):Code->Option Code
 |.seq a b=>(match K3 k a with |some c=>some c|none=>K3 k b)
 |.cond _ a b=>(match K3 k a with |some c=>some c|none=>K3 k b)
 |.block _ a=>K3 k a
 |.loop a=>bif Nat.beq (Jt a) k then some a else K3 k a
 |.scope a=>K3 k a
 |_=>none
def OP(W:Wd)(f k:Nat):Nat×Nat×Code:=match W.fu f with |some fi=>(fi.nt,fi.nl,(K3 k fi.body).getD .skip)|none=>(0,0,.skip)
def Gl.aim(W:Wd)(g:Gl)(ws:List Tn)(os:List PL):St->Prop:=match g with
 |.Bo c=>Aex W c.Bo
 |.lp d=>WH W {f:=d.f,no:=d.no,L:=d.L,bl:=d.bl,n:=d.n,mv:=d.mv,nc:=d.nc,nh:=d.nh,cf:=d.cf,rd:=d.rd,mp:=d.mp,ways:=ws,outs:=os,fuel:=200,nt:=(OP W d.f d.no).1,nl:=(OP W d.f d.no).2.1,code:=(OP W d.f d.no).2.2} d.ma d.mb
theorem Al.take{α:Type}{p:α->Prop}{l:List α}(h:Al p l):∀n,Al p (l.take n):=by
 induction h with
 |nil=>intro n;rw[List.take_nil];exact .nil
 |cons h0 _ ih=>
  intro n;cases n with
  |zero=>exact .nil
  |succ n=>exact .cons h0 (ih n)
theorem Al.AdE{α β:Type}{p:β->Prop}{f:α->β}:∀{l:List α},Al p (l.map f)->Al (fun x=>p (f x)) l:=by
 intro l
 induction l with
 |nil=>intro _;exact .nil
 |cons a l ih=>intro h;cases h with |cons h0 h1=>exact .cons h0 (ih h1)
structure In(r:Pj)(ws:List Tn)(os:List PL):Prop where
 ok:r.ok=true
 ws:∀w∈r.ws,w∈ws
 os:∀o∈r.os,o∈os
section
variable {ws:List Tn} {os:List PL} {a b:Pj}
theorem In.l(h:In (a.and b) ws os):In a ws os:=by
 have h1:=h.ok;rw[Pj.and]at h1;simp only[Ah]at h1;exact⟨h1.1,fun w hw=>h.ws w (List.mem_append_left _ hw),fun w hw=>h.os w (List.mem_append_left _ hw)⟩
theorem In.r(h:In (a.and b) ws os):In b ws os:=by
 have h1:=h.ok;rw[Pj.and]at h1;simp only[Ah]at h1;exact⟨h1.2,fun w hw=>h.ws w (List.mem_append_right _ hw),fun w hw=>h.os w (List.mem_append_right _ hw)⟩
theorem In.n{c:Bool}(h:In (Pj.BA c b) ws os):c=true/\In b ws os:=by
 have h1:=h.ok;rw[Pj.BA]at h1;simp only[Ah]at h1;exact⟨h1.1,h1.2,h.ws,h.os⟩
theorem In.no{x:Prop}(h:In ⟨false,[],[]⟩ ws os):x:=nomatch h.ok
end
theorem WM.q{c:Bj}{o:Ds}{k:Nat}(h:c.Bo.outs[k]? =some o)(U:An):o.q U:=by
 have:(c.outs.map WM.out)[k]? =some o:=h
 rw[List.getElem?_map]at this;cases hc:c.outs[k]? with
 |none=>rw[hc]at this;cases this
 |some d=>rw[hc]at this;cases this;trivial
theorem Ahw{v:BP}(hv:AZ W v){g:Gl}{ws:List Tn}{os:List PL}:∀t:Tr,(∀s,In ((run W v g t).1 s) ws os->AA W s (g.aim W ws os))/\(∀l,In ((run W v g t).2 l) ws os->Al (fun s=>AA W s (g.aim W ws os)) l):=by
 intro t
 induction t with
 |nil=>
  refine⟨fun s h=>h.no,fun l h=>?_⟩;have:l.isEmpty=true:=h.ok;rw[List.isEmpty_iff.1 this];exact .nil
 |cons x y IT ihy=>
  refine⟨fun s h=>h.no,fun l h=>?_⟩;cases l with
  |nil=>exact h.no
  |cons s l=>
   have h:In (Pj.and (fcS s (run W v g x).1) ((run W v g y).2 l)) ws os:=h;rw[Ani]at h;exact .cons (IT.1 s h.l) (ihy.2 l h.r)
 |test o a b x y IT ihy=>
  refine⟨fun s h=>?_,fun l h=>h.no⟩;obtain⟨h1,h2⟩:=In.n h;rw[Ah]at h1;exact AA.test o (fun e=>by rw[e]at h1;cases h1.1) a b h1.2 (IT.1 _ h2.l) (ihy.1 _ h2.r)
 |Zk t e c x y IT ihy=>
  refine⟨fun s h=>?_,fun l h=>h.no⟩;obtain⟨h1,h2⟩:=In.n h;exact AA.Zk t e c h1 (IT.1 _ h2.l) (ihy.1 _ h2.r)
 |newRow ks x IT=>
  refine⟨fun s h=>?_,fun l h=>h.no⟩;have h:In (Pj.BA (WA ks) (Ly s.base fun b=>(run W v g x).1 {s with base:=Nat.succ b,rd:=(b,ks)::s.rd})) ws os:=h;rw[Fc]at h;obtain⟨h1,h2⟩:=In.n h;exact AA.newRow h1 (IT.1 _ h2)
 |Aot i te tr tm ps x IT=>
  refine⟨fun s h=>?_,fun l h=>h.no⟩;have h:In (match v.rs[i]? with |none=>⟨false,[],[]⟩|some R=>.BA (Ac1 s R (sbT 0 te tr tm []) ps) ((run W v g x).1 (s.cmp (EG (sbT 0 te tr tm []) R.Aw)))) ws os:=h;split at h
  ·exact h.no
  ·rename_i R hR;obtain⟨h1,h2⟩:=In.n h;exact AA.fact _ (fun U hs=>MS (Ahv hs h1 (hv.rs.nth i hR))) (IT.1 _ h2)
 |fact f p x IT=>
  refine⟨fun s h=>?_,fun l h=>h.no⟩;obtain⟨h1,h2⟩:=In.n h;exact AA.fact f (fun U hs=>Hf hs h1) (IT.1 _ h2)
 |sum a b p x IT=>
  refine⟨fun s h=>?_,fun l h=>h.no⟩;obtain⟨h1,h2⟩:=In.n h;exact AA.Avl a b _ _ _ _ h1 (IT.1 _ h2)
 |dif a b p x IT=>
  refine⟨fun s h=>?_,fun l h=>h.no⟩;obtain⟨h1,h2⟩:=In.n h;exact AA.Atm a b _ _ _ _ h1 (IT.1 _ h2)
 |absurd l=>exact⟨fun s h=>AA.absurd fun U hs=>Au9 hs h.ok,fun l h=>h.no⟩
 |AeA t sp kp x IT=>
  refine⟨fun s h=>?_,fun l h=>h.no⟩;obtain⟨h1,h2⟩:=In.n h;rw[Fc]at h2;rw[Ah,Ah,Ah]at h1;exact AA.AeA _ h1.1 t sp kp h1.2.1 h1.2.2.1 h1.2.2.2 (IT.1 _ h2)
 |key t e x IT=>
  refine⟨fun s h=>?_,fun l h=>h.no⟩;obtain⟨h1,h2⟩:=In.n h;exact AA.key h1 (IT.1 _ h2)
 |AeB t kn x IT=>
  refine⟨fun s h=>?_,fun l h=>h.no⟩;obtain⟨h1,h2⟩:=In.n h;rw[Fc]at h2;exact AA.AeB _ t kn h1 (IT.1 _ h2)
 |AeX t n t2 lo m x IT=>
  refine⟨fun s h=>?_,fun l h=>h.no⟩;obtain⟨h1,h2⟩:=In.n h;rw[Fc]at h2;rw[Ah,Ah]at h1;exact AA.AeX _ h1.1 t n t2 lo m h1.2.1 h1.2.2 (IT.1 _ h2)
 |has t e x y IT ihy=>
  refine⟨fun s h=>?_,fun l h=>h.no⟩;obtain⟨h1,h2⟩:=In.n h;have ha:=IT.1 _ h2.l;have hb:=h2.r;unfold AkZ at h1;generalize hk:GV s.mp t=ks at h1 hb;have plain:∀ks:List Ck,(mkB s.mp t ks&&(Nat.blt t s.base&&e.lo s.base))=true->In (Pj.BA (ks.all noU) ((run W v g y).1 {s with DW:=(t,e,some (.agg (Ag4 t e 0 ks)))::s.DW})) ws os->AA W s (g.aim W ws os):=by
   intro ks h1 hb;obtain⟨h3,h4⟩:=In.n hb;rw[Ah]at h1;exact AA.Aua t e ks (by rw[h1.1,h3,h1.2];rfl) ha (ihy.1 _ h4)
  match ks,h1,hb with
  | [],h1,hb=>exact plain [] h1 hb
  |.s::ks,h1,hb=>
   have hb:In (Pj.BA (WA ks) <| Ly s.base fun b=>(run W v g y).1 {s with base:=Nat.succ b,DW:=(t,e,some (.one (.P3 b ks.length (.var b))))::s.DW,rd:=(b,ks)::s.rd,cf:=cG b::cM b::s.cf}) ws os:=hb;obtain⟨hn,hb⟩:=In.n hb;rw[Fc]at hb;exact AA.AtZ t e ks hn h1 ha (ihy.1 _ hb)
  |.p::ks,h1,hb=>
   have hb:In (Pj.BA (WA ks) <| Ly s.base fun b=>(run W v g y).1 {s with base:=Nat.succ b,DW:=(t,e,some (.one (.NB b (.lit 0) ks.length 0)))::s.DW,rd:=(b,ks)::s.rd}) ws os:=hb;obtain⟨hn,hb⟩:=In.n hb;rw[Fc]at hb;exact AA.Aub t e ks hn h1 ha (ihy.1 _ hb)
  |.i k::ks,h1,hb=>exact plain _ h1 hb
  |.b::ks,h1,hb=>exact plain _ h1 hb
  |.n::ks,h1,hb=>exact plain _ h1 hb
  |.u::ks,h1,hb=>exact plain _ h1 hb
  |.g k::ks,h1,hb=>exact plain _ h1 hb
 |call i se sr sm sg ps x IT=>
  refine⟨fun s h=>?_,fun l h=>h.no⟩;have h:In (match v.cs[i]? with |none=>⟨false,[],[]⟩|some c=>Pj.BA (c.2&&(knB s (Ki s.base c.1.np se sr sm sg) c.1.cf c.1.rd c.1.mp ps&&(Zt s.base se sr sm&&Nat.ble c.1.np c.1.hi))) ((run W v g x).2 (c.1.outs.map fun o=>s.call c.1 se sr sm sg o))) ws os:=h;cases hc:v.cs[i]? with
  |none=>rw[hc]at h;exact h.no
  |some c=>
   rw[hc]at h;obtain⟨h1,h2⟩:=In.n h;rw[Ah,Ah]at h1;obtain⟨c1,c2⟩:=hv.cs.mem c (Oj hc);exact AA.call c.1 c1 se sr sm sg (fun U hs=>RU hs h1.2.1 (c2 h1.1)) h1.2.2 (Al.AdE (IT.2 _ h2))
 |loop i se sr sm sg ph phc ps x IT=>
  refine⟨fun s h=>?_,fun l h=>h.no⟩;have h:In (match v.ls[i]? with |none=>⟨false,[],[]⟩|some l=>Pj.BA (l.2&&(knB s (Ki s.base l.1.nh se sr sm sg) l.1.cf l.1.rd l.1.mp ps&&(Zt s.base se sr sm&&Nat.ble l.1.nc l.1.nh))) ((run W v g x).2 (l.1.outs.map fun o=>s.Alh W l.1 se sr sm sg ph phc o))) ws os:=h;cases hc:v.ls[i]? with
  |none=>rw[hc]at h;exact h.no
  |some l=>
   rw[hc]at h;obtain⟨h1,h2⟩:=In.n h;rw[Ah,Ah]at h1;obtain⟨c1,c2⟩:=hv.ls.mem l (Oj hc);refine AA.loop l.1 c1 se sr sm sg ph (fun U hs=>RU hs h1.2.1 (c2 h1.1)) h1.2.2 ((Al.AdE (IT.2 _ h2)).imp fun o ho=>?_);exact AA.Aof (Ahc phc) (fun _ _ _ _ hp=>hp.Ahc _) rfl ho
 |pick l x IT=>exact⟨fun s h=>AA.pick l (IT.1 _ h),fun l h=>h.no⟩
 |ne i b p x IT=>
  refine⟨fun s h=>?_,fun l h=>h.no⟩;have h:In (match s.cf[i]? with
   |some ⟨.eql,u,v1,false⟩=>bif b then Pj.BA (NC s ⟨.leq,u,v1,true⟩ p) ((run W v g x).1 (s.cmp ⟨.lss,u,v1,true⟩)) else Pj.BA (NC s ⟨.leq,v1,u,true⟩ p) ((run W v g x).1 (s.cmp ⟨.lss,v1,u,true⟩))
   |_=>⟨false,[],[]⟩) ws os:=h
  cases hc:s.cf[i]? with
  |none=>rw[hc]at h;exact h.no
  |some f=>
   rw[hc]at h;obtain⟨op,u,w,r⟩:=f;have hf:∀U,s.ok W U->A2 U ⟨op,u,w,r⟩:=fun U hs=>hs.cf.nth i hc
   cases r with
   |true=>cases op<;>exact In.no h
   |false=>
    cases op<;>first|exact In.no h|skip
    cases b with
    |true=>
     obtain⟨h1,h2⟩:=In.n (b:=(run W v g x).1 (s.cmp ⟨.lss,u,w,true⟩)) h;refine AA.fact _ (fun U hs=>?_) (IT.1 _ h2);have e1:=eqF (hf U hs);have e2:=Ig (Hf hs h1);exact Yr (by omega)
    |false=>
     obtain⟨h1,h2⟩:=In.n (b:=(run W v g x).1 (s.cmp ⟨.lss,w,u,true⟩)) h;refine AA.fact _ (fun U hs=>?_) (IT.1 _ h2);have e1:=eqF (hf U hs);have e2:=Ig (Hf hs h1);exact Yr (by omega)
 |Afb i j=>
  refine⟨fun s h=>?_,fun l h=>h.no⟩;have h:(match s.cf[i]?,s.cf[j]? with |some f,some h=>C3 (Nat.beq (Dw f.op) 0)&&Ep ⟨f.op,f.x,f.y,C3 f.r⟩ h|_,_=>false)=true:=h.ok;cases hc:s.cf[i]? with
  |none=>rw[hc]at h;cases h
  |some f=>
   cases hd:s.cf[j]? with
   |none=>rw[hc,hd]at h;cases h
   |some k=>
    rw[hc,hd]at h;refine AA.absurd fun U hs=>?_
    have h:(C3 (Nat.beq (Dw f.op) 0)&&Ep ⟨f.op,f.x,f.y,C3 f.r⟩ k)=true:=h;rw[Ah]at h;have Bs:f.op ≠ .add:=fun e=>by rw[e]at h;cases h.1
    have e1:BQ f.op (f.x.den U) (f.y.den U)=f.r:=(BU Bs).1 (hs.cf.nth i hc);have e2:A2 U k:=hs.cf.nth j hd;rw[<-Cr h.2]at e2;have e2:BQ f.op (f.x.den U) (f.y.den U)=C3 f.r:=(BU (f:=⟨f.op,f.x,f.y,C3 f.r⟩) Bs).1 e2;rw[e1]at e2;cases hr:f.r<;>(rw[hr]at e2;cases e2)
 |done k ie ir im ig ps=>
  refine⟨fun s h=>?_,fun l h=>h.no⟩;have h:=h.ok;cases g with
  |lp d=>cases h
  |Bo c=>
   have h:Afj W c.Bo s k ie ir im ig ps=true:=h;unfold Afj at h;cases ho:c.Bo.outs[k]? with
   |none=>rw[ho]at h;cases h
   |some o=>
    rw[ho]at h;have h:((Zt s.base ie ir im&&(Nat.ble c.Bo.np s.base&&(Nat.ble c.Bo.np c.Bo.hi&&Mt (sbI s.base c.Bo.np c.Bo.hi c.Bo.n ie ir im ig) (c.Bo.sum o))))&&(knB s (sbI s.base c.Bo.np c.Bo.hi c.Bo.n ie ir im ig) o.cf o.rd o.mp ps&&
     U6 (sbI s.base c.Bo.np c.Bo.hi c.Bo.n ie ir im ig) (c.Bo.sum o) (abT s.abs s.Fy) (eval (Is W s) 400 xC (.call c.Bo.f (c.Bo.args.map (NI (nzF c.Bo.nz (VP s.cf))))) (Aa c.Bo.bl c.Bo.n))))=true:=h
    obtain⟨h1,h2⟩:=(Ah _ _).mp h;obtain⟨h2,h3⟩:=(Ah _ _).mp h2;exact AA.done (Aex.mk o (Oj ho) ie ir im ig 400 h1 (fun U hs=>RU hs h2 (WM.q ho)) h3)
 |way te tr tm tg ps p1 p2=>
  refine⟨fun s h=>?_,fun l h=>h.no⟩;cases g with
  |Bo c=>exact h.no
  |lp d=>
   have hw:=h.ws ⟨s,te,tr,tm,tg⟩ (List.mem_singleton.2 rfl);have h:AoG d s te tr tm tg ps p1 p2=true:=h.ok;unfold AoG at h;simp only[Ah]at h;obtain⟨h1,h2,h3,h4,h5⟩:=h;refine AA.done (WH.way _ hw ⟨rfl,rfl,rfl,rfl,rfl,rfl,rfl,rfl,rfl,rfl⟩ h1 h2 (fun U hs=>RU hs h3 fun _=>trivial) fun U hs=>?_);rw[Bool.or_eq_true,Ah,Ah]at h5;rcases h5 with ⟨h5,h6⟩|⟨h5,h6⟩
   ·exact Ark _ (Eng.Ac h5) rfl (Hf hs h6) (Hf hs h4)
   ·exact Arj _ rfl (Eng.Ac h5) (Hf hs h6) (Hf hs h4)
 |stop=>
  refine⟨fun s h=>?_,fun l h=>h.no⟩;cases g with
  |Bo c=>exact h.no
  |lp d=>
   have ho:=h.os (AlT d s) (List.mem_singleton.2 rfl);have hb:Nat.ble d.nh s.base=true:=h.ok;refine AA.done (WH.stop _ ho ?_ fun U hs=>⟨hs.cf.take _,hs.rd.take _,hs.hy⟩);show Nat.beq (d.nh+(s.base-d.nh)) s.base=true;rw[show d.nh+(s.base-d.nh)=s.base from by have:=Nat.le_of_ble_eq_true hb;omega];exact Nat.beq_refl _
inductive Item where
 |Bo (c:Bj) (t:Tr)
 |lp (d:LpD) (t:Tr)
def s0D(d:LpD):St:=⟨d.nh,d.cf,d.rd,fun _=>True,[],[],[],[],[],[],[],[],d.mp⟩
def RX(W:Wd)(v:BP)(d:LpD)(t:Tr):Pj:=(run W v (.lp d) t).1 (s0D d)
def Aa3(W:Wd)(v:BP)(d:LpD)(t:Tr):D7:={f:=d.f,no:=d.no,L:=d.L,bl:=d.bl,n:=d.n,mv:=d.mv,nc:=d.nc,nh:=d.nh,cf:=d.cf,rd:=d.rd,mp:=d.mp,ways:=(RX W v d t).ws,outs:=(RX W v d t).os,fuel:=200,nt:=(OP W d.f d.no).1,nl:=(OP W d.f d.no).2.1,code:=(OP W d.f d.no).2.2}
def BP.add(W:Wd)(v:BP)(i:Item):BP:=match i with |.Bo c _=>⟨v.cs++[(c.Bo,true)],v.ls,v.rs⟩|.lp d t=>⟨v.cs,v.ls++[(Aa3 W v d t,true)],v.rs⟩
def Item.Qt(W:Wd)(v:BP)(i:Item):Bool:=match i with
 |.Bo c t=>(c.cf.all (PT c.np)&&(c.rd.all (L6 c.np)&&c.mp.all (L6 c.np)))&&((run W v (.Bo c) t).1 (s0C c.Bo)).ok
 |.lp d t=>((Aa3 W v d t).lo&&(d.ma.lo d.nh&&d.mb.lo d.nh))&&((RX W v d t).ok&&(Aa3 W v d t).evs W)
theorem AZ.add{v:BP}(hW:W.ok)(hv:AZ W v){i:Item}(h:i.Qt W v=true):AZ W (v.add W i):=by
 cases i with
 |Bo c t=>
  have h:((c.cf.all (PT c.np)&&(c.rd.all (L6 c.np)&&c.mp.all (L6 c.np)))&&((run W v (.Bo c) t).1 (s0C c.Bo)).ok)=true:=h;rw[Ah]at h;refine⟨hv.cs.append (.cons ⟨?_,fun _ _=>trivial⟩ .nil),hv.ls,hv.rs⟩;exact Bq.ok.of hW (fun _ _ _ _=>trivial) h.1 ((Ahw hv (g:=.Bo c) (ws:=((run W v (.Bo c) t).1 (s0C c.Bo)).ws) (os:=((run W v (.Bo c) t).1 (s0C c.Bo)).os) t).1 _ ⟨h.2,fun _ h=>h,fun _ h=>h⟩)
 |lp d t=>
  have h:(((Aa3 W v d t).lo&&(d.ma.lo d.nh&&d.mb.lo d.nh))&&((RX W v d t).ok&&(Aa3 W v d t).evs W))=true:=h;rw[Ah,Ah (RX W v d t).ok]at h;refine⟨hv.cs,hv.ls.append (.cons ⟨?_,fun _ _=>trivial⟩ .nil),hv.rs⟩;exact D7.ok.of (ma:=d.ma) (mb:=d.mb) hW (fun _ _ _ _=>trivial) h.2.2 h.1 ((Ahw hv (g:=.lp d) (ws:=(RX W v d t).ws) (os:=(RX W v d t).os) t).1 _ ⟨h.2.1,fun _ h=>h,fun _ h=>h⟩)
def BP.DP(W:Wd):BP->List Item->BP
 |v,[]=>v
 |v,i::l=>BP.DP W (v.add W i) l
def Am4(W:Wd):BP->List Item->Bool
 |_,[]=>true
 |v,i::l=>i.Qt W v&&Am4 W (v.add W i) l
theorem Bk(hW:W.ok):∀{l:List Item} {v:BP},AZ W v->Am4 W v l=true->AZ W (v.DP W l):=by
 intro l
 induction l with
 |nil=>intro v hv _;exact hv
 |cons i l ih=>
  intro v hv h;have h:(i.Qt W v&&Am4 W (v.add W i) l)=true:=h;rw[Ah]at h;exact ih (hv.add hW h.1) h.2
end Eng
end
