/- Functions on things; maps of structures as things; tables of the program. No conditions beside those in its theorems. -/
import Derived.Test.YtijplfaplkkpcaaGreatE11
import Derived.Test.YtijplfaplkkpcaaGreatE7
set_option linter.unusedVariables false
set_option linter.unusedSimpArgs false
set_option linter.unusedSectionVars false
set_option linter.constructorNameAsVariable false
set_option maxRecDepth 100000
noncomputable section
namespace Eng
open Go Go.RowKit
variable [AD]
variable {P:Program} {C C':AB} {U U' Y:An} {J J':A1} {W:Wd} {n:Nat}
theorem Uu{b:Nat}{x y:Aj}{ex:List (Nat×Aj)}{n1:Nat}(h:(Aa ((0,y)::ex) n1).get b=some x):(b=0/\x=y)\/(b,x)∈ex:=by
 rcases BL.1 (Ad h) with e|e
 ·cases e;exact .inl ⟨rfl,rfl⟩
 ·exact .inr e
theorem Xy{F:Ak}{q:An->Prop}{c:Bq}{f:Em}{o:Ds}(hF:F.HO c=true)(hk:F.Qt c f o=true)(hcn:c.n=F.D.n)(hcb:c.bl=F.D.bl)(hC:C.fu=W.fu){Yq0 Y Uq2:An}{w w':World}{Jqo:A1}
 (Ml:Uq2.b 0=F.D.Am W Yq0) (hτ:Ai F.nb Yq0 Y) (DN:Uq2.b F.np=F.D.Am W (f.Sd.sig Y)) (Df:Tg F.hi ((f.Se F.nb F.np).sig Y) Uq2)
 (IS:Rel Jqo Uq2 C (Aa [(0,.Am (0,0))] 1) w) {h1:H} {Jq1:A1} {v':Value} (g1:Bb Jq1 Y o.v v') (g2:Rel Jq1 Y C h1 w') (g3:Ext Y (Fj F.D.ps w (Uq2.ro 0)) Jq1 (Aa c.bl c.n) h1 w w') (g4:leaves c.bl c.n o.AX o.n1 h1=true) (hov:o.v.within (Ae o.AX)=true):
 ∃J' h1,Bb J' Uq2 f.v v'/\Rel J' Uq2 C h1 w'/\Ext Uq2 Jqo J' (Aa [(0,.Am (0,0))] 1) h1 w w'/\leaves [(0,.Am (0,0))] 1 ((0,.Am (F.np,0))::f.ex) f.n1 h1=true:=by
 unfold Ak.Qt Ak.ckA Ak.ckB Ak.ckC Ak.ckL at hk;simp only[Ah]at hk;obtain⟨⟨kA1,kA2,kA3,kA4⟩,⟨kB1,kB2,kB3⟩,⟨kC1,kC2,kC3,kC4⟩,⟨kL1,_,_⟩,_,_⟩:=hk;unfold Ak.HO at hF;simp only[Ah]at hF;obtain⟨LH,⟨hFD,_⟩,_⟩:=hF;have hl:=Cw g4;have r1:Rel (Eng.AL Jq1 (Ae o.AX)) Y C (Aa o.AX o.n1) w':=g2.forget hl.get hl.cl;have fA:=Dq kA1;have fB:=Dq kB1;have kA2:=beq_eq kA2;have hrep0:F.D.rep W Yq0 (Uq2.ro 0) w:=by
  have:=IS.Am.rep 0 (0,0) rfl;have e:(Uq2.B (0,0))=F.D.Ov W Yq0 (Uq2.ro 0):=by
   show (Uq2.b 0).at_ (Uq2.ro 0)=_;rw[Ml];rfl
  rw[e]at this;exact this
 have hfp0:∀r,(Uq2.B (0,0)).fp w r↔F.D.fp Yq0 (Uq2.ro 0) w r:=by
  intro r;have e:(Uq2.B (0,0))=F.D.Ov W Yq0 (Uq2.ro 0):=by
   show (Uq2.b 0).at_ (Uq2.ro 0)=_;rw[Ml];rfl
  rw[e];exact Iff.rfl
 have hroot0:Fj F.D.ps w (Uq2.ro 0) 0=some (Uq2.ro 0,FY w (Uq2.ro 0)):=Ij DY;have hn0:0<c.n:=by
  rw[hcn];obtain⟨p,hp,e⟩:=Ce kA3;have:=(fA.lt' hp).1;omega
 have hroot1:rn (Eng.AL Jq1 (Ae o.AX)) f.Sd.g (Ae F.D.bl) 0=some (Uq2.ro 0,FY w (Uq2.ro 0)):=by
  rw[Ec kA3,kA2,BT kA4,g3.CW 0 hn0];exact hroot0
 have r2:=r1.focus fA;have hrep1:F.D.rep W (f.Sd.sig Y) (Uq2.ro 0) w':=(Rel.root LH r2 hroot1).cfg hC;have e1:(Uq2.B (F.np,0))=F.D.Ov W (f.Sd.sig Y) (Uq2.ro 0):=by
  show (Uq2.b F.np).at_ (Uq2.ro 0)=_;rw[DN];rfl
 have hfpo:∀r,F.D.fp Y (Uq2.ro 0) w r->F.D.fp Yq0 (Uq2.ro 0) w r:=by
  rintro r (h|h|⟨x,h⟩)
  ·exact .inl h
  ·refine .inr (.inl ?_);exact (Fo.congr (hτ.Am hFD) h)
  ·exact .inr (.inr ⟨x,by rw[<-hτ.k];exact h⟩)
 have hfoi:∀r,Fo Yq0 (Aa F.D.bl F.D.n) w r->Fo Y (Aa c.bl c.n) w r:=by
  intro r h;rw[hcb,hcn];exact Fo.congr (hτ.symm.Am hFD) h
 have noSib1:∀b b',¬Sib (Aa o.AX o.n1) b b':=by
  rintro b b' ⟨cc,m,fl,e⟩
  have:=hl.ok _ (Ad e);cases this
 have hA:∀r,F.D.fp (f.Sd.sig Y) (Uq2.ro 0) w' r->w.heap.size<=r\/F.D.fp Yq0 (Uq2.ro 0) w r:=by
  rintro r (⟨b,h⟩|h|⟨x,h⟩)
  ·obtain⟨S,hS⟩:=NR LH r2 hroot1 h;have hS:=(As (Bc hS).2).2
   by_cases Au:f.Sd.g b<c.n
   ·rw[g3.CW _ Au]at hS;exact .inr (.inl ⟨_,(EN hS).1⟩)
   ·rcases g3.new _ r S (show c.n<=_ by omega) hS with h|⟨b0,S0,h,_⟩
    ·exact .inl h
    ·exact .inr (.inl ⟨_,(EN h).1⟩)
  ·obtain⟨b,t,h1',h2'⟩:=Fo.focus fA h;rcases g3.fo r ⟨b,t,hl.get _ (Ad h1'),h2'⟩ with h|h
   ·exact .inl h
   ·rw[hcb,hcn]at h;exact .inr (.inr (.inl (Fo.congr (hτ.Am hFD) h)))
  ·exact .inr (.inr (.inr ⟨x,by rw[<-hτ.k];exact h⟩))
 have hB:∀r,r<w.heap.size->¬F.D.fp Yq0 (Uq2.ro 0) w r->w'.heap[r]? =w.heap[r]? :=by
  intro r Au hn;refine g3.frame r Au (fun b S hb=>(hn (.inl ⟨b,(EN hb).1⟩)).elim) fun hf=>hn (.inr (.inl ?_))
  rw[hcb,hcn]at hf;exact Fo.congr (hτ.Am hFD) hf
 have key0:∀b r z,rn (Eng.AL Jq1 (Ae o.AX)) (f.Se F.nb F.np).g (Ae f.ex) b=some (r,z)->∃p∈f.ex,p.1=b/\F.Xg c f o p=true/\Eng.AL Jq1 (Ae o.AX) ((f.Se F.nb F.np).g b)=some (r,z):=by
  intro b r z hb;obtain⟨hk,hb⟩:=Bc hb;obtain⟨p,hp,e⟩:=Ce hk;exact⟨p,hp,e,Bf.1 kB2 p hp,hb⟩
 have fresh:∀b r z,rn (Eng.AL Jq1 (Ae o.AX)) (f.Se F.nb F.np).g (Ae f.ex) b=some (r,z)->w.heap.size<=r:=by
  intro b r z hb;obtain⟨p,hp,e,I5,hb⟩:=key0 b r z hb;subst e;unfold Ak.Xg at I5;simp only[Ah]at I5;obtain⟨_,_,_,k4,k5,_⟩:=I5;have k4:=Nat.le_of_ble_eq_true k4;rcases g3.new _ r z (show c.n<=_ from k4) (As hb).2 with h|⟨b0,S0,h,x0,hx0,hd0⟩
  ·exact h
  ·exfalso;have Bs:f.ex ≠ []:=by intro e;rw[e]at hp;cases hp
   have D8:F.D.bl.all (fun p=>ND (Aa o.AX o.n1) p.1)=true:=by
    rw[Bool.or_eq_true]at kB3;rcases kB3 with e|e
    ·exact absurd (List.isEmpty_iff.1 e) Bs
    ·exact e
   have hm:=Ad hx0;rw[hcb]at hm;have hlv:ND (Aa o.AX o.n1) b0=true:=Bf.1 D8 _ hm;have Au:b0<c.n:=by
    have:=hrep0.lt b0 r S0 h;rw[hcn];exact this
   have hL:=Db hlv;obtain⟨y,hy,_⟩:=id hL;have PY:Ae o.AX b0=true:=Ei (Ad hy);have h2:Eng.AL Jq1 (Ae o.AX) b0=some (r,S0):=by rw[BT PY,g3.CW b0 Au];exact h
   rcases r1.inj b0 _ r S0 z h2 hb hL (Db k5) with e|e
   ·omega
   ·exact noSib1 _ _ e
 have kept0:∀r x,Uq2.k r=some x->r<w.heap.size/\w.heap[r]? =some x/\¬F.D.fp Yq0 (Uq2.ro 0) w r:=by
  intro r x hk;have h1:=(IS.kept r x hk).1;refine⟨(Ht.1 h1).1,h1,fun hf=>?_⟩;have:=(IS.Am.free 0 (0,0) rfl r ((hfp0 r).2 hf)).2;rw[hk]at this;cases this
 have bagEx:∀{b:Nat} {t:Nat×Nat},(Aa ((0,Aj.Am (F.np,0))::f.ex) f.n1).get b=some (.Am t)->b=0/\t=(F.np,0):=by
  intro b t hg;rcases Uu hg with ⟨e1,e2⟩|hm
  ·cases e2;exact⟨e1,rfl⟩
  ·have I5:=Bf.1 kB2 _ hm;unfold Ak.Xg at I5;simp only[Ah]at I5;cases I5.1
 have zero_no:rn (Eng.AL Jq1 (Ae o.AX)) (f.Se F.nb F.np).g (Ae f.ex) 0=none:=by
  cases hz:rn (Eng.AL Jq1 (Ae o.AX)) (f.Se F.nb F.np).g (Ae f.ex) 0 with
  |none=>rfl
  |some x=>
   obtain⟨p,hp,e,I5,_⟩:=key0 0 x.1 x.2 hz;unfold Ak.Xg at I5;simp only[Ah]at I5;rw[e]at I5;cases I5.2.2.1
 refine⟨rn (Eng.AL Jq1 (Ae o.AX)) (f.Se F.nb F.np).g (Ae f.ex),Aa ((0,.Am (F.np,0))::f.ex) f.n1,?_,⟨fun b r z hb=>?_,fun b r z hb=>?_,fun b b' r z z' hb AS _ _=>?_,fun r x hk=>?_,⟨fun b t hg=>?_,fun b t hg r hf=>?_,fun b t b' t' hg HZ Bs=>?_⟩⟩,⟨?_,fun b hb=>?_,fun b r z _ hb=>.inl (fresh b r z hb),g3.size,fun b hb _=>?_,fun r Au _ hn=>?_,fun r ⟨b,t,hg,hf⟩=>?_,g3.os,g3.tape,g3.output,g3.fz⟩,kL1⟩
 ·
  have h1:Bb (Eng.AL Jq1 (Ae o.AX)) Y o.v v':=Bb.AL hov g1;rw[<-AV.Ac kC1]at h1;exact Df.av kC4 kC3 (h1.Fs kC2)
 ·obtain⟨p,hp,e,_⟩:=key0 b r z hb;have:=(fB.lt' hp).1;rw[e]at this;exact this
 ·obtain⟨p,hp,e,I5,hb1'⟩:=key0 b r z hb;obtain⟨x0,ho,hx⟩:=r1.AE _ r z hb1';refine⟨x0,ho,fun x hg=>?_⟩;rcases Uu hg with ⟨e1,_⟩|hm
  ·rw[e1,zero_no]at hb;cases hb
  ·have I5:=Bf.1 kB2 _ hm;unfold Ak.Xg at I5;simp only[Ah]at I5;exact Df.br I5.2.1 I5.1 ((hx _ (fB.get _ hm)).Fs (fB.ok _ hm) (fB.lt' hm).2)
 ·obtain⟨p,hp,e,I5,hb1'⟩:=key0 b r z hb;obtain⟨p',hp',e',hck',hb2'⟩:=key0 b' r z' AS;unfold Ak.Xg at I5 hck';simp only[Ah]at I5 hck';subst e;subst e';rcases r1.inj _ _ r z z' hb1' hb2' (Db I5.2.2.2.2.1) (Db hck'.2.2.2.2.1) with e|e
  ·exact .inl (fB.inj p hp p' hp' e)
  ·exact (noSib1 _ _ e).elim
 ·obtain⟨k1,k2,k3⟩:=kept0 r x hk;refine⟨(hB r k1 k3).trans k2,fun b z hb=>?_⟩;have:=fresh b r z hb;omega
 ·obtain⟨_,e2⟩:=bagEx hg;rw[e2,e1];exact hrep1
 ·obtain⟨_,e2⟩:=bagEx hg;rw[e2,e1]at hf;have hf:F.D.fp (f.Sd.sig Y) (Uq2.ro 0) w' r:=hf;refine⟨fun b' z hb=>?_,?_⟩
  ·obtain⟨p,hp,e,I5,hb1'⟩:=key0 b' r z hb;unfold Ak.Xg at I5;simp only[Ah]at I5;obtain⟨_,_,_,_,k5,k6⟩:=I5;subst e;rcases hf with ⟨b,h⟩|h|⟨x,h⟩
   ·obtain⟨S,hS⟩:=NR LH r2 hroot1 h;obtain⟨hkD,hS⟩:=Bc hS;obtain⟨pq,hpq,e⟩:=Ce hkD;have k7:=Bf.1 k6 pq hpq;rw[Ah]at k7;rw[e]at k7;rcases r1.inj _ _ r z S hb1' hS (Db k5) (Db k7.1) with e|e
    ·have:=k7.2;rw[e,Nat.beq_refl]at this;cases this
    ·exact noSib1 _ _ e
   ·obtain⟨b,t',h1',h2'⟩:=Fo.focus fA h;exact (r1.Am.free b t' h1' r h2').1 _ z hb1'
   ·exact (r1.kept r x h).2 _ z hb1'
  ·cases hkr:Uq2.k r with
   |none=>rfl
   |some x=>
    obtain⟨k1,k2,k3⟩:=kept0 r x hkr;rcases hA r hf with h|h
    ·omega
    ·exact (k3 h).elim
 ·exact absurd ((bagEx hg).1.trans (bagEx HZ).1.symm) Bs
 ·have:=(Bf.1 (Cw kL1).cl (0,.Am (F.np,0)) GU);rw[Ah]at this;exact AF this.1
 ·have e:b=0:=by have:b<1:=hb;omega
  subst e;rw[zero_no];cases hz:Jqo 0 with
  |none=>rfl
  |some x=>
   obtain⟨o',_,hx⟩:=IS.AE 0 x.1 x.2 hz;exact (hx _ rfl:BR Jqo Uq2 C (.Am (0,0)) o' x.2).elim
 ·have e:b=0:=by have:b<1:=hb;omega
  subst e;exact⟨_,rfl,fun e=>Aj.noConfusion e⟩
 ·exact hB r Au fun hf=>hn ⟨0,(0,0),rfl,(hfp0 r).2 hf⟩
 ·obtain⟨_,e2⟩:=bagEx hg;rw[e2,e1]at hf;rcases hA r hf with h|h
  ·exact .inl h
  ·exact .inr ⟨0,(0,0),rfl,(hfp0 r).2 h⟩
def Ak.next(F:Ak)(W:Wd)(f:Em)(U Y:An):An:=
 {v:=fun i=>if i<F.np then U.v i else ((f.Se F.nb F.np).sig Y).v i,r:=fun i=>if i<F.np then U.r i else ((f.Se F.nb F.np).sig Y).r i,m:=fun i=>if i<F.np then U.m i else ((f.Se F.nb F.np).sig Y).m i,k:=U.k,
  b:=fun i=>if i<F.np then U.b i else F.D.Am W (f.Sd.sig Y),ro:=U.ro}
theorem Ak8{α β:Type}:∀{l:List α} {m:List β} {x:β},l.length=m.length->x∈m->∃y,(y,x)∈l.zip m:=by
 intro l
 induction l with
 |nil=>intro m x h hx;cases m with |nil=>cases hx|cons _ _=>cases h
 |cons a l ih=>
  intro m x h hx;cases m with
  |nil=>cases hx
  |cons b m=>
   rcases BL.1 hx with e|e
   ·subst e;exact⟨a,GU⟩
   ·obtain⟨y,hy⟩:=ih (Nat.succ.inj h) e;exact⟨y,Gq _ hy⟩
theorem Ak.ok{F:Ak}{q:An->Prop}{c:Bq}(hc:c.ok W)(hF:F.HO c=true)(hcb:c.bl=F.D.bl)(hcn:c.n=F.D.n)(hca:c.args=.one (.ptr 0 0)::F.args.map (AV.sub (Aed F.nb)))(hcf:c.cf=F.cf++F.M8.map (EG (Aed F.nb)))
 (hrd:c.rd=F.rd) (hmp:c.mp=F.mp) (hnp:c.np=F.nb+F.np) (hq:∀Y,q Y->c.q Y) (hqa:∀Y Y',Ai F.nb Y Y'->q Y->q Y')
 (hqo:∀p∈F.outs.zip c.outs,∀Y,q Y->p.2.post Y->q (p.1.Sd.sig Y))
 (hfa:∀p∈F.outs.zip c.outs,∀U,F.post W q p.1 p.2 U->Al (A2 U) p.1.fa) (hK:∀B,AD.is F.kind B↔∃Y,B=F.D.Am W Y/\F.inv q Y):(F.Bo W q c).ok W:=by
 intro U hp;have ES:AD.is F.kind (U.b 0):=by
  have:=hp.rd;cases this with
  |cons h _=>exact h.2
 obtain⟨Yq0,e0,hinv⟩:=(hK _).1 ES;have hF':=hF;unfold Ak.HO at hF';simp only[Ah]at hF';obtain⟨LH,⟨hFD,hFcf,hFrd,hFmp⟩,hnp0,⟨Fg,hargs2⟩,⟨hcfo,hcfo2⟩,hlen,D8⟩:=hF';have hnp0:=AF hnp0;have ha0:Ai F.nb Yq0 (F.full Yq0 U):=Ak.Aac;have hSa:Tg F.np U ((Aed F.nb).sig (F.full Yq0 U)):=by
  refine Tg.of (fun i _=>?_) (fun i _=>?_) fun i _=>?_
  ·show (if F.nb+i<F.nb then _ else U.v (F.nb+i-F.nb))=_;rw[if_neg (by omega),Nat.add_sub_cancel_left]
  ·show (if F.nb+i<F.nb then _ else U.r (F.nb+i-F.nb))=_;rw[if_neg (by omega),Nat.add_sub_cancel_left]
  ·show (if F.nb+i<F.nb then _ else U.m (F.nb+i-F.nb))=_;rw[if_neg (by omega),Nat.add_sub_cancel_left]
 have hpre:c.pre (F.full Yq0 U):=by
  refine⟨?_,?_,hq _ (hqa _ _ ha0 hinv.q),?_⟩
  ·rw[hcf];refine Al.append (hinv.cf.PO (fun _ h1 h2=>A2.agree ha0 h1 h2) hFcf) ?_;have h1:Al (A2 ((Aed F.nb).sig (F.full Yq0 U))) F.M8:=Al.Cx fun x hx=>hSa.cf (Bf.1 hcfo x hx) (Bf.1 hcfo2 x hx) (hp.cf.mem x hx)
   exact h1.map' fun _=>MS
  ·rw[hrd];exact hinv.rd.PO (fun _ h1 h2=>EO.agree ha0 h1 h2) hFrd
  ·rw[hmp];exact hinv.mp.PO (fun _ h1 h2=>HN.agree ha0 h1 h2) hFmp
 obtain⟨o,ho,Y,h1,h2⟩:=hc _ hpre;obtain⟨f,hz⟩:=Ak8 (beq_eq hlen) ho;have hk:=Bf.1 D8 _ hz;have h1':Ai F.nb Yq0 Y:=ha0.trans (h1.le (by omega));obtain⟨hpo,hsum⟩:=h2 Y .refl;have Cs:=hk;unfold Ak.Qt Ak.ckF Ak.ckI Ak.ckL at Cs;simp only[Ah]at Cs;obtain⟨_,_,_,⟨_,_,hhi⟩,⟨kF1,kF2⟩,kI1,kI2,kI3⟩:=Cs;have hhi:=AF hhi;have hinv1:F.inv q (f.Sd.sig Y):=by
  refine⟨?_,?_,hqo _ hz Y (hqa _ _ h1' hinv.q) hpo,?_⟩
  ·refine Al.Cx fun g hg=>?_
   have:=Bf.1 kI1 g hg;rw[Ah,Bool.or_eq_true]at this;refine MT this.1 ?_;rcases this.2 with h|h
   ·obtain⟨g',HZ,e⟩:=List.any_eq_true.1 h;rw[Cr e];exact hpo.cf.mem _ HZ
   ·rw[Ah]at h;obtain⟨g',HZ,e⟩:=List.any_eq_true.1 h.2;rw[Cr e];exact A2.agree h1 (by rw[<-Cr e];exact h.1) (hpre.cf.mem _ HZ)
  ·refine Al.Cx fun g hg=>?_
   have:=Bf.1 kI2 g hg;rw[Bool.or_eq_true]at this;have key:EO Y (P1 f.Sd g):=by
    rcases this with h|h
    ·obtain⟨g',HZ,e⟩:=List.any_eq_true.1 h;rw[BH e];exact hpo.rd.mem _ HZ
    ·rw[Ah]at h;obtain⟨g',HZ,e⟩:=List.any_eq_true.1 h.2;rw[BH e];exact EO.agree h1 (by rw[<-BH e];exact h.1) (hpre.rd.mem _ HZ)
   exact key
  ·refine Al.Cx fun g hg=>?_
   have:=Bf.1 kI3 g hg;rw[Bool.or_eq_true]at this;have key:HN Y (mkSub f.Sd g):=by
    rcases this with h|h
    ·obtain⟨g',HZ,e⟩:=List.any_eq_true.1 h;rw[BH e];exact hpo.mp.mem _ HZ
    ·rw[Ah]at h;obtain⟨g',HZ,e⟩:=List.any_eq_true.1 h.2;rw[BH e];exact HN.agree h1 (by rw[<-BH e];exact h.1) (hpre.mp.mem _ HZ)
   exact key
 refine⟨F.out W q f o,List.mem_map.2 ⟨(f,o),hz,rfl⟩,F.next W f U Y,⟨fun i hi=>if_pos hi,fun i hi=>if_pos hi,fun i hi=>if_pos hi,rfl,fun i hi=>if_pos hi,fun _ _=>rfl⟩,fun Uq2 g=>?_⟩;have g:Ai F.hi (F.next W f U Y) Uq2:=g;have hvi:∀i,i<F.np->((f.Se F.nb F.np).sig Y).v i=U.v i/\((f.Se F.nb F.np).sig Y).r i=U.r i/\((f.Se F.nb F.np).sig Y).m i=U.m i:=by
  intro i hi;refine⟨?_,?_,?_⟩
  ·show (bif Nat.blt i F.np then E.var (F.nb+i) else _:E).den Y=_;rw[AT hi];show Y.v (F.nb+i)=_;rw[h1.v _ (by omega)];exact hSa.v i hi
  ·show Y.r (bif Nat.blt i F.np then F.nb+i else _)=_;rw[AT hi];show Y.r (F.nb+i)=_;rw[h1.r _ (by omega)];exact hSa.r i hi
  ·show Y.m (bif Nat.blt i F.np then F.nb+i else _)=_;rw[AT hi];show Y.m (F.nb+i)=_;rw[h1.m _ (by omega)];exact hSa.m i hi
 have Df:Tg F.hi ((f.Se F.nb F.np).sig Y) Uq2:=by
  refine Tg.of (fun i hi=>?_) (fun i hi=>?_) fun i hi=>?_
  ·rw[g.v i hi];show (if i<F.np then U.v i else _)=_;split
   ·rename_i h;exact (hvi i h).1.symm
   ·rfl
  ·rw[g.r i hi];show (if i<F.np then U.r i else _)=_;split
   ·rename_i h;exact (hvi i h).2.1.symm
   ·rfl
  ·rw[g.m i hi];show (if i<F.np then U.m i else _)=_;split
   ·rename_i h;exact (hvi i h).2.2.symm
   ·rfl
 have Ml:Uq2.b 0=F.D.Am W Yq0:=by
  rw[g.b 0 (by omega)];show (if 0<F.np then U.b 0 else _)=_;rw[if_pos hnp0];exact e0
 have DN:Uq2.b F.np=F.D.Am W (f.Sd.sig Y):=by
  rw[g.b _ hhi];show (if F.np<F.np then _ else _)=_;rw[if_neg (by omega)]
 constructor
 ·refine⟨Al.append ?_ (hfa _ hz Uq2 ⟨Yq0,Y,h1',hinv,Ml,hpo,DN,hinv1,Df⟩),.cons ⟨fun _ c=>by cases c<;>trivial,?_⟩ ?_,⟨Yq0,Y,h1',hinv,Ml,hpo,DN,hinv1,Df⟩,.nil⟩
  ·refine Al.Cx fun x hx=>?_
   have:=Bf.1 kF1 x hx;rw[Ah,Ah,Ah]at this;obtain⟨x',hx',e⟩:=List.any_eq_true.1 this.2;refine Df.cf this.1.1.1 this.1.1.2 (MT this.1.2 ?_);rw[Cr e];exact hpo.cf.mem _ hx'
  ·show AD.is F.kind (Uq2.b F.np);rw[DN];exact (hK _).2 ⟨_,rfl,hinv1⟩
  ·refine Al.Cx fun x hx=>?_
   have:=Bf.1 kF2 x hx;rw[Ah,Ah]at this;obtain⟨x',hx',e⟩:=List.any_eq_true.1 this.2.2;have h3:=hpo.rd.mem _ hx';rw[<-BH e]at h3;refine⟨fun j cc=>?_,Eo this.2.1⟩;have h4:A9 (x.2.getD cc .u) (Y.r ((f.Se F.nb F.np).r x.1) j cc):=h3.1 j cc;have h5:Uq2.r x.1=Y.r ((f.Se F.nb F.np).r x.1):=Df.r x.1 (AF this.1);rw[h5];exact h4
 ·intro C hC;refine⟨?_,fun J w vs hr ha=>?_⟩
  ·obtain⟨_,_,_,⟨_,kL2,_⟩,_⟩:=(by unfold Ak.Qt Ak.ckL at hk;simp only[Ah]at hk;exact hk:_/\_/\_/\(_/\_/\_)/\_);rw[Ah];refine⟨?_,kL2⟩;rw[Bf];intro a ha';rcases BL.1 ha' with e|e
   ·subst e;rfl
   ·exact Bf.1 hargs2 a e
  ·have hs:=hsum C hC;have hov:o.v.within (Ae o.AX)=true:=by
    have:=hs.1;rw[Ah]at this;exact this.2
   have e1:(Uq2.B (0,0))=F.D.Ov W Yq0 (Uq2.ro 0):=by
    show (Uq2.b 0).at_ (Uq2.ro 0)=_;rw[Ml];rfl
   have Cp:F.D.rep W Yq0 (Uq2.ro 0) w:=by
    have:=hr.Am.rep 0 (0,0) rfl;rw[e1]at this;exact this
   have Ic:Rel (Fj F.D.ps w (Uq2.ro 0)) Y C (Aa c.bl c.n) w:=by
    rw[hcb,hcn];exact (Rel.agree h1' hFD Cp).cfg hC.symm
   have hargsR:F2 (Bb (Fj F.D.ps w (Uq2.ro 0)) Y) c.args vs:=by
    rw[hca];cases ha with
    |cons h0 ht=>
     refine .cons ⟨_,_,Ij DY,h0⟩ ?_;refine F2.Xz (U:=Uq2) (np:=F.np) ?_ Fg ht;refine Tg.of (fun i hi=>?_) (fun i hi=>?_) fun i hi=>?_
     ·exact ((h1.v (F.nb+i) (by omega)).trans (hSa.v i hi)).trans ((g.v i (by omega)).trans (if_pos hi)).symm
     ·exact ((h1.r (F.nb+i) (by omega)).trans (hSa.r i hi)).trans ((g.r i (by omega)).trans (if_pos hi)).symm
     ·exact ((h1.m (F.nb+i) (by omega)).trans (hSa.m i hi)).trans ((g.m i (by omega)).trans (if_pos hi)).symm
   refine (hs.2 _ w vs Ic hargsR).mono ?_
   rintro v' w' ⟨Jq1,hh1,g1,g2,g3,g4⟩
   exact Xy (q:=q) hF hk hcn hcb hC Ml h1' DN Df hr g1 g2 g3 g4 hov
end Eng
namespace Eng
open Go Go.RowKit
variable {P:Program} {C C':AB} {U U' Y:An} {J J':A1} {W:Wd} {n:Nat}
structure Be where
 D:Shape
 V:A
def KD(w:World)(ro:Nat)(m:Int->Option Value):Prop:=∃(ty:TypeId) (x:Nat) (ms:Array MapEntry) (clock:Nat),w.heap[ro]? =some (.cells #[.map (some x)] ty (0,0))/\ro ≠ x/\w.heap[x]? =some (.map ms clock)/\CX ms.toList clock/\
 ∀z,match m z with |some u=>BV ms.toList z (fun u'=>u'=u)|none=>∀e∈ms.toList,e.key ≠ .int .i64 z
def Fq(w:World)(ro y:Nat):Prop:=y=ro\/∃(ty:TypeId) (x:Nat),w.heap[ro]? =some (.cells #[.map (some x)] ty (0,0))/\y=x
def Mem(W:Wd)(F:Be)(Y:An)(w:World)(u:Value)(r:Nat):Prop:=CM u=some r/\AR (Fj F.D.ps w r) Y F.V u/\F.D.rep W Y r w
structure TB(W:Wd)(F:Be)(st:Int->Option An)(ro:Nat)(w:World)(m:Int->Option Value):Prop where
 map:KD w ro m
 same:∀z,(m z).isSome=(st z).isSome
 mem:∀z u Y,m z=some u->st z=some Y->0<=z/\z<65536/\∃r,Mem W F Y w u r/\∀y,F.D.fp Y r w y->¬Fq w ro y
 Vs:∀z z' u u' Y Y' r r',z ≠ z'->m z=some u->m z'=some u'->st z=some Y->st z'=some Y'->CM u=some r->CM u'=some r'->∀y,F.D.fp Y r w y->¬F.D.fp Y' r' w y
def Be.rep(W:Wd)(F:Be)(st:Int->Option An)(ro:Nat)(w:World):Prop:=∃m,TB W F st ro w m
def Be.fp(F:Be)(st:Int->Option An)(ro:Nat)(w:World)(y:Nat):Prop:=Fq w ro y\/∃m z u Y r,KD w ro m/\m z=some u/\st z=some Y/\CM u=some r/\F.D.fp Y r w y
theorem RS{ms:List MapEntry}{clock:Nat}(h:CX ms clock){a b:MapEntry}(ha:a∈ms)(hb:b∈ms)(e:a.key=b.key):a=b:=by
 have hp:=h.2.1;clear h
 induction hp with
 |nil=>cases ha
 |cons h0 _ ih=>
  rcases BL.1 ha with e1|e1<;>rcases BL.1 hb with e2|e2
  ·exact e1.trans e2.symm
  ·subst e1;exact absurd e (h0 _ e2)
  ·subst e2;exact absurd e.symm (h0 _ e1)
  ·exact ih e1 e2
theorem Ajn{ms:List MapEntry}{clock:Nat}(h:CX ms clock){z:Int}{u u':Value}(h1:BV ms z fun v=>v=u)(h2:BV ms z fun v=>v=u'):u=u':=by
 obtain⟨a,ha,k1,e1⟩:=h1;obtain⟨b,hb,k2,e2⟩:=h2;have:=RS h ha hb (k1.trans k2.symm);subst this;exact e1.symm.trans e2
theorem KD.one{w:World}{ro:Nat}{m m':Int->Option Value}(h:KD w ro m)(h':KD w ro m'):m=m':=by
 obtain⟨ty,x,ms,clock,g1,_,g2,g3,g4⟩:=h;obtain⟨ty',x',ms',Dt,k1,_,k2,k3,k4⟩:=h';rw[g1]at k1;cases k1;rw[g2]at k2;cases k2
 funext z
 have a:=g4 z;have b:=k4 z;cases hm:m z with
 |none=>
  rw[hm]at a;cases K9:m' z with
  |none=>rfl
  |some u=>
   rw[K9]at b;obtain⟨e,he,hk,_⟩:=b;exact absurd hk (a e he)
 |some u=>
  rw[hm]at a;cases K9:m' z with
  |none=>
   rw[K9]at b;obtain⟨e,he,hk,_⟩:=a;exact absurd hk (b e he)
  |some u'=>
   rw[K9]at b;rw[Ajn g3 a b]
theorem Fq.lt{w:World}{ro y:Nat}{m:Int->Option Value}(h:KD w ro m)(hy:Fq w ro y):y<w.heap.size:=by
 obtain⟨ty,x,ms,clock,g1,_,g2,_,_⟩:=h;rcases hy with e|⟨ty',x',k1,e⟩
 ·subst e;exact (Ht.1 g1).1
 ·rw[g1]at k1;cases k1;subst e;exact (Ht.1 g2).1
theorem OY{D:Shape}{ro:Nat}{w w':World}(h:∀r,D.fp Y ro w r->w'.heap[r]? =w.heap[r]?):Fj D.ps w' ro=Fj D.ps w ro:=by
 have h1:∀b,DA D.ps w' ro 32 b=DA D.ps w ro 32 b:=YK (fun b r hb=>h r (.inl ⟨b,hb⟩)) (Nat.le_refl _)
 funext b
 unfold Fj;rw[h1];cases hb:DA D.ps w ro 32 b with
 |none=>rfl
 |some r=>show some (r,FY w' r)=some (r,FY w r);rw[SW (h r (.inl ⟨b,hb⟩))]
theorem Be.lt'{F:Be}{st:Int->Option An}{ro:Nat}{w:World}{y:Nat}(hr:F.rep W st ro w)(h:F.fp st ro w y):y<w.heap.size:=by
 obtain⟨m,hm⟩:=hr;rcases h with h|⟨m',z,u,Y,r,h1,h2,h3,h4,h5⟩
 ·exact h.lt hm.map
 ·rw[h1.one hm.map]at h2;obtain⟨_,_,r',⟨g1,_,g2⟩,_⟩:=hm.mem z u Y h2 h3;rw[h4]at g1;cases g1;exact Shape.lt g2 h5
theorem AgA{w w':World}{ro:Nat}(h:w'.heap[ro]? =w.heap[ro]?)(y:Nat):Fq w' ro y↔Fq w ro y:=by unfold Fq;rw[h]
theorem AdD{w w':World}{ro:Nat}{m:Int->Option Value}(h:KD w ro m)(hs:∀y,Fq w ro y->w'.heap[y]? =w.heap[y]?):KD w' ro m:=by
 obtain⟨ty,x,ms,clock,g1,g0,g2,g3,g4⟩:=h;exact⟨ty,x,ms,clock,(hs ro (.inl rfl)).trans g1,g0,(hs x (.inr ⟨ty,x,g1,rfl⟩)).trans g2,g3,g4⟩
theorem Be.AuA{F:Be}{st:Int->Option An}{ro:Nat}{w w':World}(hr:F.rep W st ro w)(h:∀y,F.fp st ro w y->w'.heap[y]? =w.heap[y]?):F.rep W st ro w'/\∀y,F.fp st ro w' y↔F.fp st ro w y:=by
 obtain⟨m,hm⟩:=hr;have MB:∀y,Fq w ro y->w'.heap[y]? =w.heap[y]? :=fun y hy=>h y (.inl hy)
 have I8:=AdD hm.map MB;have hmr2:=AgA (MB ro (.inl rfl));have hmemh:∀z u Y r,m z=some u->st z=some Y->CM u=some r->∀y,F.D.fp Y r w y->w'.heap[y]? =w.heap[y]? :=fun z u Y r h1 h2 h3 y hy=>h y (.inr ⟨m,z,u,Y,r,hm.map,h1,h2,h3,hy⟩)
 have EJ:∀z u Y r,m z=some u->st z=some Y->CM u=some r->F.D.rep W Y r w'/\∀y,F.D.fp Y r w' y↔F.D.fp Y r w y:=by
  intro z u Y r h1 h2 h3;obtain⟨_,_,r',⟨g1,_,g2⟩,_⟩:=hm.mem z u Y h1 h2;rw[h3]at g1;cases g1;exact Shape.loc g2 (hmemh z u Y r h1 h2 h3)
 refine⟨⟨m,I8,hm.same,fun z u Y h1 h2=>?_,fun z z' u u' Y Y' r r' Bs h1 h2 h3 h4 h5 h6 y hy=>?_⟩,fun y=>?_⟩
 ·obtain⟨b1,b2,r,⟨g1,g2,g3⟩,g4⟩:=hm.mem z u Y h1 h2;obtain⟨k1,k2⟩:=EJ z u Y r h1 h2 g1;refine⟨b1,b2,r,⟨g1,?_,k1⟩,fun y hy hy2=>g4 y ((k2 y).1 hy) ((hmr2 y).1 hy2)⟩;rw[OY (hmemh z u Y r h1 h2 g1)];exact g2
 ·rw[(EJ z u Y r h1 h3 h5).2 y]at hy;rw[(EJ z' u' Y' r' h2 h4 h6).2 y];exact hm.Vs z z' u u' Y Y' r r' Bs h1 h2 h3 h4 h5 h6 y hy
 ·constructor
  ·rintro (hy|⟨m',z,u,Y,r,h1,h2,h3,h4,h5⟩)
   ·exact .inl ((hmr2 y).1 hy)
   ·rw[h1.one I8]at h2;exact .inr ⟨m,z,u,Y,r,hm.map,h2,h3,h4,((EJ z u Y r h2 h3 h4).2 y).1 h5⟩
  ·rintro (hy|⟨m',z,u,Y,r,h1,h2,h3,h4,h5⟩)
   ·exact .inl ((hmr2 y).2 hy)
   ·rw[h1.one hm.map]at h2;exact .inr ⟨m,z,u,Y,r,I8,h2,h3,h4,((EJ z u Y r h2 h3 h4).2 y).2 h5⟩
def Be.Ov(W:Wd)(F:Be)(st:Int->Option An)(ro:Nat):Zv:=⟨F.rep W st ro,F.fp st ro,fun _ _ hr h=>Be.lt' hr h,fun _ _ hr h=>Be.AuA hr h⟩
def Be.Am(W:Wd)(F:Be)(st:Int->Option An):CH:=.mk (fun ro=>F.Ov W st ro) (fun _=>0) (fun _ _ _=>undef) (fun _ z=>(st z).map fun _=>.bool true)
 fun z=>match st (z:Int) with |some Y=>.mk (fun _=>default) Y.v Y.r Y.m Y.b|none=>.no
end Eng
namespace Eng
open Go Go.RowKit
variable {P:Program} {C C':AB} {U U' Y:An} {J J':A1} {W:Wd} {n:Nat}
def MC:Sb:={s:=fun i=>.var (i+2),r:=fun t=>t+2,m:=fun t=>t+2,g:=fun b=>b+2}
def Be.top(e:Option Eng.V):List (Nat×Aj):=[(0,.cells (T.ofList [.map 1]) 1 true none),(1,.Ej 0 [(.var 1,e)])]
def Be.val(F:Be):Option Eng.V:=some (.one (F.V.sub MC))
def Be.low(F:Be):List (Nat×Aj):=F.D.bl.map fun p=>(p.1+2,p.2.sub MC)
def Be.opn(F:Be):List (Nat×Aj):=Be.top F.val++F.low
def Be.Du(F:Be)(nb:Nat):Bool:=F.D.Du&&((F.D.bl.all fun p=>(p.2.lo nb&&p.2.GF)&&(hasB (Aa F.D.bl F.D.n) p.1 p.2&&(match p.2 with |.cells _ _ _ (some _)=>false|_=>true)))&&(F.V.lo nb&&F.V.within fun _=>true))
theorem MR{a:A}{i:Nat}{a':A}(h:T.get (T.ofList [a]) i=some a'):i=0/\a'=a:=by
 cases i with
 |zero=>exact⟨rfl,(Option.some.inj h).symm⟩
 |succ i=>
  exfalso;have h:T.get (T.set .nil 0 a) (i+1)=some a':=h;rcases T.DT h with ⟨e,_⟩|⟨_,e⟩
  ·cases e
  ·cases e
section
variable {F:Be} {st:Int->Option An} {ro:Nat} {w:World} {m:Int->Option Value} {z:Int} {u:Value} {nb:Nat}
def Ahq(F:Be)(w:World)(ro x r:Nat):A1:=fun b=>match b with | 0=>some (ro,1)| 1=>some (x,0)|b+2=>Fj F.D.ps w r b
theorem Ac0{x r:Nat}:rn (Ahq F w ro x r) MC.g (fun _=>true)=Fj F.D.ps w r:=by funext b;rfl
theorem AjD{b:Nat}{y:Aj}(h:(b,y)∈F.low):∃b' y',b=b'+2/\y=y'.sub MC/\(b',y')∈F.D.bl:=by
 obtain⟨p,hp,e⟩:=List.mem_map.1 h;cases e;exact⟨p.1,p.2,rfl,rfl,hp⟩
theorem Gg{b:Nat}{y:Aj}(h:(Aa F.opn n).get b=some y):(b=0/\y=.cells (T.ofList [.map 1]) 1 true none)\/(b=1/\y=.Ej 0 [(.var 1,F.val)])\/∃b' y',b=b'+2/\y=y'.sub MC/\(b',y')∈F.D.bl:=by
 rcases List.mem_append.1 (Ad h) with e|e
 ·rcases BL.1 e with e|e
  ·cases e;exact .inl ⟨rfl,rfl⟩
  ·rcases BL.1 e with e|e
   ·cases e;exact .inr (.inl ⟨rfl,rfl⟩)
   ·cases e
 ·exact .inr (.inr (AjD e))
theorem TB.open(h:TB W F st ro w m)(hg:F.Du nb=true)(hz:m z=some u)(hs:st z=some Y){Uqo:An}(Df:Ai nb Y (MC.sig Uqo))(h1:Uqo.v 1=z)(hm:Uqo.m 0=m)(hC:C.fu=W.fu):
 ∃x r,CM u=some r/\(∀y,Fq w ro y↔y=ro\/y=x)/\Rel (Ahq F w ro x r) Uqo C (Aa F.opn (F.D.n+2)) w:=by
 obtain⟨ty,x,ms,clock,g1,Bs,g2,g3,g4⟩:=h.map;obtain⟨b1,b2,r,⟨e1,e2,e3⟩,e4⟩:=h.mem z u Y hz hs;have MB:∀y,Fq w ro y↔y=ro\/y=x:=by
  intro y;unfold Fq;constructor
  ·rintro (e|⟨ty',x',k1,e⟩)
   ·exact .inl e
   ·rw[g1]at k1;cases k1;exact .inr e
  ·rintro (e|e)
   ·exact .inl e
   ·exact .inr ⟨ty,x,g1,e⟩
 unfold Be.Du at hg;simp only[Ah]at hg;obtain⟨LH,D8,hV1,hV2⟩:=hg;have D8:∀p∈F.D.bl,p.2.lo nb=true/\p.2.GF=true/\(Aa F.D.bl F.D.n).get p.1=some p.2/\∀c k f s,p.2 ≠ .cells c k f (some s):=by
  intro p hp;have:=Bf.1 D8 p hp;simp only[Ah]at this;refine⟨this.1.1,this.1.2,Cz this.2.1,fun c k f s e=>?_⟩;rw[e]at this;cases this.2.2
 have hlo:(F.D.bl.all fun p=>p.2.lo nb)=true:=Bf.2 fun p hp=>(D8 p hp).1
 have e5:Rel (Fj F.D.ps w r) (MC.sig Uqo) (CS W) (Aa F.D.bl F.D.n) w:=Rel.agree Df hlo e3;have efp:∀y,(∃b S,Fj F.D.ps w r b=some (y,S))->F.D.fp Y r w y:=fun y ⟨b,S,hb⟩=>.inl ⟨b,(EN hb).1⟩
 have efo:∀y,Fo (MC.sig Uqo) (Aa F.D.bl F.D.n) w y->F.D.fp Y r w y:=fun y hy=>.inr (.inl (Fo.congr (Df.Am hlo) hy))
 have ek:∀y o,Uqo.k y=some o->F.D.fp Y r w y:=fun y o hy=>.inr (.inr ⟨o,by rw[<-Df.k];exact hy⟩)
 have e4':∀y,F.D.fp Y r w y->y ≠ ro/\y ≠ x:=fun y hy=>⟨fun e=>e4 y hy ((MB y).2 (.inl e)),fun e=>e4 y hy ((MB y).2 (.inr e))⟩
 have OE:∀b' y',(b',y')∈F.D.bl->(Aa F.D.bl F.D.n).get b'=some y':=fun b' y' hp=>(D8 _ hp).2.2.1
 refine⟨x,r,e1,MB,⟨fun b y S hb=>?_,fun b y S hb=>?_,fun b b' y S S' hb AS hl Py=>?_,fun y o hk=>⟨?_,fun b S hb=>?_⟩,⟨fun b t hg=>?_,fun b t hg y hf=>⟨fun b' S hb=>?_,?_⟩,fun b t b' t' hg HZ hne' y hf hf'=>?_⟩⟩⟩
 ·match b,hb with
  | 0,_=>show 0<F.D.n+2;omega
  | 1,_=>show 1<F.D.n+2;omega
  |b+2,hb=>
   have:=e5.lt b y S hb;have:b<F.D.n:=this;show b+2<F.D.n+2;omega
 ·match b,hb with
  | 0,hb=>
   cases hb;refine⟨_,g1,fun y' FH=>?_⟩;rcases Gg FH with ⟨_,e⟩|⟨e,_⟩|⟨b',_,e,_⟩
   ·subst e;refine⟨#[.map (some x)],ty,rfl,rfl,Nat.le_refl _,fun _=>rfl,fun i a hi ha=>?_⟩;obtain⟨i1,i2⟩:=MR ha;subst i1;subst i2;exact⟨_,rfl,x,0,rfl,rfl⟩
   ·cases e
   ·omega
  | 1,hb=>
   cases hb;refine⟨_,g2,fun y' FH=>?_⟩;rcases Gg FH with ⟨e,_⟩|⟨_,e⟩|⟨b',_,e,_⟩
   ·cases e
   ·subst e;refine⟨ms.toList,clock,by simp,g3,fun q=>?_⟩;show match (if Uqo.v 1=q then some F.val else none) with |some (some v)=>BV ms.toList q fun u'=>VR (Ahq F w ro x r) Uqo v u'|some none=>_|none=>match Uqo.m 0 q with |some u=>BV ms.toList q fun u'=>u'=u|none=>_
    by_cases hq:Uqo.v 1=q
    ·rw[if_pos hq];show BV ms.toList q fun u'=>VR (Ahq F w ro x r) Uqo (.one (F.V.sub MC)) u'
     have g5:=g4 q;rw[<-hq,h1,hz]at g5;rw[<-hq,h1];obtain⟨e,he,k1,k2⟩:=g5;refine⟨e,he,k1,?_⟩;show AR (Ahq F w ro x r) Uqo (F.V.sub MC) e.val;rw[k2];refine AR.Ft (k:=fun _=>true) ?_;rw[Ac0];exact AR.agree Df hV1 e2
    ·rw[if_neg hq,hm];exact g4 q
   ·omega
  |b+2,hb=>
   obtain⟨o,ho,hx⟩:=e5.AE b y S hb;refine⟨o,ho,fun y' FH=>?_⟩;rcases Gg FH with ⟨e,_⟩|⟨e,_⟩|⟨b',y0,e,e',hp⟩
   ·omega
   ·omega
   ·have e:b'=b:=by omega
    subst e;subst e';have:=hx y0 (OE _ _ hp);refine BR.Ft (k:=fun _=>true) (D8 _ hp).2.1 ?_;rw[Ac0];exact this.cfg hC.symm
 ·obtain⟨y0,hy0,hd0⟩:=hl;obtain⟨y1,hy1,hd1⟩:=Py
  match b,b',hb,AS with
  | 0,0,_,_=>exact .inl rfl
  | 0,1,hb,AS=>cases hb;cases AS;exact absurd rfl Bs
  | 1,0,hb,AS=>cases hb;cases AS;exact absurd rfl Bs
  | 1,1,_,_=>exact .inl rfl
  | 0,b'+2,hb,AS=>cases hb;exact absurd rfl (e4' _ (efp _ ⟨b',S',AS⟩)).1
  | 1,b'+2,hb,AS=>cases hb;exact absurd rfl (e4' _ (efp _ ⟨b',S',AS⟩)).2
  |b+2,0,hb,AS=>cases AS;exact absurd rfl (e4' _ (efp _ ⟨b,S,hb⟩)).1
  |b+2,1,hb,AS=>cases AS;exact absurd rfl (e4' _ (efp _ ⟨b,S,hb⟩)).2
  |b+2,b'+2,hb,AS=>
   have live:∀c y',(Aa F.opn (F.D.n+2)).get (c+2)=some y'->y' ≠ .dead->Live (Aa F.D.bl F.D.n) c:=by
    intro c y' hc hd;rcases Gg hc with ⟨e,_⟩|⟨e,_⟩|⟨c',y2,e,e',hp⟩
    ·omega
    ·omega
    ·have e:c'=c:=by omega
     subst e;exact⟨y2,OE _ _ hp,fun e2=>hd (by rw[e',e2];rfl)⟩
   rcases e5.inj b b' y S S' hb AS (live b y0 hy0 hd0) (live b' y1 hy1 hd1) with e|⟨c,k,f,e⟩
   ·exact .inl (by omega)
   ·exact absurd rfl ((D8 _ (Ad e)).2.2.2 c k f b')
 ·exact (e5.kept y o hk).1
 ·match b,hb with
  | 0,hb=>cases hb;exact absurd rfl (e4' _ (ek _ _ hk)).1
  | 1,hb=>cases hb;exact absurd rfl (e4' _ (ek _ _ hk)).2
  |b+2,hb=>exact (e5.kept y o hk).2 b S hb
 ·rcases Gg hg with ⟨_,e⟩|⟨_,e⟩|⟨b',y0,e,e',hp⟩
  ·cases e
  ·cases e
  ·match y0,e' with
   |.Am t0,e'=>
    have e':Aj.Am t=Aj.Am (MC.r t0.1,MC.m t0.2):=e';cases e';exact e5.Am.rep b' t0 (OE _ _ hp)
 ·obtain⟨t0,b0,q1,q2⟩:∃t0 b0,(Aa F.D.bl F.D.n).get b0=some (.Am t0)/\t=(MC.r t0.1,MC.m t0.2):=by
   rcases Gg hg with ⟨_,e⟩|⟨_,e⟩|⟨b',y0,e,e',hp⟩
   ·cases e
   ·cases e
   ·match y0,e' with
    |.Am t0,e'=>
     have e':Aj.Am t=Aj.Am (MC.r t0.1,MC.m t0.2):=e';cases e';exact⟨t0,b',OE _ _ hp,rfl⟩
  subst q2;have hf:(An.B (MC.sig Uqo) t0).fp w y:=hf
  match b',hb with
  | 0,hb=>cases hb;exact absurd rfl (e4' _ (efo _ ⟨b0,t0,q1,hf⟩)).1
  | 1,hb=>cases hb;exact absurd rfl (e4' _ (efo _ ⟨b0,t0,q1,hf⟩)).2
  |b'+2,hb=>exact (e5.Am.free b0 t0 q1 y hf).1 b' S hb
 ·obtain⟨t0,b0,q1,q2⟩:∃t0 b0,(Aa F.D.bl F.D.n).get b0=some (.Am t0)/\t=(MC.r t0.1,MC.m t0.2):=by
   rcases Gg hg with ⟨_,e⟩|⟨_,e⟩|⟨b',y0,e,e',hp⟩
   ·cases e
   ·cases e
   ·match y0,e' with
    |.Am t0,e'=>
     have e':Aj.Am t=Aj.Am (MC.r t0.1,MC.m t0.2):=e';cases e';exact⟨t0,b',OE _ _ hp,rfl⟩
  subst q2;exact (e5.Am.free b0 t0 q1 y hf).2
 ·rcases Gg hg with ⟨_,e⟩|⟨_,e⟩|⟨b1,y0,e,e',hp⟩
  ·cases e
  ·cases e
  ·rcases Gg HZ with ⟨_,d⟩|⟨_,d⟩|⟨b2,y1,d,d',hp'⟩
   ·cases d
   ·cases d
   ·match y0,y1,e',d' with
    |.Am t0,.Am t1,e',d'=>
     have e':Aj.Am t=Aj.Am (MC.r t0.1,MC.m t0.2):=e';have d':Aj.Am t'=Aj.Am (MC.r t1.1,MC.m t1.2):=d';cases e';cases d';exact e5.Am.Vs b1 t0 b2 t1 (OE _ _ hp) (OE _ _ hp') (by omega) y hf hf'
end
end Eng
namespace Eng
open Go Go.RowKit
variable {P:Program} {C C':AB} {U U' Y:An} {J J':A1} {W:Wd} {n:Nat}
section
variable {F:Be} {st:Int->Option An} {ro:Nat} {w w':World} {m:Int->Option Value} {z:Int} {u:Value} {nb:Nat}
def YM(ro x:Nat):A1:=fun b=>match b with | 0=>some (ro,1)| 1=>some (x,0)|_=>none
theorem TB.Ary(h:TB W F st ro w m)(hz:m z=none){Uqo:An}(h1:Uqo.v 1=z)(hm:Uqo.m 0=m)(hk:∀y,Uqo.k y=none):
 ∃x,(∀y,Fq w ro y↔y=ro\/y=x)/\Rel (YM ro x) Uqo C (Aa (Be.top none) 2) w:=by
 obtain⟨ty,x,ms,clock,g1,Bs,g2,g3,g4⟩:=h.map;have MB:∀y,Fq w ro y↔y=ro\/y=x:=by
  intro y;unfold Fq;constructor
  ·rintro (e|⟨ty',x',k1,e⟩)
   ·exact .inl e
   ·rw[g1]at k1;cases k1;exact .inr e
  ·rintro (e|e)
   ·exact .inl e
   ·exact .inr ⟨ty,x,g1,e⟩
 have get:∀{b y},(Aa (Be.top none) 2).get b=some y->(b=0/\y=.cells (T.ofList [.map 1]) 1 true none)\/(b=1/\y=.Ej 0 [(.var 1,none)]):=by
  intro b y hb;rcases BL.1 (Ad hb) with e|e
  ·cases e;exact .inl ⟨rfl,rfl⟩
  ·rcases BL.1 e with e|e
   ·cases e;exact .inr ⟨rfl,rfl⟩
   ·cases e
 refine⟨x,MB,⟨fun b y S hb=>?_,fun b y S hb=>?_,fun b b' y S S' hb AS _ _=>?_,fun y o Cs=>?_,Hr.none fun b t hg=>?_⟩⟩
 ·match b,hb with
  | 0,_=>show 0<2;omega
  | 1,_=>show 1<2;omega
 ·match b,hb with
  | 0,hb=>
   cases hb;refine⟨_,g1,fun y' FH=>?_⟩;rcases get FH with ⟨_,e⟩|⟨e,_⟩
   ·subst e;refine⟨#[.map (some x)],ty,rfl,rfl,Nat.le_refl _,fun _=>rfl,fun i a hi ha=>?_⟩;obtain⟨i1,i2⟩:=MR ha;subst i1;subst i2;exact⟨_,rfl,x,0,rfl,rfl⟩
   ·cases e
  | 1,hb=>
   cases hb;refine⟨_,g2,fun y' FH=>?_⟩;rcases get FH with ⟨e,_⟩|⟨_,e⟩
   ·cases e
   ·subst e;refine⟨ms.toList,clock,by simp,g3,fun q=>?_⟩;show match (if Uqo.v 1=q then some (none:Option V) else none) with |some (some v)=>BV ms.toList q fun u'=>VR (YM ro x) Uqo v u'|some none=>∀e∈ms.toList,e.key ≠ .int .i64 q|none=>match Uqo.m 0 q with |some u=>BV ms.toList q fun u'=>u'=u|none=>∀e∈ms.toList,e.key ≠ .int .i64 q
    by_cases hq:Uqo.v 1=q
    ·rw[if_pos hq];have g5:=g4 q;rw[<-hq,h1,hz]at g5;rw[<-hq,h1];exact g5
    ·rw[if_neg hq,hm];exact g4 q
 ·match b,b',hb,AS with
  | 0,0,_,_=>exact .inl rfl
  | 0,1,hb,AS=>cases hb;cases AS;exact absurd rfl Bs
  | 1,0,hb,AS=>cases hb;cases AS;exact absurd rfl Bs
  | 1,1,_,_=>exact .inl rfl
 ·rw[hk y]at Cs;cases Cs
 ·rcases get hg with ⟨_,e⟩|⟨_,e⟩<;>cases e
structure QQ(W:Wd)(F:Be)(st:Int->Option An)(ro:Nat)(w:World)(m:Int->Option Value)(z:Int)(Uqo:An)(Jqo:A1)(bl:List (Nat×Aj))(n:Nat)(X:Nat->Prop):Prop where
 fam:TB W F st ro w m
 at0:Jqo 0=some (ro,1)
 v1:Uqo.v 1=z
 m0:Uqo.m 0=m
 two:2<=n
 in_:∀y,((∃b S,Jqo b=some (y,S))\/Fo Uqo (Aa bl n) w y\/∃o,Uqo.k y=some o)->X y
 fp:∀y,X y->F.fp st ro w y
 mr:∀y,Fq w ro y->X y
 far:∀z' u' Y' r',z' ≠ z->m z'=some u'->st z'=some Y'->CM u'=some r'->∀y,F.D.fp Y' r' w y->¬X y
def AkD(W:Wd)(F:Be)(Uqo:An)(Jq1:A1)(h1:H)(w':World)(e:Option V)(Y':Option An):Prop:=match e,Y' with
 |none,none=>True
 |some v,some Y'=>∀u,VR Jq1 Uqo v u->∃r',Mem W F Y' w' u r'/\∀y,F.D.fp Y' r' w' y->(∃b S,2<=b/\Jq1 b=some (y,S)/\Live h1 b)\/Fo Uqo h1 w' y\/∃o,Uqo.k y=some o
 |_,_=>False
theorem TB.close{Uqo:An}{Jqo Jq1:A1}{bl:List (Nat×Aj)}{X:Nat->Prop}(O:QQ W F st ro w m z Uqo Jqo bl n X){h1:H}(hr:Rel Jq1 Uqo C h1 w')(hx:Ext Uqo Jqo Jq1 (Aa bl n) h1 w w'){e:Option V}
 (e0:h1.get 0=some (.cells (T.ofList [.map 1]) 1 true none)) (e1:h1.get 1=some (.Ej 0 [(.var 1,e)])) {Y':Option An} (C7:AkD W F Uqo Jq1 h1 w' e Y') (hz:Y'.isSome=true->0<=z/\z<65536):
 (∃m',TB W F (fun y=>if y=z then Y' else st y) ro w' m')/\(∀y,F.fp (fun y=>if y=z then Y' else st y) ro w' y->w.heap.size<=y\/F.fp st ro w y)/\(∀y,y<w.heap.size->¬F.fp st ro w y->w'.heap[y]? =w.heap[y]?):=by
 have hroρ:Jq1 0=some (ro,1):=(hx.CW 0 (show 0<n from by have:=O.two;omega)).trans O.at0;obtain⟨o0,ho0,Ml⟩:=hr.AE 0 ro 1 hroρ;obtain⟨cs,ty,c1,c2,_,_,c5⟩:=Ml _ e0;obtain⟨v0,OI,x,S1,hρ1,hv0'⟩:=c5 0 (.map 1) (by decide) rfl;have Ix:cs= #[.map (some x)]:=by
  apply Array.ext
  ·rw[c2];rfl
  ·intro i hi hi';have:i=0:=by rw[c2]at hi;omega
   subst this;rw[Array.getElem?_eq_getElem hi]at OI;rw[Option.some.inj OI,hv0'];rfl
 have Qz:w'.heap[ro]? =some (.cells #[.map (some x)] ty (0,0)):=by rw[ho0,c1,Ix]
 obtain⟨o1,ho1,DN⟩:=hr.AE 1 x S1 hρ1;obtain⟨ms,clock,d1,d2,d3⟩:=DN _ e1;have hg2:w'.heap[x]? =some (.map ms.toArray clock):=by rw[ho1,d1]
 have Bs:ro ≠ x:=by
  intro h;rw[<-h,Qz]at hg2;cases hg2
 have hold:∀b y S,Jq1 b=some (y,S)->w.heap.size<=y\/X y:=by
  intro b y S hb
  by_cases Au:b<n
  ·rw[hx.CW b Au]at hb;exact .inr (O.in_ y (.inl ⟨b,S,hb⟩))
  ·rcases hx.new b y S (show n<=b by omega) hb with h|⟨b0,S0,h,_⟩
   ·exact .inl h
   ·exact .inr (O.in_ y (.inl ⟨b0,S0,h⟩))
 have hfo:∀y,Fo Uqo h1 w' y->w.heap.size<=y\/X y:=fun y hy=>(hx.fo y hy).imp id fun h=>O.in_ y (.inr (.inl h))
 have hB:∀y,y<w.heap.size->¬X y->w'.heap[y]? =w.heap[y]? :=fun y Au hn=>hx.frame y Au (fun b S hb=>(hn (O.in_ y (.inl ⟨b,S,hb⟩))).elim) fun hf=>hn (O.in_ y (.inr (.inl hf)))
 have hoth:∀z' u' Yq0 r',z' ≠ z->m z'=some u'->st z'=some Yq0->CM u'=some r'->(∀y,F.D.fp Yq0 r' w y->y<w.heap.size/\¬X y/\w'.heap[y]? =w.heap[y]?)/\F.D.rep W Yq0 r' w'/\∀y,F.D.fp Yq0 r' w' y↔F.D.fp Yq0 r' w y:=by
  intro z' u' Yq0 r' hne' k1 k2 k3;obtain⟨_,_,r2,⟨q1,q2,q3⟩,_⟩:=O.fam.mem z' u' Yq0 k1 k2;rw[k3]at q1;cases q1;have hh:∀y,F.D.fp Yq0 r' w y->y<w.heap.size/\¬X y/\w'.heap[y]? =w.heap[y]? :=by
   intro y hy;have Au:=Shape.lt q3 hy;have hn:=O.far z' u' Yq0 r' hne' k1 k2 k3 y hy;exact⟨Au,hn,hB y Au hn⟩
  exact⟨hh,Shape.loc q3 fun y hy=>(hh y hy).2.2⟩
 have MB:∀y,Fq w' ro y->w.heap.size<=y\/X y:=by
  rintro y (h|⟨ty',x',h,h'⟩)
  ·subst h;exact hold 0 _ _ hroρ
  ·rw[Qz]at h;cases h;subst h';exact hold 1 _ _ hρ1
 have mref':∀y,Fq w' ro y↔y=ro\/y=x:=by
  intro y;unfold Fq;constructor
  ·rintro (h|⟨ty',x',k1,h⟩)
   ·exact .inl h
   ·rw[Qz]at k1;cases k1;exact .inr h
  ·rintro (h|h)
   ·exact .inl h
   ·exact .inr ⟨ty,x,Qz,h⟩
 obtain⟨uz,huz,Cu⟩:∃uz:Option Value,(match uz with |some u=>BV ms z fun u'=>u'=u|none=>∀e∈ms,e.key ≠ .int .i64 z)/\uz.isSome=Y'.isSome/\∀u Yq1,uz=some u->Y'=some Yq1->∃r',Mem W F Yq1 w' u r'/\∀y,F.D.fp Yq1 r' w' y->(∃b S,2<=b/\Jq1 b=some (y,S)/\Live h1 b)\/Fo Uqo h1 w' y\/∃o,Uqo.k y=some o:=by
  have hq:=d3 z;have hq:match (if Uqo.v 1=z then some e else none) with |some (some v)=>BV ms z fun u'=>VR Jq1 Uqo v u'|some none=>∀e∈ms,e.key ≠ .int .i64 z|none=>match Uqo.m 0 z with |some u=>BV ms z fun u'=>u'=u|none=>∀e∈ms,e.key ≠ .int .i64 z:=hq
  rw[if_pos O.v1]at hq
  match e,Y',C7,hq with
  |none,none,_,hq=>exact⟨none,hq,rfl,fun u Yq1 h=>nomatch h⟩
  |some v,some Yq1,C7,hq=>
   obtain⟨en,hen,k1,k2⟩:=hq;exact⟨some en.val,⟨en,hen,k1,rfl⟩,rfl,fun u Yq2 h h'=>by cases h;cases h';exact C7 _ k2⟩
 have Kf:TB W F (fun y=>if y=z then Y' else st y) ro w' (fun y=>if y=z then uz else m y):=by
  refine⟨⟨ty,x,ms.toArray,clock,Qz,Bs,hg2,by simpa using d2,fun q=>?_⟩,fun q=>?_,fun q u' Yq1 k1 k2=>?_,fun q q' u1 u2 Yq1 Yq2 r1 r2 hqq k1 k2 k3 k4 k5 k6 y hy FH=>?_⟩
  ·by_cases hq:q=z
   ·subst hq;show match (if q=q then uz else m q) with |some u=>_|none=>_
    rw[if_pos rfl];simpa using huz
   ·show match (if q=z then uz else m q) with |some u=>_|none=>_
    rw[if_neg hq];have h:=d3 q;have h:match (if Uqo.v 1=q then some e else none) with |some (some v)=>BV ms q fun u'=>VR Jq1 Uqo v u'|some none=>∀e∈ms,e.key ≠ .int .i64 q|none=>match Uqo.m 0 q with |some u=>BV ms q fun u'=>u'=u|none=>∀e∈ms,e.key ≠ .int .i64 q:=h
    rw[if_neg (fun h=>hq (h.symm.trans O.v1)),O.m0]at h;simpa using h
  ·by_cases hq:q=z
   ·simp only[if_pos hq];exact Cu.1
   ·simp only[if_neg hq];exact O.fam.same q
  ·by_cases hq:q=z
   ·simp only[if_pos hq]at k1 k2;obtain⟨r',g1,g2⟩:=Cu.2 u' Yq1 k1 k2;have hz:=hz (by rw[k2];rfl);refine⟨by omega,by omega,r',g1,fun y hy hmy=>?_⟩;rcases (mref' y).1 hmy with h|h<;>subst h<;>rcases g2 _ hy with ⟨b,S,h2,h3,h4⟩|h3|⟨o,h3⟩
    ·rcases hr.inj 0 b _ 1 S hroρ h3 ⟨_,e0,fun h=>Aj.noConfusion h⟩ h4 with h5|⟨c,k,f,h5⟩
     ·omega
     ·rw[e0]at h5;cases h5
    ·exact hr.Am.ours hroρ h3
    ·exact (hr.kept _ o h3).2 0 1 hroρ
    ·rcases hr.inj 1 b _ S1 S hρ1 h3 ⟨_,e1,fun h=>Aj.noConfusion h⟩ h4 with h5|⟨c,k,f,h5⟩
     ·omega
     ·rw[e1]at h5;cases h5
    ·exact hr.Am.ours hρ1 h3
    ·exact (hr.kept _ o h3).2 1 S1 hρ1
   ·simp only[if_neg hq]at k1 k2;obtain⟨b1,b2,r',⟨q1,q2,q3⟩,q4⟩:=O.fam.mem q u' Yq1 k1 k2;obtain⟨p1,p2,p3⟩:=hoth q u' Yq1 r' hq k1 k2 q1;refine⟨b1,b2,r',⟨q1,?_,p2⟩,fun y hy hmy=>?_⟩
    ·rw[OY fun y hy=>(p1 y hy).2.2];exact q2
    ·have hy0:=(p3 y).1 hy;rcases MB y hmy with h|h
     ·have:=(p1 y hy0).1;omega
     ·exact (p1 y hy0).2.1 h
  ·by_cases h1q:q=z
   ·have h2q:q' ≠ z:=fun h=>hqq (h1q.trans h.symm)
    simp only[if_pos h1q]at k1 k3;simp only[if_neg h2q]at k2 k4;obtain⟨p1,p2,p3⟩:=hoth q' u2 Yq2 r2 h2q k2 k4 k6;have hy2:=p1 y ((p3 y).1 FH);obtain⟨r',⟨g1,_,_⟩,g2⟩:=Cu.2 u1 Yq1 k1 k3;rw[k5]at g1;cases g1;rcases g2 y hy with ⟨b,S,_,h3,_⟩|h3|⟨o,h3⟩
    ·rcases hold b y S h3 with h|h
     ·omega
     ·exact hy2.2.1 h
    ·rcases hfo y h3 with h|h
     ·omega
     ·exact hy2.2.1 h
    ·exact hy2.2.1 (O.in_ y (.inr (.inr ⟨o,h3⟩)))
   ·simp only[if_neg h1q]at k1 k3;obtain⟨p1,p2,p3⟩:=hoth q u1 Yq1 r1 h1q k1 k3 k5;have hy1:=p1 y ((p3 y).1 hy)
    by_cases h2q:q'=z
    ·simp only[if_pos h2q]at k2 k4;obtain⟨r',⟨g1,_,_⟩,g2⟩:=Cu.2 u2 Yq2 k2 k4;rw[k6]at g1;cases g1;rcases g2 y FH with ⟨b,S,_,h3,_⟩|h3|⟨o,h3⟩
     ·rcases hold b y S h3 with h|h
      ·omega
      ·exact hy1.2.1 h
     ·rcases hfo y h3 with h|h
      ·omega
      ·exact hy1.2.1 h
     ·exact hy1.2.1 (O.in_ y (.inr (.inr ⟨o,h3⟩)))
    ·simp only[if_neg h2q]at k2 k4;obtain⟨_,_,p3'⟩:=hoth q' u2 Yq2 r2 h2q k2 k4 k6;exact O.fam.Vs q q' u1 u2 Yq1 Yq2 r1 r2 hqq k1 k2 k3 k4 k5 k6 y ((p3 y).1 hy) ((p3' y).1 FH)
 refine⟨⟨_,Kf⟩,?_,fun y Au hn=>hB y Au fun h=>hn (O.fp y h)⟩
 ·rintro y (hy|⟨m2,q,u2,Yq2,r2,k0,k1,k2,k3,hy⟩)
  ·rcases MB y hy with h|h
   ·exact .inl h
   ·exact .inr (O.fp y h)
  ·have:=k0.one Kf.map;subst this
   by_cases hq:q=z
   ·simp only[if_pos hq]at k1 k2;obtain⟨r',⟨g1,_,_⟩,g2⟩:=Cu.2 u2 Yq2 k1 k2;rw[k3]at g1;cases g1;rcases g2 y hy with ⟨b,S,_,h3,_⟩|h3|⟨o,h3⟩
    ·exact (hold b y S h3).imp id (O.fp y)
    ·exact (hfo y h3).imp id (O.fp y)
    ·exact .inr (O.fp y (O.in_ y (.inr (.inr ⟨o,h3⟩))))
   ·simp only[if_neg hq]at k1 k2;obtain⟨_,_,p3⟩:=hoth q u2 Yq2 r2 hq k1 k2 k3;exact .inr (.inr ⟨m,q,u2,Yq2,r2,O.fam.map,k1,k2,k3,(p3 y).1 hy⟩)
end
end Eng
namespace Eng
open Go Go.RowKit
variable [AD]
variable {P:Program} {C C':AB} {U U' Y:An} {J J':A1} {W:Wd} {n:Nat}
structure Di where
 IE:Bool
 c:Bq
 o:Ds
 TC:Bool
 te:List E
 tr:List Nat
 tm:List Nat
 tg:List Nat
 v:AV
 ie:List E
 cf:List CF:=[]
def Di.Sd(k:Di):Sb:=sbT 0 k.te k.tr k.tm k.tg
def Di.Se(k:Di)(nb np:Nat):Sb:={s:=fun i=>bif Nat.blt i np then .var (Nat.add (Nat.add 2 nb) i) else k.ie.getD (Nat.sub i np) (.lit 0),r:=fun t=>Nat.add (Nat.add 2 nb) t,m:=fun t=>Nat.add (Nat.add 2 nb) t,g:=fun b=>b}
def sbK(nb:Nat):Sb:={s:=fun i=>bif Nat.beq i 1 then .var 1 else .var (Nat.add (Nat.add 2 nb) i),r:=fun t=>Nat.add (Nat.add 2 nb) t,m:=fun t=>Nat.add (Nat.add 2 nb) t,g:=fun b=>b}
def Ch(nb:Nat)(U Y:An)(m:Int->Option Value):An:=
 {v:=fun i=>if i=0 then 0 else if i=1 then U.v 1 else if i<2+nb then Y.v (i-2) else U.v (i-(2+nb)),r:=fun i=>if i<2+nb then Y.r (i-2) else U.r (i-(2+nb)),
  m:=fun i=>if i=0 then m else if i<2+nb then Y.m (i-2) else U.m (i-(2+nb)),k:=Y.k,b:=fun i=>Y.b (i-2),ro:=fun i=>Y.ro (i-2)}
def E.noM:E->Bool
 |.lit _=>true
 |.var _=>true
 |.bin _ _ a b=>a.noM&&b.noM
 |.conv _ a=>a.noM
 |.cell _ a _=>a.noM
 |.Bd _ _ _=>false
theorem E.KZ{nb:Nat}{m m':Int->Option Value}:∀{e:E},e.noM=true->e.den (Ch nb U Y m)=e.den (Ch nb U Y m')
 |.lit _,_=>rfl
 |.var _,_=>rfl
 |.bin o k a b,h=>by
  have h:(a.noM&&b.noM)=true:=h;rw[Ah]at h;show E5 o k (a.den _) (b.den _)=E5 o k (a.den _) (b.den _);rw[E.KZ h.1,E.KZ h.2]
 |.conv k a,h=>by
  have h:a.noM=true:=h;show k.wrap (a.den _)=k.wrap (a.den _);rw[E.KZ h]
 |.cell t a c,h=>by
  have h:a.noM=true:=h;show numOf ((Ch nb U Y m).r t (a.den _).toNat c)=numOf ((Ch nb U Y m').r t (a.den _).toNat c);rw[E.KZ h];rfl
def Be.EV(F:Be):Bool:=match (Aa F.D.bl F.D.n).get 0 with |some (.row _ _ _ _)=>true|_=>false
def Be.vok(F:Be):Bool:=match F.V with |.ptr 0 0=>true|.C2 0 _ _=>F.EV|_=>false
def Be.T7(F:Be)(Y:An):Prop:=match F.V with |.C2 _ _ n=>1<=n.den Y|_=>True
theorem Be.As4{F:Be}(h:F.vok=true){S:Sb}{U':An}{u:Value}(hp:F.T7 (S.sig U'))(hu:AR J U' (F.V.sub S) u):
 ∃r Z,J (S.g 0)=some (r,Z)/\CM u=some r/\∀(Jq2:A1) Z2,Jq2 0=some (r,Z2)->(F.EV=true->Z2=Z)->AR Jq2 (S.sig U') F.V u:=by
 unfold Be.vok at h;unfold Be.T7 at hp
 revert h hp hu
 cases F.V with
 |ptr b off=>
  intro h hp hu;cases b with
  |succ _=>cases h
  |zero=>cases off with
   |succ _=>cases h
   |zero=>
    obtain⟨r,Z,q1,q2⟩:∃r S',J (S.g 0)=some (r,S')/\u=.pointer (some ⟨r,0,none⟩):=hu
    exact⟨r,Z,q1,by rw[q2];rfl,fun Jq2 Z2 h2 _=>⟨r,Z2,h2,q2⟩⟩
 |C2 b es n=>
  intro h hp hu;cases b with
  |succ _=>cases h
  |zero=>
   obtain⟨p,N,k,e,hN,hpz⟩:∃p N k,u=.slice p N k/\((N:Nat):Int)=(n.sub S).den U'/\((p=none/\N=0/\k=0)\/∃r Z,J (S.g 0)=some (r,Z)/\p=some ⟨r,0,none⟩/\k*es=Z/\N<=k):=hu
   rw[E.A3]at hN;have hp:1<=n.den (S.sig U'):=hp;rcases hpz with ⟨_,e0,_⟩|⟨r,Z,q1,q2,q3,q4⟩
   ·subst e0;omega
   ·exact⟨r,Z,q1,by rw[e,q2];rfl,fun Jq2 Z2 h2 hz=>⟨p,N,k,e,hN,.inr ⟨r,Z2,h2,q2,q3.trans (hz h).symm,q4⟩⟩⟩
 |_=>intro h;cases h
theorem Be.Abc{F:Be}{U U':An}{nb:Nat}(hg:Ai nb U U')(hl:F.V.lo nb=true)(h:F.T7 U):F.T7 U':=by
 unfold Be.T7 at h ⊢
 revert hl h
 cases F.V with
 |C2 b es n=>
  intro hl h;have h:1<=n.den U:=h;show 1<=n.den U';rw[show n.den U'=n.den U from (E.agree hg hl)];exact h
 |_=>intro _ _;trivial
def Di.new(k:Di)(nb:Nat)(U Y:An):Option An:=bif k.TC then some (k.Sd.sig (Ch nb U Y fun _=>none)) else none
def Di.Qt(k:Di)(F:Be)(nb np hi:Nat):Bool:=
 ((hasB (Aa k.o.AX k.o.n1) 0 (.cells (T.ofList [.map 1]) 1 true none)&&Nat.ble 2 k.c.n)&&(k.ie.all E.noM&&k.te.all E.noM))&&
 ((bif k.TC then
  (Tw k.Sd F.D.bl F.D.n (Aa k.o.AX k.o.n1)&&(hasB (Aa k.o.AX k.o.n1) 1 (.Ej 0 [(.var 1,some (.one (F.V.sub k.Sd)))])&&(F.D.bl.all fun q=>Nat.ble 2 (k.Sd.g q.1)&&ND (Aa k.o.AX k.o.n1) (k.Sd.g q.1))))&&((F.vok&&F.V.lo nb)&&(Ae F.D.bl 0&&(F.D.Du&&(F.D.bl.all (fun p=>p.2.lo nb)&&(k.tm.all (Nat.ble 2)&&Nat.ble nb k.tm.length)))))
  else hasB (Aa k.o.AX k.o.n1) 1 (.Ej 0 [(.var 1,none)]))&&
 ((AV.AJ (k.v.sub (k.Se nb np)) k.o.v&&(k.v.within (fun _=>false)&&(k.v.P7&&k.v.lo hi)))&&(k.v.within (Ae [(0,.Am (np,0))])&&(Nat.blt np hi&&leaves [(0,.Am (0,0))] 1 [(0,.Am (np,0))] 1 (Aa [(0,.Am (np,0))] 1)))))
theorem AaO{nb:Nat}{m:Int->Option Value}:Ai nb Y (MC.sig (Ch nb U Y m)):=by
 refine⟨fun i hi=>?_,fun i hi=>?_,fun i hi=>?_,rfl,fun i hi=>?_,fun i hi=>?_⟩
 ·show (if i+2=0 then 0 else if i+2=1 then U.v 1 else if i+2<2+nb then Y.v (i+2-2) else U.v (i+2-(2+nb)))=_;rw[if_neg (by omega),if_neg (by omega),if_pos (by omega),Nat.add_sub_cancel]
 ·show (if i+2<2+nb then Y.r (i+2-2) else _)=_;rw[if_pos (by omega),Nat.add_sub_cancel]
 ·show (if i+2=0 then m else if i+2<2+nb then Y.m (i+2-2) else _)=_;rw[if_neg (by omega),if_pos (by omega),Nat.add_sub_cancel]
 ·show Y.b (i+2-2)=_;rw[Nat.add_sub_cancel]
 ·show Y.ro (i+2-2)=_;rw[Nat.add_sub_cancel]
theorem Di.Uo{k:Di}{nb:Nat}{m:Int->Option Value}(h1:k.te.all E.noM=true)(h2:k.tm.all (Nat.ble 2)=true)(h3:nb<=k.tm.length):Ai nb (k.Sd.sig (Ch nb U Y fun _=>none)) (k.Sd.sig (Ch nb U Y m)):=by
 refine⟨fun i hi=>?_,fun i hi=>rfl,fun i hi=>?_,rfl,fun i hi=>rfl,fun i hi=>rfl⟩
 ·show (k.te.getD i (.lit 0)).den _=(k.te.getD i (.lit 0)).den _;refine E.KZ ?_;rw[Iw];cases hg:k.te[i]? with
  |none=>rfl
  |some e=>exact Bf.1 h1 e (Oj hg)
 ·show (if k.tm.getD i 0=0 then m else if k.tm.getD i 0<2+nb then Y.m (k.tm.getD i 0-2) else U.m (k.tm.getD i 0-(2+nb)))=(if k.tm.getD i 0=0 then (fun _=>none) else if k.tm.getD i 0<2+nb then Y.m (k.tm.getD i 0-2) else U.m (k.tm.getD i 0-(2+nb)));have:2<=k.tm.getD i 0:=by
   rw[Iw,List.getElem?_eq_getElem (by omega)];exact Nat.le_of_ble_eq_true (Bf.1 h2 _ (List.getElem_mem _))
  rw[if_neg (by omega),if_neg (show ¬k.tm.getD i 0=0 by omega)]
theorem ZX{F:Be}{k:Di}{nb np hi:Nat}{st:Int->Option An}(hk:k.Qt F nb np hi=true)(hC:C.fu=W.fu){Uq2:An}{w w':World}{Jqo:A1}{Jqq:A1}{m:Int->Option Value}{X:Nat->Prop}
 (Ml:Uq2.b 0=F.Am W st) (DN:Uq2.b np=F.Am W (fun y=>if y=U.v 1 then k.new nb U Y else st y)) (Df:Tg hi ((k.Se nb np).sig (Ch nb U Y m)) Uq2)
 (IS:Rel Jqo Uq2 C (Aa [(0,.Am (0,0))] 1) w) (O:QQ W F st (Uq2.ro 0) w m (U.v 1) (Ch nb U Y m) Jqq k.c.bl k.c.n X) (hz:k.TC=true->0<=U.v 1/\U.v 1<65536) (hV:k.TC=true->F.T7 (k.Sd.sig (Ch nb U Y fun _=>none)))
 {h1:H} {Jq1:A1} {v':Value} (g1:Bb Jq1 (Ch nb U Y m) k.o.v v') (g2:Rel Jq1 (Ch nb U Y m) C h1 w') (g3:Ext (Ch nb U Y m) Jqq Jq1 (Aa k.c.bl k.c.n) h1 w w') (g4:leaves k.c.bl k.c.n k.o.AX k.o.n1 h1=true):
 ∃J' h1,Bb J' Uq2 k.v v'/\Rel J' Uq2 C h1 w'/\Ext Uq2 Jqo J' (Aa [(0,.Am (0,0))] 1) h1 w w'/\leaves [(0,.Am (0,0))] 1 [(0,.Am (np,0))] 1 h1=true:=by
 unfold Di.Qt at hk;simp only[Ah]at hk;obtain⟨⟨⟨k1,k2⟩,k3,k4⟩,k5,⟨k6,k7,k8,k9⟩,k10,k11,k12⟩:=hk;have hl:=Cw g4;have get1:∀{b x},(Aa k.o.AX k.o.n1).get b=some x->h1.get b=some x:=fun h=>hl.get _ (Ad h)
 have C7:∃e,h1.get 1=some (.Ej 0 [(.var 1,e)])/\AkD W F (Ch nb U Y m) Jq1 h1 w' e (k.new nb U Y):=by
  cases ha:k.TC with
  |false=>
   rw[ha]at k5;refine⟨none,get1 (Cz k5),?_⟩;unfold Di.new;rw[ha];trivial
  |true=>
   rw[ha]at k5;simp only[cond_true,Ah]at k5;obtain⟨⟨a1,a2,a3⟩,a4,a5,a6,a7,a8,a9⟩:=k5;refine⟨_,get1 (Cz a2),?_⟩;unfold Di.new;rw[ha];show ∀u,_->_;intro u hu;have fA:=Dq a1;have r1:Rel (Eng.AL Jq1 (Ae k.o.AX)) (Ch nb U Y m) C (Aa k.o.AX k.o.n1) w':=g2.forget hl.get hl.cl;have r2:=r1.focus fA;have hagn':=Di.Uo (k:=k) (nb:=nb) (U:=U) (Y:=Y) (m:=m) k4 a8 (Nat.le_of_ble_eq_true a9);obtain⟨r',S',q1,q2,q3⟩:=Be.As4 a4.1 (Be.Abc hagn' a4.2 (hV ha)) (show AR Jq1 (Ch nb U Y m) (F.V.sub k.Sd) u from hu);have PY:Ae k.o.AX (k.Sd.g 0)=true:=by
    obtain⟨p,hp,e⟩:=Ce a5;have:=fA.get p hp;rw[e]at this;exact Ei (Ad this)
   have hroot:rn (Eng.AL Jq1 (Ae k.o.AX)) k.Sd.g (Ae F.D.bl) 0=some (r',S'):=by rw[Ec a5,BT PY];exact q1
   have Cp:=(Rel.root a6 r2 hroot).cfg (C':=CS W) hC;have hagn:=(Di.Uo (U:=U) (Y:=Y) (m:=m) k4 a8 (Nat.le_of_ble_eq_true a9)).symm;refine⟨r',⟨q2,?_,Rel.agree hagn a7 Cp⟩,fun y hy=>?_⟩
   ·refine AR.agree hagn a4.2 (q3 _ _ (Ij DY) fun h0=>?_);obtain⟨o,ho,hx⟩:=r2.AE 0 r' S' hroot;unfold Be.EV at h0;cases N3:(Aa F.D.bl F.D.n).get 0 with
    |none=>rw[N3]at h0;cases h0
    |some x=>
     rw[N3]at h0;have hx:=hx x N3;cases x with
     |row t es n sp=>
      obtain⟨cs,ty,N,e,Ix,_⟩:=hx;unfold FY;rw[ho,e];exact Ix
     |_=>cases h0
   ·rcases hy with ⟨b,hb⟩|hf|⟨x,hx⟩
    ·obtain⟨S,hS⟩:=NR a6 r2 hroot hb;obtain⟨hkD,hS⟩:=Bc hS;obtain⟨pq,hpq,e⟩:=Ce hkD;have h7:=Bf.1 a3 pq hpq;rw[Ah,e]at h7;obtain⟨x,hx,hd⟩:=Db h7.2;exact .inl ⟨_,S,Nat.le_of_ble_eq_true h7.1,(As hS).2,x,get1 hx,hd⟩
    ·obtain⟨b,t,h1',h2'⟩:=Fo.focus fA (Fo.congr (hagn.Am a7) hf:Fo (k.Sd.sig (Ch nb U Y m)) _ _ _);exact .inr (.inl ⟨b,t,get1 h1',h2'⟩)
    ·exact .inr (.inr ⟨x,hx⟩)
 obtain⟨e,he,C7⟩:=C7;obtain⟨⟨m',Kf⟩,hA,hB⟩:=TB.close O g2 g3 (get1 (Cz k1)) he C7 (fun h=>hz (by cases ha:k.TC with |true=>rfl|false=>rw[Di.new,ha]at h;cases h));have e1:(Uq2.B (np,0))=F.Ov W (fun y=>if y=U.v 1 then k.new nb U Y else st y) (Uq2.ro 0):=by
  show (Uq2.b np).at_ (Uq2.ro 0)=_;rw[DN];rfl
 have e0:(Uq2.B (0,0))=F.Ov W st (Uq2.ro 0):=by
  show (Uq2.b 0).at_ (Uq2.ro 0)=_;rw[Ml];rfl
 have hfp0:∀y,(Uq2.B (0,0)).fp w y↔F.fp st (Uq2.ro 0) w y:=fun y=>by rw[e0];exact Iff.rfl
 have only:∀{b:Nat} {t:Nat×Nat},(Aa [(0,Aj.Am (np,0))] 1).get b=some (.Am t)->b=0/\t=(np,0):=by
  intro b t hg;rcases BL.1 (Ad hg) with h|h
  ·cases h;exact⟨rfl,rfl⟩
  ·cases h
 have kept0:∀r x,Uq2.k r=some x->r<w.heap.size/\w.heap[r]? =some x/\¬F.fp st (Uq2.ro 0) w r:=by
  intro r x hk;have h1:=(IS.kept r x hk).1;refine⟨(Ht.1 h1).1,h1,fun hf=>?_⟩;have:=(IS.Am.free 0 (0,0) rfl r ((hfp0 r).2 hf)).2;rw[hk]at this;cases this
 refine⟨fun _=>none,Aa [(0,.Am (np,0))] 1,?_,⟨fun _ _ _ h=>(nomatch h),fun _ _ _ h=>(nomatch h),fun _ _ _ _ _ h=>(nomatch h),fun r x hk=>?_,⟨fun b t hg=>?_,fun b t hg r hf=>⟨fun _ _ h=>(nomatch h),?_⟩,fun b t b' t' hg HZ Bs=>?_⟩⟩,⟨Nat.le_refl _,fun b hb=>?_,fun _ _ _ _ h=>(nomatch h),g3.size,fun b hb _=>?_,fun r Au _ hn=>hB r Au fun h=>hn ⟨0,(0,0),rfl,(hfp0 r).2 h⟩,fun r ⟨b,t,hg,hf⟩=>?_,g3.os,g3.tape,g3.output,g3.fz⟩,k12⟩
 ·rw[<-AV.Ac k6]at g1;exact Bb.free k7 (Df.av k9 k8 (Bb.Fs (k:=fun _=>false) k7 g1))
 ·obtain⟨q1,q2,q3⟩:=kept0 r x hk;exact⟨(hB r q1 q3).trans q2,fun _ _ h=>nomatch h⟩
 ·obtain⟨_,q⟩:=only hg;rw[q,e1];exact⟨m',Kf⟩
 ·obtain⟨_,q⟩:=only hg;rw[q,e1]at hf;cases hkr:Uq2.k r with
  |none=>rfl
  |some x=>
   obtain⟨q1,q2,q3⟩:=kept0 r x hkr;rcases hA r hf with h|h
   ·omega
   ·exact (q3 h).elim
 ·exact absurd ((only hg).1.trans (only HZ).1.symm) Bs
 ·have e:b=0:=by have:b<1:=hb;omega
  subst e;cases hz:Jqo 0 with
  |none=>rfl
  |some x=>
   obtain⟨o',_,hx⟩:=IS.AE 0 x.1 x.2 hz;exact (hx _ rfl:BR Jqo Uq2 C (.Am (0,0)) o' x.2).elim
 ·have e:b=0:=by have:b<1:=hb;omega
  subst e;exact⟨_,rfl,fun e=>Aj.noConfusion e⟩
 ·obtain⟨_,q⟩:=only hg;rw[q,e1]at hf;rcases hA r hf with h|h
  ·exact .inl h
  ·exact .inr ⟨0,(0,0),rfl,(hfp0 r).2 h⟩
end Eng
namespace Eng
open Go Go.RowKit
variable [AD]
variable {P:Program} {C C':AB} {U U' Y:An} {J J':A1} {W:Wd} {n:Nat}
section
variable {F:Be} {st:Int->Option An} {ro:Nat} {w:World} {m:Int->Option Value} {nb:Nat}
theorem TB.opened(h:TB W F st ro w m)(hg:F.Du nb=true){z:Int}{u:Value}(hz:m z=some u)(hs:st z=some Y){Uqo:An}(Df:Ai nb Y (MC.sig Uqo))(h1:Uqo.v 1=z)(hm:Uqo.m 0=m)(hC:C.fu=W.fu):
 ∃Jqo X,QQ W F st ro w m z Uqo Jqo F.opn (F.D.n+2) X/\Rel Jqo Uqo C (Aa F.opn (F.D.n+2)) w:=by
 obtain⟨x,r,e1,MB,hr⟩:=h.open (C:=C) hg hz hs Df h1 hm hC;obtain⟨b1,b2,r2,⟨q1,q2,q3⟩,q4⟩:=h.mem z u Y hz hs;rw[e1]at q1;cases q1;unfold Be.Du at hg;simp only[Ah]at hg;obtain⟨LH,D8,_,_⟩:=hg;have hlo:(F.D.bl.all fun p=>p.2.lo nb)=true:=Bf.2 fun p hp=>by
  have:=Bf.1 D8 p hp;simp only[Ah]at this;exact this.1.1
 have Bl:∀p∈F.D.bl,(Aa F.D.bl F.D.n).get p.1=some p.2:=fun p hp=>by
  have:=Bf.1 D8 p hp;simp only[Ah]at this;exact Cz this.2.1
 refine⟨_,fun y=>Fq w ro y\/F.D.fp Y r w y,⟨h,rfl,h1,hm,by omega,fun y hy=>?_,fun y hy=>?_,fun y hy=>.inl hy,fun z' u' Y' r' Bs k1 k2 k3 y hy hX=>?_⟩,hr⟩
 ·rcases hy with ⟨b,S,hb⟩|⟨b,t,hb,hf⟩|⟨o,ho⟩
  ·match b,hb with
   | 0,hb=>cases hb;exact .inl ((MB _).2 (.inl rfl))
   | 1,hb=>cases hb;exact .inl ((MB _).2 (.inr rfl))
   |b+2,hb=>exact .inr (.inl ⟨b,(EN hb).1⟩)
  ·rcases Gg hb with ⟨_,e⟩|⟨_,e⟩|⟨b',y0,e,e',hp⟩
   ·cases e
   ·cases e
   ·match y0,e' with
    |.Am t0,e'=>
     have e':Aj.Am t=Aj.Am (MC.r t0.1,MC.m t0.2):=e';cases e';have hf:(An.B (MC.sig Uqo) t0).fp w y:=hf;exact .inr (.inr (.inl (Fo.congr (Df.Am hlo) ⟨b',t0,Bl _ hp,hf⟩)))
  ·exact .inr (.inr (.inr ⟨o,by rw[<-Df.k];exact ho⟩))
 ·rcases hy with h'|h'
  ·exact .inl h'
  ·exact .inr ⟨m,z,u,Y,r,h.map,hz,hs,e1,h'⟩
 ·rcases hX with h'|h'
  ·obtain⟨_,_,r3,⟨p1,_,_⟩,p4⟩:=h.mem z' u' Y' k1 k2;rw[k3]at p1;cases p1;exact p4 y hy h'
  ·exact h.Vs z' z u' u Y' Y r' r Bs k1 hz k2 hs k3 e1 y hy h'
theorem TB.AjT(h:TB W F st ro w m){z:Int}(hz:m z=none){Uqo:An}(h1:Uqo.v 1=z)(hm:Uqo.m 0=m)(hk:∀y,Uqo.k y=none):
 ∃Jqo X,QQ W F st ro w m z Uqo Jqo (Be.top none) 2 X/\Rel Jqo Uqo C (Aa (Be.top none) 2) w:=by
 obtain⟨x,MB,hr⟩:=h.Ary (C:=C) hz h1 hm hk;refine⟨_,fun y=>Fq w ro y,⟨h,rfl,h1,hm,Nat.le_refl _,fun y hy=>?_,fun y hy=>.inl hy,fun y hy=>hy,fun z' u' Y' r' Bs k1 k2 k3 y hy hX=>?_⟩,hr⟩
 ·rcases hy with ⟨b,S,hb⟩|⟨b,t,hb,hf⟩|⟨o,ho⟩
  ·match b,hb with
   | 0,hb=>cases hb;exact (MB _).2 (.inl rfl)
   | 1,hb=>cases hb;exact (MB _).2 (.inr rfl)
  ·rcases BL.1 (Ad hb) with e|e
   ·cases e
   ·rcases BL.1 e with e|e
    ·cases e
    ·cases e
  ·rw[hk y]at ho;cases ho
 ·obtain⟨_,_,r3,⟨p1,_,_⟩,p4⟩:=h.mem z' u' Y' k1 k2;rw[k3]at p1;cases p1;exact p4 y hy hX
end
structure I0 where
 F:Be
 nb:Nat
 f:FuncId
 np:Nat
 hi:Nat
 kind:Nat
 args:List AV
 M8:List CF
 cases:List Di
def I0.out(K:I0)(k:Di):Ds:={v:=k.v,AX:=[(0,.Am (K.np,0))],n1:=1,cf:=k.cf,rd:=[(K.np,[.g K.kind])]}
def I0.Bo(K:I0):Bq:={f:=K.f,args:=.one (.fp 0)::K.args,bl:=[(0,.Am (0,0))],n:=1,np:=K.np,hi:=K.hi,cf:=K.M8,rd:=[(0,[.g K.kind])],outs:=K.cases.map K.out}
def SJ:An:={v:=fun _=>0,r:=fun _ _ c=>if c=3 then .int .u64 0 else .int .i64 0}
def CQ(st:Int->Option An)(z:Int):An:=(st z).getD SJ
def I0.Qt(K:I0):Bool:=K.F.Du K.nb&&((K.args.all fun a=>a.within (fun _=>false)&&(a.P7&&a.lo K.np))&&(K.args.all (AV.within (Ae [(0,.Am (0,0))]))&&(Nat.blt 1 K.np&&K.cases.all fun k=>k.Qt K.F K.nb K.np K.hi&&(Nat.beq k.c.f K.f&&(Nat.beq k.c.hi k.c.np&&(Av AV.AJ k.c.args (.one (.ptr 0 0)::K.args.map (AV.sub (sbK K.nb)))&&bif k.IE then Av nbEqK k.c.bl K.F.opn&&Nat.beq k.c.n (K.F.D.n+2) else Av nbEqK k.c.bl (Be.top none)&&Nat.beq k.c.n 2))))))
 where nbEqK (p q:Nat×Aj):Bool:=Nat.beq p.1 q.1&&p.2.eq2 q.2
theorem Sj{p q:Nat×Aj}(h:I0.Qt.nbEqK p q=true):p=q:=by
 unfold I0.Qt.nbEqK at h;rw[Ah]at h;obtain⟨a,b⟩:=p;obtain⟨c,d⟩:=q;rw[show a=c from beq_eq h.1,show b=d from Aj.GO h.2]
theorem I0.ok{K:I0}{MI:An->Prop}(hchk:K.Qt=true)(hc:∀k∈K.cases,k.c.ok W/\k.c.outs=[k.o])
 (hK:∀B,AD.is K.kind B↔∃st,B=K.F.Am W st/\∀z Y,st z=some Y->MI Y)
 (hMV:∀Y,MI Y->K.F.T7 Y)
 (hcov:∀U st,Al (A2 U) K.M8->(∀z Y,st z=some Y->MI Y)->∃k∈K.cases,k.IE=(st (U.v 1)).isSome/\(k.TC=true->k.IE=false->0<=U.v 1/\U.v 1<65536)/\∀m,k.c.pre (Ch K.nb U (CQ st (U.v 1)) m))
 (hMI:∀k∈K.cases,k.TC=true->∀U Y m,k.o.post (Ch K.nb U Y m)->(k.IE=true->MI Y)->(k.IE=false->Y=SJ)->MI (k.Sd.sig (Ch K.nb U Y fun _=>none)))
 (hcf:∀k∈K.cases,∀U Uq2 st m,k.IE=(st (U.v 1)).isSome->Uq2.b 0=K.F.Am W st->Uq2.b K.np=K.F.Am W (fun y=>if y=U.v 1 then k.new K.nb U (CQ st (U.v 1)) else st y)->Tg K.hi ((k.Se K.nb K.np).sig (Ch K.nb U (CQ st (U.v 1)) m)) Uq2->k.o.post (Ch K.nb U (CQ st (U.v 1)) m)->Al (A2 Uq2) k.cf):K.Bo.ok W:=by
 intro U hp;obtain⟨st,e0,hinv⟩:=(hK _).1 (show AD.is K.kind (U.b 0) from by cases hp.rd with |cons h _=>exact h.2);obtain⟨k,hk,N6,hz0,hpre⟩:=hcov U st hp.cf hinv;unfold I0.Qt at hchk;simp only[Ah]at hchk;obtain⟨LH,Fg,hargs2,hnp,Mm⟩:=hchk;have hnp:=AF hnp;have I5:=Bf.1 Mm k hk;simp only[Ah]at I5;obtain⟨hkc,hf,hhi,ha,Jo⟩:=I5;have hf:=beq_eq hf;have hhi:=beq_eq hhi;have ha:=Ag (fun _ _=>AV.Ac) ha;obtain⟨hcok,houts⟩:=hc k hk;have PX:∀m,k.o.post (Ch K.nb U (CQ st (U.v 1)) m)/\∀C:AB,C.fu=W.fu->Hs W.P C (Ch K.nb U (CQ st (U.v 1)) m) (k.c.sum k.o):=by
  intro m;obtain⟨o,ho,Y,h1,h2⟩:=hcok _ (hpre m);rw[houts]at ho;rw[List.mem_singleton.1 ho]at h2;exact h2 _ (by rw[hhi];exact h1.symm)
 have hkc':=hkc;unfold Di.Qt at hkc';simp only[Ah]at hkc';obtain⟨⟨_,hie,_⟩,_,_,hvw,hnphi,_⟩:=hkc';have hnphi:=AF hnphi;refine⟨K.out k,List.mem_map_of_mem hk,{v:=fun i=>if i<K.np then U.v i else ((k.Se K.nb K.np).s i).den (Ch K.nb U (CQ st (U.v 1)) fun _=>none),r:=U.r,m:=U.m,k:=U.k,b:=fun i=>if i<K.np then U.b i else K.F.Am W (fun y=>if y=U.v 1 then k.new K.nb U (CQ st (U.v 1)) else st y),ro:=U.ro},⟨fun i hi=>if_pos hi,fun _ _=>rfl,fun _ _=>rfl,rfl,fun i hi=>if_pos hi,fun _ _=>rfl⟩,fun Uq2 g=>?_⟩;have g:Ai K.hi _ Uq2:=g;have Ml:Uq2.b 0=K.F.Am W st:=by
  rw[g.b 0 (by omega)];show (if 0<K.np then U.b 0 else _)=_;rw[if_pos (by omega)];exact e0
 have DN:Uq2.b K.np=K.F.Am W (fun y=>if y=U.v 1 then k.new K.nb U (CQ st (U.v 1)) else st y):=by
  rw[g.b _ hnphi];show (if K.np<K.np then _ else _)=_;rw[if_neg (by omega)]
 have Df:∀m,Tg K.hi ((k.Se K.nb K.np).sig (Ch K.nb U (CQ st (U.v 1)) m)) Uq2:=by
  intro m;refine Tg.of (fun i hi=>?_) (fun i hi=>?_) fun i hi=>?_
  ·rw[g.v i hi];show (if i<K.np then U.v i else ((k.Se K.nb K.np).s i).den (Ch K.nb U (CQ st (U.v 1)) fun _=>none))=((k.Se K.nb K.np).s i).den (Ch K.nb U (CQ st (U.v 1)) m);have hs:(k.Se K.nb K.np).s i=bif Nat.blt i K.np then .var (2+K.nb+i) else k.ie.getD (i-K.np) (.lit 0):=rfl
   by_cases h:i<K.np
   ·rw[if_pos h,hs,AT h];show _=(if 2+K.nb+i=0 then 0 else if 2+K.nb+i=1 then U.v 1 else if 2+K.nb+i<2+K.nb then _ else U.v (2+K.nb+i-(2+K.nb)));rw[if_neg (by omega),if_neg (by omega),if_neg (by omega),Nat.add_sub_cancel_left]
   ·rw[if_neg h,hs,Cd h];refine E.KZ ?_;show (k.ie.getD (i-K.np) (.lit 0)).noM=true;rw[Iw];cases hg:k.ie[i-K.np]? with
    |none=>rfl
    |some e=>exact Bf.1 hie e (Oj hg)
  ·rw[g.r i hi];show U.r i=(if 2+K.nb+i<2+K.nb then _ else U.r (2+K.nb+i-(2+K.nb)));rw[if_neg (by omega),Nat.add_sub_cancel_left]
  ·rw[g.m i hi];show U.m i=(if 2+K.nb+i=0 then m else if 2+K.nb+i<2+K.nb then _ else U.m (2+K.nb+i-(2+K.nb)));rw[if_neg (by omega),if_neg (by omega),Nat.add_sub_cancel_left]
 have hNo:k.IE=false->CQ st (U.v 1)=SJ:=fun hp1=>by
  cases BN:st (U.v 1) with
  |none=>unfold CQ;rw[BN];rfl
  |some Y=>rw[BN,hp1]at N6;cases N6
 have hMs:k.IE=true->MI (CQ st (U.v 1)):=fun hp1=>by
  cases BN:st (U.v 1) with
  |none=>rw[BN,hp1]at N6;cases N6
  |some Y=>unfold CQ;rw[BN];exact hinv _ _ BN
 constructor
 ·refine⟨hcf k hk U Uq2 st (fun _=>none) N6 Ml DN (Df _) (PX _).1,.cons ⟨fun _ c=>by cases c<;>trivial,?_⟩ .nil,trivial,.nil⟩;show AD.is K.kind (Uq2.b K.np);rw[DN];refine (hK _).2 ⟨_,rfl,fun z Y hz=>?_⟩
  by_cases e:z=U.v 1
  ·simp only[if_pos e]at hz;cases haf:k.TC with
   |false=>rw[Di.new,haf]at hz;cases hz
   |true=>
    rw[Di.new,haf]at hz;cases hz;refine hMI k hk haf U _ (fun _=>none) (PX _).1 (fun hp1=>?_) hNo;cases BN:st (U.v 1) with
    |none=>rw[BN,hp1]at N6;cases N6
    |some Y=>unfold CQ;rw[BN];exact hinv _ _ BN
  ·simp only[if_neg e]at hz;exact hinv z Y hz
 ·intro C hC;refine⟨?_,fun J w vs hr EU=>?_⟩
  ·rw[Ah];refine⟨?_,hvw⟩;rw[Bf];intro a ha';rcases BL.1 ha' with e|e
   ·subst e;rfl
   ·exact Bf.1 hargs2 a e
  ·have e1:(Uq2.B (0,0))=K.F.Ov W st (Uq2.ro 0):=by
    show (Uq2.b 0).at_ (Uq2.ro 0)=_;rw[Ml];rfl
   obtain⟨m,Kf⟩:K.F.rep W st (Uq2.ro 0) w:=by
    have:=hr.Am.rep 0 (0,0) rfl;rw[e1]at this;exact this
   have hv1:(Ch K.nb U (CQ st (U.v 1)) m).v 1=U.v 1:=rfl;have hm0:(Ch K.nb U (CQ st (U.v 1)) m).m 0=m:=rfl;obtain⟨Jqq,X,O,Ic,hzb⟩:∃Jqq X,QQ W K.F st (Uq2.ro 0) w m (U.v 1) (Ch K.nb U (CQ st (U.v 1)) m) Jqq k.c.bl k.c.n X/\Rel Jqq (Ch K.nb U (CQ st (U.v 1)) m) C (Aa k.c.bl k.c.n) w/\(k.TC=true->0<=U.v 1/\U.v 1<65536):=by
    cases BN:st (U.v 1) with
    |some Y=>
     have hp1:k.IE=true:=by rw[N6,BN];rfl
     rw[hp1]at Jo;simp only[cond_true,Ah]at Jo;have hbl1:=Ag (fun _ _=>Sj) Jo.1;have hn1:=beq_eq Jo.2;have hs:=Kf.same (U.v 1);rw[BN]at hs;obtain⟨u,hu⟩:=Option.isSome_iff_exists.1 hs;have OH:CQ st (U.v 1)=Y:=by unfold CQ;rw[BN];rfl
     obtain⟨Jqq,X,O,Ic⟩:=Kf.opened (C:=C) (Uqo:=Ch K.nb U (CQ st (U.v 1)) m) LH hu BN (by rw[OH];exact AaO) hv1 hm0 hC;rw[OH]at O Ic;rw[OH,hbl1,hn1];exact⟨Jqq,X,O,Ic,fun _=>let q:=Kf.mem _ _ _ hu BN;⟨q.1,q.2.1⟩⟩
    |none=>
     have hp1:k.IE=false:=by rw[N6,BN];rfl
     rw[hp1]at Jo;simp only[cond_false,Ah]at Jo;have hbl1:=Ag (fun _ _=>Sj) Jo.1;have hn1:=beq_eq Jo.2;have hs:=Kf.same (U.v 1);rw[BN]at hs;have hu:m (U.v 1)=none:=by
      cases h:m (U.v 1) with
      |none=>rfl
      |some u=>rw[h]at hs;cases hs
     have OH:CQ st (U.v 1)=SJ:=by unfold CQ;rw[BN];rfl
     obtain⟨Jqq,X,O,Ic⟩:=Kf.AjT (C:=C) (Uqo:=Ch K.nb U (CQ st (U.v 1)) m) hu hv1 hm0 (by rw[OH];exact fun _=>rfl);rw[hbl1,hn1];exact⟨Jqq,X,by rw[OH]at O ⊢;exact O,by rw[OH]at Ic ⊢;exact Ic,fun h=>hz0 h hp1⟩
   have hargsR:F2 (Bb Jqq (Ch K.nb U (CQ st (U.v 1)) m)) k.c.args vs:=by
    rw[ha];cases EU with
    |cons h0 ht=>
     refine .cons ⟨_,_,O.at0,h0⟩ ?_;refine F2.Xz (U:=Uq2) (np:=K.np) ?_ Fg ht;have hg:=Df m;refine Tg.of (fun i hi=>?_) (fun i hi=>?_) fun i hi=>?_
     ·rw[g.v i (by omega)];show (bif Nat.beq i 1 then E.var 1 else .var (2+K.nb+i)).den (Ch K.nb U (CQ st (U.v 1)) m)=(if i<K.np then U.v i else _);rw[if_pos hi];cases hb:Nat.beq i 1 with
      |true=>rw[beq_eq hb];rfl
      |false=>
       show (if 2+K.nb+i=0 then 0 else if 2+K.nb+i=1 then U.v 1 else if 2+K.nb+i<2+K.nb then _ else U.v (2+K.nb+i-(2+K.nb)))=_;rw[if_neg (by omega),if_neg (by omega),if_neg (by omega),Nat.add_sub_cancel_left]
     ·rw[g.r i (by omega)];show (if 2+K.nb+i<2+K.nb then _ else U.r (2+K.nb+i-(2+K.nb)))=U.r i;rw[if_neg (by omega),Nat.add_sub_cancel_left]
     ·rw[g.m i (by omega)];show (if 2+K.nb+i=0 then m else if 2+K.nb+i<2+K.nb then _ else U.m (2+K.nb+i-(2+K.nb)))=U.m i;rw[if_neg (by omega),if_neg (by omega),Nat.add_sub_cancel_left]
   have hs:=(PX m).2 C hC;have hq:=hs.2 Jqq w vs Ic hargsR;rw[show (k.c.sum k.o).f=K.f from hf]at hq;refine hq.mono ?_
   rintro v' w' ⟨Jq1,h1,q1,q2,q3,q4⟩
   exact ZX (U:=U) (Y:=CQ st (U.v 1)) (m:=m) hkc hC Ml DN (Df m) hr O hzb (fun haf=>hMV _ (hMI k hk haf U _ (fun _=>none) (PX _).1 (fun hp1=>hMs hp1) hNo)) q1 q2 q3 q4
end Eng
namespace Eng
open Go Go.RowKit
variable [AD]
variable {P:Program} {C C':AB} {U U' Y:An} {J J':A1} {W:Wd} {n:Nat}
theorem F2.Arl{α β:Type}{R:α->β->Prop}:∀{l:List α} {m:List β},F2 R l m->∀{a:α},a∈l->∃b∈m,R a b
 |_,_,.cons h t,a,ha=>by
  rcases BL.1 ha with e|e
  ·subst e;exact⟨_,GU,h⟩
  ·obtain⟨b,hb,hr⟩:=F2.Arl t e;exact⟨b,Gq _ hb,hr⟩
theorem Ajz{clock:Nat}{l:List ME}{ms:List MapEntry}(h:F2 (WL J U) l ms)(hu:KB l=true)(ha:(l.all fun e=>Nat.blt e.born clock)=true):CX ms clock:=by
 induction h with
 |nil=>exact⟨fun _ h=>(nomatch h),.nil,fun _ h=>(nomatch h),.nil⟩
 | @cons e m l ms h1 ht ih=>
  obtain⟨⟨z,hz,hl⟩,CT⟩:=P2 hu;simp only[List.all_cons,Ah]at ha;obtain⟨k1,k2,k3,k4⟩:=ih CT ha.2;have hk:=Jr hz h1;have hb:=h1.2.2;refine⟨fun e' GJ=>?_,List.pairwise_cons.2 ⟨fun e' GJ=>?_,k2⟩,fun e' GJ=>?_,List.pairwise_cons.2 ⟨fun e' GJ=>?_,k4⟩⟩
  ·rcases BL.1 GJ with e0|e0
   ·subst e0;exact⟨z,hk⟩
   ·exact k1 e' e0
  ·obtain⟨a,hal,hm⟩:=ht.mem GJ;obtain⟨z',L5,Bs,_⟩:=hl a hal;rw[hk,Jr L5 hm];exact fun e0=>by cases e0;exact Bs rfl
  ·rcases BL.1 GJ with e0|e0
   ·subst e0;rw[hb];exact AF ha.1
   ·exact k3 e' e0
  ·obtain⟨a,hal,hm⟩:=ht.mem GJ;obtain⟨z',L5,_,Bs⟩:=hl a hal;rw[hb,hm.2.2];exact Bs
def JR(U:An)(ps:List (ME×Sb))(z:Int):Option An:=(ps.find? fun p=>decide (GP p.1=some z)).map fun p=>p.2.sig U
def Ajk(F:Be)(b0 bm:Nat)(ps:List (ME×Sb)):List (List Nat):=[b0,bm]::ps.map fun p=>F.D.bl.map fun q=>p.2.g q.1
def Avq(v:V):Option A:=match v with |.one a=>some a|_=>none
def Ajj(F:Be)(b0 bm clock:Nat)(ps:List (ME×Sb))(bl:List (Nat×Aj))(n:Nat):Bool:=
 (F.vok&&(F.vok&&(bl.all fun p=>OV p.2)))&&((hasB (Aa bl n) b0 (.cells (T.ofList [.map bm]) 1 true none)&&(match (Aa bl n).get bm with |some (.map l c)=>Av AcY.meEqb l (ps.map (·.1))&&Nat.beq c clock|_=>false))&&
 ((KB (ps.map (·.1))&&Adj (Ajk F b0 bm ps))&&ps.all fun p=>(Qd F.D p.2 (Aa bl n)&&Nat.blt p.1.born clock)&&((match GP p.1 with |some z=>decide (0<=z)&&decide (z<65536)|none=>false)&&(match Avq p.1.val with |some a=>awk (Aa bl n) a (F.V.sub p.2)|none=>false))))
theorem Rx{ps:List (ME×Sb)}{z:Int}{p:ME×Sb}(h:ps.find? (fun p=>decide (GP p.1=some z))=some p):p∈ps/\GP p.1=some z:=⟨List.mem_of_find?_eq_some h,by have:=List.find?_some (p:=fun (p:ME×Sb)=>decide (GP p.1=some z)) h;exact of_decide_eq_true this⟩
theorem Tq.AgJ{F:Be}{b0 bm clock:Nat}{ps:List (ME×Sb)}{bl:List (Nat×Aj)}{w:World}(hr:Rel J U C (Aa bl n) w)(hC:C.fu=W.fu)(hk:∀r,U.k r=none)(hs:Ajj F b0 bm clock ps bl n=true)(OG:∀p∈ps,F.T7 (p.2.sig U)){ro S0:Nat}(h0:J b0=some (ro,S0))(key t o:Nat):
 (Tq.mk (F.Am W (JR U ps)) b0 ((Ajk F b0 bm ps).flatten) key t o).Du J (Aa bl n) w:=by
 unfold Ajj at hs;simp only[Ah]at hs;obtain⟨⟨_,hvok,hpl⟩,⟨Ml,hbm⟩,⟨hku,hdis⟩,hps⟩:=hs;have e0:=Cz Ml;obtain⟨l0,hbmg⟩:∃l0,(Aa bl n).get bm=some (.map l0 clock)/\l0=ps.map (·.1):=by
  cases hg:(Aa bl n).get bm with
  |none=>rw[hg]at hbm;cases hbm
  |some x=>
   rw[hg]at hbm;cases x with
   |map l c=>
    rw[Ah]at hbm;exact⟨l,by rw[beq_eq hbm.2],Ag (fun _ _=>Yq) hbm.1⟩
   |_=>cases hbm
 obtain⟨hbmg,hl0⟩:=hbmg;subst hl0;have hinj:∀{b b' r S S'},J b=some (r,S)->J b'=some (r,S')->Live (Aa bl n) b->Live (Aa bl n) b'->b=b':=by
  intro b b' r S S' h1 h2 l1 l2;rcases hr.inj b b' r S S' h1 h2 l1 l2 with e|e
  ·exact e
  ·exact (Le hpl e).elim
 obtain⟨o0,ho0,hx0⟩:=hr.AE b0 ro S0 h0;obtain⟨cs,ty,c1,c2,_,c4,c5⟩:=hx0 _ e0;have c4:=c4 rfl;obtain⟨v0,OI,x,S1,hρ1,hv0'⟩:=c5 0 (.map bm) (by decide) rfl;have Ix:cs= #[.map (some x)]:=by
  apply Array.ext
  ·rw[c2,<-c4];rfl
  ·intro i hi hi';have:i=0:=by rw[c2,<-c4]at hi;omega
   subst this;rw[Array.getElem?_eq_getElem hi]at OI;rw[Option.some.inj OI,hv0'];rfl
 have Qz:w.heap[ro]? =some (.cells #[.map (some x)] ty (0,0)):=by rw[ho0,c1,Ix]
 obtain⟨o1,ho1,DN⟩:=hr.AE bm x S1 hρ1;obtain⟨ms,d1,d2⟩:=DN _ hbmg;have hg2:w.heap[x]? =some (.map ms.toArray clock):=by rw[ho1,d1]
 have Bs:ro ≠ x:=by
  intro h;rw[<-h,Qz]at hg2;cases hg2
 have hp:∀p∈ps,Qd F.D p.2 (Aa bl n)=true/\p.1.born<clock/\(∃z,GP p.1=some z/\0<=z/\z<65536)/\∃a,p.1.val=.one a/\awk (Aa bl n) a (F.V.sub p.2)=true:=by
  intro p hp;have:=Bf.1 hps p hp;simp only[Ah]at this;obtain⟨⟨h1,h2⟩,h3,h4⟩:=this;refine⟨h1,AF h2,?_,?_⟩
  ·cases hz:GP p.1 with
   |none=>rw[hz]at h3;cases h3
   |some z=>
    rw[hz]at h3;rw[Ah,decide_eq_true_iff,decide_eq_true_iff]at h3;exact⟨z,rfl,h3⟩
  ·cases hv:p.1.val with
   |one a=>rw[hv]at h4;exact⟨a,rfl,h4⟩
   |agg l=>rw[hv]at h4;cases h4
 have hKO:=Ajz (clock:=clock) d2 hku (Bf.2 fun e he=>by
  obtain⟨p,Q0,e1⟩:=List.mem_map.1 he;rw[<-e1];exact AT (hp p Q0).2.1)
 have hent:∀p∈ps,∃e∈ms,WL J U p.1 e:=fun p Q0=>F2.Arl d2 (List.mem_map.2 ⟨p,Q0,rfl⟩)
 have hent':∀e∈ms,∃p∈ps,WL J U p.1 e:=by
  intro e he;obtain⟨a,ha,h⟩:=F2.mem d2 he;obtain⟨p,Q0,e1⟩:=List.mem_map.1 ha;exact⟨p,Q0,by rw[e1];exact h⟩
 have hex:∀z:Int,∃q:Option Value,match q with |some u=>BV ms z (fun u'=>u'=u)|none=>∀e∈ms,e.key ≠ .int .i64 z:=by
  intro z
  by_cases h:∃e∈ms,e.key=.int .i64 z
  ·obtain⟨e,he,hke⟩:=h;exact⟨some e.val,e,he,hke,rfl⟩
  ·exact⟨none,fun e he hke=>h ⟨e,he,hke⟩⟩
 let m:Int->Option Value:=fun z=>(hex z).choose
 have hm:∀z,match m z with |some u=>BV ms z (fun u'=>u'=u)|none=>∀e∈ms,e.key ≠ .int .i64 z:=fun z=>(hex z).choose_spec
 have I8:KD w ro m:=⟨ty,x,ms.toArray,clock,Qz,Bs,hg2,hKO,hm⟩;have MB:∀y,Fq w ro y↔y=ro\/y=x:=by
  intro y;constructor
  ·rintro (h|⟨ty',x',h,h'⟩)
   ·exact .inl h
   ·rw[Qz]at h;cases h;exact .inr h'
  ·rintro (h|h)
   ·exact .inl h
   ·exact .inr ⟨ty,x,Qz,h⟩
 have BN:∀{z:Int} {Y:An},JR U ps z=some Y->∃p∈ps,GP p.1=some z/\Y=p.2.sig U:=by
  intro z Y h;unfold JR at h;cases hf:ps.find? (fun p=>decide (GP p.1=some z)) with
  |none=>rw[hf]at h;cases h
  |some p=>rw[hf]at h;cases h;exact⟨p,(Rx hf).1,(Rx hf).2,rfl⟩
 have Cu:∀z u Y,m z=some u->JR U ps z=some Y->∃p∈ps,GP p.1=some z/\Y=p.2.sig U/\∃r,Mem W F Y w u r/\∀y,F.D.fp Y r w y->∃b∈F.D.bl.map (fun q=>p.2.g q.1),(∃S,J b=some (y,S))/\Live (Aa bl n) b:=by
  intro z u Y hmz Dr;obtain⟨p,Q0,hz,e⟩:=BN Dr;have h1:=hm z;rw[hmz]at h1;obtain⟨e1,he1,B1,hu⟩:=h1;obtain⟨e2,he2,hmer⟩:=hent p Q0;have:=RS hKO he1 he2 (B1.trans (Jr hz hmer).symm);subst this;obtain⟨hshp,_,_,a,hva,haw⟩:=hp p Q0;have hAR:AR J U a e1.val:=by
   have:=hmer.2.1;rw[hva]at this;exact this
  obtain⟨r,Z,q1,q2,q3⟩:=Be.As4 hvok (OG p Q0) (hAR.wk hr haw);obtain⟨ro',S',g1,g2,g3,g4⟩:=Tq.HD (W:=W) hr hC hk hshp q1 0 0 0;rw[q1]at g1;cases g1;subst e;subst hu;refine⟨p,Q0,hz,rfl,r,⟨q2,q3 _ _ (Ij DY) fun ET=>?_,g2⟩,fun y hy=>let ⟨b,hb,hS⟩:=g3 y hy;⟨b,hb,hS,g4 b hb⟩⟩;unfold Qd at hshp;simp only[Ah]at hshp;have fA:=Dq hshp.2.1;unfold Be.EV at ET;cases N3:(Aa F.D.bl F.D.n).get 0 with
  |none=>rw[N3]at ET;cases ET
  |some xb=>
   rw[N3]at ET;have hgs:=fA.get _ (Ad N3);obtain⟨oo,hoo,hxx⟩:=hr.AE _ _ _ q1;have hxx:=hxx _ hgs;cases xb with
   |row t' JP n' Kj=>
    obtain⟨KU,ty',N',e',hcs',_⟩:=hxx;unfold FY;rw[hoo,e'];exact hcs'
   |_=>cases ET
 have hK0:∀y,Fq w ro y->∃b∈[b0,bm],(∃S,J b=some (y,S))/\Live (Aa bl n) b:=by
  intro y hy;rcases (MB y).1 hy with h|h
  ·subst h;exact⟨b0,by simp,⟨_,h0⟩,_,e0,fun h=>Aj.noConfusion h⟩
  ·subst h;exact⟨bm,by simp,⟨_,hρ1⟩,_,hbmg,fun h=>Aj.noConfusion h⟩
 have hidx:∀p∈ps,∃i,ps[i]? =some p:=fun p Q0=>List.getElem?_of_mem Q0
 have Kf:TB W F (JR U ps) ro w m:=by
  refine⟨I8,fun z=>?_,fun z u Y h1 h2=>?_,fun z z' u u' Y Y' r r' hzz h1 h2 h3 h4 h5 h6 y hy FH=>?_⟩
  ·have h1:=hm z;cases hmz:m z with
   |some u=>
    rw[hmz]at h1;obtain⟨e,he,hke,_⟩:=h1;obtain⟨p,Q0,hmer⟩:=hent' e he;obtain⟨z',L5,_⟩:=(hp p Q0).2.2.1;have:=Jr L5 hmer;rw[hke]at this;cases this;unfold JR;cases hf:ps.find? (fun p=>decide (GP p.1=some z)) with
    |none=>exact absurd (decide_eq_true L5) (List.find?_eq_none.1 hf p Q0)
    |some p=>rfl
   |none=>
    rw[hmz]at h1;unfold JR;cases hf:ps.find? (fun p=>decide (GP p.1=some z)) with
    |none=>rfl
    |some p=>
     obtain⟨q1,q2⟩:=Rx hf;obtain⟨e,he,hmer⟩:=hent p q1;exact absurd (Jr q2 hmer) (h1 e he)
  ·obtain⟨p,Q0,hz,e,r,q1,q2⟩:=Cu z u Y h1 h2;obtain⟨z',L5,hb⟩:=(hp p Q0).2.2.1;rw[hz]at L5;cases L5;refine⟨hb.1,hb.2,r,q1,fun y hy hy0=>?_⟩;obtain⟨b,hbk,⟨S,hbS⟩,Jo⟩:=q2 y hy;obtain⟨b',hbk',⟨S',hbS'⟩,hbl'⟩:=hK0 y hy0;obtain⟨i,hi⟩:=hidx p Q0;exact Vt hdis (i:=i+1) (j:=0) (a:=F.D.bl.map fun q=>p.2.g q.1) (b:=[b0,bm]) (by show (ps.map _)[i]? =_;rw[List.getElem?_map,hi];rfl) rfl (by omega) b hbk b' hbk' (hinj hbS hbS' Jo hbl')
  ·obtain⟨p,Q0,hz,e,r1,q1,q2⟩:=Cu z u Y h1 h3;obtain⟨p',hpm',L5,e',r1',q1',q2'⟩:=Cu z' u' Y' h2 h4;have a1:=q1.1;rw[h5]at a1;cases a1;have a2:=q1'.1;rw[h6]at a2;cases a2;obtain⟨b,hbk,⟨S,hbS⟩,Jo⟩:=q2 y hy;obtain⟨b',hbk',⟨S',hbS'⟩,hbl'⟩:=q2' y FH;obtain⟨i,hi⟩:=hidx p Q0;obtain⟨j,hj⟩:=hidx p' hpm';exact Vt hdis (i:=i+1) (j:=j+1) (a:=F.D.bl.map fun q=>p.2.g q.1) (b:=F.D.bl.map fun q=>p'.2.g q.1) (by show (ps.map _)[i]? =_;rw[List.getElem?_map,hi];rfl) (by show (ps.map _)[j]? =_;rw[List.getElem?_map,hj];rfl) (fun h=>by
    have:i=j:=by omega
    subst this;rw[hi]at hj;cases hj;rw[hz]at L5;cases L5;exact hzz rfl) b hbk b' hbk' (hinj hbS hbS' Jo hbl')
 refine⟨ro,S0,h0,⟨m,Kf⟩,fun y hy=>?_,fun b hb=>?_⟩
 ·rcases hy with hy|⟨m',z,u,Y,r,k1,k2,k3,k4,k5⟩
  ·obtain⟨b,hb,hS,_⟩:=hK0 y hy;exact⟨b,List.mem_flatten.2 ⟨_,GU,hb⟩,hS⟩
  ·rw[k1.one I8]at k2;obtain⟨p,Q0,_,_,r1,q1,q2⟩:=Cu z u Y k2 k3;have a1:=q1.1;rw[k4]at a1;cases a1;obtain⟨b,hb,hS,_⟩:=q2 y k5;exact⟨b,List.mem_flatten.2 ⟨_,Gq _ (List.mem_map.2 ⟨p,Q0,rfl⟩),hb⟩,hS⟩
 ·obtain⟨L,hL,hbL⟩:=List.mem_flatten.1 hb;rcases BL.1 hL with e|e
  ·subst e;rcases BL.1 hbL with e|e
   ·subst e;exact⟨_,e0,fun h=>Aj.noConfusion h⟩
   ·rw[List.mem_singleton.1 e];exact⟨_,hbmg,fun h=>Aj.noConfusion h⟩
  ·obtain⟨p,Q0,e1⟩:=List.mem_map.1 e;have hshp:=(hp p Q0).1;unfold Qd at hshp;simp only[Ah]at hshp;rw[<-e1]at hbL;obtain⟨q,hq,e2⟩:=List.mem_map.1 hbL;have:=Bf.1 hshp.2.2.2 q hq;rw[Ah]at this;rw[<-e2];exact Db this.2
end Eng
namespace Eng
open Go Go.RowKit
variable [AD]
variable {U:An} {J:A1} {W:Wd}
def AfZ(v:AV):Bool:=match v with |.one (.KW ..)=>true|.one (.slice ..)=>true|.one .B7=>true|.one .any=>true|_=>false
theorem Aga{v:AV}{u:Value}(h:AfZ v=true)(hv:Bb J U v u):Bb J U (.one .any) u:=by
 unfold AfZ at h;split at h
 ·obtain⟨r,S,c,_,e,_⟩:=hv;exact⟨_,_,_,e⟩
 ·obtain⟨r,S,_,e⟩:=hv;exact⟨_,_,_,e⟩
 ·exact⟨_,_,_,hv⟩
 ·exact hv
 ·cases h
theorem Vm(hW:W.ok):A4 W.P (CS W) U:=by
 obtain⟨h3,h4,h5⟩:=hW;exact A4.of h3 h4 (fun _ _ _ _ h=>nomatch h) h5
theorem Vy:JK (CS W) W.P U:=JK.of (l:=[]) rfl .nil
def ZL(f:FuncId)(args:List AV)(bl:List (Nat×Aj))(n n1:Nat):Bq:={f,args,bl,n,np:=2,hi:=2,outs:=[{v:=.one .any,AX:=bl,n1}]}
def Ac3(c:Bq)(n1:Nat)(r:OR):Bool:=match r with |some (.val v h1)=>AfZ v&&leaves c.bl c.n c.bl n1 h1|_=>false
theorem Adf{f:FuncId}{args:List AV}{bl:List (Nat×Aj)}{n n1 m:Nat}{X:Ctx}(hW:W.ok)(hw:args.all (AV.within (Ae bl))=true)(hk:Ac3 (ZL f args bl n n1) n1 (eval (CS W) m X (.call f args) (Aa bl n))=true):(ZL f args bl n n1).ok W:=by
 intro U _;refine⟨_,List.mem_singleton.2 rfl,U,.refl,fun Uq2 _=>⟨⟨.nil,.nil,trivial,.nil⟩,fun C hC=>⟨?_,fun J w vs hr ha=>?_⟩⟩⟩
 ·rw[Ah];exact⟨hw,rfl⟩
 ·unfold Ac3 at hk;split at hk
  ·rename_i v h1 he;rw[Ah]at hk;refine ((Jl (Vm hW) Vy m).2.call X f args _ v h1 he J w vs (hr.cfg (C':=CS W) hC) ha).mono ?_
   rintro v' w' ⟨J',g2,g3,g4⟩
   exact⟨J',h1,Aga hk.1 g2,g3.cfg hC.symm,g4,hk.2⟩
  ·cases hk
end Eng
namespace Tab
open Go Eng
variable {α:Type} {P:Program}
abbrev Z:T α:=.nil
def B(x:α)(l r:T α):T α:=.node (some x) l r
def O(l r:T α):T α:=.node none l r
def L(x:α):T α:=.node (some x) .nil .nil
def WB:T α->Nat->Nat->List (Nat×α)
 |.nil,_,_=>[]
 |.node v l r,b,m=>(match v with |some a=>[(b,a)]|none=>[])++(WB l (b+m) (2*m)++WB r (b+2*m) (2*m))
theorem Ak0:∀{t:T α} {b m n:Nat} {a:α},T.get t n=some a->(b+m*n,a)∈WB t b m:=by
 intro t
 induction t with
 |nil=>intro b m n a h;cases h
 |node v l r ihl ihr=>
  intro b m n a hg;cases n with
  |zero=>
   have hg:v=some a:=hg;subst hg;exact List.mem_append_left _ (by simp)
  |succ n=>
   have e:T.get (T.node v l r) (n+1)=@Bool.rec (fun _=>Option α) (T.get r (n / 2)) (T.get l (n / 2)) (Nat.beq (n % 2) 0):=rfl;rw[e]at hg;have hd:=Nat.div_add_mod n 2;cases hb:Nat.beq (n % 2) 0 with
   |true=>
    rw[hb]at hg;have h2:n % 2=0:=Nat.eq_of_beq_eq_true hb;have:=ihl (b:=b+m) (m:=2*m) hg;rw[show b+m+2*m*(n / 2)=b+m*(n+1) by
     rw[show n+1=2*(n / 2)+1 by omega,Nat.mul_add,Nat.mul_one,Nat.mul_comm 2 m,Nat.mul_assoc];omega]at this
    exact List.mem_append_right _ (List.mem_append_left _ this)
   |false=>
    rw[hb]at hg;have h2:n % 2=1:=by
     rcases Nat.mod_two_eq_zero_or_one n with h|h
     ·rw[h]at hb;cases hb
     ·exact h
    have:=ihr (b:=b+2*m) (m:=2*m) hg;rw[show b+2*m+2*m*(n / 2)=b+m*(n+1) by
     rw[show n+1=2*(n / 2)+2 by omega,Nat.mul_add,Nat.mul_comm 2 m,Nat.mul_assoc,Nat.mul_comm m 2];omega]at this
    exact List.mem_append_right _ (List.mem_append_right _ this)
theorem Zn{t:T α}{n:Nat}{a:α}(h:T.get t n=some a):(n,a)∈WB t 0 1:=by
 have:=Ak0 (b:=0) (m:=1) h
 rwa [Nat.zero_add,Nat.one_mul]at this
def aOf:Value->A
 |.bool b=>.bool b
 |.int k n=>.int k n
 |.string s=>.str s
 |.pointer none=>.HB
 |.slice none 0 0=>.B7
 |.map none=>.Jv
 |.nilFunc=>.KF
 |_=>.HB
def zl:Option Value->List A
 |some (.agg cs)=>cs.toList.map aOf
 |some v=>[aOf v]
 |none=>[]
def ag:TypeDesc->Bool
 |.struct _|.array _ _=>true
 |_=>false
def en(i:TypeInfo)(d:TypeDesc)(pl:Bool):TI:=⟨d,i.size,ag d,zl i.zero,i.bytes,pl⟩
abbrev e(i:TypeInfo):TI:=en i i.desc true
abbrev h(i:TypeInfo):TI:=en i i.desc false
abbrev e'(i j:TypeInfo):TI:=en i j.desc true
abbrev h'(i j:TypeInfo):TI:=en i j.desc false
theorem As3{t:T TI}(h1:(WB t 0 1).map (fun p=>P.underlying p.1)=(WB t 0 1).map (fun p=>some p.2.CR))
 (h2:(WB t 0 1).map (fun p=>(P.info? p.1).map (fun j=>(j.size,j.bytes,j.zero)))=(WB t 0 1).map (fun p=>some (p.2.size,p.2.bytes,some p.2.JI)))
 (h3:((WB t 0 1).all fun p=>p.2.zero.all A.isLit&&(Nat.beq p.2.zero.length p.2.size&&((p.2.agg||Nat.beq p.2.zero.length 1)&&((p.2.agg==ag p.2.CR)&&(!p.2.plain|| !(P.stoodInHeld p.1))))))=true):
 ∀n ti,t.get n=some ti->Qk P n ti:=by
 intro n ti h;have hm:=Zn h;have hc:=Bf.1 h3 _ hm;simp only[Ah]at hc;refine Qk.of (List.map_inj_left.1 h1 _ hm) (List.map_inj_left.1 h2 _ hm) hc.1 hc.2.1 hc.2.2.1 ?_ ?_
 ·have:=eq_of_beq hc.2.2.2.1;rw[show ti.agg=ag ti.CR from this];cases ti.CR<;>rfl
 ·intro hpl;have h4:=hc.2.2.2.2;rw[show (n,ti).2.plain=true from hpl]at h4;simpa using h4
def u(m:Nat)(f:Func):FI:=⟨f.ntmps,m,f.body.getD .skip,f.results.toList⟩
theorem Aqh{t:T FI}(h1:(WB t 0 1).map (fun p=>P.funcs[p.1]?.map fun f=>(f.body,f.ntmps,f.results.toList))=(WB t 0 1).map (fun p=>some (some p.2.body,p.2.nt,p.2.results)))
 (h2:((WB t 0 1).all fun p=> !(P.funcs[p.1]?.map (·.name)==some "runtime.NumGoroutine"))=true):∀n fi,t.get n=some fi->WI P n fi:=by
 intro n fi h;have hm:=Zn h;have q1:=List.map_inj_left.1 h1 _ hm;have q2:=Bf.1 h2 _ hm;simp only[Bool.not_eq_true',beq_eq_false_iff_ne,ne_eq]at q2;cases hf:P.funcs[n]? with
 |none=>rw[show P.funcs[(n,fi).1]? =none from hf]at q1;cases q1
 |some fn=>
  rw[show P.funcs[(n,fi).1]? =some fn from hf]at q1 q2;simp only[Option.map_some,Option.some.injEq,Prod.mk.injEq]at q1 q2;exact⟨fn,hf,q1.1,q1.2.1,q1.2.2,q2⟩
end Tab
end
