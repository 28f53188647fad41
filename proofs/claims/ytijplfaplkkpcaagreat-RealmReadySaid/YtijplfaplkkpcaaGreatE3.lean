/- Slicing, indexing and values made of parts are evaluated right. No conditions beside those in its theorems. -/
import Derived.Test.YtijplfaplkkpcaaGreatE2
import Derived.Laws.Tables
import Derived.Laws.MakeOwn
set_option linter.unusedVariables false
set_option linter.unusedSimpArgs false
set_option linter.unusedSectionVars false
set_option linter.constructorNameAsVariable false
set_option maxRecDepth 100000
noncomputable section
namespace Eng
open Go
variable {J J':A1} {U:An} {C:AB} {P:Program} {nl:Nat} {o:Oper}
theorem Anu{x:Option Bool}(h:W7 x=true):x=some true:=by
 cases x with
 |none=>cases h
 |some b=>exact congrArg some h
theorem Bh:CU C nl o (A5 (.n0 A7)):=by intro rec X k pt tl h r hk;cases hk
theorem Bv:En C nl o (A5 (.n0 A7)):=Bh.read
theorem EZ:Ks C nl o (A5 (.n0 A7)):=Bv.Pq
theorem Dp:IV C nl o (A5 (.n0 A7)):=by intro rec X k pt tl h r hk;cases hk
theorem AcF{op:UnOp}{t:TypeId}{x:Operand}(ho:o.op=.unOp op t x):CU C nl o (A5 (.n1 (AnU op) (od nl x))):=by
 intro rec X k pt tl h r hk;obtain⟨u,hu,hk⟩:=Aq (show ev (od nl x) pt tl _=some r from hk);obtain⟨a,rfl,hk⟩:=AY hk;have hx:∀{J:A1} {U:An} {e:Operand->Value},Gp J U nl o.op pt tl e->AR J U a (e x):=fun A8=>A8 x (by simp[ho,Op.operands]) _ hu
 have key:∀(v:A),(∀K,unF op a K=K v)->(∀(J:A1) (U:An) (va:Value),AR J U a va->∀(P:Program) w,∃v',(Op.unary op va).run P w=.ok v' w/\AR J U v v')->∃v,
  (∀Bn X' k' h',A5 (.n1 (AnU op) (od nl x)) Bn X' k' pt tl h'=k' v h')/\
  ∀P U J e w,A4 P C U->Gp J U nl o.op pt tl e->∃v',Fk P e o w v' w/\Bb J U v v':=by
  intro v h1 h2;refine⟨.one v,?_,?_⟩
  ·intro Bn X' k' h';show ev (od nl x) pt tl _=_;rw[AQ hu];exact h1 (fun a=>k' (.one a) h')
  ·intro P U J e w hc A8;obtain⟨v',h3,h4⟩:=h2 J U (e x) (hx A8) P w;exact⟨v',.inl (by simp[execOp,ho,h3]),h4⟩
 cases op with
 |not=>cases a with
  |bool b=>
   refine key (.bool (C3 b)) (fun _=>rfl) ?_
   rintro J U va rfl P w
   exact⟨_,rfl,by simp[AR,Qn]⟩
  |_=>cases hk
 |neg=>cases a with
  |int q n=>
   refine key (.int q (KS q (Ad7 0 n))) (fun _=>rfl) ?_
   rintro J U va rfl P w
   exact⟨_,rfl,by simp[AR,GI,VB]⟩
  |_=>cases hk
 |xor=>cases a<;>cases hk
 |plus=>cases a<;>cases hk
theorem TN{src dst:TypeId}{x:Operand}{ts td:TI}{q:IntKind}(ho:o.op=.convert src dst x)(hs:C.ty src=some ts)(hd:C.ty dst=some td)(hq:td.CR=.int q):
 CU C nl o (A5 (.n1 (AaB q) (od nl x))):=by
 intro rec X k pt tl h r hk;obtain⟨u,hu,hk⟩:=Aq (show ev (od nl x) pt tl _=some r from hk);obtain⟨a,rfl,hk⟩:=AY hk;have hx:∀{J:A1} {U:An} {e:Operand->Value},Gp J U nl o.op pt tl e->AR J U a (e x):=fun A8=>A8 x (by simp[ho,Op.operands]) _ hu
 have key:∀(v:A) (q':IntKind) (e':E),a.ie=some (q',e')->(∀K,AkN q a K=K v)->(∀(J:A1) (U:An),AR J U v (.int q (q.wrap (e'.den U))))->∃v,
  (∀Bn X' k' h',A5 (.n1 (AaB q) (od nl x)) Bn X' k' pt tl h'=k' v h')/\
  ∀P U J e w,A4 P C U->Gp J U nl o.op pt tl e->∃v',Fk P e o w v' w/\Bb J U v v':=by
  intro v q' e' hie h1 h2;refine⟨.one v,?_,?_⟩
  ·intro Bn X' k' h';show ev (od nl x) pt tl _=_;rw[AQ hu];exact h1 (fun a=>k' (.one a) h')
  ·intro P U J e w hc A8;have he:=AR.ie hie (hx A8);refine⟨_,.inl ?_,h2 J U⟩;have:=(hc.ty src ts hs).Bu w;have:=(hc.ty dst td hd).Bu w;simp[execOp,convert, *,Conv.intToInt]
 cases a with
 |int q' n=>exact key (.int q (KS q n)) q' (.lit n) rfl (fun _=>rfl) (fun J U=>by simp[AR,GI,E.den])
 |sym q' e'=>exact key (.sym q (.conv q e')) q' e' rfl (fun _=>rfl) (fun J U=>by simp[AR,E.den])
 |_=>cases hk
theorem Xx{s:TypeId}{x:Operand}{f:Nat}(ho:o.op=.fieldAddr s x f):CU C nl o (A5 (Amy C s (od nl x) f)):=by
 unfold Amy;cases hs:C.ty s with
 |none=>rw[AH hs];exact Bh
 |some ti=>
  rw[AI hs];split
  ·rename_i fs hfs;split
   ·rename_i fd hfd;cases hf:C.ty fd.type with
    |none=>rw[AH hf];exact Bh
    |some fi=>
     rw[AI hf];cases hz:Nat.beq fi.size 0 with
     |true=>exact Bh
     |false=>
      intro rec X k pt tl h r hk;obtain⟨u,hu,hk⟩:=Aq (show ev (od nl x) pt tl _=some r from hk);rcases OM hk with ⟨t,e0,es,c0,rfl,hk⟩|⟨hk,hno0⟩
      ·refine⟨.one (.NB t e0 es (Nat.add c0 fd.offset)),?_,?_⟩
       ·intro Bn X' k' h';show ev (od nl x) pt tl _=_;rw[AQ hu];rfl
       ·intro P U J e w hc A8;obtain⟨rr,ro,N,Jzz,he,hJ,hJN,hK⟩:=A8 x (by simp[ho,Op.operands]) _ hu;refine⟨.pointer (some ⟨rr,ro+(Jzz*es+(c0+fd.offset)),none⟩),.inl ?_,⟨rr,ro,N,Jzz,rfl,hJ,hJN,hK⟩⟩;have h1:=(hc.ty s ti hs).Bu w;have h2:=(hc.ty _ fi hf).BE w;have h3:=B5 hz;rw[HC]at hfd;have h4:fs[f]? =some fd:=by simpa using hfd
        rw[hfs]at h1;simp[execOp,ho,Instr.fieldAt,h1,h4,Instr.sureAddr,he,fieldPlace,h2,h3,Bg,Nat.add_assoc]
      rcases KH hk with ⟨b,e0,es,c0,rfl,hk⟩|⟨hk,Km⟩
      ·refine⟨.one (.pt b e0 es (Nat.add c0 fd.offset)),?_,?_⟩
       ·intro Bn X' k' h';show ev (od nl x) pt tl _=_;rw[AQ hu];rfl
       ·intro P U J e w hc A8;obtain⟨rr,S,N,hb,he,hN⟩:=A8 x (by simp[ho,Op.operands]) _ hu;refine⟨.pointer (some ⟨rr,N*es+(c0+fd.offset),none⟩),.inl ?_,⟨rr,S,N,hb,rfl,hN⟩⟩;have h1:=(hc.ty s ti hs).Bu w;have h2:=(hc.ty _ fi hf).BE w;have h3:=B5 hz;rw[HC]at hfd;have h4:fs[f]? =some fd:=by simpa using hfd
        rw[hfs]at h1;simp[execOp,ho,Instr.fieldAt,h1,h4,Instr.sureAddr,he,fieldPlace,h2,h3,Bg,Nat.add_assoc]
      obtain⟨b,off,rfl,hk⟩:=FV hk;refine⟨.one (.ptr b (Nat.add off fd.offset)),?_,?_⟩
      ·intro Bn X' k' h';show ev (od nl x) pt tl _=_;rw[AQ hu];rfl
      ·intro P U J e w hc A8;obtain⟨rr,S,hb,he⟩:=A8 x (by simp[ho,Op.operands]) _ hu;refine⟨.pointer (some ⟨rr,off+fd.offset,none⟩),.inl ?_,⟨rr,S,hb,rfl⟩⟩;have h1:=(hc.ty s ti hs).Bu w;have h2:=(hc.ty _ fi hf).BE w;have h3:=B5 hz;rw[HC]at hfd;have h4:fs[f]? =some fd:=by simpa using hfd
       rw[hfs]at h1;simp[execOp,ho,Instr.fieldAt,h1,h4,Instr.sureAddr,he,fieldPlace,h2,h3,Bg]
   ·exact Bh
  ·exact Bh
theorem Ahx{t:TypeId}{ti:TI}(ht:Qk P t ti){l:List A}{vs:List Value}(hl:F2 (AR J U) l vs){off:Nat}{k:AV->OR}{r:Rs}(hk:Ss l off ti.size ti.agg k=some r)(w:World):
 ∃v,k v=some r/\(∀k',Ss l off ti.size ti.agg k'=k' v)/\∃v',(part t vs.toArray off).run P w=.ok v' w/\Bb J U v v':=by
 have h1:=ht.GR w;have h2:=ht.BE w;unfold Ss at hk ⊢;cases ha:ti.agg with
 |true=>
  rw[ha]at hk h1;refine⟨_,hk,fun k'=>rfl,_,by simp[part,h1,h2];rfl,⟨(vs.drop off).take ti.size,?_,?_⟩⟩
  ·simp
  ·rw[SX,Rj];exact (hl.drop off).take _
 |false=>
  rw[ha]at hk h1;obtain⟨a,h3,h4⟩:=Ar hk;rw[HC]at h3;obtain⟨b,h5,h6⟩:=hl.get h3;refine⟨.one a,h4,fun k'=>by show BS _ _=_;rw[HC,BI h3],b,?_,h6⟩;simp[part,h1,h5]
theorem AaH{l:List A}{off size:Nat}{agg:Bool}{k:AV->OR}{r:Rs}(hk:Ss l off size agg k=some r):∃v,k v=some r/\∀k',Ss l off size agg k'=k' v:=by
 unfold Ss at hk ⊢;cases agg with
 |true=>exact⟨_,hk,fun k'=>rfl⟩
 |false=>
  obtain⟨a,h3,h4⟩:=Ar hk;exact⟨.one a,h4,fun k'=>by show BS _ _=_;rw[BI h3]⟩
theorem Ru{s:TypeId}{x:Operand}{f:Nat}(ho:o.op=.field s x f):CU C nl o (A5 (ZE C s (od nl x) f)):=by
 unfold ZE;cases hs:C.ty s with
 |none=>rw[AH hs];exact Bh
 |some ti=>
  rw[AI hs];split
  ·rename_i fs hfs;split
   ·rename_i fd hfd;cases hf:C.ty fd.type with
    |none=>rw[AH hf];exact Bh
    |some fi=>
     rw[AI hf];intro rec X k pt tl h r hk;obtain⟨u,hu,hk⟩:=Aq (show ev (od nl x) pt tl _=some r from hk);obtain⟨l,rfl,AW⟩:=AcS hk;obtain⟨v,hv,hv'⟩:=AaH AW;refine⟨v,?_,?_⟩
     ·intro Bn X' k' h';show ev (od nl x) pt tl _=_;rw[AQ hu];exact hv' (fun v=>k' v h')
     ·intro P U J e w hc A8;obtain⟨vs,he,EU⟩:=A8 x (by simp[ho,Op.operands]) _ hu;obtain⟨v2,h5,h6,v',h7,h8⟩:=Ahx (hc.ty _ fi hf) EU (k:=fun v=>k v h) AW w;have:v=v2:=by
       have a1:=hv' (fun v=>some (.val v h));have a2:=h6 (fun v=>some (.val v h));rw[a1]at a2;exact (by simpa using a2)
      subst this;refine⟨v',.inl ?_,h8⟩;have h1:=(hc.ty s ti hs).Bu w;rw[hfs]at h1;rw[HC]at hfd;have h4:fs[f]? =some fd:=by simpa using hfd
      simp[execOp,ho,Instr.field,h1,h4,he,asAgg,h7]
   ·exact Bh
  ·exact Bh
theorem Nu{x:Operand}{i:Nat}(ho:o.op=.extract x i):CU C nl o (A5 (.n1 (fun x=>Ur x i) (od nl x))):=by
 intro rec X k pt tl h r hk;obtain⟨u,hu,hk⟩:=Aq (show ev (od nl x) pt tl _=some r from hk);cases u with
 |Dh l=>
  obtain⟨v,h1,h2⟩:=Ar hk;refine⟨v.av,?_,?_⟩
  ·intro Bn X' k' h';show ev (od nl x) pt tl _=_;rw[AQ hu];exact BI h1
  ·intro P U J e w hc A8;obtain⟨vs,he,EU⟩:=A8 x (by simp[ho,Op.operands]) _ hu;rw[HC]at h1;obtain⟨b,h5,h6⟩:=EU.get h1;exact⟨b,.inl (by simp[execOp,ho,Instr.extract,he,h5]),VR.av _ _ h6⟩
 |_=>cases hk
theorem FX{q:IntKind}{n:Int}{w:World}:(asIntOf (.int q n)).run P w=.ok (q,n) w:=rfl
theorem N9{t:TypeId}{x i:Operand}(ho:o.op=.indexAddr t x i):CU C nl o (A5 (Ra C t (od nl x) (od nl i))):=by
 unfold Ra;cases hs:C.ty t with
 |none=>rw[AH hs];exact Bh
 |some ti=>
  rw[AI hs];split
  ·rename_i ln el CV;cases hf:C.ty el with
   |none=>rw[AH hf];exact Bh
   |some ei=>
    rw[AI hf];intro rec X k pt tl h r hk;obtain⟨u,hu,hk⟩:=Aq (show ev (od nl x) pt tl _=some r from hk);rcases KH hk with ⟨b,e0,es,c0,rfl,hk⟩|⟨hk,Km⟩
    ·obtain⟨u',CT,hk⟩:=Aq (show ev (od nl i) pt tl _=some r from hk);obtain⟨q,n,rfl,hk⟩:=EL hk;obtain⟨Au,hk⟩:=Ap hk;refine⟨.one (.pt b e0 es (Nat.add c0 (Nat.mul n ei.size))),?_,?_⟩
     ·intro Bn X' k' h';show ev (od nl x) pt tl _=_;rw[AQ hu];show ev (od nl i) pt tl _=_;rw[AQ CT];exact Cv Au
     ·intro P U J e w hc A8;obtain⟨rr,S,N,hb,he,hN⟩:=A8 x (by simp[ho,Op.operands]) _ hu;have hi:e i=_:=A8 i (by simp[ho,Op.operands]) _ CT;refine⟨.pointer (some ⟨rr,N*es+(c0+n*ei.size),none⟩),.inl ?_,⟨rr,S,N,hb,rfl,hN⟩⟩;have h1:=(hc.ty t ti hs).Bu w;have h2:=(hc.ty _ ei hf).BE w;rw[CV]at h1;have h3:=AN Au;have h4:¬ln<=n:=by have:n+1<=ln:=h3;omega
      simp[execOp,ho,Instr.indexAt,hi,FX,h1,he,Instr.sureAddr,h2,h4,Bg,Nat.add_assoc]
    obtain⟨b,off,rfl,hk⟩:=FV hk;obtain⟨u',CT,hk⟩:=Aq (show ev (od nl i) pt tl _=some r from hk);obtain⟨q,n,rfl,hk⟩:=EL hk;obtain⟨Au,hk⟩:=Ap hk;refine⟨.one (.ptr b (Nat.add off (Nat.mul n ei.size))),?_,?_⟩
    ·intro Bn X' k' h';show ev (od nl x) pt tl _=_;rw[AQ hu];show ev (od nl i) pt tl _=_;rw[AQ CT];exact Cv Au
    ·intro P U J e w hc A8;obtain⟨rr,S,hb,he⟩:=A8 x (by simp[ho,Op.operands]) _ hu;have hi:e i=_:=A8 i (by simp[ho,Op.operands]) _ CT;refine⟨.pointer (some ⟨rr,off+n*ei.size,none⟩),.inl ?_,⟨rr,S,hb,rfl⟩⟩;have h1:=(hc.ty t ti hs).Bu w;have h2:=(hc.ty _ ei hf).BE w;rw[CV]at h1;have h3:=AN Au;have h4:¬ln<=n:=by have:n+1<=ln:=h3;omega
     simp[execOp,ho,Instr.indexAt,hi,FX,h1,he,Instr.sureAddr,h2,h4,Bg]
  ·rename_i el CV;cases hf:C.ty el with
   |none=>rw[AH hf];exact Bh
   |some ei=>
    rw[AI hf];intro rec X k pt tl h r hk;obtain⟨u,hu,hk⟩:=Aq (show ev (od nl x) pt tl _=some r from hk);obtain⟨a,rfl,AW⟩:=AY hk;clear hk;rcases Ui AW with ⟨t',es,n,rfl,B9⟩|⟨hk2',hno0⟩
    ·obtain⟨u',CT,hk⟩:=Aq (show ev (od nl i) pt tl _=some r from B9);obtain⟨ia,rfl,Eb⟩:=AY hk;obtain⟨e0,he0,I7⟩:=Ar Eb;obtain⟨Au,KX⟩:=Ap I7;refine⟨.one (.NB t' e0 es 0),?_,?_⟩
     ·intro Bn X' k' h';show ev (od nl x) pt tl _=_;rw[AQ hu];show ev (od nl i) pt tl _=_;rw[AQ CT,GC,BI he0,Cv Au]
     ·intro P U J e w hc A8;simp only[Ah]at Au;have hes:=beq_eq Au.1;subst hes;obtain⟨p,N,kk,hv,hN,hor⟩:=A8 x (by simp[ho,Op.operands]) _ hu;obtain⟨q,j,hi,hj⟩:=V8 hc he0 (A8 i (by simp[ho,Op.operands]) _ CT);have OF:=Ju hc Au.2;have hjN:j<N:=by rw[<-hj,<-hN]at OF;omega
      rcases hor with h0|⟨rr,ro,hp,hK⟩
      ·omega
      ·subst hp;refine⟨.pointer (some ⟨rr,ro+j*ei.size,none⟩),.inl ?_,⟨rr,ro,N,j,rfl,hj,hjN,hK⟩⟩;have h1:=(hc.ty t ti hs).Bu w;have h2:=(hc.ty _ ei hf).BE w;rw[CV]at h1;have h5:¬N<=j:=by omega
       simp[execOp,ho,Instr.indexAt,hi,FX,h1,hv,h2,h5,Bg]
    clear AW;have AW:=hk2';clear hk2';rcases Lj AW with ⟨b,es,lo,n,heq,Gy,B9⟩|⟨B9,Km⟩
    ·obtain⟨u',CT,hk⟩:=Aq (show ev (od nl i) pt tl _=some r from B9);obtain⟨ia,rfl,Eb⟩:=AY hk;obtain⟨e0,he0,I7⟩:=Ar Eb;obtain⟨Au,KX⟩:=Ap I7;obtain⟨e1,he1,N4⟩:=Ar KX;refine⟨.one (.pt b e1 es 0),?_,?_⟩
     ·intro Bn X' k' h';show ev (od nl x) pt tl _=_;rw[AQ hu];rw[GC,hno0,heq,AQ CT,GC,BI he0,Cv Au,BI he1]
     ·intro P U J e w hc A8;simp only[Ah]at Au;have hes:=beq_eq Au.1;subst hes;obtain⟨p,N,cap,hv,hNk,hN,hor⟩:=Gy J U (e x) (A8 x (by simp[ho,Op.operands]) _ hu);obtain⟨q,j,hi,hj⟩:=V8 hc he0 (A8 i (by simp[ho,Op.operands]) _ CT);have OF:=Ju hc Au.2;have hjN:j<N:=by rw[<-hj,<-hN]at OF;omega
      rcases hor with h0|⟨rr,S,L,hb,hp,hL⟩
      ·omega
      ·subst hp;have hs1:=JG hc he1;refine⟨.pointer (some ⟨rr,L*ei.size+j*ei.size,none⟩),.inl ?_,⟨rr,S,L+j,hb,by rw[Nat.add_mul];rfl,by rw[hs1,<-hL,<-hj];rfl⟩⟩;have h1:=(hc.ty t ti hs).Bu w;have h2:=(hc.ty _ ei hf).BE w;rw[CV]at h1;have h5:¬N<=j:=by omega
       simp[execOp,ho,Instr.indexAt,hi,FX,h1,hv,h2,h5,Bg]
    rename_i AW
    replace AW:=B9
    have key:∀b off ln,(∀K,Ah7 a K=K b off ln)->(∀K r,Ak6 a K r=r)->(∀(J:A1) (U:An) v,AR J U a v->∃rr S c,J b=some (rr,S)/\v=.slice (some ⟨rr,off,none⟩) ln c)->∃v,
     (∀Bn X' k' h',A5 (.n2 (AgN C ei.size) (od nl x) (od nl i)) Bn X' k' pt tl h'=k' v h')/\
     ∀P U J e w,A4 P C U->Gp J U nl o.op pt tl e->∃v',Fk P e o w v' w/\Bb J U v v':=by
     intro b off ln hsl hws Gy;rw[hws,hsl]at AW;obtain⟨u',CT,hk⟩:=Aq (show ev (od nl i) pt tl _=some r from AW);obtain⟨q,n,rfl,hk⟩:=EL hk;obtain⟨Au,hk⟩:=Ap hk;refine⟨.one (.ptr b (Nat.add off (Nat.mul n ei.size))),?_,?_⟩
     ·intro Bn X' k' h';show ev (od nl x) pt tl _=_;rw[AQ hu];rw[GC,hno0,Km,hws,hsl];show ev (od nl i) pt tl _=_;rw[AQ CT];exact Cv Au
     ·intro P U J e w hc A8;obtain⟨rr,S,c,hb,he⟩:=Gy J U (e x) (A8 x (by simp[ho,Op.operands]) _ hu);have hi:e i=_:=A8 i (by simp[ho,Op.operands]) _ CT;refine⟨.pointer (some ⟨rr,off+n*ei.size,none⟩),.inl ?_,⟨rr,S,hb,rfl⟩⟩;have h1:=(hc.ty t ti hs).Bu w;have h2:=(hc.ty _ ei hf).BE w;rw[CV]at h1;have h3:=AN Au;have h4:¬ln<=n:=by have:n+1<=ln:=h3;omega
      simp[execOp,ho,Instr.indexAt,hi,FX,h1,he,h2,h4,Bg]
    cases a with
    |slice b off ln c=>exact key b off ln (fun _=>rfl) (fun _ _=>rfl) (fun J U v ⟨rr,S,h1,h2⟩=>⟨rr,S,c,h1,h2⟩)
    |KW b off ln es=>exact key b off ln (fun _=>rfl) (fun _ _=>rfl) (fun J U v ⟨rr,S,c,h1,h2,_⟩=>⟨rr,S,c,h1,h2⟩)
    |Wz b es n=>
     obtain⟨u',CT,hk⟩:=Aq (show ev (od nl i) pt tl _=some r from AW);obtain⟨q,j,rfl,hk⟩:=EL hk;obtain⟨Au,hk⟩:=Ap hk;refine⟨.one (.ptr b (Nat.mul j ei.size)),?_,?_⟩
     ·intro Bn X' k' h';show ev (od nl x) pt tl _=_;rw[AQ hu];show ev (od nl i) pt tl _=_;rw[AQ CT];exact Cv Au
     ·intro P U J e w hc A8;obtain⟨rr,S,N,hb,he,hN,_⟩:=A8 x (by simp[ho,Op.operands]) _ hu;have hi:e i=_:=A8 i (by simp[ho,Op.operands]) _ CT;refine⟨.pointer (some ⟨rr,0+j*ei.size,none⟩),.inl ?_,⟨rr,S,hb,by rw[Nat.zero_add];rfl⟩⟩;have h1:=(hc.ty t ti hs).Bu w;have h2:=(hc.ty _ ei hf).BE w;rw[CV]at h1;simp only[Ah]at Au;have h3:C.cmp .lss (.lit (.ofNat j)) n=some true:=Anu Au.2;have h4:=hc.cmp _ _ _ _ h3;have h4':((j:Nat):Int)<n.den U:=of_decide_eq_true h4;have h5:¬N<=j:=by rw[<-hN]at h4';omega
      simp[execOp,ho,Instr.indexAt,hi,FX,h1,he,h2,h5,Bg]
    |_=>cases AW
  ·exact Bh
end Eng
namespace Eng
open Go
variable {J J':A1} {U:An} {C:AB} {P:Program} {nl:Nat} {o:Oper}
def Zw(x:Option Od)(y d n:Nat)(pt:T AV)(tl:TL):Prop:=(x=none/\n=d)\/∃z q,x=some z/\z.val pt tl=some (.one (.int q (.ofNat n)))/\n<=y
theorem F0{x:Option Od}{y d:Nat}{pt:T AV}{tl:TL}{k:Nat->OR}{r:Rs}(h:Kv x y d pt tl k=some r):
 ∃n,k n=some r/\(∀k',Kv x y d pt tl k'=k' n)/\Zw x y d n pt tl:=by
 cases x with
 |none=>exact⟨d,h,fun _=>rfl,.inl ⟨rfl,rfl⟩⟩
 |some z=>
  obtain⟨u,hu,h1⟩:=Aq (show ev z pt tl _=some r from h);obtain⟨q,n,rfl,h2⟩:=EL h1;obtain⟨h3,h4⟩:=Ap h2;refine⟨n,h4,?_,.inr ⟨z,q,rfl,hu,AN h3⟩⟩;intro k';show ev z pt tl _=_;rw[AQ hu];exact Cv h3
theorem run_sliceBound{q:IntKind}{n y:Nat}{c:BoundsCode}{w:World}(h:n<=y):(Instr.sliceBound (.int q (.ofNat n)) y c).run P w=.ok n w:=by
 simp[Instr.sliceBound,FX,h]
def PM(e:Operand->Value)(nl:Nat)(x:Option Operand)(pt:T AV)(tl:TL):Prop:=∀X,x=some X->∀q n,(od nl X).val pt tl=some (.one (.int q n))->e X=.int q n
theorem ML{x:Option Operand}{y d n:Nat}{pt:T AV}{tl:TL}{e:Operand->Value}(h:Zw (opt nl x) y d n pt tl)(hr:PM e nl x pt tl):
 (x=none/\n=d)\/∃X q,x=some X/\e X=.int q (.ofNat n)/\n<=y:=by
 cases x with
 |none=>rcases h with ⟨_,h⟩|⟨z,q,h,_⟩;exact .inl ⟨rfl,h⟩;cases h
 |some X=>
  rcases h with ⟨h,_⟩|⟨z,q,h1,h2,h3⟩
  ·cases h
  ·cases h1;exact .inr ⟨X,q,rfl,hr X rfl q _ h2,h3⟩
theorem Ik{isS:Bool}{ln cap room l h':Nat}{lo hi:Option Operand}{pt:T AV}{tl:TL}{e:Operand->Value}{w:World}
 (hh:Zw (opt nl hi) room ln h' pt tl) (hl:Zw (opt nl lo) h' 0 l pt tl) (hrc:room<=cap) (rl:PM e nl lo pt tl) (rh:PM e nl hi pt tl):
 (Instr.sliceBounds isS ln cap (lo.map e) (hi.map e) none).run P w=.ok (l,h',cap) w:=by
 rcases ML hh rh with ⟨rfl,rfl⟩|⟨X,q,rfl,hX,hle⟩<;>rcases ML hl rl with ⟨rfl,rfl⟩|⟨Yzz,q',rfl,hY,hle'⟩
 ·simp[Instr.sliceBounds]
 ·simp only[Instr.sliceBounds,Option.map,hY,Sem.run_bind,Sem.run_pure,Result.andThen_ok];rw[run_sliceBound hle'];rfl
 ·simp only[Instr.sliceBounds,Option.map,hX,Sem.run_bind,Sem.run_pure,Result.andThen_ok];rw[run_sliceBound (Nat.le_trans hle hrc)];rfl
 ·simp only[Instr.sliceBounds,Option.map,hX,hY,Sem.run_bind,Sem.run_pure,Result.andThen_ok];rw[run_sliceBound (Nat.le_trans hle hrc)];simp only[Result.andThen_ok];rw[run_sliceBound hle'];rfl
theorem YS{isS:Bool}{ln cap room l h' m:Nat}{lo:Option Operand}{hi mx:Operand}{pt:T AV}{tl:TL}{e:Operand->Value}{w:World}
 (hm:Zw (opt nl (some mx)) room 0 m pt tl) (hh:Zw (opt nl (some hi)) m 0 h' pt tl) (hl:Zw (opt nl lo) h' 0 l pt tl) (hrc:room<=cap) (rl:PM e nl lo pt tl) (rh:PM e nl (some hi) pt tl) (rm:PM e nl (some mx) pt tl):
 (Instr.sliceBounds isS ln cap (lo.map e) (some (e hi)) (some (e mx))).run P w=.ok (l,h',m) w:=by
 rcases ML hh rh with ⟨h0,_⟩|⟨X,q,h1,hX,hle⟩
 ·cases h0
 cases h1;rcases ML hm rm with ⟨h0,_⟩|⟨X',q',h1,hX',hle2⟩
 ·cases h0
 cases h1;rcases ML hl rl with ⟨rfl,rfl⟩|⟨Yzz,q'',rfl,hY,hle'⟩
 ·simp only[Instr.sliceBounds,Option.map,hX,hX',Sem.run_bind,Sem.run_pure,Result.andThen_ok];rw[run_sliceBound (Nat.le_trans hle2 hrc)];simp only[Result.andThen_ok];rw[run_sliceBound hle];rfl
 ·simp only[Instr.sliceBounds,Option.map,hX,hX',hY,Sem.run_bind,Sem.run_pure];rw[run_sliceBound (Nat.le_trans hle2 hrc)];simp only[Result.andThen_ok];rw[run_sliceBound hle];simp only[Result.andThen_ok];rw[run_sliceBound hle'];rfl
theorem PB{ex:Bool}{b off ln room size:Nat}{lo hi:Option Od}{pt:T AV}{tl:TL}{k:A->OR}:
 Pc ex b off ln room size lo hi none pt tl k=Kv hi room ln pt tl fun h'=>Kv lo h' 0 pt tl fun l=>bif ex then Aoy b off size l h' room k else Asl b off size l h' room k:=rfl
theorem Oc{size:Nat}{h:H}{lo hi:Option Od}{pt:T AV}{tl:TL}{k:A->OR}:
 Ob size h .B7 lo hi none pt tl k=Kv hi 0 0 pt tl fun _=>Kv lo 0 0 pt tl fun _=>k .B7:=rfl
theorem KP{ex:Bool}{b off ln room size:Nat}{lo hi mx:Option Operand}{pt:T AV}{tl:TL}{k:A->OR}{r:Rs}
 (h:Pc ex b off ln room size (opt nl lo) (opt nl hi) (opt nl mx) pt tl k=some r):
 ∃v,k v=some r/\(∀k',Pc ex b off ln room size (opt nl lo) (opt nl hi) (opt nl mx) pt tl k'=k' v)/\
  ∀(P:Program) (J:A1) (U:An) (e:Operand->Value) (w:World) (isS:Bool) (cap rr S:Nat),J b=some (rr,S)->room<=cap->(ex=true->cap=room)->(ex=false->off+cap*size=S)->
   PM e nl lo pt tl->PM e nl hi pt tl->PM e nl mx pt tl->
   ∃l h' m,(Instr.sliceBounds isS ln cap (lo.map e) (hi.map e) (mx.map e)).run P w=.ok (l,h',m) w/\
    AR J U v (.slice (some (if m=l then ⟨rr,off,none⟩ else (⟨rr,off,none⟩:Addr).add (l*size))) (h'-l) (m-l)):=by
 have exc:∀(l h' m:Nat) (J:A1) (U:An) (rr S:Nat),J b=some (rr,S)->
  AR J U (.slice b (bif Nat.beq m l then off else Nat.add off (Nat.mul l size)) (Nat.sub h' l) (Nat.sub m l)) (.slice (some (if m=l then ⟨rr,off,none⟩ else (⟨rr,off,none⟩:Addr).add (l*size))) (h'-l) (m-l)):=by
  intro l h' m J U rr S hb;refine⟨rr,S,hb,?_⟩
  by_cases e:m=l
  ·subst e;simp
  ·have:Nat.beq m l=false:=by
    cases hq:Nat.beq m l with
    |false=>rfl
    |true=>exact absurd (beq_eq hq) e
   rw[this,if_neg e,Bg];rfl
 cases mx with
 |some MX=>
  cases hi with
  |none=>cases h
  |some HI=>
   obtain⟨m,h1,h2,h3⟩:=F0 (show Kv (opt nl (some MX)) room 0 pt tl _=some r from h);obtain⟨h',h4,h5,h6⟩:=F0 (show Kv (opt nl (some HI)) m 0 pt tl _=some r from h1);obtain⟨l,h7,h8,h9⟩:=F0 (show Kv (opt nl lo) h' 0 pt tl _=some r from h4);refine⟨_,h7,?_,?_⟩
   ·intro k';show Kv (opt nl (some MX)) room 0 pt tl _=_;rw[h2,h5,h8];rfl
   ·intro P J U e w isS cap rr S hb hrc _ _ rl rh rm;exact⟨l,h',m,YS h3 h6 h9 hrc rl rh rm,exc l h' m J U rr S hb⟩
 |none=>
  rw[show opt nl none=none from rfl,PB]at h;obtain⟨h',h4,h5,h6⟩:=F0 h;obtain⟨l,h7,h8,h9⟩:=F0 h4;simp only[show opt nl none=none from rfl,PB];cases ex with
  |true=>
   refine⟨_,h7,?_,?_⟩
   ·intro k';rw[h5,h8];rfl
   ·intro P J U e w isS cap rr S hb hrc he _ rl rh rm;obtain rfl:=he rfl;exact⟨l,h',cap,Ik h6 h9 hrc rl rh,exc l h' cap J U rr S hb⟩
  |false=>
   rcases Ca (show @Bool.rec (fun _=>OR) (Dy (Nat.beq l h') (k .emp)) (k (.KW b (Nat.add off (Nat.mul l size)) (Nat.sub h' l) size)) (Nat.ble (Nat.succ l) room)=some r from h7) with ⟨DN,hk⟩|⟨DN,hk⟩
   ·obtain⟨RF,h11⟩:=Ap hk;have:=beq_eq RF;subst this;refine⟨.emp,h11,?_,?_⟩
    ·intro k';rw[h5,h8];show @Bool.rec (fun _=>OR) (Dy (Nat.beq l l) (k' .emp)) _ (Nat.ble (Nat.succ l) room)=_;rw[DN];exact Cv RF
    ·intro P J U e w isS cap rr S hb hrc _ _ rl rh rm;refine⟨l,l,cap,Ik h6 h9 hrc rl rh,?_⟩;exact⟨_,_,by rw[Nat.sub_self]⟩
   ·refine⟨_,hk,?_,?_⟩
    ·intro k';rw[h5,h8];show @Bool.rec (fun _=>OR) _ (k' (.KW b (Nat.add off (Nat.mul l size)) (Nat.sub h' l) size)) (Nat.ble (Nat.succ l) room)=_;rw[DN]
    ·intro P J U e w isS cap rr S hb hrc _ hS rl rh rm;have Au:l+1<=room:=AN DN;refine⟨l,h',cap,Ik h6 h9 hrc rl rh,rr,S,cap-l,hb,?_,?_⟩
     ·rw[if_neg (by omega),Bg];rfl
     ·have:=hS rfl;show off+l*size+(cap-l)*size=S;rw[Nat.sub_mul];have:l*size<=cap*size:=Nat.mul_le_mul_right _ (by omega);omega
theorem Acl{t:TypeId}{x:Operand}{lo hi mx:Option Operand}(ho:o.op=.slice t x lo hi mx){pt:T AV}{tl:TL}{e:Operand->Value}(A8:Gp J U nl o.op pt tl e):
 PM e nl lo pt tl/\PM e nl hi pt tl/\PM e nl mx pt tl:=by
 refine⟨?_,?_,?_⟩<;>(intro X hX q n hv;subst hX;exact A8 X (by simp[ho,Op.operands]) _ hv)
theorem UB{b es:Nat}{lo0 n:E}{lo hi:Option Od}{pt:T AV}{tl:TL}{k:A->OR}:
 Ao0 C b es lo0 n lo hi none pt tl k=AcX C hi n pt tl fun y=>AcX C lo (.lit 0) pt tl fun x=>Dy (leE C x y&&leE C y n) (BS (SV C lo0 x) fun l=>BS (AiQ C y x) fun m=>k (.Wp b es l m)):=rfl
def Ape(C:AB)(nl:Nat)(x:Option Operand)(d n:E)(pt:T AV)(tl:TL):Prop:=(x=none/\n=d)\/∃X a,x=some X/\(od nl X).val pt tl=some (.one a)/\AfQ C a=some n
theorem TJ{x:Option Operand}{d:E}{pt:T AV}{tl:TL}{k:E->OR}{r:Rs}(h:AcX C (opt nl x) d pt tl k=some r):∃n,k n=some r/\(∀k',AcX C (opt nl x) d pt tl k'=k' n)/\Ape C nl x d n pt tl:=by
 cases x with
 |none=>exact⟨d,h,fun _=>rfl,.inl ⟨rfl,rfl⟩⟩
 |some X=>
  obtain⟨u,hu,h1⟩:=Aq (show ev (od nl X) pt tl _=some r from h);obtain⟨a,rfl,h2⟩:=AY h1;obtain⟨n,hn,h3⟩:=Ar h2;refine⟨n,h3,?_,.inr ⟨X,a,rfl,hu,hn⟩⟩;intro k';show ev (od nl X) pt tl _=_;rw[AQ hu];exact BI hn
theorem WW(hc:A4 P C U){x:Option Operand}{d n:E}{D:Nat}{pt:T AV}{tl:TL}{e:Operand->Value}(h:Ape C nl x d n pt tl)(hD:(D:Int)=d.den U)(hr:∀X,x=some X->∀u,(od nl X).val pt tl=some u->Bb J U u (e X)):
 ∃N:Nat,(N:Int)=n.den U/\((x=none/\N=D)\/∃X q,x=some X/\e X=.int q (N:Int)):=by
 rcases h with ⟨h1,h2⟩|⟨X,a,h1,h2,h3⟩
 ·subst h2;exact⟨D,hD,.inl ⟨h1,rfl⟩⟩
 ·obtain⟨q,j,h4,h5⟩:=V8 hc h3 (hr X h1 _ h2);exact⟨j,h5,.inr ⟨X,q,h1,h4⟩⟩
theorem E0{q:IntKind}{n y:Nat}{c:BoundsCode}{w:World}(h:n<=y):(Instr.sliceBound (.int q (n:Int)) y c).run P w=.ok n w:=run_sliceBound h
theorem YT{isS:Bool}{ln cap l h':Nat}{lo hi:Option Operand}{e:Operand->Value}{w:World}(hh:(hi=none/\h'=ln)\/∃X q,hi=some X/\e X=.int q (h':Int))(hl:(lo=none/\l=0)\/∃X q,lo=some X/\e X=.int q (l:Int))
 (h1:l<=h') (h2:h'<=cap):(Instr.sliceBounds isS ln cap (lo.map e) (hi.map e) none).run P w=.ok (l,h',cap) w:=by
 rcases hh with ⟨rfl,rfl⟩|⟨X,q,rfl,hX⟩<;>rcases hl with ⟨rfl,rfl⟩|⟨Yzz,q',rfl,hY⟩
 ·simp[Instr.sliceBounds]
 ·simp only[Instr.sliceBounds,Option.map,hY,Sem.run_bind,Sem.run_pure,Result.andThen_ok];rw[E0 h1];rfl
 ·simp only[Instr.sliceBounds,Option.map,hX,Sem.run_bind,Sem.run_pure,Result.andThen_ok];rw[E0 h2];rfl
 ·simp only[Instr.sliceBounds,Option.map,hX,hY,Sem.run_bind,Sem.run_pure,Result.andThen_ok];rw[E0 h2];simp only[Result.andThen_ok];rw[E0 h1];rfl
theorem SL{t:TypeId}{x:Operand}{lo hi mx:Option Operand}(ho:o.op=.slice t x lo hi mx):En C nl o (A5 (ZH C t (od nl x) (opt nl lo) (opt nl hi) (opt nl mx))):=by
 have arr:∀(n:Nat) (el:TypeId) (ei:TI),C.ty el=some ei->
  (∀P U w (rr off:Nat),A4 P C U->∀(l h' m:Nat) (e:Operand->Value),e x=.pointer (some ⟨rr,off,none⟩)->(Instr.sliceBounds false n n (lo.map e) (hi.map e) (mx.map e)).run P w=.ok (l,h',m) w->
   (execOp e o).run P w=.ok (.value (.slice (some (if m=l then ⟨rr,off,none⟩ else (⟨rr,off,none⟩:Addr).add (l*ei.size))) (h'-l) (m-l))) w)->
  En C nl o (A5 (.n1 (fun x=>Sq n ei.size x (opt nl lo) (opt nl hi) (opt nl mx)) (od nl x))):=by
  intro n el ei hel AM rec X k pt tl h r hk;obtain⟨u,hu,B1⟩:=Aq (show ev (od nl x) pt tl _=some r from hk);obtain⟨b,off,rfl,AW⟩:=FV B1;obtain⟨v,h1,h2,h3⟩:=KP AW;refine⟨.one v,?_,?_⟩
  ·intro Bn X' k';show ev (od nl x) pt tl _=_;rw[AQ hu];exact h2 (fun a=>k' (.one a) h)
  ·intro P U J e w hc hr A8;obtain⟨rr,S,hb,he⟩:=A8 x (by simp[ho,Op.operands]) _ hu;obtain⟨r1,r2,r3⟩:=Acl ho A8;obtain⟨l,h',m,h4,h5⟩:=h3 P J U e w false n rr S hb (Nat.le_refl _) (fun _=>rfl) (by simp) r1 r2 r3;exact⟨_,.inl (AM P U w rr off hc l h' m e he h4),h5⟩
 unfold ZH;cases hs:C.ty t with
 |none=>rw[AH hs];exact Bv
 |some ti=>
  rw[AI hs];split
  ·rename_i n el CV;cases hf:C.ty el with
   |none=>rw[AH hf];exact Bv
   |some ei=>
    rw[AI hf];refine arr n el ei hf ?_;intro P U w rr off hc l h' m e he hb;have h1:=(hc.ty t ti hs).Bu w;have h2:=(hc.ty _ ei hf).BE w;rw[CV]at h1;simp[execOp,ho,Instr.sliceAt,h1,he,Instr.sureAddr,hb,h2]
  ·rename_i el CV;cases hf:C.ty el with
   |none=>rw[AH hf];exact Bv
   |some ei=>
    rw[AI hf];cases hz:Nat.beq ei.size 0 with
    |true=>exact Bv
    |false=>
     have L5:=B5 hz;intro rec X k pt tl h r hk;obtain⟨u,hu,B1⟩:=Aq (show ev (od nl x) pt tl _=some r from hk);obtain⟨a,rfl,AW⟩:=AY B1;have AM:∀P U w,A4 P C U->∀(e:Operand->Value) (ba:Option Addr) (ln cap l h' m:Nat),e x=.slice ba ln cap->(Instr.sliceBounds true ln cap (lo.map e) (hi.map e) (mx.map e)).run P w=.ok (l,h',m) w->
      (execOp e o).run P w=.ok (.value (.slice (if m=l then ba else ba.map (·.add (l*ei.size))) (h'-l) (m-l))) w:=by
      intro P U w hc e ba ln cap l h' m he hb;have h1:=(hc.ty t ti hs).Bu w;have h2:=(hc.ty _ ei hf).BE w;rw[CV]at h1;simp[execOp,ho,Instr.sliceAt,Instr.slice,h1,he,hb,h2]
     clear hk B1;rcases Lj AW with ⟨b,es,lo0,n,heq,Gy,B9⟩|⟨B9,Km⟩
     ·obtain⟨Dr,Eb⟩:=Ap B9;have hes:=beq_eq Dr;have hmx:mx=none:=by cases mx with |none=>rfl|some y=>cases Eb
      subst hmx;rw[show opt nl none=none from rfl,UB]at Eb;obtain⟨y,I7,hy,hY⟩:=TJ Eb;obtain⟨z,KX,hz2,hZ⟩:=TJ I7;obtain⟨hle,N4⟩:=Ap KX;obtain⟨l1,hl1,N5⟩:=Ar N4;obtain⟨m1,hm1,hk9⟩:=Ar N5;refine⟨.one (.Wp b es l1 m1),?_,?_⟩
      ·intro Bn X' k';show ev (od nl x) pt tl _=_;rw[AQ hu];rw[GC,heq,Cv Dr,show opt nl none=none from rfl,UB,hy,hz2,Cv hle,BI hl1,BI hm1]
      ·intro P U J e w hc hr A8;obtain⟨p,N,cap,hv,hNk,hN,hor⟩:=Gy J U (e x) (A8 x (by simp[ho,Op.operands]) _ hu);obtain⟨H1,hH1,hH2⟩:=WW hc hY hN (fun X hX u CT=>A8 X (by subst hX;simp[ho,Op.operands]) u CT);obtain⟨L1,hL1,hL2⟩:=WW (D:=0) hc hZ rfl (fun X hX u CT=>A8 X (by subst hX;simp[ho,Op.operands]) u CT);subst hes;simp only[Ah]at hle;have g1:=ON hc hle.1;have g2:=ON hc hle.2;have g3:L1<=H1:=by rw[<-hL1,<-hH1]at g1;omega
       have g4:H1<=N:=by rw[<-hH1,<-hN]at g2;omega
       have g5:=JG hc hl1;have g6:=AiR hc hm1;refine⟨_,.inl (AM P U w hc e p N cap L1 H1 cap hv (YT hH2 hL2 g3 (by omega))),?_⟩;refine⟨_,H1-L1,cap-L1,rfl,by omega,by rw[g6,<-hH1,<-hL1];omega,?_⟩;rcases hor with h0|⟨rr,S,L,hb,hp,hL⟩
       ·exact .inl (by omega)
       ·by_cases FF:cap=L1
        ·exact .inl (by omega)
        ·refine .inr ⟨rr,S,L+L1,hb,?_,by rw[g5,<-hL,<-hL1];rfl⟩;rw[if_neg FF,hp,Nat.add_mul];simp[Bg]
     replace AW:=B9
     clear B9;have BN:∀(k':A->OR),YR a (fun b es l n=>Dy (Nat.beq es ei.size) (Ao0 C b es l n (opt nl lo) (opt nl hi) (opt nl mx) pt tl k')) (Ob ei.size h a (opt nl lo) (opt nl hi) (opt nl mx) pt tl k')=Ob ei.size h a (opt nl lo) (opt nl hi) (opt nl mx) pt tl k':=fun k'=>Km _ _
     cases a with
     |slice b off ln cap=>
      obtain⟨v,h1,h2,h3⟩:=KP AW;refine⟨.one v,?_,?_⟩
      ·intro Bn X' k';show ev (od nl x) pt tl _=_;rw[AQ hu];exact h2 (fun a=>k' (.one a) h)
      ·intro P U J e w hc hr A8;obtain⟨rr,S,hb,he⟩:=A8 x (by simp[ho,Op.operands]) _ hu;obtain⟨r1,r2,r3⟩:=Acl ho A8;obtain⟨l,h',m,h4,h5⟩:=h3 P J U e w true cap rr S hb (Nat.le_refl _) (fun _=>rfl) (by simp) r1 r2 r3;refine⟨_,.inl (AM P U w hc e _ ln cap l h' m he h4),?_⟩
       by_cases hm:m=l
       ·rw[if_pos hm]at h5 ⊢;exact h5
       ·rw[if_neg hm]at h5 ⊢;exact h5
     |KW b off ln es=>
      obtain⟨he0,B9⟩:=Ap AW;have hes:=beq_eq he0;subst hes;obtain⟨AE,OC,Eb⟩:=Ar (show BS (h.get b) _=some r from B9);obtain⟨c,n,f,s,rfl,I7⟩:=Gs Eb;obtain⟨v,h1,h2,h3⟩:=KP I7;refine⟨.one v,?_,?_⟩
      ·intro Bn X' k';show ev (od nl x) pt tl _=_;rw[AQ hu];show Dy (Nat.beq ei.size ei.size) _=_;rw[Cv he0];show BS (h.get b) _=_;rw[BI OC];exact h2 (fun a=>k' (.one a) h)
      ·intro P U J e w hc hr A8;obtain⟨rr,S,cap,hb,he,hS⟩:=A8 x (by simp[ho,Op.operands]) _ hu;obtain⟨r1,r2,r3⟩:=Acl ho A8;have Eu:Nat.div (Nat.sub n off) ei.size<=cap:=by
        obtain⟨ob,hw,hx⟩:=hr.AE b rr S hb;obtain⟨cs,et,_,_,hn,_⟩:=hx _ OC;have:Nat.div (Nat.sub n off) ei.size=(n-off) / ei.size:=rfl;rw[this];have h7:(n-off) / ei.size<=(cap*ei.size) / ei.size:=Nat.div_le_div_right (by omega)
        rwa [Nat.mul_div_cancel _ (by omega)]at h7
       obtain⟨l,h',m,h4,h5⟩:=h3 P J U e w true cap rr S hb Eu (by simp) (fun _=>hS) r1 r2 r3;refine⟨_,.inl (AM P U w hc e _ ln cap l h' m he h4),?_⟩
       by_cases hm:m=l
       ·rw[if_pos hm]at h5 ⊢;exact h5
       ·rw[if_neg hm]at h5 ⊢;exact h5
     |B7=>
      cases mx with
      |some MX=>cases AW
      |none=>
       rw[show opt nl none=none from rfl,Oc]at AW;obtain⟨h',h4,h5,h6⟩:=F0 AW;obtain⟨l,h7,h8,h9⟩:=F0 h4;refine⟨.one .B7,?_,?_⟩
       ·intro Bn X' k';show ev (od nl x) pt tl _=_;rw[AQ hu];show Ob ei.size h .B7 (opt nl lo) (opt nl hi) (opt nl none) pt tl (fun a=>k' (.one a) h)=k' (.one .B7) h;rw[show opt nl none=none from rfl,Oc,h5,h8]
       ·intro P U J e w hc hr A8;have he:e x=_:=A8 x (by simp[ho,Op.operands]) _ hu;obtain⟨r1,r2,r3⟩:=Acl ho A8;have hh0:h'=0:=by rcases h6 with ⟨_,h⟩|⟨_,_,_,_,h⟩<;>omega
        have hl0:l=0:=by rcases h9 with ⟨_,h⟩|⟨_,_,_,_,h⟩<;>omega
        subst hh0;subst hl0;have hb:=Ik (P:=P) (isS:=true) (ln:=0) (w:=w) h6 h9 (Nat.le_refl 0) r1 r2;refine⟨_,.inl (AM P U w hc e none 0 0 0 0 0 he hb),?_⟩;simp[Bb,AR]
     |_=>cases AW
  ·rename_i ar CV;cases ha:C.ty ar with
   |none=>rw[AH ha];exact Bv
   |some ai=>
    rw[AI ha];split
    ·rename_i n el hu1;cases hf:C.ty el with
     |none=>rw[AH hf];exact Bv
     |some ei=>
      rw[AI hf];refine arr n el ei hf ?_;intro P U w rr off hc l h' m e he hb;have h1:=(hc.ty t ti hs).Bu w;have h2:=(hc.ty _ ei hf).BE w;have h3:=(hc.ty _ ai ha).Bu w;rw[CV]at h1;rw[hu1]at h3;simp[execOp,ho,Instr.sliceAt,Instr.slice,h1,h3,he,asAddr,hb,h2]
    ·exact Bv
  ·exact Bv
end Eng
namespace Eng
open Go
variable {J J':A1} {U:An} {C:AB} {P:Program} {nl:Nat} {o:Oper}
theorem Ade{v:Value}(h:v.oneCell'=true):v.cells= #[v]:=by cases v<;>first|rfl|cases h
theorem Bb.cells{x:AV}{l:List A}{v:Value}(hc:x.cl=some l)(h:Bb J U x v):∃vs:List Value,v.cells=vs.toArray/\F2 (AR J U) l vs:=by
 cases x with
 |one a=>
  cases hc;have h':AR J U a v:=h;exact⟨[v],Ade (Gf h'),.cons h' .nil⟩
 |agg l'=>
  cases hc;obtain⟨vs,rfl,h2⟩:=h;exact⟨vs,rfl,h2⟩
 |Dh l=>cases hc
theorem F2.Am2{l:List A}{vs:List Value}(h:F2 (AR J U) l vs){n:Nat}:QK J U (T.ofList l) n vs.toArray:=by
 intro i a _ ha;obtain⟨v,hv,Gy⟩:=h.get (T.CZ ha);exact⟨v,by simpa using hv,Gy⟩
theorem F2.AE{l:List A}{vs:List Value}(h:F2 (AR J U) l vs)(e:TypeId){n:Nat}(hn:l.length=n):BR J U C (.cells (T.ofList l) n true none) (.cells vs.toArray e (0,0)) n:=
 ⟨vs.toArray,e,rfl,by simp[<-hn,h.length],by simp,fun _=>rfl,h.Am2⟩
theorem F2.AiD{l l0:List A}{vs:List Value}(h:F2 (AR J U) l vs)(e:TypeId){n S:Nat}(hn:l0.length=n)(hS:l.length=S)(hle:n<=S)(hpre:∀(i:Nat) (a:A),l0[i]? =some a->l[i]? =some a):
 BR J U C (.cells (T.ofList l0) n false none) (.cells vs.toArray e (0,0)) S:=by
 refine⟨vs.toArray,e,rfl,by simp[<-hS,h.length],hle,(fun h=>by cases h),fun i a hi hg=>?_⟩;obtain⟨v,hv,Gy⟩:=h.get (hpre i a (T.CZ hg));exact⟨v,by simpa using hv,Gy⟩
theorem F2.AnO{α β:Type}{R:α->β->Prop}:∀{l:List α} {m:List β},l.length=m.length->(∀(i:Nat) (a:α) (b:β),l[i]? =some a->m[i]? =some b->R a b)->F2 R l m:=by
 intro l
 induction l with
 |nil=>intro m hl _;cases m with |nil=>exact .nil|cons=>simp at hl
 |cons a l ih=>
  intro m hl h;cases m with
  |nil=>simp at hl
  |cons b m=>exact .cons (h 0 a b rfl rfl) (ih (by simpa using hl) fun i a b h1 h2=>h (i+1) a b (by simpa using h1) (by simpa using h2))
theorem LK{f:FuncId}{DD:Array Operand}(ho:o.op=.makeFunc (.func f) #[] DD):CU C nl o (A5 (.nl (Sn f) (OT nl DD.toList))):=by
 intro rec X k pt tl h r hk;obtain⟨vs,EU,B1⟩:=Jk (show JQ (OT nl DD.toList) pt tl _=some r from hk);obtain⟨cs,Ix,AW⟩:=Ar B1;refine⟨.one (.fn f cs),?_,?_⟩
 ·intro Bn X' k' h';show JQ (OT nl DD.toList) pt tl _=_;rw[Afy EU];exact BI Ix
 ·intro P U J e w hc A8;refine⟨.func (.func f) #[] (DD.map e),.inl (by simp[execOp,ho,Instr.makeFunc]),DD.toList.map e,by simp[<-Array.toList_map],?_⟩;have key:∀(l:List Operand) (vs:List AV) (cs:List Nat),(∀x∈l,x∈o.op.operands)->M6 pt tl (OT nl l)=some vs->Yp WZ vs=some cs->F2 (AeP J) cs (l.map e):=by
   intro l
   induction l with
   |nil=>intro vs cs _ hv hm;cases hv;cases hm;exact .nil
   |cons x l ih=>
    intro vs cs Cu hv hm;obtain⟨v,us,hv1,hus,rfl⟩:∃v us,(od nl x).val pt tl=some v/\M6 pt tl (OT nl l)=some us/\vs=v::us:=by
     have hv':M6 pt tl (od nl x::OT nl l)=some vs:=hv;simp only[M6]at hv';split at hv'
     ·rename_i v us h1 h2;exact⟨v,us,h1,h2,by cases hv';rfl⟩
     ·cases hv'
    obtain⟨c,ds,OD,hds,rfl⟩:=Jh (show Pp (WZ v) (Yp WZ us)=some cs from hm);refine .cons ?_ (ih us ds (fun y hy=>Cu y (Gq _ hy)) hus hds);have hx:=A8 x (Cu x (by simp)) v hv1;have:v=.one (.ptr c 0):=by
     unfold WZ at OD;split at OD
     ·cases OD;rfl
     ·cases OD
    subst this;obtain⟨rr,S,h1,h2⟩:=hx;exact⟨rr,S,h1,h2⟩
  exact key DD.toList vs cs (by intro x hx;simp[ho,Op.operands];first|exact .inr (by simpa using hx)|exact (by simpa using hx)) EU Ix
theorem Pk{t:TypeId}(ho:o.op=.alloc t):IV C nl o (A5 (JH C t (.n0 A7) fun ti=>.n0 (Acf (T.ofList ti.zero) (len ti.zero)))):=by
 cases ht:C.ty t with
 |none=>rw[AH ht];exact Dp
 |some ti=>
  rw[AI ht];intro rec X k pt tl h r hk;refine⟨fun id=>.one (.ptr id 0),.cells (T.ofList ti.zero) (len ti.zero) true none,fun _ _ _ _=>rfl,(fun _ e=>Aj.noConfusion e),?_⟩;intro P U J e w hc A8;obtain⟨z,zs,h1,h2,h3,h4,_⟩:=(hc.ty t ti ht).Ac2 w;refine⟨.cells zs.toArray t (0,0),.pointer (some ⟨w.heap.size,0,none⟩),len ti.zero,.inl ?_,EM,(h3 J U).AE t (by rw[E8]),fun J' id _ Dg=>⟨_,_,Dg,rfl⟩⟩;simp[execOp,ho,Instr.alloc,h1,newVar,newRow,h2,push]
theorem TK{t:TypeId}{x:Operand}(ho:o.op=.box t x):IV C nl o (A5 (.n1 Alr (od nl x))):=by
 intro rec X k pt tl h r hk;obtain⟨u,hu,B1⟩:=Aq (show ev (od nl x) pt tl _=some r from hk);obtain⟨l,hl,AW⟩:=Hc B1;refine⟨fun id=>.one (.ptr id 0),.cells (T.ofList l) (len l) true none,?_,(fun _ e=>Aj.noConfusion e),?_⟩
 ·intro Bn X' k' h';show ev (od nl x) pt tl _=_;rw[AQ hu];cases u with
  |one a=>cases hl;rfl
  |agg l=>cases hl;rfl
  |Dh l=>cases hl
 ·intro P U J e w hc A8;obtain⟨vs,h1,h2⟩:=(A8 x (by simp[ho,Op.operands]) _ hu).cells hl;refine⟨.cells vs.toArray t (0,0),.pointer (some ⟨w.heap.size,0,none⟩),len l,.inl ?_,EM,h2.AE t (by rw[E8]),fun J' id _ Dg=>⟨_,_,Dg,rfl⟩⟩;simp[execOp,ho,Instr.box,newVar,newRow,h1,push]
theorem T1{t:TypeId}(ho:o.op=.makeMap t none):IV C nl o (A5 (.n0 Us)):=by
 intro rec X k pt tl h r hk;refine⟨fun id=>.one (.map id),.map [] 0,fun _ _ _ _=>rfl,(fun _ e=>Aj.noConfusion e),?_⟩;intro P U J e w hc A8;refine⟨.map #[] 0,.map (some w.heap.size),0,.inl ?_,AdH,⟨[],rfl,.nil⟩,fun J' id _ Dg=>⟨_,_,Dg,rfl⟩⟩;simp[execOp,ho,Instr.makeMap,push]
theorem Uk{t:TypeId}{a:Operand}(ho:o.op=.load t a):En C nl o (A5 (JH C t (.n0 A7) fun ti=>bif ti.agg then .n1 (Aci C ti.size) (od nl a) else .n1 (Ach C) (od nl a))):=by
 cases ht:C.ty t with
 |none=>rw[AH ht];exact Bv
 |some ti=>
  rw[AI ht];cases ha:ti.agg with
  |false=>
   intro rec X k pt tl h r hk;obtain⟨u,hu,B1⟩:=Aq (show ev (od nl a) pt tl _=some r from hk);rcases OM B1 with ⟨t0,e0,es,c,rfl,AW⟩|⟨hk1',hno0⟩
   ·obtain⟨LG,B9⟩:=Ap AW;obtain⟨l,hl,Eb⟩:=Ar B9;obtain⟨x,l',q1,q2,rfl⟩:=Hk hl;cases q2;refine⟨.one x,?_,?_⟩
    ·intro Bn X' k';show ev (od nl a) pt tl _=_;rw[AQ hu];show Uc C t0 e0 es c 1 _=_;rw[Uc,Cv LG,BI hl];rfl
    ·intro P U J e w hc hr A8;obtain⟨rr,ro,N,Jzz,he,hJ,hJN,hK⟩:=A8 a (by simp[ho,Op.operands]) _ hu;obtain⟨vs,hf,hlen,hv⟩:=hr.Agc hc hK hJ hJN (AN LG) hl;cases hf with
     |cons Gy hf2=>
      cases hf2;have OI:=hv 0 _ rfl;rw[Bg,Nat.add_zero]at OI;have h1:=(hc.ty t ti ht).GR w;rw[ha]at h1;exact⟨_,.inl (by simp[execOp,ho,Instr.loadAt,he,Instr.sureAddr,loadVar,h1,OI]),Gy⟩
   clear B1;have B1:=hk1';clear hk1';rcases KH B1 with ⟨b,e0,es,c,rfl,AW⟩|⟨AW,Km⟩
   ·obtain⟨t',n,sp,l,hg,LG,Au,hl,B9,heq⟩:=P9 AW;obtain⟨x,l',q1,q2,rfl⟩:=Hk hl;cases q2;refine⟨.one x,?_,?_⟩
    ·intro Bn X' k';show ev (od nl a) pt tl _=_;rw[AQ hu];show OW C h b e0 es c 1 _=_;rw[heq];rfl
    ·intro P U J e w hc hr A8;obtain⟨rr,S,N,hb,he,hN⟩:=A8 a (by simp[ho,Op.operands]) _ hu;obtain⟨vs,hf,hlen,hv⟩:=hr.YN hc hb hg hN Au LG hl;cases hf with
     |cons Gy hf2=>
      cases hf2;have OI:=hv 0 _ rfl;rw[Bg,Nat.add_zero]at OI;have h1:=(hc.ty t ti ht).GR w;rw[ha]at h1;exact⟨_,.inl (by simp[execOp,ho,Instr.loadAt,he,Instr.sureAddr,loadVar,h1,OI]),Gy⟩
   ·obtain⟨b,off,rfl,AW⟩:=FV AW;obtain⟨c,n,f,s,x,hg,Au,hx,B9⟩:=Sv AW;refine⟨.one x,?_,?_⟩
    ·intro Bn X' k';show ev (od nl a) pt tl _=_;rw[AQ hu];show H.YH h b off _=_;exact Ahj hg Au hx
    ·intro P U J e w hc hr A8;obtain⟨rr,S,hb,he⟩:=A8 a (by simp[ho,Op.operands]) _ hu;obtain⟨v,hv,Gy⟩:=hr.cell hb hg Au hx;have h1:=(hc.ty t ti ht).GR w;rw[ha]at h1;exact⟨v,.inl (by simp[execOp,ho,Instr.loadAt,he,Instr.sureAddr,loadVar,h1,hv]),Gy⟩
  |true=>
   intro rec X k pt tl h r hk;obtain⟨u,hu,B1⟩:=Aq (show ev (od nl a) pt tl _=some r from hk);rcases OM B1 with ⟨t0,e0,es,c,rfl,AW⟩|⟨hk1',hno0⟩
   ·obtain⟨LG,B9⟩:=Ap AW;obtain⟨l,hl,Eb⟩:=Ar B9;refine⟨.agg l,?_,?_⟩
    ·intro Bn X' k';show ev (od nl a) pt tl _=_;rw[AQ hu];show Uc C t0 e0 es c _ _=_;rw[Uc,Cv LG,BI hl]
    ·intro P U J e w hc hr A8;obtain⟨rr,ro,N,Jzz,he,hJ,hJN,hK⟩:=A8 a (by simp[ho,Op.operands]) _ hu;obtain⟨vs,hf,hlen,hv⟩:=hr.Agc hc hK hJ hJN (AN LG) hl;have h1:=(hc.ty t ti ht).GR w;have h2:=(hc.ty t ti ht).BE w;rw[ha]at h1;have h3:=run_loadCells_list (P:=P) (w:=w) ⟨rr,ro+(Jzz*es+c),none⟩ vs hv;rw[hlen]at h3;exact⟨.agg vs.toArray,.inl (by simp[execOp,ho,Instr.loadAt,he,Instr.sureAddr,loadVar,h1,h2,h3]),⟨vs,rfl,hf⟩⟩
   clear B1;have B1:=hk1';clear hk1';rcases KH B1 with ⟨b,e0,es,c,rfl,AW⟩|⟨AW,Km⟩
   ·obtain⟨t',n,sp,l,hg,LG,Au,hl,B9,heq⟩:=P9 AW;refine⟨.agg l,?_,?_⟩
    ·intro Bn X' k';show ev (od nl a) pt tl _=_;rw[AQ hu];show OW C h b e0 es c _ _=_;rw[heq]
    ·intro P U J e w hc hr A8;obtain⟨rr,S,N,hb,he,hN⟩:=A8 a (by simp[ho,Op.operands]) _ hu;obtain⟨vs,hf,hlen,hv⟩:=hr.YN hc hb hg hN Au LG hl;have h1:=(hc.ty t ti ht).GR w;have h2:=(hc.ty t ti ht).BE w;rw[ha]at h1;have h3:=run_loadCells_list (P:=P) (w:=w) ⟨rr,N*es+c,none⟩ vs hv;rw[hlen]at h3;exact⟨.agg vs.toArray,.inl (by simp[execOp,ho,Instr.loadAt,he,Instr.sureAddr,loadVar,h1,h2,h3]),⟨vs,rfl,hf⟩⟩
   ·obtain⟨b,off,rfl,AW⟩:=FV AW;obtain⟨c,n,f,s,l,hg,hle,hx,B9⟩:=HJ AW;refine⟨.agg l,?_,?_⟩
    ·intro Bn X' k';show ev (od nl a) pt tl _=_;rw[AQ hu];show H.KK h b off _ _=_;exact Ahk hg hle hx
    ·intro P U J e w hc hr A8;obtain⟨rr,S,hb,he⟩:=A8 a (by simp[ho,Op.operands]) _ hu;obtain⟨vs,hf,hlen,hv⟩:=hr.cells hb hg hle hx;have h1:=(hc.ty t ti ht).GR w;have h2:=(hc.ty t ti ht).BE w;rw[ha]at h1;have h3:=run_loadCells_list (P:=P) (w:=w) ⟨rr,off,none⟩ vs hv;rw[hlen]at h3;exact⟨.agg vs.toArray,.inl (by simp[execOp,ho,Instr.loadAt,he,Instr.sureAddr,loadVar,h1,h2,h3]),⟨vs,rfl,hf⟩⟩
theorem Aen{t:TypeId}{a x:Operand}(ho:o.op=.store t a x):Ks C nl o (A5 (JH C t (.n0 A7) fun ti=>.n2 (Acj C ti.size) (od nl a) (od nl x))):=by
 cases ht:C.ty t with
 |none=>rw[AH ht];exact EZ
 |some ti=>
  rw[AI ht];intro rec X k pt tl h r hk;obtain⟨u,hu,B1⟩:=Aq (show ev (od nl a) pt tl _=some r from hk);rcases KH B1 with ⟨b,e0,es,c,rfl,AW⟩|⟨AW,Km⟩
  ·obtain⟨u',CT,B9⟩:=Aq (show ev (od nl x) pt tl _=some r from AW);obtain⟨l,hl,Eb⟩:=Hc B9;obtain⟨Dr,I7⟩:=Ap Eb;obtain⟨t',n,sp,hg,FF,Au,KX⟩:=VY I7;refine⟨.Dh [],_,KX,?_⟩;intro P U J e w hc hr A8;obtain⟨rr,S,N,hb,he,hN⟩:=A8 a (by simp[ho,Op.operands]) _ hu;obtain⟨vs,h1,h2⟩:=(A8 x (by simp[ho,Op.operands]) _ CT).cells hl;obtain⟨w',h3,h4,h5⟩:=hr.Ahu (P:=P) hc hb hg hN Au FF h2;have h6:=(hc.ty t ti ht).BE w;have h7:vs.length=ti.size:=by rw[<-h2.length,<-E8];exact beq_eq Dr
   refine⟨undef,w',J,.inr ⟨rfl,?_⟩,⟨[],rfl,.nil⟩,h4,h5⟩;have h8:Sem.run P (storeCells ⟨rr,N*es+c,none⟩ vs) w=.ok () w':=h3;simp[execOp,ho,Instr.storeAt,he,Instr.sureAddr,storeVar,h1,h6,h7,h8]
  ·obtain⟨b,off,rfl,AW⟩:=FV AW;obtain⟨u',CT,B9⟩:=Aq (show ev (od nl x) pt tl _=some r from AW);obtain⟨l,hl,Eb⟩:=Hc B9;obtain⟨Dr,I7⟩:=Ap Eb;obtain⟨c,n,f,s,hg,hle,KX⟩:=M7 I7;refine⟨.Dh [],_,KX,?_⟩;intro P U J e w hc hr A8;obtain⟨rr,S,hb,he⟩:=A8 a (by simp[ho,Op.operands]) _ hu;obtain⟨vs,h1,h2⟩:=(A8 x (by simp[ho,Op.operands]) _ CT).cells hl;obtain⟨w',h3,h4,h5⟩:=hr.write (P:=P) hb hg hle h2;have h6:=(hc.ty t ti ht).BE w;have h7:vs.length=ti.size:=by rw[<-h2.length,<-E8];exact beq_eq Dr
   refine⟨undef,w',J,.inr ⟨rfl,?_⟩,⟨[],rfl,.nil⟩,h4,h5⟩;have h8:Sem.run P (storeCells ⟨rr,off,none⟩ vs) w=.ok () w':=h3;simp[execOp,ho,Instr.storeAt,he,Instr.sureAddr,storeVar,h1,h6,h7,h8]
theorem F2.set{α β:Type}{R:α->β->Prop}{l:List α}{m:List β}(h:F2 R l m){a:α}{b:β}(Ny:R a b)(i:Nat):F2 R (l.set i a) (m.set i b):=by
 induction h generalizing i with
 |nil=>exact .nil
 |cons h0 h ih=>cases i with
  |zero=>exact .cons Ny h
  |succ i=>exact .cons h0 (ih i)
theorem SN{α:Type}(l z:List α)(off:Nat)(h:off+l.length<=z.length)(i:Nat):(JF l z off)[i]? =if i<off then z[i]? else if i<off+l.length then l[i-off]? else z[i]? :=by
 rw[Pe _ _ _ h,List.append_assoc];have h1:(List.take off z).length=off:=by simp;omega
 split
 ·rename_i e;rw[List.getElem?_append_left (by omega),List.getElem?_take_of_lt e]
 ·rw[List.getElem?_append_right (by omega),h1];split
  ·rw[List.getElem?_append_left (by omega)]
  ·rw[List.getElem?_append_right (by omega),List.getElem?_drop]
   congr 1
   omega
theorem Zg{α:Type}(a:α)(l z:List α)(off:Nat)(h:off+(l.length+1)<=z.length):JF (a::l) z off=JF l (z.set off a) (off+1):=by
 apply List.ext_getElem?;intro i;rw[SN _ _ _ (by simpa using h),SN _ _ _ (by simp;omega)];simp only[List.length_cons];rcases Nat.lt_trichotomy i off with e|e|e
 ·rw[if_pos e,if_pos (by omega),List.getElem?_set_ne (by omega)]
 ·subst e;rw[if_neg (by omega),if_pos (by omega),if_pos (by omega),List.getElem?_set_self (by omega)];simp
 ·obtain⟨d,rfl⟩:∃d,i=off+1+d:=⟨i-(off+1),by omega⟩
  rw[if_neg (by omega),if_neg (show ¬off+1+d<off+1 by omega)]
  by_cases e2:d<l.length
  ·rw[if_pos (by omega),if_pos (by omega),show off+1+d-off=d+1 by omega,show off+1+d-(off+1)=d by omega,List.getElem?_cons_succ]
  ·rw[if_neg (by omega),if_neg (by omega),List.getElem?_set_ne (by omega)]
theorem AfE{l:List A}{vs:List Value}(hl:F2 (AR J U) l vs)(off:Nat):∀(i0:Nat) (z:List A) (cs:Array Value),F2 (AR J U) z cs.toList->off+i0+l.length<=z.length->
 F2 (AR J U) (JF l z (off+i0)) ((vs.zipIdx i0).foldl (fun (a:Array Value) (p:Value×Nat)=>a.setIfInBounds (off+p.2) p.1) cs).toList:=by
 induction hl with
 |nil=>
  intro i0 z cs hz h;rw[Pe _ _ _ (by simpa using h)];simpa using hz
 |cons Ny hl ih=>
  intro i0 z cs hz h;simp only[List.length_cons]at h;rw[Zg _ _ _ _ (by omega),List.zipIdx_cons,List.foldl_cons,show off+i0+1=off+(i0+1) by omega];exact ih (i0+1) _ _ (by simpa using hz.set Ny (off+i0)) (by simp;omega)
theorem T5{α:Type}(l z:List α)(off:Nat)(h:off+l.length<=z.length):(JF l z off).length=z.length:=by
 rw[Pe _ _ _ h];simp;omega
theorem TW{place Mx:Nat->Option (Nat×Nat)}(hp:∀i,Mx i=place i){pt:T AV}{tl:TL}{r:Rs}:∀{ps:List (Nat×Operand)} {n:Nat} {L:List (Nat×Nat×Od)} {z:List A} {k:List A->OR},
 Hp place nl n ps=some L->Rv L z pt tl k=some r->z.length=n->
 ∃l,k l=some r/\(∀k',Rv L z pt tl k'=k' l)/\l.length=n/\∀(J:A1) (U:An) (e:Operand->Value) (zs:List Value),
  (∀p∈ps,∀u,(od nl p.2).val pt tl=some u->Bb J U u (e p.2))->F2 (AR J U) z zs->
  ∃zs':List Value,Instr.fill Mx zs.toArray (ps.map fun p=>(p.1,e p.2))=some zs'.toArray/\F2 (AR J U) l zs':=by
 intro ps
 induction ps with
 |nil=>
  intro n L z k hL hk hz;cases hL;exact⟨z,hk,fun _=>rfl,hz,fun J U e zs _ hzs=>⟨zs,rfl,hzs⟩⟩
 |cons p ps ih=>
  intro n L z k hL hk hz;obtain⟨q,L',hq,hL',rfl⟩:=Jh (show Pp _ (Hp place nl n ps)=some L from hL);have hq0:(match place p.1 with
   |some q=>bif Nat.ble (Nat.add q.1 q.2) n then some (q.1,q.2,od nl p.2) else none
   |none=>none)=some q:=hq
  clear hq;cases hpl:place p.1 with
  |none=>rw[hpl]at hq0;cases hq0
  |some pq=>
   rw[hpl]at hq0;have hq:(bif Nat.ble (Nat.add pq.1 pq.2) n then some (pq.1,pq.2,od nl p.2) else none)=some q:=hq0;cases hle:Nat.ble (Nat.add pq.1 pq.2) n with
   |false=>simp only[hle,cond_false]at hq;cases hq
   |true=>
    simp only[hle,cond_true]at hq;cases hq;obtain⟨u,hu,B1⟩:=Aq (show ev (od nl p.2) pt tl _=some r from hk);obtain⟨l,hl,AW⟩:=Hc B1;obtain⟨Dr,B9⟩:=Ap AW;have hsz':l.length=pq.2:=by rw[<-E8];exact beq_eq Dr
    have hle':pq.1+pq.2<=n:=AN hle;have hsl:=T5 l z pq.1 (by omega);obtain⟨lf,h1,h2,h3,h4⟩:=ih hL' (show Rv L' (JF l z pq.1) pt tl k=some r from B9) (by omega);refine⟨lf,h1,?_,h3,?_⟩
    ·intro k';show ev (od nl p.2) pt tl _=_;rw[AQ hu];have:∀K:List A->OR,cellsOf u K=K l:=by intro K;cases u<;>cases hl<;>rfl
     rw[this];show Dy _ _=_;rw[Cv Dr];exact h2 k'
    ·intro J U e zs A8 hzs;obtain⟨vs,hv1,hv2⟩:=(A8 p (by simp) u hu).cells hl;have hzl:=hzs.length;have hvl:=hv2.length;have hf:=AfE hv2 pq.1 0 z zs.toArray (by simpa using hzs) (by omega);obtain⟨zs',h5,h6⟩:=h4 J U e _ (fun p' hp'=>A8 p' (Gq _ hp')) hf;refine⟨zs',?_,h6⟩;simp only[List.map_cons,Instr.fill,hp,hpl];rw[if_neg]
     ·rw[hv1];have e1:(vs.toArray.zipIdx.foldl (fun cs (x:Value×Nat)=>match x with |(c,j)=>cs.setIfInBounds (pq.1+j) c) zs.toArray)=(vs.zipIdx.foldl (fun (a:Array Value) (p:Value×Nat)=>a.setIfInBounds (pq.1+p.2) p.1) zs.toArray):=by
       simp
      rw[show (vs.toArray.zipIdx.foldl (fun cs (x:Value×Nat)=>match x with |(c,j)=>cs.setIfInBounds (pq.1+j) c) zs.toArray)=_ from e1];simpa using h5
     ·rw[hv1];simp;omega
theorem YB:∀{fs:List Field} {pl:List (Nat×Nat)},placesOf C fs=some pl->∀{P:Program} {U:An},A4 P C U->fs.mapM (fun f=>(P.info? f.type).map fun i=>(f.offset,i.size))=some pl:=by
 intro fs
 induction fs with
 |nil=>intro pl h P U hc;cases h;rfl
 |cons f fs ih=>
  intro pl h P U hc;obtain⟨q,qs,h1,h2,rfl⟩:=Jh (show Pp _ (placesOf C fs)=some pl from h);have h1':(match C.ty f.type with |some ti=>some (f.offset,ti.size)|none=>none)=some q:=h1;clear h1;cases ht:C.ty f.type with
  |none=>rw[ht]at h1';cases h1'
  |some ti=>
   rw[ht]at h1';cases h1';obtain⟨i,h3,h4,_⟩:=(hc.ty _ ti ht).info;simp[List.mapM_cons,h3,h4,ih h2 hc]
theorem QY{t:TypeId}{ps:Array (Nat×Operand)}(ho:o.op=.build t ps):CU C nl o (A5 (ZD C nl t ps.toList)):=by
 have go:∀(ti:TI),C.ty t=some ti->∀(place Mx:Nat->Option (Nat×Nat)) (L:List (Nat×Nat×Od)),(∀i,Mx i=place i)->Hp place nl (len ti.zero) ps.toList=some L->
  (∀P U (it:TypeInfo) (z:Value) (parts:List (Nat×Value)) (cells:Array Value),A4 P C U->P.info? t=some it->it.zero=some z->Instr.fill Mx z.cells parts=some cells->P.built t parts=some cells)->
  CU C nl o (A5 (.n0 (VQ ti.zero L))):=by
  intro ti ht place Mx L hp hL hb rec X k pt tl h r hk;obtain⟨l,h1,h2,h3,h4⟩:=TW hp hL (show Rv L ti.zero pt tl _=some r from hk) (by rw[E8]);refine⟨.agg l,fun Bn X' k' h'=>h2 _,?_⟩;intro P U J e w hc A8;obtain⟨i,hi,_,_,z,hz,zs,hzc,hzs,_⟩:=(hc.ty t ti ht).info;obtain⟨zs',h5,h6⟩:=h4 J U e zs (fun p hp u hu=>A8 p.2 (by simp[ho,Op.operands];exact⟨p.1,by simpa using hp⟩) u hu) (hzs J U);refine⟨.agg zs'.toArray,.inl ?_,⟨zs',rfl,h6⟩⟩;have h7:=hb P U i z (ps.toList.map fun p=>(p.1,e p.2)) zs'.toArray hc hi hz (by rw[hzc];exact h5);have h8:=run_build (P:=P) w t (ps.map fun (i,x)=>(i,e x)) zs'.toArray (by simpa using h7);simp[execOp,ho,h8]
 unfold ZD;cases hs:C.ty t with
 |none=>rw[AH hs];exact Bh
 |some ti=>
  rw[AI hs];split
  ·rename_i fs hfs;split
   ·rename_i pl hpl;split
    ·rename_i L hL;refine go ti hs (nth pl) (pl.toArray[·]?) L (fun i=>by rw[HC];simp) hL ?_;intro P U it z parts cells hc hit hz hf;have hu:=(hc.ty t ti hs).CR;rw[hfs]at hu;have:=YB hpl hc;simp[Program.built,hit,hu,hz,this];simpa using hf
    ·exact Bh
   ·exact Bh
  ·rename_i n el hfs;cases he:C.ty el with
   |none=>rw[AH he];exact Bh
   |some ei=>
    rw[AI he];split
    ·rename_i L hL;refine go ti hs (SB ei.size) (fun i=>some (i*ei.size,ei.size)) L (fun i=>rfl) hL ?_;intro P U it z parts cells hc hit hz hf;have hu:=(hc.ty t ti hs).CR;rw[hfs]at hu;obtain⟨ie,h1,h2,_⟩:=(hc.ty _ ei he).info;simp[Program.built,hit,hu,hz,h1,h2];exact hf
    ·exact Bh
  ·exact Bh
theorem M0{α:Type}(z:List α):∀(n i:Nat),i<n*z.length->(C0 z n)[i]? =z[i % z.length]? :=by
 intro n
 induction n with
 |zero=>intro i h;omega
 |succ n ih=>
  intro i h;rw[Jz];rw[Nat.succ_mul]at h
  by_cases e:i<z.length
  ·rw[List.getElem?_append_left e,Nat.mod_eq_of_lt e]
  ·rw[List.getElem?_append_right (by omega),ih _ (by omega)]
   congr 1
   exact (Nat.mod_eq_sub_mod (by omega)).symm
theorem Lh{z:List A}{zs:List Value}(hz:F2 (AR J U) z zs)(n m:Nat)(hm:m=n*z.length):F2 (AR J U) (C0 z n) ((List.range m).map fun i=>zs.toArray[i % zs.toArray.size]!):=by
 have hl:=hz.length;refine F2.AnO (by rw[Cg];simp[hm]) ?_;intro i a b ha hb;have hi:i<n*z.length:=by
  have:=(Oq.1 ha).1
  rwa [Cg]at this
 rw[M0 _ _ _ hi]at ha;obtain⟨v,hv,Gy⟩:=hz.get ha;have:b=v:=by
  simp[List.getElem?_map,List.getElem?_range (show i<m by omega)]at hb;rw[<-hl,hv]at hb;simpa using hb.symm
 rw[this];exact Gy
theorem NF(z:Array Value)(n:Nat):madeCells z n=((List.range n).map fun i=>z[i % z.size]!).toArray:=by
 unfold madeCells;apply Array.ext';simp
theorem Q8{x:Option Bool}(h:W7 x=true):x=some true:=by
 cases x with
 |none=>cases h
 |some b=>exact congrArg some h
theorem UD{v:AV}{e:E}(h:AhL v=some e):∃q,v=.one (.sym q e):=by
 unfold AhL at h;split at h
 ·cases h;exact⟨_,rfl⟩
 ·cases h
theorem Ag1{e:E}{k:Nat->OR}{r:Rs}(h:loK C e k=some r):∃m:Nat,C.cmp .geq e (.lit (.ofNat m))=some true/\k m=some r/\∀k',loK C e k'=k' m:=by
 unfold loK at h ⊢;cases h1:W7 (C.cmp .geq e (.lit 33)) with
 |true=>rw[h1]at h;exact⟨33,Q8 h1,h,fun _=>rfl⟩
 |false=>
  rw[h1]at h;cases h2:W7 (C.cmp .geq e (.lit 22)) with
  |true=>rw[h2]at h;exact⟨22,Q8 h2,h,fun _=>rfl⟩
  |false=>
   rw[h2]at h;obtain⟨h3,h4⟩:=Ap h;exact⟨11,Q8 h3,h4,fun _=>Cv h3⟩
theorem JW{t:TypeId}{lo co:Operand}(ho:o.op=.makeSlice t lo co):IV C nl o (A5 (TS C t fun ei=>bif Nat.ble ei.bytes 65536 then .n2 (P8 C ei.zero ei.size) (od nl lo) (od nl co) else .n0 A7)):=by
 unfold TS;cases ht:C.ty t with
 |none=>rw[AH ht];exact Dp
 |some ti=>
  rw[AI ht];split
  ·rename_i el CV;cases he:C.ty el with
   |none=>rw[AH he];exact Dp
   |some ei=>
    rw[AI he];cases hby:Nat.ble ei.bytes 65536 with
    |false=>exact Dp
    |true=>
     intro rec X k pt tl h r hk;obtain⟨u,hu,B1⟩:=Aq (show ev (od nl lo) pt tl _=some r from hk);cases hsy:AhL u with
     |some E1=>
      rw[hsy]at B1;obtain⟨q,hq⟩:=UD hsy;subst hq;obtain⟨u',CT,B9⟩:=Aq (show ev (od nl co) pt tl _=some r from B1);obtain⟨E2,hsy2,Eb⟩:=Ar B9;obtain⟨q',Fu⟩:=UD hsy2;subst Fu;obtain⟨hb,I7⟩:=Ap Eb;simp only[Ah]at hb;have hE:=Eng.Ac hb.1;subst hE;obtain⟨m,hm,KX,hlo⟩:=Ag1 I7;refine⟨fun id=>.one (.Wz id ei.size E1),.cells (T.ofList (C0 ei.zero m)) (Nat.mul m ei.size) false none,?_,(fun _ e=>Aj.noConfusion e),?_⟩
      ·intro Bn X' k' h';show ev (od nl lo) pt tl _=_;rw[AQ hu];show ev (od nl co) pt tl _=_;rw[AQ CT];show Dy _ _=_;rw[Cv (by simp only[Ah];exact hb)];exact hlo _
      ·intro P U J e w hc A8;have hl:e lo=_:=A8 lo (by simp[ho,Op.operands]) _ hu;have hm2:e co=_:=A8 co (by simp[ho,Op.operands]) _ CT;have c1:=hc.cmp _ _ _ _ (Q8 hb.2);have c2:=hc.cmp _ _ _ _ hm;have c1:E1.den U<=64:=of_decide_eq_true c1;have c2:E1.den U>=(m:Int):=of_decide_eq_true c2;obtain⟨N,hN⟩:=Int.eq_ofNat_of_zero_le (show 0<=E1.den U by omega);have hb3:=AN hby;obtain⟨ie,h1,h2,h3,z,h4,zs,h5,h6,h7,_⟩:=(hc.ty _ ei he).info;have hut:=(hc.ty t ti ht).CR;rw[CV]at hut;have hprod:ei.bytes*N<=65536*65536:=Nat.mul_le_mul hb3 (by omega);have AM:=run_make (P:=P) w t el ie z hut h1 h4 q q' (N:Int) (N:Int) (by omega) (by omega) (by rw[h3];omega) (by omega);refine⟨_,_,Nat.mul N ei.size,.inl ?_,EM,(Lh (h6 J U) N (N*ei.size) (by rw[h7])).AiD el (by rw[Cg,h7];rfl) (by rw[Cg,h7];rfl) ?_ ?_,fun J' id _ Dg=>⟨w.heap.size,_,N,Dg,rfl,hN.symm,rfl⟩⟩
       ·rw[hN]at hl hm2;rw[show Value.int q (N:Int)=e lo from hl.symm,show Value.int q' (N:Int)=e co from hm2.symm]at AM;simp only[execOp,ho,Sem.run_bind];rw[AM];simp only[Result.andThen_ok,Sem.run_pure,Int.toNat_natCast,NF,h5,h2];rfl
       ·exact Nat.mul_le_mul_right _ (by omega)
       ·intro i a hi;have Au:i<m*ei.zero.length:=by
         have:=(Oq.1 hi).1
         rwa [Cg]at this
        rw[M0 _ _ _ Au]at hi;rw[M0 _ _ _ (IM Au (Nat.mul_le_mul_right _ (by omega)))];exact hi
     |none=>
     rw[hsy]at B1;obtain⟨q,n,rfl,AW⟩:=EL B1;obtain⟨u',CT,B9⟩:=Aq (show ev (od nl co) pt tl _=some r from AW);obtain⟨q',m,rfl,Eb⟩:=EL B9;obtain⟨hb,I7⟩:=Ap Eb;refine⟨fun id=>.one (.slice id 0 n m),.cells (T.ofList (C0 ei.zero m)) (Nat.mul m ei.size) true none,?_,(fun _ e=>Aj.noConfusion e),?_⟩
     ·intro Bn X' k' h';show ev (od nl lo) pt tl _=_;rw[AQ hu];show ev (od nl co) pt tl _=_;rw[AQ CT];exact Cv hb
     ·intro P U J e w hc A8;have hl:e lo=_:=A8 lo (by simp[ho,Op.operands]) _ hu;have hm:e co=_:=A8 co (by simp[ho,Op.operands]) _ CT;simp only[Ah]at hb;have DN:=AN hb.1;have MA:=AN hb.2;have hb3:=AN hby;obtain⟨ie,h1,h2,h3,z,h4,zs,h5,h6,h7,_⟩:=(hc.ty _ ei he).info;have hut:=(hc.ty t ti ht).CR;rw[CV]at hut;have hprod:ei.bytes*m<=65536*65536:=Nat.mul_le_mul hb3 MA;have AM:=run_make (P:=P) w t el ie z hut h1 h4 q q' (n:Int) (m:Int) (by omega) (by omega) (by rw[h3];omega) (by omega);refine⟨_,_,Nat.mul m ei.size,.inl ?_,EM,(Lh (h6 J U) m (m*ei.size) (by rw[h7])).AE el (by rw[Cg,h7];rfl),fun J' id _ Dg=>⟨w.heap.size,_,Dg,rfl⟩⟩;rw[show Value.int q (n:Int)=e lo from hl.symm,show Value.int q' (m:Int)=e co from hm.symm]at AM;simp only[execOp,ho,Sem.run_bind];rw[AM];simp only[Result.andThen_ok,Sem.run_pure,Int.toNat_natCast,NF,h5,h2];rfl
  ·exact Dp
theorem I3{t:TypeId}{ln:Nat}{ps:Array (Nat×Operand)}(ho:o.op=.buildSlice t ln ps):IV C nl o (A5 (Kx C nl t ln ps.toList)):=by
 unfold Kx;cases ht:C.ty t with
 |none=>rw[AH ht];exact Dp
 |some ti=>
  rw[AI ht];split
  ·rename_i el CV;cases he:C.ty el with
   |none=>rw[AH he];exact Dp
   |some ei=>
    rw[AI he];cases hby:Nat.ble (Nat.mul ln ei.size) 65536 with
    |false=>exact Dp
    |true=>
     simp only[cond_true];split
     ·rename_i L hL;intro rec X k pt tl h r hk;obtain⟨l,h1,h2,h3,h4⟩:=TW (Mx:=fun i=>some (i*ei.size,ei.size)) (fun i=>rfl) hL (show Rv L (C0 ei.zero ln) pt tl _=some r from hk) (by rw[E8]);refine⟨fun id=>.one (.slice id 0 ln ln),.cells (T.ofList l) (len l) true none,fun Bn X' k' h'=>h2 _,(fun _ e=>Aj.noConfusion e),?_⟩;intro P U J e w hc A8;obtain⟨ie,hi,Dr,_,z,hz,zs,hzc,hzs,hzl,_⟩:=(hc.ty _ ei he).info;have hut:=(hc.ty t ti ht).CR;rw[CV]at hut;have hb:=AN hby;have AS:ln*ei.size<=65536:=hb;obtain⟨zs',h5,h6⟩:=h4 J U e _ (fun p hp u hu=>A8 p.2 (by simp[ho,Op.operands];exact⟨p.1,by simpa using hp⟩) u hu) (Lh (hzs J U) ln (ln*ei.size) (by rw[hzl]));refine⟨_,_,len l,.inl ?_,EM,h6.AE el (by rw[E8]),fun J' id _ Dg=>⟨w.heap.size,_,Dg,rfl⟩⟩;have h7:∀zc:Array Value,(ln*ie.size=0\/zc=z.cells)->Instr.fill (fun i=>some (i*ie.size,ie.size)) ((Array.range (ln*ie.size)).map (zc[· % zc.size]!)) (ps.map fun (i,x)=>(i,e x)).toList=some zs'.toArray:=by
       intro zc hzc';rw[show (ps.map fun (i,x)=>(i,e x)).toList=ps.toList.map fun p=>(p.1,e p.2) by simp];rw[<-h5,Dr]
       congr 1
       apply Array.ext';rcases hzc' with h0|rfl
       ·rw[Dr]at h0;rw[h0];simp
       ·rw[hzc];simp
      have h8:¬(ln*ie.size>2^24):=by rw[Dr];omega
      simp only[execOp,ho,Instr.buildSlice,run_underlying hut,Go.sizeOf,typeInfo,hi,Sem.run_bind,Result.andThen_ok,Sem.run_pure,run_program,h8,if_false]
      by_cases h0:ln*ie.size=0
      ·rw[if_pos h0];simp only[Sem.run_bind,Result.andThen_ok,Sem.run_pure,h7 #[] (.inl h0)];simp[newRow,push]
      ·rw[if_neg h0];simp only[zeroValue,typeInfo,hi,hz,Sem.run_bind,Result.andThen_ok,Sem.run_pure,run_program,h7 z.cells (.inr rfl)];simp[newRow,push]
     ·exact Dp
  ·exact Dp
end Eng
end
