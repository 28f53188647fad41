/- The program's calls of the library that are walked by hand: slices.Insert; looks at maps of structures. No conditions beside those in its theorems. -/
import Derived.Test.YtijplfaplkkpcaaGreatE11
import Derived.Test.YtijplfaplkkpcaaGreatProg
import Derived.Shelf.RegionOpenPlain
import Derived.WalkKit
import Derived.Deep.LoopGhost
import Derived.Deep.RegionLaw
import Derived.Lib.Walk
import Derived.Lib.SliceRun
import Derived.Lib.JoinLaws
import Derived.Lib.AppendZeros
import Derived.Lib.Overlaps
import Derived.Laws.Externs
import Derived.Laws.IdiomCopy
import Derived.Lib.AppendZerosOnto
import Derived.Laws.NewBlocks
import Derived.Lib.QuoteBits
import Derived.Test.YtijplfaplkkpcaaGreatE12
import Derived.Test.YtijplfaplkkpcaaGreatE10
set_option linter.unusedVariables false
set_option linter.unusedSimpArgs false
set_option linter.unusedSectionVars false
set_option linter.constructorNameAsVariable false
set_option maxRecDepth 100000
noncomputable section
namespace Eng
open Go
variable [AD]
def Bq.atF(c:Bq)(f:CF):Bq:={c with cf:=f::c.cf}
def Bq.Ed(c:Bq)(x:Nat)(k:Int):Bq:=c.atF ⟨.eql,.var x,.lit k,true⟩
theorem Bq.ok.cases{W:Wd}{c:Bq}(x:Nat)(lo hi:Int)(l:(c.atF ⟨.lss,.var x,.lit lo,true⟩).ok W)(g:(c.atF ⟨.gtr,.var x,.lit hi,true⟩).ok W)(h:∀k,lo<=k->k<=hi->(c.Ed x k).ok W):c.ok W:=by
 intro U hp
 by_cases h1:U.v x<lo
 ·have e:A2 U ⟨.lss,.var x,.lit lo,true⟩:=by
   show BQ .lss (U.v x) lo=true;exact decide_eq_true h1
  exact l U ⟨.cons e hp.cf,hp.rd,hp.q,hp.mp⟩
 by_cases h2:hi<U.v x
 ·have e:A2 U ⟨.gtr,.var x,.lit hi,true⟩:=by
   show BQ .gtr (U.v x) hi=true;exact decide_eq_true h2
  exact g U ⟨.cons e hp.cf,hp.rd,hp.q,hp.mp⟩
 have e:A2 U ⟨.eql,.var x,.lit (U.v x),true⟩:=by
  show BQ .eql (U.v x) (U.v x)=true;exact decide_eq_true rfl
 exact h _ (Int.not_lt.1 h1) (Int.not_lt.1 h2) U ⟨.cons e hp.cf,hp.rd,hp.q,hp.mp⟩
end Eng
namespace Go.Proofs
open Go.Shelf Go.RowKit Go.Lib Eng
namespace Row
variable {P:Program}
theorem LP(w:World)(t e ty:TypeId)(z:Value)(zs:List Value)(ht:P.underlying t=some (.slice e))(hv:∀w,(zeroValue e).run P w=.ok z w)(hz:z.cells=zs.toArray)(h1:∀v∈zs,v.oneCell'=true)(b o c:Nat)
 (hc:∀j,j<zs.length->(w.cell? ⟨b,o+j,none⟩).isSome=true) (hf:∀j,j<zs.length->w.frozen? ⟨b,o+j,none⟩=false):
 (Builtin.clear_ #[t] ty #[.slice (some ⟨b,o,none⟩) 1 c]).run P w=.ok (.tuple #[]) (w.setCells b o zs):=by
 have hzc:(Builtin.zeroCells z.cells 1).toList=zs:=by
  rw[hz];simp[Builtin.zeroCells];apply List.ext_getElem
  ·simp
  ·intro i h1 h2;simp[Nat.mod_eq_of_lt h2,h2]
 have BN:=run_storeCells_cells (P:=P) b o zs 0 w (by simpa using hc) (by simpa using hf) h1;simp only[Nat.add_zero]at BN;simp[Builtin.clear_,run_underlying ht,hv,hzc,BN]
theorem Ea(P:Program){w:World}{r o:Nat}{e:TypeId}{cur:Array Value}{vs:List Value}(hw:w.heap[r]? =some (.cells cur e (0,0)))(hl:o+vs.length<=cur.size)(h1:∀v∈vs,v.oneCell'=true):
 w.setCells r o vs=putObj w r (.cells (cur.toList.take o++vs++cur.toList.drop (o+vs.length)).toArray e (0,0)):=by
 have a:=run_storeCells_at (P:=P) r o e vs 0 cur w hw (by omega) h1;have b:=run_storeCells_cells (P:=P) r o vs 0 w (fun j hj=>by
  simp only[World.cell?,hw];rw[Array.getElem?_eq_getElem (by omega)];rfl) (fun j hj=>by simp[World.frozen?,hw]) h1
 rw[Ew w r cur _ e hw]at a;rw[a]at b;simp only[Nat.add_zero]at b;injection b with _ hb
 exact hb.symm
theorem Acr(w:World)(r:Nat)(o1 o2:Obj):putObj (putObj w r o1) r o2=putObj w r o2:=by simp[putObj]
def Kr(P:Program)(f:FuncId)(args:Array Value)(w:World)(v:Value)(w':World):Prop:=
 Enters P f/\∀cs,∃fr,Steps P (lone (Frame.enter P f args .normal) cs w) (lone fr cs w')/\fr.fn=f/\fr.leaving P w' (.returned v)
theorem Kr.q{f:FuncId}{args:Array Value}{w w':World}{v:Value}{Q:Value->World->Prop}(h:Kr P f args w v w')(q:Q v w'):Ci P f args w Q:=
 ⟨h.1,fun cs=>let ⟨fr,r⟩:=h.2 cs;⟨v,w',fr,q,r⟩⟩
theorem Hw{f:FuncId}{args:Array Value}{w w':World}{v:Value}(he:Enters P f)(h:Calls P f args w fun e W=>e=.returned v/\W=w'):Kr P f args w v w':=by
 refine⟨he,fun cs=>?_⟩;obtain⟨e,W,fr,⟨rfl,rfl⟩,h1,h2,h3⟩:=h cs;exact⟨fr,h1,h2,h3⟩
theorem Ky{f:FuncId}{args:Array Value}{w:World}{R:Ending->World->Prop}{Q:Value->World->Prop}(he:Enters P f)(h:Calls P f args w R)(hv:∀e w',R e w'->∃v,e=.returned v/\Q v w'):Ci P f args w Q:=by
 refine⟨he,fun cs=>?_⟩;obtain⟨e,W,fr,h0,h1,h2,h3⟩:=h cs;obtain⟨v,rfl,q⟩:=hv e W h0;exact⟨v,W,fr,q,h1,h2,h3⟩
end Row
end Go.Proofs
namespace Go.Proofs
open Go.Shelf Go.RowKit Go.Lib Eng
namespace Row
theorem Wy{P:Program}(w:World){o:Oper}{a:Act}{K:Act->World->Prop}{Q:Exit->Act->World->Prop}(d s:Operand)(t t':TypeId)
 (ho:o.op=.call {callee:=.builtin .copy,args:= #[d,s],argTypes:= #[t,t']}) (v u:Value) (hd:a.eval d=v) (hs:a.eval s=u) {v':Value} {w':World}
 (hr:(Builtin.copy_ #[t,t'] o.type #[v,u]).run P w=.ok v' w') (h:K (a.put o.dst v') w'):o.wp P a w K Q:=by
 unfold Oper.wp execOp
 simp only[ho,resolve,invoke,builtin,Sem.run_bind,Sem.run_pure,Result.andThen_ok,List.map_toArray,List.map_cons,List.map_nil,hd,hs,hr]
 exact h
theorem FZ{P:Program}(w:World){ops:Array Oper}{rest:List Oper}{o:Oper}{a:Act}{Q:Exit->Act->World->Prop}(hgd:o.guard=none)(d s:Operand)(t t':TypeId)
 (ho:o.op=.call {callee:=.builtin .copy,args:= #[d,s],argTypes:= #[t,t']}) (v u:Value) (hd:a.eval d=v) (hs:a.eval s=u) {v':Value} {w':World}
 (hr:(Builtin.copy_ #[t,t'] o.type #[v,u]).run P w=.ok v' w') (h:wpList P ops Q rest (a.put o.dst v') w'):wpList P ops Q (o::rest) a w:=
 wpList_plain hgd fun _ hK=>Wy w d s t t' ho v u hd hs hr (hK _ _ h)
theorem KR{P:Program}{ops:Array Oper}{o:Oper}{a:Act}{w:World}{K:Act->World->Prop}{Q:Exit->Act->World->Prop}{E:Prop}
 (hg:o.guard=none) (d x:Operand) (dT sT:TypeId) (hop:o.op=Op.call {callee:=Callee.builtin Builtin.copy,args:= #[d,x],argTypes:= #[dT,sT]})
 (v u:Value) (hd:a.eval d=v) (hx:a.eval x=u) {v':Value} {w':World} (hr:(Builtin.copy_ #[dT,sT] o.type #[v,u]).run P w=.ok v' w') (hK:K (a.put o.dst v') w'):
 if Region.wanted o (yielded ops a.tmps)=true then Oper.wp P o a w K Q else E:=by
 have hw:Region.wanted o (yielded ops a.tmps)=true:=by simp[Region.wanted,hg]
 rw[if_pos hw]
 unfold Oper.wp
 simp[execOp,hop,resolve,invoke,builtin,hd,hx,hr,Result.andThen]
 exact hK
theorem JV(b:Nat)(vs:List Value)(o:Nat)(w:World)(h:∀j,j<vs.length->(w.cell? ⟨b,o+j,none⟩).isSome=true)(k:Nat)(hk:(w.cell? ⟨b,k,none⟩).isSome=true):((w.setCells b o vs).cell? ⟨b,k,none⟩).isSome=true:=by
 by_cases hin:o<=k/\k<o+vs.length
 ·have:=World.cell?_setCells_in b vs o w h (k-o) (by omega)
  rw[show o+(k-o)=k by omega]at this
  rw[this];rfl
 ·rw[World.cell?_setCells_out b vs o w ⟨b,k,none⟩ (fun _ _=>by show k<o\/o+vs.length<=k;omega)]
  exact hk
theorem Gm{P:Program}(w:World)(dT sT ty elem:TypeId)(size b o dLen dCap:Nat)(a:Addr)(sLen sCap:Nat)(cs:List Value)
 (hu:P.underlying dT=some (.slice elem)) (hs:(P.info? elem).map (·.size)=some size) (hn:cs.length=Nat.min sLen dLen*size)
 (hsrc:∀j v,cs[j]? =some v->w.cell? (a.add j)=some v) (hc:∀j,j<cs.length->(w.cell? ⟨b,o+j,none⟩).isSome=true) (hf:∀j,j<cs.length->w.frozen? ⟨b,o+j,none⟩=false) (h1:∀v∈cs,v.oneCell'=true):
 (Builtin.copy_ #[dT,sT] ty #[.slice (some ⟨b,o,none⟩) dLen dCap,.slice (some a) sLen sCap]).run P w=.ok (goInt (Nat.min sLen dLen)) (w.setCells b o cs):=by
 have hl:=run_loadCells_list (P:=P) w a cs hsrc
 have hst:=run_storeCells_cells (P:=P) b o cs 0 w (by simpa using hc) (by simpa using hf) h1
 cases hq:P.info? elem with
 |none=>simp[hq]at hs
 |some i=>
  have hi:i.size=size:=by simpa [hq] using hs
  simp[Builtin.copy_,run_underlying hu,Builtin.lenOf,Builtin.firstCells,sizeOf,typeInfo,hq,hi,<-hn,hl,hst]
set_option maxHeartbeats 4000000 in
set_option maxRecDepth 100000 in
theorem shift(b vb c vc n i:Nat)(cs vs:List Value)(w:World)(hin:i<n)(hroom:n+1<=c)(hvb:vb ≠ b)(hn:n<=1000000)(hcl:cs.length=n*9)(hvl:vs.length=9)
 (hcs:∀j v,cs[j]? =some v->w.cell? ⟨b,j,none⟩=some v) (hsp:∀j,j<(n+1)*9->(w.cell? ⟨b,j,none⟩).isSome=true) (hfz:∀j,j<(n+1)*9->w.frozen? ⟨b,j,none⟩=false)
 (hvs:∀j v,vs[j]? =some v->w.cell? ⟨vb,j,none⟩=some v) (h1c:∀v∈cs,v.oneCell'=true) (h1v:∀v∈vs,v.oneCell'=true)
 (tA tB:TypeId) (kA kB:Nat) (hsa:w.shape? vb=some (tA,kA)) (hsb:w.shape? b=some (tB,kB)) (hkB:kB ≠ 0) (hfa:w.frozen? ⟨vb,0,none⟩=false) (hfe:w.frozen? ⟨vb,kA,none⟩=false):
 Calls Tryz.prog 292 #[.slice (some ⟨b,0,none⟩) n c,.int .i64 i,.slice (some ⟨vb,0,none⟩) 1 vc] w fun e w'=>
  e=.returned (.slice (some ⟨b,0,none⟩) (n+1) c)/\w'=(w.drew.setCells b ((i+1)*9) (cs.drop (i*9))).setCells b (i*9) vs:=by
 have hsz:(Tryz.prog.info? 45).map (·.size)=some 9:=by kernel_rfl
 have hu:Tryz.prog.underlying 54=some (.slice 45):=by kernel_rfl
 have zE:∀w,(Go.sizeOf 45).run Tryz.prog w=.ok 9 w:=fun w=>by
  cases hq:Tryz.prog.info? 45 with
  |none=>rw[hq]at hsz;cases hsz
  |some i=>rw[hq]at hsz;simp[Go.sizeOf,typeInfo,hq]at hsz ⊢;exact hsz
 have hov:∀lb cb,(callFunc 354 #[.slice (some ⟨vb,0,none⟩) 1 vc,.slice (some ⟨b,(i+1)*9,none⟩) lb cb]).run Tryz.prog w=.ok (.value (.bool false)) w:=fun lb cb=>by
  rw[run_callFunc_extern Tryz.func354 (by kernel_rfl) (by kernel_rfl) (by kernel_rfl) (e:=Extern.SlicesOverlaps.overlaps #[54,54] #[4]) (by kernel_rfl),
   Lib.run_overlaps_apart w 54 4 45 hu 9 zE ⟨vb,0,none⟩ ⟨b,(i+1)*9,none⟩ 1 vc lb cb hvb tA tB kA kB hsa hsb hkB hfa hfe]
  rfl
 have hdl:(cs.drop (i*9)).length=(n-i)*9:=by rw[List.length_drop,hcl];omega
 have hm1:Nat.min (n+1-i) (n-i)=n-i:=by show min _ _=_;omega
 have hm2:Nat.min 1 (n+1-i)=1:=by show min _ _=_;omega
 have hcp1:∀ty dc sc,(Builtin.copy_ #[54,54] ty #[.slice (some ⟨b,(i+1)*9,none⟩) (n-i) dc,.slice (some ⟨b,i*9,none⟩) (n+1-i) sc]).run Tryz.prog w.drew=.ok (goInt (n-i:Nat)) (w.drew.setCells b ((i+1)*9) (cs.drop (i*9))):=fun ty dc sc=>by
  have h:=Gm w.drew 54 54 ty 45 9 b ((i+1)*9) (n-i) dc ⟨b,i*9,none⟩ (n+1-i) sc (cs.drop (i*9)) hu hsz (by rw[hdl,hm1])
   (fun j v hj=>by rw[Addr.add_lit];exact hcs (i*9+j) v (by rwa [List.getElem?_drop]at hj))
   (fun j hj=>hsp _ (by omega)) (fun j hj=>hfz _ (by omega)) (fun v hv=>h1c v (List.mem_of_mem_drop hv))
  rwa [hm1]at h
 obtain⟨W1,hW1⟩:∃W1,W1=w.drew.setCells b ((i+1)*9) (cs.drop (i*9)):=⟨_,rfl⟩
 have hsp1:∀k,k<(n+1)*9->(W1.cell? ⟨b,k,none⟩).isSome=true:=fun k hk=>by
  rw[hW1]
  exact JV b (cs.drop (i*9)) ((i+1)*9) w.drew (fun j hj=>hsp _ (by rw[hdl]at hj;omega)) _ (hsp k hk)
 have hcp2:∀(W:World),(∀x,W.cell? x=W1.cell? x)->(∀x,W.frozen? x=W1.frozen? x)->∀ty dc,(Builtin.copy_ #[54,54] ty #[.slice (some ⟨b,i*9,none⟩) (n+1-i) dc,.slice (some ⟨vb,0,none⟩) 1 vc]).run Tryz.prog W=.ok (goInt 1) (W.setCells b (i*9) vs):=fun W hWc hWf ty dc=>by
  have h:=Gm W 54 54 ty 45 9 b (i*9) (n+1-i) dc ⟨vb,0,none⟩ 1 vc vs hu hsz (by rw[hvl,hm2])
   (fun j v hj=>by
    rw[Addr.add_lit,hWc,hW1,World.cell?_setCells_out b _ _ _ _ (fun h _=>absurd h hvb),Nat.zero_add]
    exact hvs j v hj)
   (fun j hj=>by rw[hWc];exact hsp1 _ (by omega)) (fun j hj=>by rw[hWf,hW1,World.frozen?_setCells];exact hfz _ (by omega)) h1v
  rwa [hm2]at h
 rw[<-hW1]at hcp1
 have hq1:¬((n:Int)+1>(c:Int)):=by omega
 have hb2:¬(c=i):=by omega
 have hb3:¬(c=i+1):=by omega
 have hb4:¬((i:Int)=(n:Int)):=by omega
 have hb5:i<=n:=by omega
 have hb6:i+1<=n+1:=by omega
 have hb8:(0:Int)<=(i:Int)+1:=by omega
 have hb9:(i:Int)+1<=(n:Int)+1:=by omega
 have hb10:(i:Int)<=(n:Int)+1:=by omega
 have hb7:i<=n+1:=by omega
 have hwn:IntKind.i64.wrap ((n:Int)+1)=(n:Int)+1:=Lib.wrap_i64_small (n+1) (by omega)
 have hwi:IntKind.i64.wrap ((i:Int)+1)=(i:Int)+1:=Lib.wrap_i64_small (i+1) (by omega)
 have mixed:Tryz.prog.follows .mixedOrders=true:=by kernel_rfl
 clear hsz
 go_enter Tryz.func292,Tryz.ntmps292
 go_wp2_with (simp only[hov])
 go_region_law_o (refine KR rfl _ _ 54 54 rfl _ _ (by simp[Act.eval,Act.put]) (by simp[Act.eval,Act.put]) (hcp1 _ _ _) ?_)
 go_wp2_with (at_builtin;refine FZ _ rfl _ _ 54 54 rfl _ _ rfl rfl (hcp2 _ (fun _=>rfl) (fun _=>rfl) _ _) ?_)
 go_ret
 exact⟨rfl,rfl⟩
set_option maxHeartbeats 4000000 in
set_option maxRecDepth 100000 in
theorem grow(b vb vc n i:Nat)(cs vs zs:List Value)(w:World)(i0:TypeInfo)(z:Value)(hi0:Tryz.prog.info? 45=some i0)(hz0:i0.zero=some z)(hzs:i0.size=9)(hzb:i0.bytes=72)(hzc:z.cells=zs.toArray)(hzl:zs.length=9)
 (hin:i<n) (hn:n<=1000000) (hcl:cs.length=n*9) (hvl:vs.length=9)
 (hcs:∀j v,cs[j]? =some v->w.cell? ⟨b,j,none⟩=some v) (hvs:∀j v,vs[j]? =some v->w.cell? ⟨vb,j,none⟩=some v) (h1c:∀v∈cs,v.oneCell'=true) (h1v:∀v∈vs,v.oneCell'=true):
 Calls Tryz.prog 292 #[.slice (some ⟨b,0,none⟩) n n,.int .i64 i,.slice (some ⟨vb,0,none⟩) 1 vc] w fun e w'=>
  e=.returned (.slice (some ⟨w.heap.size,0,none⟩) (n+1) (grownCap w (n+1) n 45))/\
  w'=(((w.alloc (.cells ((cs.take (i*9)).toArray++Builtin.zeroCells z.cells (n+1-i)++Builtin.zeroCells z.cells (grownCap w (n+1) n 45-(n+1))) 45)).drew.setCells w.heap.size (i*9) vs).drew).setCells w.heap.size ((i+1)*9) (cs.drop (i*9)):=by
 have hsz:(Tryz.prog.info? 45).map (·.size)=some 9:=by rw[hi0];simp[hzs]
 have hu:Tryz.prog.underlying 54=some (.slice 45):=by kernel_rfl
 have hu3:Tryz.prog.underlying 3=some (.int .i64):=by kernel_rfl
 have zE:∀w,(Go.sizeOf 45).run Tryz.prog w=.ok 9 w:=fun w=>by simp[Go.sizeOf,typeInfo,hi0,hzs]
 have hbw:b<w.heap.size:=block_lt_of_cell (hcs 0 _ (List.getElem?_eq_getElem (by omega)))
 have hvw:vb<w.heap.size:=block_lt_of_cell (hvs 0 _ (List.getElem?_eq_getElem (by omega)))
 have hold:(Builtin.firstCells i0.size i (.slice (some ⟨b,0,none⟩) i n)).run Tryz.prog w.drew=.ok (cs.take (i*9)).toArray w.drew:=by
  rw[hzs]
  exact run_firstCells_some w.drew 9 i ⟨b,0,none⟩ i n (cs.take (i*9)) (by rw[List.length_take];omega) (fun j v hj=>by
   rw[Addr.add_lit]
   rw[List.getElem?_take]at hj
   split at hj
   ·rw[Nat.zero_add];exact hcs j v hj
   ·cases hj)
 have hrz:∀ty,(Builtin.append_ #[54,3] ty #[.slice (some ⟨b,0,none⟩) i n,.int .i64 ((n+1-i:Nat):Int)]).run Tryz.prog w=
  .ok (.slice (some ⟨w.heap.size,0,none⟩) (n+1) (grownCap w (n+1) n 45)) (w.drew.alloc (.cells ((cs.take (i*9)).toArray++Builtin.zeroCells z.cells (n+1-i)++Builtin.zeroCells z.cells (grownCap w (n+1) n 45-(n+1))) 45)):=fun ty=>by
  have h:=Lib.run_append_grow_zeros w 54 3 ty 45 i0 z .i64 .i64 hu hu3 hi0 hz0 (some ⟨b,0,none⟩) i n (cs.take (i*9)) hold (n+1-i) (by omega) (by omega) (by omega) (by omega) (by rw[hzb];omega) (by rw[hzb];exact growslice_fits (by omega) (by omega))
  rw[show i+(n+1-i)=n+1 by omega]at h
  exact h
 obtain⟨G,hG⟩:∃G,G=grownCap w (n+1) n 45:=⟨_,rfl⟩
 obtain⟨ROW,hROW⟩:∃ROW:Array Value,ROW=(cs.take (i*9)).toArray++Builtin.zeroCells z.cells (n+1-i)++Builtin.zeroCells z.cells (G-(n+1)):=⟨_,rfl⟩
 rw[<-hG]at hrz ⊢
 rw[<-hROW]at hrz ⊢
 have hRl:(n+1)*9<=ROW.size:=by
  rw[hROW,hzc]
  simp[Builtin.zeroCells,hzl,hcl]
  omega
 obtain⟨W1,hW1⟩:∃W1,W1=w.drew.alloc (.cells ROW 45):=⟨_,rfl⟩
 rw[<-hW1]at hrz
 have hN:∀j,j<(n+1)*9->(W1.cell? ⟨w.heap.size,j,none⟩).isSome=true:=fun j hj=>by
  rw[hW1,World.cell?_alloc_at (w:=w.drew) ROW _ w.heap.size j rfl,Array.getElem?_eq_getElem (by omega)];rfl
 have hNf:∀j,W1.frozen? ⟨w.heap.size,j,none⟩=false:=fun j=>by rw[hW1];exact World.frozen?_alloc_at (w:=w.drew) ROW _ w.heap.size j rfl
 have hOb:∀j v,w.cell? ⟨b,j,none⟩=some v->W1.cell? ⟨b,j,none⟩=some v:=fun j v h=>by rw[hW1,World.cell?_alloc_past (w:=w.drew) _ b j hbw];exact h
 have hOv:∀j v,w.cell? ⟨vb,j,none⟩=some v->W1.cell? ⟨vb,j,none⟩=some v:=fun j v h=>by rw[hW1,World.cell?_alloc_past (w:=w.drew) _ vb j hvw];exact h
 have hdl:(cs.drop (i*9)).length=(n-i)*9:=by rw[List.length_drop,hcl];omega
 have hm1:Nat.min 1 (n+1-i)=1:=by show min _ _=_;omega
 have hm2:Nat.min (n-i) (n-i)=n-i:=by show min _ _=_;omega
 have hcpA:∀(W:World),(∀x,W.cell? x=W1.cell? x)->(∀x,W.frozen? x=W1.frozen? x)->∀ty dc,(Builtin.copy_ #[54,54] ty #[.slice (some ⟨w.heap.size,i*9,none⟩) (n+1-i) dc,.slice (some ⟨vb,0,none⟩) 1 vc]).run Tryz.prog W=.ok (goInt 1) (W.setCells w.heap.size (i*9) vs):=fun W hWc hWf ty dc=>by
  have h:=Gm W 54 54 ty 45 9 w.heap.size (i*9) (n+1-i) dc ⟨vb,0,none⟩ 1 vc vs hu hsz (by rw[hvl,hm1])
   (fun j v hj=>by rw[Addr.add_lit,hWc,Nat.zero_add];exact hOv _ v (hvs j v hj))
   (fun j hj=>by rw[hWc];exact hN _ (by omega)) (fun j hj=>by rw[hWf];exact hNf _) h1v
  rwa [hm1]at h
 have hGn:n+1<=G:=by rw[hG];exact grownCap_ge w _ _ _
 have hGi:¬(G=i):=by omega
 have hGim:¬(G=i+1):=by omega
 have hbN:b ≠ w.heap.size:=by omega
 have hcpB:∀(W:World),(∀x,W.cell? x=(W1.setCells w.heap.size (i*9) vs).cell? x)->(∀x,W.frozen? x=(W1.setCells w.heap.size (i*9) vs).frozen? x)->∀ty dc sc,(Builtin.copy_ #[54,54] ty #[.slice (some ⟨w.heap.size,(i+1)*9,none⟩) (n-i) dc,.slice (some ⟨b,i*9,none⟩) (n-i) sc]).run Tryz.prog W=.ok (goInt (n-i:Nat)) (W.setCells w.heap.size ((i+1)*9) (cs.drop (i*9))):=fun W hWc hWf ty dc sc=>by
  have h:=Gm W 54 54 ty 45 9 w.heap.size ((i+1)*9) (n-i) dc ⟨b,i*9,none⟩ (n-i) sc (cs.drop (i*9)) hu hsz (by rw[hdl,hm2])
   (fun j v hj=>by
    rw[Addr.add_lit,hWc,World.cell?_setCells_out _ _ _ _ _ (fun h _=>absurd h hbN)]
    exact hOb _ v (hcs (i*9+j) v (by rwa [List.getElem?_drop]at hj)))
   (fun j hj=>by rw[hWc];exact JV _ vs (i*9) W1 (fun t ht=>hN _ (by omega)) _ (hN _ (by omega)))
   (fun j hj=>by rw[hWf,World.frozen?_setCells];exact hNf _) (fun v hv=>h1c v (List.mem_of_mem_drop hv))
  rwa [hm2]at h
 subst hW1
 have hE1:∀x,((w.alloc (.cells ROW 45)).drew).cell? x=(w.drew.alloc (.cells ROW 45)).cell? x:=fun x=>rfl
 have hE2:∀x,((w.alloc (.cells ROW 45)).drew).frozen? x=(w.drew.alloc (.cells ROW 45)).frozen? x:=fun x=>rfl
 have hF1:∀x,(((w.alloc (.cells ROW 45)).drew.setCells w.heap.size (i*9) vs).drew).cell? x=((w.drew.alloc (.cells ROW 45)).setCells w.heap.size (i*9) vs).cell? x:=fun x=>rfl
 have hF2:∀x,(((w.alloc (.cells ROW 45)).drew.setCells w.heap.size (i*9) vs).drew).frozen? x=((w.drew.alloc (.cells ROW 45)).setCells w.heap.size (i*9) vs).frozen? x:=fun x=>rfl
 have hq1:(n:Int)+1>(n:Int):=by omega
 have hb2:¬(n=i):=by omega
 have hb4:¬((i:Int)=(n:Int)):=by omega
 have hb5:i<=n:=by omega
 have hb7:i<=n+1:=by omega
 have hb8:(0:Int)<=(i:Int)+1:=by omega
 have hb9:(i:Int)+1<=(n:Int)+1:=by omega
 have hb10:(i:Int)<=(n:Int)+1:=by omega
 have hwn:IntKind.i64.wrap ((n:Int)+1)=(n:Int)+1:=Lib.wrap_i64_small (n+1) (by omega)
 have hwi:IntKind.i64.wrap ((i:Int)+1)=(i:Int)+1:=Lib.wrap_i64_small (i+1) (by omega)
 have hwd:IntKind.i64.wrap ((n:Int)+1-(i:Int))=((n+1-i:Nat):Int):=by
  rw[show (n:Int)+1-(i:Int)=((n+1-i:Nat):Int) by omega]
  exact Lib.wrap_i64_small (n+1-i) (by omega)
 have mixed:Tryz.prog.follows .mixedOrders=true:=by kernel_rfl
 clear hold hROW hG hRl hsz
 go_enter Tryz.func292,Tryz.ntmps292
 go_wp2_with (first
  |(at_builtin;refine Lib.wpList_append_run _ rfl _ _ _ _ rfl _ _ rfl rfl _ _ (hrz _) ?_)
  |(at_builtin;refine FZ _ rfl _ _ 54 54 rfl _ _ rfl rfl (hcpA _ hE1 hE2 _ _) ?_)
  |(at_builtin;refine FZ _ rfl _ _ 54 54 rfl _ _ rfl rfl (hcpB _ (fun _=>rfl) (fun _=>rfl) _ _ _) ?_))
 go_region_law_o (refine KR rfl _ _ 54 54 rfl (.slice (some ⟨w.heap.size,(i+1)*9,none⟩) (n-i) (G-(i+1))) (.slice (some ⟨b,i*9,none⟩) (n-i) (n-i)) (by simp[Act.eval,Act.put]) (by simp[Act.eval,Act.put]) (hcpB _ hF1 hF2 3 (G-(i+1)) (n-i)) ?_)
 go_wp2
 go_ret
 exact⟨rfl,rfl⟩
end Row
end Go.Proofs
namespace Eng
open Go Go.RowKit
variable [AD]
variable {P:Program} {C C':AB} {U U' Y:An} {J J':A1} {W:Wd} {n:Nat}
section
variable {F:Be} {st:Int->Option An} {ro:Nat} {w w':World} {m:Int->Option Value}
theorem TB.AuB(hm:TB W F st ro w m)(I8:KD w' ro m)(hmr2:∀y,Fq w' ro y↔Fq w ro y)(h:∀z u Y r,m z=some u->st z=some Y->CM u=some r->∀y,F.D.fp Y r w y->w'.heap[y]? =w.heap[y]?):
 TB W F st ro w' m/\∀y,F.fp st ro w' y↔F.fp st ro w y:=by
 have EJ:∀z u Y r,m z=some u->st z=some Y->CM u=some r->F.D.rep W Y r w'/\∀y,F.D.fp Y r w' y↔F.D.fp Y r w y:=by
  intro z u Y r h1 h2 h3;obtain⟨_,_,r',⟨g1,_,g2⟩,_⟩:=hm.mem z u Y h1 h2;rw[h3]at g1;cases g1;exact Shape.loc g2 (h z u Y r h1 h2 h3)
 refine⟨⟨I8,hm.same,fun z u Y h1 h2=>?_,fun z z' u u' Y Y' r r' Bs h1 h2 h3 h4 h5 h6 y hy=>?_⟩,fun y=>?_⟩
 ·obtain⟨b1,b2,r,⟨g1,g2,g3⟩,g4⟩:=hm.mem z u Y h1 h2;obtain⟨k1,k2⟩:=EJ z u Y r h1 h2 g1;refine⟨b1,b2,r,⟨g1,?_,k1⟩,fun y hy hy2=>g4 y ((k2 y).1 hy) ((hmr2 y).1 hy2)⟩;rw[OY (h z u Y r h1 h2 g1)];exact g2
 ·rw[(EJ z u Y r h1 h3 h5).2 y]at hy;rw[(EJ z' u' Y' r' h2 h4 h6).2 y];exact hm.Vs z z' u u' Y Y' r r' Bs h1 h2 h3 h4 h5 h6 y hy
 ·constructor
  ·rintro (hy|⟨m',z,u,Y,r,h1,h2,h3,h4,h5⟩)
   ·exact .inl ((hmr2 y).1 hy)
   ·rw[h1.one I8]at h2;exact .inr ⟨m,z,u,Y,r,hm.map,h2,h3,h4,((EJ z u Y r h2 h3 h4).2 y).1 h5⟩
  ·rintro (hy|⟨m',z,u,Y,r,h1,h2,h3,h4,h5⟩)
   ·exact .inl ((hmr2 y).2 hy)
   ·rw[h1.one hm.map]at h2;exact .inr ⟨m,z,u,Y,r,I8,h2,h3,h4,((EJ z u Y r h2 h3 h4).2 y).2 h5⟩
def bl0:List (Nat×Aj):=[(0,.cells (T.ofList [.map 1]) 1 true none),(1,.Ej 0 [])]
theorem Qm{b:Nat}{y:Aj}{n:Nat}(hb:(Aa bl0 n).get b=some y):(b=0/\y=.cells (T.ofList [.map 1]) 1 true none)\/(b=1/\y=.Ej 0 []):=by
 rcases BL.1 (Ad hb) with e|e
 ·cases e;exact .inl ⟨rfl,rfl⟩
 ·rcases BL.1 e with e|e
  ·cases e;exact .inr ⟨rfl,rfl⟩
  ·cases e
def Aaz(F:Be)(st:Int->Option An)(m:Int->Option Value)(w:World)(y:Nat):Option Obj:=by
 classical exact if ∃z u Y r,m z=some u/\st z=some Y/\CM u=some r/\F.D.fp Y r w y then w.heap[y]? else none
theorem AbJ{y:Nat}{z:Int}{u:Value}{Y:An}{r:Nat}(h1:m z=some u)(h2:st z=some Y)(h3:CM u=some r)(h4:F.D.fp Y r w y):Aaz F st m w y=w.heap[y]? :=by
 unfold Aaz;exact if_pos ⟨z,u,Y,r,h1,h2,h3,h4⟩
theorem Ad8{y:Nat}{o:Obj}(h:Aaz F st m w y=some o):∃z u Y r,m z=some u/\st z=some Y/\CM u=some r/\F.D.fp Y r w y/\w.heap[y]? =some o:=by
 unfold Aaz at h;split at h
 ·rename_i hc;obtain⟨z,u,Y,r,h1,h2,h3,h4⟩:=hc;exact⟨z,u,Y,r,h1,h2,h3,h4,h⟩
 ·cases h
theorem Yt{ty:TypeId}{x:Nat}(g1:w.heap[ro]? =some (.cells #[.map (some x)] ty (0,0)))(y:Nat):Fq w ro y↔y=ro\/y=x:=by
 unfold Fq;constructor
 ·rintro (e|⟨ty',x',k1,e⟩)
  ·exact .inl e
  ·rw[g1]at k1;cases k1;exact .inr e
 ·rintro (e|e)
  ·exact .inl e
  ·exact .inr ⟨ty,x,g1,e⟩
theorem TB.Arz(h:TB W F st ro w m){Uqo:An}(hm:Uqo.m 0=m)(hk:Uqo.k=Aaz F st m w):
 ∃x,(∀y,Fq w ro y↔y=ro\/y=x)/\Rel (YM ro x) Uqo C (Aa bl0 2) w:=by
 obtain⟨ty,x,ms,clock,g1,Bs,g2,g3,g4⟩:=h.map;have MB:=Yt g1;refine⟨x,MB,⟨fun b y S hb=>?_,fun b y S hb=>?_,fun b b' y S S' hb AS _ _=>?_,fun y o Cs=>?_,Hr.none fun b t hg=>?_⟩⟩
 ·match b,hb with
  | 0,_=>show 0<2;omega
  | 1,_=>show 1<2;omega
 ·match b,hb with
  | 0,hb=>
   cases hb;refine⟨_,g1,fun y' FH=>?_⟩;rcases Qm FH with ⟨_,e⟩|⟨e,_⟩
   ·subst e;refine⟨#[.map (some x)],ty,rfl,rfl,Nat.le_refl _,fun _=>rfl,fun i a hi ha=>?_⟩;obtain⟨i1,i2⟩:=MR ha;subst i1;subst i2;exact⟨_,rfl,x,0,rfl,rfl⟩
   ·cases e
  | 1,hb=>
   cases hb;refine⟨_,g2,fun y' FH=>?_⟩;rcases Qm FH with ⟨e,_⟩|⟨_,e⟩
   ·cases e
   ·subst e;refine⟨ms.toList,clock,by simp,g3,fun q=>?_⟩;show match Uqo.m 0 q with |some u=>BV ms.toList q fun u'=>u'=u|none=>∀e∈ms.toList,e.key ≠ .int .i64 q
    rw[hm];exact g4 q
 ·match b,b',hb,AS with
  | 0,0,_,_=>exact .inl rfl
  | 0,1,hb,AS=>cases hb;cases AS;exact absurd rfl Bs
  | 1,0,hb,AS=>cases hb;cases AS;exact absurd rfl Bs
  | 1,1,_,_=>exact .inl rfl
 ·rw[hk]at Cs;obtain⟨z,u,Y,r,h1,h2,h3,h4,h5⟩:=Ad8 Cs;refine⟨h5,fun b S hb=>?_⟩;obtain⟨_,_,r',⟨q1,_,_⟩,q2⟩:=h.mem z u Y h1 h2;rw[h3]at q1;cases q1;refine q2 y h4 ((MB y).2 ?_)
  match b,hb with
  | 0,hb=>cases hb;exact .inl rfl
  | 1,hb=>cases hb;exact .inr rfl
 ·rcases Qm hg with ⟨_,e⟩|⟨_,e⟩<;>cases e
end
def AfX(v:AV):Bool:=match v with |.one (.C2 ..)=>true|.one (.KW ..)=>true|.one (.slice ..)=>true|.one .B7=>true|.one .any=>true|_=>false
theorem AfY{v:AV}{u:Value}(h:AfX v=true)(hv:Bb J U v u):Bb J' U' (.one .any) u:=by
 unfold AfX at h;split at h
 ·obtain⟨p,N,k,e,_⟩:=hv;exact⟨_,_,_,e⟩
 ·obtain⟨r,S,c,_,e,_⟩:=hv;exact⟨_,_,_,e⟩
 ·obtain⟨r,S,_,e⟩:=hv;exact⟨_,_,_,e⟩
 ·exact⟨_,_,_,hv⟩
 ·exact hv
 ·cases h
def Aky(v v':AV):Bool:=match v' with |.one .any=>AfX v|.one (.bool b)=>AV.AJ v (.one (.bool b))|_=>false
theorem Akz{v v':AV}{u:Value}(h:Aky v v'=true)(hv:Bb J U v u):Bb J' U' v' u:=by
 unfold Aky at h;split at h
 ·exact AfY h hv
 ·rw[AV.Ac h]at hv;exact hv
 ·cases h
def RO(np:Nat)(a:AV):Bool:=match a with |.one (.sym _ (.var i))=>Nat.blt i np|_=>false
def Be.look(f:FuncId)(args:List AV)(np kind:Nat)(v:AV):Bq:={f,args:=.one (.fp 0)::args,bl:=[(0,.Am (0,0))],n:=1,np,hi:=np,rd:=[(0,[.g kind])],outs:=[{v,AX:=[(0,.Am (0,0))],n1:=1}]}
def Ag2(c:Bq)(f:FuncId)(args:List AV)(np:Nat)(ks:List Ck)(v:AV):Bool:=
 Nat.beq c.f f&&(Av AV.AJ c.args (.one (.ptr 0 0)::args)&&((args.all (RO np)&&(args.all (AV.within (Ae [(0,.Am (0,0))]))&&v.within (Ae [(0,.Am (0,0))])))&&(Av I0.Qt.nbEqK c.bl bl0&&(Nat.beq c.n 2&&(Nat.blt 0 np&&(Nat.beq c.np np&&(c.cf.isEmpty&&(c.rd.isEmpty&&
  ((match c.mp with | [k]=>EK k (0,ks)|_=>false)&&c.outs.all fun o=>Aky o.v v&&(hasB (Aa o.AX o.n1) 0 (.cells (T.ofList [.map 1]) 1 true none)&&hasB (Aa o.AX o.n1) 1 (.Ej 0 [])))))))))))
theorem F2.numArgs{np:Nat}:∀{l:List AV} {vs:List Value},l.all (RO np)=true->(∀i,i<np->U'.v i=U.v i)->F2 (Bb J U) l vs->F2 (Bb J' U') l vs:=by
 intro l vs ha hv h
 induction h with
 |nil=>exact .nil
 |cons h0 _ ih=>
  rw[List.all_cons,Ah]at ha;refine .cons ?_ (ih ha.2);have h1:=ha.1;unfold RO at h1;split at h1
  ·have h0:_=_:=h0;show _=_;rw[h0];show Value.int _ (U.v _)=Value.int _ (U'.v _);rw[hv _ (AF h1)]
  ·cases h1
theorem Be.look_ok{F:Be}{MI:An->Prop}{kind np:Nat}{ks:List Ck}{c:Bq}{f:FuncId}{args:List AV}{v:AV}(hc:c.ok W)(hq:∀U,c.q U)(I5:Ag2 c f args np ks v=true)
 (hK:∀B,AD.is kind B↔∃st,B=F.Am W st/\∀z Y,st z=some Y->MI Y)
 (Cu:∀Y w u r (k:Nat->Option Obj),MI Y->Mem W F Y w u r->(∀y,F.D.fp Y r w y->k y=w.heap[y]?)->MkP k ks u):(Be.look f args np kind v).ok W:=by
 intro U hp;obtain⟨st,e0,hinv⟩:=(hK _).1 (show AD.is kind (U.b 0) from by cases hp.rd with |cons h _=>exact h.2);unfold Ag2 at I5;simp only[Ah]at I5;obtain⟨hf,Fg,⟨hna,haw,hvw⟩,Jo,hn,hnp,hcnp,hcf,hrd,hmp,houts⟩:=I5;have hf:=beq_eq hf;have Fg:=Ag (fun _ _=>AV.Ac) Fg;have Jo:=Ag (fun _ _=>Sj) Jo;have hn:=beq_eq hn;have hnp:=AF hnp;have hcnp:=beq_eq hcnp;refine⟨_,List.mem_singleton.2 rfl,U,.refl,fun Uq2 g=>⟨⟨.nil,.nil,trivial,.nil⟩,fun C hC=>⟨?_,fun J w vs hr EU=>?_⟩⟩⟩
 ·rw[Ah];refine⟨?_,?_⟩
  ·rw[Bf];intro a ha';rcases BL.1 ha' with e|e
   ·subst e;rfl
   ·exact Bf.1 haw a e
  ·exact hvw
 ·have g:Ai np U Uq2:=g;have Ml:Uq2.b 0=F.Am W st:=by rw[g.b 0 hnp];exact e0
  have e1:(Uq2.B (0,0))=F.Ov W st (Uq2.ro 0):=by
   show (Uq2.b 0).at_ (Uq2.ro 0)=_;rw[Ml];rfl
  obtain⟨m,Kf⟩:F.rep W st (Uq2.ro 0) w:=by
   have:=hr.Am.rep 0 (0,0) rfl;rw[e1]at this;exact this
  let Uqi:An:={v:=Uq2.v,r:=Uq2.r,m:=fun t=>if t=0 then m else Uq2.m t,k:=Aaz F st m w,b:=Uq2.b,ro:=Uq2.ro}
  have hpre:c.pre Uqi:=by
   refine⟨by rw[List.isEmpty_iff.1 hcf];exact .nil,by rw[List.isEmpty_iff.1 hrd];exact .nil,hq _,?_⟩;split at hmp
   ·rename_i k hk;rw[hk,BH hmp];refine .cons (fun z u hz=>?_) .nil;have hz:m z=some u:=hz;obtain⟨Y,hτ⟩:∃Y,st z=some Y:=by
     have:=Kf.same z;rw[hz]at this;cases hs:st z with
     |none=>rw[hs]at this;cases this
     |some Y=>exact⟨Y,rfl⟩
    obtain⟨b1,b2,r,g1,g2⟩:=Kf.mem z u Y hz hτ;exact⟨⟨b1,b2⟩,Cu Y w u r _ (hinv z Y hτ) g1 fun y hy=>AbJ hz hτ g1.1 hy⟩
   ·cases hmp
  obtain⟨o,ho,U',h1,h2⟩:=hc _ hpre;rw[hcnp]at h1;have hs:=(h2 U' .refl).2 C hC;obtain⟨hov,ho0,ho1⟩:Aky o.v v=true/\hasB (Aa o.AX o.n1) 0 (.cells (T.ofList [.map 1]) 1 true none)=true/\hasB (Aa o.AX o.n1) 1 (.Ej 0 [])=true:=by
   have:=Bf.1 houts o ho;simp only[Ah]at this;exact this
  have K9:U'.m 0=m:=by rw[h1.m 0 hnp];rfl
  have Cs:U'.k=Aaz F st m w:=h1.k;obtain⟨x,hx,IS⟩:=Kf.Arz (Uqo:=U') (C:=C) K9 Cs;have hvs':F2 (Bb (YM (Uq2.ro 0) x) U') c.args vs:=by
   rw[Fg]
   match EU with
   |.cons h0 hl=>
    refine .cons ?_ ?_
    ·have h0:_=_:=h0;rw[h0];exact⟨_,_,rfl,rfl⟩
    ·exact F2.numArgs (U:=Uq2) hna (fun i hi=>h1.v i hi) hl
  have AM:=hs.2 (YM (Uq2.ro 0) x) w vs (by show Rel _ _ _ (Aa c.bl c.n) w;rw[Jo,hn];exact IS) hvs';show Ci W.P f vs.toArray w _;rw[<-hf];refine AM.mono ?_
  rintro v' w' ⟨Jq1,h',q1,q2,q3,q4⟩
  have L:=Cw q4;have hgo:∀{b:Nat} {y:Aj},hasB (Aa o.AX o.n1) b y=true->h'.get b=some y:=fun {b y} hb=>L.get (b,y) (Ad (Cz hb))
  have N3:=hgo ho0;have Qz:=hgo ho1;have k0:Jq1 0=some (Uq2.ro 0,1):=by rw[q3.CW 0 (by show 0<(Aa c.bl c.n).next;rw[Jo,hn];show 0<2;omega)];rfl
  have k1:Jq1 1=some (x,0):=by rw[q3.CW 1 (by show 1<(Aa c.bl c.n).next;rw[Jo,hn];show 1<2;omega)];rfl
  obtain⟨ob0,p1,p2⟩:=q2.AE 0 _ _ k0;obtain⟨cs,ty,rfl,p3,_,_,p4⟩:=p2 _ N3;obtain⟨v0,p5,x1,S1,p6,p7⟩:=p4 0 (.map 1) (by omega) rfl;rw[k1]at p6;cases p6;subst p7;have Ix:cs= #[.map (some x)]:=by
   refine Array.ext (by simpa using p3) fun i hi1 hi2=>?_
   have hi:i=0:=by simp at hi2;omega
   subst hi;have:=Array.getElem?_eq_getElem hi1;rw[this]at p5;injection p5
  rw[Ix]at p1;obtain⟨ob1,p8,p9⟩:=q2.AE 1 _ _ k1;obtain⟨ms,clock,rfl,p10,p11⟩:=p9 _ Qz;have Bs:Uq2.ro 0 ≠ x:=by
   intro e;rcases q2.inj 0 1 x 1 0 (by rw[k0,e]) k1 ⟨_,N3,by simp⟩ ⟨_,Qz,by simp⟩ with e|⟨c',n',f',e⟩
   ·cases e
   ·rw[N3]at e;cases e
  have hmap':KD w' (Uq2.ro 0) m:=⟨ty,x,ms.toArray,clock,p1,Bs,p8,by simpa using p10,fun z=>by
   have:=p11 z;unfold BY at this;have:match U'.m 0 z with |some u=>BV ms z fun u'=>u'=u|none=>∀e∈ms,e.key ≠ .int .i64 z:=this
   rw[K9]at this;rw[List.toList_toArray];exact this⟩
  have hnoF:∀r,¬Fo U' (Aa c.bl c.n) w r:=by
   rintro r ⟨b,t,hg,_⟩
   rw[Jo]at hg;rcases Qm hg with ⟨_,e⟩|⟨_,e⟩<;>cases e
  obtain⟨hfam',hfp'⟩:=Kf.AuB hmap' (fun y=>by rw[Yt p1 y,hx y]) fun z u Y r a1 a2 a3 y hy=>by
   have Au:y<w.heap.size:=by
    obtain⟨_,_,r',⟨g1,_,g2⟩,_⟩:=Kf.mem z u Y a1 a2;rw[a3]at g1;cases g1;exact Shape.lt g2 hy
   have e2:=AbJ (F:=F) a1 a2 a3 hy;obtain⟨ob,e3⟩:∃ob,w.heap[y]? =some ob:=⟨_,Array.getElem?_eq_getElem Au⟩
   rw[(q2.kept y ob (by rw[Cs,e2,e3])).1,e3]
  have Bl:∀{b:Nat} {t:Nat×Nat},(Aa [(0,Aj.Am (0,0))] 1).get b=some (.Am t)->b=0/\t=(0,0):=fun {b t} hg=>by
   rcases BL.1 (Ad hg) with e|e
   ·cases e;exact⟨rfl,rfl⟩
   ·cases e
  have hFo:∀{w:World} {y:Nat},Fo Uq2 (Aa [(0,Aj.Am (0,0))] 1) w y↔F.fp st (Uq2.ro 0) w y:=fun {w y}=>by
   constructor
   ·rintro ⟨b,t,hg,hf⟩
    obtain⟨rfl,rfl⟩:=Bl hg;rw[e1]at hf;exact hf
   ·intro hf;refine⟨0,(0,0),rfl,?_⟩;rw[e1];exact hf
  have hρ:∀b r S,J b ≠ some (r,S):=by
   intro b r S hb;have Au:b<1:=hr.lt b r S hb;have e:b=0:=by omega
   subst e;obtain⟨o',_,h⟩:=hr.AE 0 r S hb;exact h (.Am (0,0)) rfl
  have hfr:∀r,r<w.heap.size->r ≠ Uq2.ro 0->r ≠ x->w'.heap[r]? =w.heap[r]? :=by
   intro r Au n1 n2;refine q3.frame r Au (fun b S hb=>?_) (hnoF r)
   match b,hb with
   | 0,hb=>cases hb;exact absurd rfl n1
   | 1,hb=>cases hb;exact absurd rfl n2
  have H4:=hr.Am.free 0 (0,0) rfl;rw[e1]at H4;refine⟨J,Aa [(0,.Am (0,0))] 1,Akz hov q1,⟨fun b r S hb=>absurd hb (hρ b r S),fun b r S hb=>absurd hb (hρ b r S),fun b b' r S S' hb=>absurd hb (hρ b r S),fun r ob hk=>?_,⟨fun b t hg=>?_,fun b t hg r hf=>?_,fun b t b' t' hg HZ hne'=>?_⟩⟩,⟨Nat.le_refl _,fun _ _=>rfl,fun b r S _ hb=>absurd hb (hρ b r S),q3.size,fun _ _ h=>h,fun r Au _ hF=>?_,fun r hF=>.inr ?_,q3.os,q3.tape,q3.output,q3.fz⟩,rfl⟩
  ·obtain⟨g1,g2⟩:=hr.kept r ob hk;refine⟨?_,g2⟩;rw[hfr r (Ht.1 g1).1 (fun e=>?_) fun e=>?_]
   ·exact g1
   ·have:=(H4 r (.inl ((hx r).2 (.inl e)))).2;rw[hk]at this;cases this
   ·have:=(H4 r (.inl ((hx r).2 (.inr e)))).2;rw[hk]at this;cases this
  ·obtain⟨rfl,rfl⟩:=Bl hg;rw[e1];exact⟨m,hfam'⟩
  ·obtain⟨rfl,rfl⟩:=Bl hg;rw[e1]at hf;exact H4 r ((hfp' r).1 hf)
  ·exact absurd ((Bl hg).1.trans (Bl HZ).1.symm) hne'
  ·have hF:=fun h=>hF (hFo.2 h)
   exact hfr r Au (fun e=>hF (.inl ((hx r).2 (.inl e)))) fun e=>hF (.inl ((hx r).2 (.inr e)))
  ·exact hFo.2 ((hfp' r).1 (hFo.1 hF))
end Eng
namespace Eng
open Go Go.RowKit
variable {w w':World} {ro:Nat} {st:Int->Option Bool}
def EE:List Ck:=[.i .i64,.i .i64,.i .i64,.i .u64,.i .i64,.i .i64,.i .i64,.i .i64]
def Cy(w:World)(ro:Nat):Option Nat:=(cellAt w ro 0).bind CM
def Co(w:World)(ro:Nat):Nat:=match cellAt w ro 0 with |some (.slice _ n _)=>n|_=>0
def CG(w:World)(ro i:Nat):Option Value:=(Cy w ro).bind fun r=>cellAt w r i
def BJ(w:World)(ro j:Nat):Int:=match CG w ro (j*2) with |some v=>numOf v|none=>0
def HT(w:World)(ro j:Nat):Option Nat:=(CG w ro (j*2+1)).bind CM
def CA(w:World)(q n:Nat):Bool:=by classical exact decide (∃i,i<n/\∃v,cellAt w q (i*8)=some v/\numOf v ≠ 0)
def FB(w:World)(q n cap:Nat):Prop:=(1<=n/\n<=16)/\n<=cap/\∃(cs:Array Value) (ty:TypeId),w.heap[q]? =some (.cells cs ty (0,0))/\cap*8=cs.size/\∀j c,j<n->c<8->∃u,cs[j*8+c]? =some u/\u.oneCell'=true/\A9 (EE.getD c .u) u
structure Br(st:Int->Option Bool)(ro:Nat)(w:World):Prop where
 top:∃(ty:TypeId) (p:Option Addr) (k:Nat),w.heap[ro]? =some (.cells #[.slice p (Co w ro) k] ty (0,0))/\((p=none/\Co w ro=0/\k=0)\/∃(r:Nat) (cs:Array Value) (tyr:TypeId),p=some ⟨r,0,none⟩/\r ≠ ro/\w.heap[r]? =some (.cells cs tyr (0,0))/\k*2=cs.size/\Co w ro<=k/\
  ∀j,j<Co w ro->∃z q n cap,cs[j*2]? =some (.int .i64 z)/\cs[j*2+1]? =some (.slice (some ⟨q,0,none⟩) n cap)/\q ≠ ro/\q ≠ r/\FB w q n cap/\st z=some (CA w q n))
 inj:∀i j,i<Co w ro->j<Co w ro->BJ w ro i=BJ w ro j->i=j
 all:∀z,(st z).isSome=true->∃j,j<Co w ro/\BJ w ro j=z
 dj:∀i j,i<Co w ro->j<Co w ro->HT w ro i=HT w ro j->i=j
def L7(ro:Nat)(w:World)(y:Nat):Prop:=y=ro\/Cy w ro=some y\/∃j,j<Co w ro/\HT w ro j=some y
theorem Bi{r c:Nat}{cs:Array Value}{ty:TypeId}{z:Nat×Nat}(h:w.heap[r]? =some (.cells cs ty z)):cellAt w r c=cs[c]? :=by unfold cellAt;rw[h]
theorem Br.row(h:Br st ro w){r:Nat}(hr:Cy w ro=some r):∃(cs:Array Value) (ty:TypeId),r ≠ ro/\w.heap[r]? =some (.cells cs ty (0,0))/\
 ∀j,j<Co w ro->∃z q n cap,cs[j*2]? =some (.int .i64 z)/\cs[j*2+1]? =some (.slice (some ⟨q,0,none⟩) n cap)/\q ≠ ro/\q ≠ r/\FB w q n cap/\st z=some (CA w q n)/\BJ w ro j=z/\HT w ro j=some q:=by
 obtain⟨ty,p,k,h1,h2⟩:=h.top;have hc:cellAt w ro 0=some (.slice p (Co w ro) k):=by rw[Bi h1];rfl
 rcases h2 with ⟨e,_⟩|⟨r',cs,tyr,e,h3,h4,_,_,h5⟩
 ·unfold Cy at hr;rw[hc,e]at hr;cases hr
 ·have e2:Cy w ro=some r':=by unfold Cy;rw[hc,e];rfl
  rw[e2]at hr;cases hr;refine⟨cs,tyr,h3,h4,fun j hj=>?_⟩;obtain⟨z,q,n,cap,g1,g2,g3,g4,g5,g6⟩:=h5 j hj;refine⟨z,q,n,cap,g1,g2,g3,g4,g5,g6,?_,?_⟩
  ·unfold BJ CG;rw[e2];show (match cellAt w _ (j*2) with |some v=>numOf v|none=>0)=z;rw[Bi h4,g1];rfl
  ·unfold HT CG;rw[e2];show (cellAt w _ (j*2+1)).bind CM=_;rw[Bi h4,g2];rfl
theorem Aia{j y:Nat}(h:HT w ro j=some y):∃r,Cy w ro=some r:=by
 unfold HT CG at h;cases hr:Cy w ro with
 |none=>rw[hr]at h;cases h
 |some r=>exact⟨r,rfl⟩
theorem Br.lt(h:Br st ro w){y:Nat}(hy:L7 ro w y):y<w.heap.size:=by
 rcases hy with e|e|⟨j,hj,e⟩
 ·subst e;obtain⟨_,_,_,h1,_⟩:=h.top;exact (Ht.1 h1).1
 ·obtain⟨cs,ty,_,h2,_⟩:=h.row e;exact (Ht.1 h2).1
 ·obtain⟨r,hr⟩:=Aia e;obtain⟨cs,ty,_,h2,h3⟩:=h.row hr;obtain⟨z,q,n,cap,_,_,_,_,⟨_,_,KU,ty',g,_⟩,_,_,e2⟩:=h3 j hj;rw[e2]at e;cases e;exact (Ht.1 g).1
section
variable (hs:∀y,L7 ro w y->w'.heap[y]? =w.heap[y]?)
include hs
theorem UF:Cy w' ro=Cy w ro:=by unfold Cy;rw[Fa (hs ro (.inl rfl))]
theorem Lv:Co w' ro=Co w ro:=by unfold Co;rw[Fa (hs ro (.inl rfl))]
theorem Te(i:Nat):CG w' ro i=CG w ro i:=by
 unfold CG;rw[UF hs];cases hr:Cy w ro with
 |none=>rfl
 |some r=>show cellAt w' r i=cellAt w r i;exact Fa (hs r (.inr (.inl hr)))
theorem Zp(j:Nat):BJ w' ro j=BJ w ro j:=by unfold BJ;rw[Te hs]
theorem Zq(j:Nat):HT w' ro j=HT w ro j:=by unfold HT;rw[Te hs]
theorem AhZ(y:Nat):L7 ro w' y↔L7 ro w y:=by
 unfold L7;rw[UF hs,Lv hs];simp only[Zq hs]
end
theorem Hy{q n cap:Nat}(h:w'.heap[q]? =w.heap[q]?)(hc:FB w q n cap):FB w' q n cap:=by
 obtain⟨a,b,cs,ty,c,d⟩:=hc;exact⟨a,b,cs,ty,by rw[h];exact c,d⟩
theorem Hv{q n:Nat}(h:w'.heap[q]? =w.heap[q]?):CA w' q n=CA w q n:=by
 unfold CA;simp only[Fa h]
theorem Br.loc(h:Br st ro w)(hs:∀y,L7 ro w y->w'.heap[y]? =w.heap[y]?):Br st ro w'/\∀y,L7 ro w' y↔L7 ro w y:=by
 refine⟨⟨?_,?_,?_,?_⟩,AhZ hs⟩
 ·obtain⟨ty,p,k,h1,h2⟩:=h.top;have hc:cellAt w ro 0=some (.slice p (Co w ro) k):=by rw[Bi h1];rfl
  refine⟨ty,p,k,by rw[Lv hs,hs ro (.inl rfl)];exact h1,?_⟩;rw[Lv hs];rcases h2 with e|⟨r,cs,tyr,e,h3,h4,h5,h6,h7⟩
  ·exact .inl e
  ·have e2:Cy w ro=some r:=by unfold Cy;rw[hc,e];rfl
   refine .inr ⟨r,cs,tyr,e,h3,by rw[hs r (.inr (.inl e2))];exact h4,h5,h6,fun j hj=>?_⟩;obtain⟨z,q,n,cap,g1,g2,g3,g4,g5,g6⟩:=h7 j hj;have e3:HT w ro j=some q:=by
    unfold HT CG;rw[e2];show (cellAt w r (j*2+1)).bind CM=_;rw[Bi h4,g2];rfl
   have e4:=hs q (.inr (.inr ⟨j,hj,e3⟩));exact⟨z,q,n,cap,g1,g2,g3,g4,Hy e4 g5,by rw[Hv e4];exact g6⟩
 ·simp only[Lv hs,Zp hs];exact h.inj
 ·simp only[Lv hs,Zp hs];exact h.all
 ·simp only[Lv hs,Zq hs];exact h.dj
def AoI(st:Int->Option Bool)(ro:Nat):Zv:=⟨Br st ro,L7 ro,fun _ _ h=>h.lt,fun _ _ h=>h.loc⟩
def D0(st:Int->Option Bool):CH:=.mk (fun ro=>AoI st ro) (fun _=>0) (fun _ _ _=>undef) (fun _ z=>(st z).map .bool) (fun _=>.no)
def Bz(w:World)(ro j:Nat):Nat:=match CG w ro (j*2+1) with |some (.slice _ n _)=>n|_=>0
def GZ(w:World)(ro j:Nat):Nat:=match CG w ro (j*2+1) with |some (.slice _ _ n)=>n|_=>0
def Im(w:World)(ro j:Nat):Nat:=(HT w ro j).getD 0
theorem Br.el(h:Br st ro w){r:Nat}(hr:Cy w ro=some r):∃(cs:Array Value) (ty tyo:TypeId) (k:Nat),r ≠ ro/\w.heap[r]? =some (.cells cs ty (0,0))/\w.heap[ro]? =some (.cells #[.slice (some ⟨r,0,none⟩) (Co w ro) k] tyo (0,0))/\k*2=cs.size/\Co w ro<=k/\
 ∀j,j<Co w ro->cs[j*2]? =some (.int .i64 (BJ w ro j))/\cs[j*2+1]? =some (.slice (some ⟨Im w ro j,0,none⟩) (Bz w ro j) (GZ w ro j))/\Im w ro j ≠ ro/\Im w ro j ≠ r/\FB w (Im w ro j) (Bz w ro j) (GZ w ro j)/\st (BJ w ro j)=some (CA w (Im w ro j) (Bz w ro j))/\HT w ro j=some (Im w ro j):=by
 obtain⟨ty,p,k,h1,h2⟩:=h.top;have hc:cellAt w ro 0=some (.slice p (Co w ro) k):=by rw[Bi h1];rfl
 rcases h2 with ⟨e,_⟩|⟨r',cs,tyr,e,h3,h4,h5,h6,h7⟩
 ·unfold Cy at hr;rw[hc,e]at hr;cases hr
 ·have e2:Cy w ro=some r':=by unfold Cy;rw[hc,e];rfl
  rw[e2]at hr;cases hr;rw[e]at h1;refine⟨cs,tyr,ty,k,h3,h4,h1,h5,h6,fun j hj=>?_⟩;obtain⟨z,q,n,cap,g1,g2,g3,g4,g5,g6⟩:=h7 j hj;have c1:CG w ro (j*2)=some (.int .i64 z):=by unfold CG;rw[e2];show cellAt w _ (j*2)=_;rw[Bi h4,g1]
  have c2:CG w ro (j*2+1)=some (.slice (some ⟨q,0,none⟩) n cap):=by unfold CG;rw[e2];show cellAt w _ (j*2+1)=_;rw[Bi h4,g2]
  have d1:BJ w ro j=z:=by unfold BJ;rw[c1];rfl
  have d2:HT w ro j=some q:=by unfold HT;rw[c2];rfl
  have d3:Im w ro j=q:=by unfold Im;rw[d2];rfl
  have d4:Bz w ro j=n:=by unfold Bz;rw[c2]
  have d5:GZ w ro j=cap:=by unfold GZ;rw[c2]
  rw[d1,d3,d4,d5];exact⟨g1,g2,g3,g4,g5,g6,d2⟩
theorem Br.RG(h:Br st ro w){j:Nat}(hj:j<Co w ro):∃r,Cy w ro=some r:=by
 obtain⟨ty,p,k,h1,h2⟩:=h.top;have hc:cellAt w ro 0=some (.slice p (Co w ro) k):=by rw[Bi h1];rfl
 rcases h2 with ⟨_,e,_⟩|⟨r',cs,tyr,e,_⟩
 ·omega
 ·exact⟨r',by unfold Cy;rw[hc,e];rfl⟩
end Eng
end
