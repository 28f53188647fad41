/- slices.Delete, slices.Insert and sorted keys, as contracts. No conditions beside those in its theorems. -/
import Derived.Test.YtijplfaplkkpcaaGreatE18
import Derived.Test.YtijplfaplkkpcaaGreatRuleD
import Derived.Test.YtijplfaplkkpcaaGreatE14
import Derived.Lib.QuoteBits
import Derived.Shelf.SlIterI.Nil
import Derived.Shelf.SortM.Plain
import Derived.Shelf.SortM.SortNone
import Derived.Ground.GgzProg
import Derived.Ground.SlgmProg
import Derived.Test.YtijplfaplkkpcaaGreatProg
set_option linter.unusedVariables false
set_option linter.unusedSimpArgs false
set_option linter.unusedSectionVars false
set_option linter.constructorNameAsVariable false
set_option maxRecDepth 100000
noncomputable section
namespace Go.Proofs
open Go.Shelf Go.RowKit Go.Lib Eng
namespace Row
set_option maxHeartbeats 4000000
theorem AmA(b c n i j:Nat)(cs:Array Value)(ty:TypeId)(w:World)(hw:w.heap[b]? =some (.cells cs ty (0,0)))(hj1:i<j)(hj2:j<=i+1)(hin:i<n)(hnc:n<=c)(hcs:c*1<=cs.size)(h1:∀(k:Nat) (u:Value),k<n*1->cs[k]? =some u->u.oneCell'=true)(hn:n<=1000000):
 Calls Tryz.prog 298 #[.slice (some ⟨b,0,none⟩) n c,.int .i64 i,.int .i64 j] w fun e w'=>e=.returned (.slice (some ⟨b,0,none⟩) (n-1) c)/\
  w'=(w.drew.setCells b (i*1) ((cs.toList.take (n*1)).drop ((i+1)*1))).setCells b ((n-1)) [.int .i64 0]:=by
 have hu:Tryz.prog.underlying 62=some (.slice 3):=by kernel_rfl
 have hsz:(Tryz.prog.info? 3).map (·.size)=some 1:=by kernel_rfl
 obtain⟨i0,hi0,hzi⟩:∃i0,Tryz.prog.info? 3=some i0/\i0.size=1:=by
  cases hq:Tryz.prog.info? 3 with
  |none=>rw[hq]at hsz;cases hsz
  |some i=>rw[hq]at hsz;exact⟨i,rfl,by simpa using hsz⟩
 have zE:∀w,(Go.sizeOf 3).run Tryz.prog w=.ok 1 w:=fun w=>by simp[Go.sizeOf,typeInfo,hi0,hzi]
 obtain⟨z,hzv,hzc⟩:∃z:Value,(Tryz.prog.info? 3).map (·.zero)=some (some z)/\z.cells=([.int .i64 0]:List Value).toArray:=⟨.int .i64 0,by kernel_rfl,by rfl⟩
 have vE:∀w,(zeroValue 3).run Tryz.prog w=.ok z w:=fun w=>by
  rw[hi0]at hzv
  simp at hzv
  simp[zeroValue,typeInfo,hi0,hzv]
 obtain⟨news,hnews⟩:∃news,news=(cs.toList.take (n*1)).drop ((i+1)*1):=⟨_,rfl⟩
 rw[<-hnews]
 have hlen:news.length=(n-1-i)*1:=by rw[hnews];simp;omega
 have hcl:∀k,k<cs.size->(w.drew.cell? ⟨b,k,none⟩).isSome=true:=fun k hk=>by
  show (w.cell? _).isSome=true
  simp only[World.cell?,hw]
  rw[Array.getElem?_eq_getElem hk];rfl
 have hfz:∀k,w.drew.frozen? ⟨b,k,none⟩=false:=fun k=>by
  show w.frozen? _=false
  simp[World.frozen?,hw]
 have hget:∀t u,news[t]? =some u->w.drew.cell? ⟨b,(i+1)*1+t,none⟩=some u:=fun t u hu=>by
  rw[hnews,List.getElem?_drop,List.getElem?_take]at hu
  split at hu
  ·show w.cell? _=_
   simp only[World.cell?,hw]
   simpa using hu
  ·cases hu
 have hn1:∀u∈news,u.oneCell'=true:=fun u hu=>by
  obtain⟨t,ht⟩:=List.getElem?_of_mem hu
  rw[hnews,List.getElem?_drop,List.getElem?_take]at ht
  split at ht
  ·rename_i hk
   exact h1 _ u hk (by simpa using ht)
  ·cases ht
 obtain⟨A,hA,hsrc⟩:∃A:Addr,(if c=j then some (⟨b,0,none⟩:Addr) else some ⟨b,j,none⟩)=some A/\Hid (∀t u,news[t]? =some u->w.drew.cell? (A.add t)=some u):=by
  by_cases h:c=j
  ·refine⟨⟨b,0,none⟩,by simp[h],fun t u hu=>?_⟩
   have h0:news.length=0:=by rw[hlen];omega
   rw[List.length_eq_zero_iff.1 h0]at hu
   simp at hu
  ·refine⟨⟨b,j,none⟩,by simp[h],fun t u hu=>?_⟩
   rw[Addr.add_lit]
   have:=hget t u hu
   rwa [show (i+1)*1=j by omega]at this
 have s1:Hid (news.length=(n-j)*1):=by rw[hlen];congr 1;omega
 have s2:Hid (∀u∈news,u.oneCell'=true):=hn1
 have s3:Hid (∀t,t<news.length->(w.drew.cell? ⟨b,0+i*1+t,none⟩).isSome=true/\w.drew.frozen? ⟨b,0+i*1+t,none⟩=false):=fun t ht=>⟨hcl _ (by rw[hlen]at ht;omega),hfz _⟩
 obtain⟨W1,hW1⟩:∃W1,W1=w.drew.setCells b (0+i*1) news:=⟨_,rfl⟩
 have hcl1:∀k,k<cs.size->(W1.cell? ⟨b,k,none⟩).isSome=true:=fun k hk=>by
  by_cases hin:0+i*1<=k/\k<0+i*1+news.length
  ·have:=World.cell?_setCells_in b news (0+i*1) w.drew (fun j hj=>(s3.out j hj).1) (k-(0+i*1)) (by omega)
   rw[show 0+i*1+(k-(0+i*1))=k by omega]at this
   rw[hW1,this];rfl
  ·rw[hW1,World.cell?_setCells_out b news (0+i*1) w.drew ⟨b,k,none⟩ (fun _ _=>by show k<_\/_<=k;omega)]
   exact hcl k hk
 have hcr:∀ty cc,(Builtin.clear_ #[62] ty #[.slice (some ⟨b,(i+(n-j)),none⟩) (n-(i+(n-j))) cc]).run Tryz.prog W1=.ok (.tuple #[]) (W1.setCells b ((n-1)) [.int .i64 0]):=fun ty cc=>by
  rw[show i+(n-j)=n-1 by omega,show n-(n-1)=1 by omega]
  exact Row.LP W1 62 3 ty z _ hu vE hzc (by decide) b _ cc (fun k hk=>hcl1 ((n-1)+k) (by have hk':k<1:=hk;omega)) (fun j hj=>by rw[hW1,World.frozen?_setCells];exact hfz _)
 have hW:Hid (W1=w.drew.setCells b (0+i*1) news):=hW1
 have hq:i<=c:=by omega
 have hq2:j<=c:=by omega
 have hq3:i<=n:=by omega
 have hq4:j<=n:=by omega
 have hq5:¬((i:Int)=(j:Int)):=by omega
 have mixed:Tryz.prog.follows .mixedOrders=true:=by kernel_rfl
 rw[show i*1=0+i*1 by omega,<-hW1]
 clear hW1 hcl1 hcl hget hnews hlen hn1 hsz hzv h1 hcs
 go_enter Tryz.func298,Tryz.ntmps298
 go_wp2_with fail
 go_region_law_o (refine step_append_room rfl (.tmp 22) (.tmp 25) 62 rfl 3 i0 1 hu hi0 hzi b 0 i c (by simp[Act.eval,Act.put]) A (n-j) (c-j) news (by simp[Act.eval,Act.put]) s1.out hsrc.out s2.out (by omega) s3.out ?_;rw[<-hW.out])
 go_wp2
 go_ret
 refine⟨?_,rfl⟩
 rw[show n-1=i+(n-j) by omega]
 rfl
theorem Am9(b c n i j:Nat)(cs:Array Value)(ty:TypeId)(w:World)(hw:w.heap[b]? =some (.cells cs ty (0,0)))(hj1:i<j)(hj2:j<=i+1)(hin:i<n)(hnc:n<=c)(hcs:c*9<=cs.size)(h1:∀(k:Nat) (u:Value),k<n*9->cs[k]? =some u->u.oneCell'=true)(hn:n<=1000000):
 Calls Tryz.prog 297 #[.slice (some ⟨b,0,none⟩) n c,.int .i64 i,.int .i64 j] w fun e w'=>e=.returned (.slice (some ⟨b,0,none⟩) (n-1) c)/\
  w'=(w.drew.setCells b (i*9) ((cs.toList.take (n*9)).drop ((i+1)*9))).setCells b ((n-1)*9) (List.replicate 9 (Value.int .i64 0)):=by
 have hu:Tryz.prog.underlying 54=some (.slice 45):=by kernel_rfl
 have hsz:(Tryz.prog.info? 45).map (·.size)=some 9:=by kernel_rfl
 obtain⟨i0,hi0,hzi⟩:∃i0,Tryz.prog.info? 45=some i0/\i0.size=9:=by
  cases hq:Tryz.prog.info? 45 with
  |none=>rw[hq]at hsz;cases hsz
  |some i=>rw[hq]at hsz;exact⟨i,rfl,by simpa using hsz⟩
 have zE:∀w,(Go.sizeOf 45).run Tryz.prog w=.ok 9 w:=fun w=>by simp[Go.sizeOf,typeInfo,hi0,hzi]
 obtain⟨z,hzv,hzc⟩:∃z:Value,(Tryz.prog.info? 45).map (·.zero)=some (some z)/\z.cells=((List.replicate 9 (Value.int .i64 0)):List Value).toArray:=⟨.agg (List.replicate 9 (Value.int .i64 0)).toArray,by kernel_rfl,by rfl⟩
 have vE:∀w,(zeroValue 45).run Tryz.prog w=.ok z w:=fun w=>by
  rw[hi0]at hzv
  simp at hzv
  simp[zeroValue,typeInfo,hi0,hzv]
 obtain⟨news,hnews⟩:∃news,news=(cs.toList.take (n*9)).drop ((i+1)*9):=⟨_,rfl⟩
 rw[<-hnews]
 have hlen:news.length=(n-1-i)*9:=by rw[hnews];simp;omega
 have hcl:∀k,k<cs.size->(w.drew.cell? ⟨b,k,none⟩).isSome=true:=fun k hk=>by
  show (w.cell? _).isSome=true
  simp only[World.cell?,hw]
  rw[Array.getElem?_eq_getElem hk];rfl
 have hfz:∀k,w.drew.frozen? ⟨b,k,none⟩=false:=fun k=>by
  show w.frozen? _=false
  simp[World.frozen?,hw]
 have hget:∀t u,news[t]? =some u->w.drew.cell? ⟨b,(i+1)*9+t,none⟩=some u:=fun t u hu=>by
  rw[hnews,List.getElem?_drop,List.getElem?_take]at hu
  split at hu
  ·show w.cell? _=_
   simp only[World.cell?,hw]
   simpa using hu
  ·cases hu
 have hn1:∀u∈news,u.oneCell'=true:=fun u hu=>by
  obtain⟨t,ht⟩:=List.getElem?_of_mem hu
  rw[hnews,List.getElem?_drop,List.getElem?_take]at ht
  split at ht
  ·rename_i hk
   exact h1 _ u hk (by simpa using ht)
  ·cases ht
 obtain⟨A,hA,hsrc⟩:∃A:Addr,(if c=j then some (⟨b,0,none⟩:Addr) else some ⟨b,j*9,none⟩)=some A/\Hid (∀t u,news[t]? =some u->w.drew.cell? (A.add t)=some u):=by
  by_cases h:c=j
  ·refine⟨⟨b,0,none⟩,by simp[h],fun t u hu=>?_⟩
   have h0:news.length=0:=by rw[hlen];omega
   rw[List.length_eq_zero_iff.1 h0]at hu
   simp at hu
  ·refine⟨⟨b,j*9,none⟩,by simp[h],fun t u hu=>?_⟩
   rw[Addr.add_lit]
   have:=hget t u hu
   rwa [show (i+1)*9=j*9 by omega]at this
 have s1:Hid (news.length=(n-j)*9):=by rw[hlen];congr 1;omega
 have s2:Hid (∀u∈news,u.oneCell'=true):=hn1
 have s3:Hid (∀t,t<news.length->(w.drew.cell? ⟨b,0+i*9+t,none⟩).isSome=true/\w.drew.frozen? ⟨b,0+i*9+t,none⟩=false):=fun t ht=>⟨hcl _ (by rw[hlen]at ht;omega),hfz _⟩
 obtain⟨W1,hW1⟩:∃W1,W1=w.drew.setCells b (0+i*9) news:=⟨_,rfl⟩
 have hcl1:∀k,k<cs.size->(W1.cell? ⟨b,k,none⟩).isSome=true:=fun k hk=>by
  by_cases hin:0+i*9<=k/\k<0+i*9+news.length
  ·have:=World.cell?_setCells_in b news (0+i*9) w.drew (fun j hj=>(s3.out j hj).1) (k-(0+i*9)) (by omega)
   rw[show 0+i*9+(k-(0+i*9))=k by omega]at this
   rw[hW1,this];rfl
  ·rw[hW1,World.cell?_setCells_out b news (0+i*9) w.drew ⟨b,k,none⟩ (fun _ _=>by show k<_\/_<=k;omega)]
   exact hcl k hk
 have hcr:∀ty cc,(Builtin.clear_ #[54] ty #[.slice (some ⟨b,(i+(n-j))*9,none⟩) (n-(i+(n-j))) cc]).run Tryz.prog W1=.ok (.tuple #[]) (W1.setCells b ((n-1)*9) (List.replicate 9 (Value.int .i64 0))):=fun ty cc=>by
  rw[show i+(n-j)=n-1 by omega,show n-(n-1)=1 by omega]
  exact Row.LP W1 54 45 ty z _ hu vE hzc (by decide) b _ cc (fun k hk=>hcl1 ((n-1)*9+k) (by have hk':k<9:=hk;omega)) (fun j hj=>by rw[hW1,World.frozen?_setCells];exact hfz _)
 have hW:Hid (W1=w.drew.setCells b (0+i*9) news):=hW1
 have hq:i<=c:=by omega
 have hq2:j<=c:=by omega
 have hq3:i<=n:=by omega
 have hq4:j<=n:=by omega
 have hq5:¬((i:Int)=(j:Int)):=by omega
 have mixed:Tryz.prog.follows .mixedOrders=true:=by kernel_rfl
 rw[show i*9=0+i*9 by omega,<-hW1]
 clear hW1 hcl1 hcl hget hnews hlen hn1 hsz hzv h1 hcs
 go_enter Tryz.func297,Tryz.ntmps297
 go_wp2_with fail
 go_region_law_o (refine step_append_room rfl (.tmp 22) (.tmp 25) 54 rfl 45 i0 9 hu hi0 hzi b 0 i c (by simp[Act.eval,Act.put]) A (n-j) (c-j) news (by simp[Act.eval,Act.put]) s1.out hsrc.out s2.out (by omega) s3.out ?_;rw[<-hW.out])
 go_wp2
 go_ret
 refine⟨?_,rfl⟩
 rw[show n-1=i+(n-j) by omega]
 rfl
end Row
end Go.Proofs
namespace Eng
open Go Go.RowKit Go.Proofs
variable {U U':An} {J J':A1}
theorem Abd{x:Int}(h0:0<=x)(h1:x<=9223372036854775807):IntKind.i64.wrap x=x:=by
 obtain⟨n,rfl⟩:∃n:Nat,x=n:=⟨x.toNat,by omega⟩
 exact Lib.wrap_i64_small n (by omega)
theorem AiP{cs Z:List Value}{a M e:Nat}(ha:a<=M)(hl:M+e<=cs.length)(hZ:Z.length=e){A c1 c2:List Value}(hA:A=(cs.take (M+e)).drop (a+e))(h1:c1=cs.take a++A++cs.drop (a+A.length))
 (h2:c2=c1.take M++Z++c1.drop (M+Z.length)):c2.length=cs.length/\(∀k,k<M->c2[k]? =if k<a then cs[k]? else cs[k+e]?)/\∀u∈c2,u∈cs\/u∈Z:=by
 have hAl:A.length=M-a:=by rw[hA];simp;omega
 have h1l:c1.length=cs.length:=by rw[h1];simp[hAl];omega
 refine⟨by rw[h2];simp[h1l,hZ];omega,fun k hk=>?_,fun u hu=>?_⟩
 ·rw[h2,List.append_assoc,List.getElem?_append_left (by simp;omega),List.getElem?_take,if_pos hk,h1,List.append_assoc]
  by_cases h:k<a
  ·rw[if_pos h,List.getElem?_append_left (by simp;omega),List.getElem?_take,if_pos h]
  ·rw[if_neg h,List.getElem?_append_right (by simp;omega),List.getElem?_append_left (by simp;omega),hA,List.getElem?_drop,List.getElem?_take,if_pos (by simp;omega)]
   congr 1
   simp;omega
 ·have m1:∀u∈c1,u∈cs:=fun u hu=>by
   rw[h1]at hu;simp only[List.mem_append]at hu;rcases hu with (hu|hu)|hu
   ·exact List.mem_of_mem_take hu
   ·rw[hA]at hu;exact List.mem_of_mem_take (List.mem_of_mem_drop hu)
   ·exact List.mem_of_mem_drop hu
  rw[h2]at hu;simp only[List.mem_append]at hu;rcases hu with (hu|hu)|hu
  ·exact .inl (m1 u (List.mem_of_mem_take hu))
  ·exact .inr hu
  ·exact .inl (m1 u (List.mem_of_mem_drop hu))
def WG(P:Program)(f es:Nat):Prop:=∀(b c n i j:Nat) (cs:Array Value) (ty:TypeId) (w:World),w.heap[b]? =some (.cells cs ty (0,0))->i<j->j<=i+1->i<n->n<=c->c*es<=cs.size->
 (∀(k:Nat) (u:Value),k<n*es->cs[k]? =some u->u.oneCell'=true)->n<=1000000->
 ∃(d:Nat) (KU:Array Value),Row.Kr P f #[.slice (some ⟨b,0,none⟩) n c,.int .i64 i,.int .i64 j] w (.slice (some ⟨b,0,none⟩) (n-1) c) (putObj {w with drawn:=d} b (.cells KU ty (0,0)))/\KU.size=cs.size/\
  (∀k,k<(n-1)*es->KU[k]? =if k<i*es then cs[k]? else cs[k+es]?)/\∀(k:Nat) (u:Value),k<(n-1)*es->KU[k]? =some u->u.oneCell'=true
theorem WG.of{P:Program}{f es:Nat}{zs:List Value}(hz:zs.length=es)(hz1:∀v∈zs,v.oneCell'=true)(he:Enters P f)
 (h:∀(b c n i j:Nat) (cs:Array Value) (ty:TypeId) (w:World),w.heap[b]? =some (.cells cs ty (0,0))->i<j->j<=i+1->i<n->n<=c->c*es<=cs.size->
  (∀(k:Nat) (u:Value),k<n*es->cs[k]? =some u->u.oneCell'=true)->n<=1000000->
  Calls P f #[.slice (some ⟨b,0,none⟩) n c,.int .i64 i,.int .i64 j] w fun e w'=>e=.returned (.slice (some ⟨b,0,none⟩) (n-1) c)/\
   w'=(w.drew.setCells b (i*es) ((cs.toList.take (n*es)).drop ((i+1)*es))).setCells b ((n-1)*es) zs):WG P f es:=by
 intro b c n i j cs ty w hw h1 h2 h3 h4 h5 h6 h7;have hn:n*es<=c*es:=Nat.mul_le_mul_right _ h4;have Bs:(n-1)*es+es=n*es:=by rw[<-Nat.succ_mul];congr 1;omega
 have hie:(i+1)*es=i*es+es:=Nat.succ_mul _ _;have PX:i*es<=(n-1)*es:=Nat.mul_le_mul_right _ (by omega);obtain⟨A,hA⟩:∃A,A=(cs.toList.take ((n-1)*es+es)).drop (i*es+es):=⟨_,rfl⟩
 obtain⟨c1,OD⟩:∃c1,c1=cs.toList.take (i*es)++A++cs.toList.drop (i*es+A.length):=⟨_,rfl⟩
 obtain⟨c2,hc2⟩:∃c2,c2=c1.take ((n-1)*es)++zs++c1.drop ((n-1)*es+zs.length):=⟨_,rfl⟩
 obtain⟨g1,g2,g3⟩:=AiP PX (by simp;omega) hz hA OD hc2;have hAl:A.length=(n-1)*es-i*es:=by rw[hA];simp;omega
 have hA1:∀v∈A,v.oneCell'=true:=fun v hv=>by
  rw[hA]at hv;obtain⟨k,hk⟩:=List.getElem?_of_mem (List.mem_of_mem_drop hv);rw[List.getElem?_take]at hk;split at hk
  ·exact h6 k v (by omega) (by simpa using hk)
  ·cases hk
 have hc:=h b c n i j cs ty w hw h1 h2 h3 h4 h5 h6 h7;rw[<-Bs,hie,<-hA]at hc;have hd:w.drew.heap[b]? =some (.cells cs ty (0,0)):=hw
 have Au:b<w.drew.heap.size:=(Ht.1 hd).1;rw[Row.Ea P hd (by omega) hA1,<-OD,Row.Ea P (Cf _ _ Au) (by rw[hz];simp[OD];omega) hz1,Row.Acr]at hc;simp only[List.size_toArray,List.toList_toArray]at hc;rw[<-hc2]at hc;refine⟨w.drawn+1,c2.toArray,Row.Hw he (hc.mono fun e w' h=>⟨h.1,h.2⟩),by simpa using g1,fun k hk=>?_,fun k u hkl hk=>?_⟩
 ·have:=g2 k hk;simpa using this
 ·have hq:=g2 k hkl;rw[show c2[k]? =some u by simpa using hk]at hq;split at hq
  ·exact h6 k u (by omega) (by simpa using hq.symm)
  ·exact h6 (k+es) u (by omega) (by simpa using hq.symm)
def Mk(f es:Nat)(ks:List Ck):Bq:=
 {f:=f,args:=[.one (.C2 0 es (.var 0)),.one (.sym .i64 (.var 1)),.one (.sym .i64 (.bin .add .i64 (.var 1) (.lit 1)))],bl:=[(0,.row 2 es (.var 0) [])],n:=1,np:=3,hi:=5,
  cf:=[⟨.geq,.var 1,.lit 0,true⟩,⟨.lss,.var 1,.var 0,true⟩,⟨.leq,.var 0,.lit 65536,true⟩],rd:=[(2,ks)],
  outs:=[{v:=.one (.C2 0 es (.var 4)),AX:=[(0,.row 3 es (.var 4) [])],n1:=1,cf:=[⟨.geq,.var 4,.lit 0,true⟩,⟨.lss,.var 4,.var 0,true⟩,⟨.eql,.var 4,.bin .sub .i64 (.var 0) (.lit 1),true⟩,AG 7 [.var 0,.var 1] [2,3]],rd:=[(3,ks)]}]}
def AiO(U:An)(j c:Nat):Value:=if (j:Int)<U 1 then U.r 2 j c else U.r 2 (j+1) c
def AmB(U:An):An:={U with v:=fun i=>if i=4 then U 0-1 else U i,r:=fun t=>if t=3 then AiO U else U.r t}
theorem TO{W:Wd}{f es:Nat}(h:WG W.P f es)(ks:List Ck)(hes:0<es)(hk:WA ks=true)(hlv:leaves [(0,.row 2 es (.var 0) [])] 1 [(0,.row 3 es (.var 4) [])] 1 ((Aa [(0,.row 2 es (.var 0) [])] 1).put 0 (.row 3 es (.var 4) []))=true):(Mk f es ks).ok W:=by
 intro U hp;have c1:=hp.cf.mem ⟨.geq,.var 1,.lit 0,true⟩ (by simp[Mk]);have c2:=hp.cf.mem ⟨.lss,.var 1,.var 0,true⟩ (by simp[Mk]);have c3:=hp.cf.mem ⟨.leq,.var 0,.lit 65536,true⟩ (by simp[Mk]);have e1:0<=U 1:=of_decide_eq_true c1;have e2:U 1<U 0:=of_decide_eq_true c2;have e3:U 0<=65536:=of_decide_eq_true c3;have hr2:=(hp.rd.mem (2,ks) (by simp[Mk])).1;have Df:Ai 3 U (AmB U):=⟨fun i hi=>if_neg (by omega),fun i hi=>if_neg (by omega),fun _ _=>rfl,rfl,fun _ _=>rfl,fun _ _=>rfl⟩;refine⟨_,List.mem_singleton.2 rfl,AmB U,Df,fun Uq2 g2=>?_⟩;have g2:Ai 5 (AmB U) Uq2:=g2;have g3:=Df.trans (g2.le (by decide:3<=5));have v0:Uq2 0=U 0:=g3.v 0 (by decide);have v1:Uq2 1=U 1:=g3.v 1 (by decide);have v4:Uq2 4=U 0-1:=g2.v 4 (by decide);have r2:Uq2.r 2=U.r 2:=g3.r 2 (by decide);have r3:Uq2.r 3=AiO U:=g2.r 3 (by decide);have hw1:IntKind.i64.wrap (U 0-1)=U 0-1:=Abd (by omega) (by omega);have hw2:IntKind.i64.wrap (U 1+1)=U 1+1:=Abd (by omega) (by omega);refine⟨⟨.cons ?_ (.cons ?_ (.cons ?_ (.cons ?_ .nil))),.cons ⟨fun j c=>?_,Eo hk⟩ .nil,trivial,.nil⟩,fun C hfu=>⟨by rfl,fun J w vs hr ha=>?_⟩⟩
 ·simp[A2,BQ,E.den,v4];omega
 ·simp[A2,BQ,E.den,v4,v0];omega
 ·simp[A2,BQ,E.den,E5,v4,v0,hw1]
 ·refine Az (show ∀(j c:Nat),Uq2.r 3 j c=if (j:Int)<Uq2 1 then Uq2.r 2 j c else Uq2.r 2 (j+1) c from fun j c=>?_);rw[r3,r2,v1];rfl
 ·show A9 _ (Uq2.r 3 j c);rw[r3];unfold AiO;split
  ·exact hr2 _ _
  ·exact hr2 _ _
 ·cases ha with
  |cons ha0 ha=>
  cases ha with
  |cons OB ha=>
  cases ha with
  |cons ha2 ha=>
  cases ha;obtain⟨p,N,k,rfl,hN,hpp⟩:=ha0;obtain rfl:=OB;obtain rfl:=ha2;have hN:(N:Int)=Uq2 0:=hN;rcases hpp with ⟨_,h0,_⟩|⟨r,S,hρ,rfl,hkS,hNk⟩
  ·omega
  ·obtain⟨o,ho,hx⟩:=hr.AE 0 r S hρ;obtain⟨cs,ty,N',rfl,b1,b2,b3,b4,b5,b6⟩:=hx _ rfl;obtain⟨i,hi⟩:∃i:Nat,(i:Int)=Uq2 1:=⟨(Uq2 1).toNat,by omega⟩
   have hN':N'=N:=by
    have b2:(N':Int)=Uq2 0:=b2;omega
   subst hN';obtain⟨d,KU,q1,q2,q3,q4⟩:=h r k N' i (i+1) cs ty w ho (by omega) (by omega) (by omega) hNk (by omega) b4 (by omega);have IQ:=hr.drew d;have ep:=Ext.drew hr d;have hone:=IQ.one hρ (x:=.row 2 es (.var 0) []) rfl (fun _ _ _ _ e=>nomatch e) (fun e=>nomatch e);have HR:=IQ.put hρ ⟨_,rfl,fun e=>nomatch e⟩ hone (.row 3 es (.var 4) []) (.cells KU ty (0,0)) ⟨KU,ty,N'-1,rfl,by omega,by show _=Uq2 4;omega,by
    have:(N'-1)*es<=N'*es:=Nat.mul_le_mul_right _ (by omega);omega,q4,(fun p h=>nomatch h),fun j c hj hc0=>by
    have hjc:j*es+c<(N'-1)*es:=by
     have:(j+1)*es<=(N'-1)*es:=Nat.mul_le_mul_right _ (by omega);rw[Nat.succ_mul]at this;omega
    have hq:=q3 (j*es+c) hjc;show ∃u,KU[j*es+c]? =some u/\u=Uq2.r 3 j c
    rw[hq,r3];unfold AiO
    by_cases hji:j<i
    ·have Au:j*es+c<i*es:=by
      have:(j+1)*es<=i*es:=Nat.mul_le_mul_right _ (by omega);rw[Nat.succ_mul]at this;omega
     rw[if_pos Au,if_pos (by omega)];obtain⟨u,hu,Ko⟩:=b6 j c (by omega) hc0;have Ko:u=Uq2.r 2 j c:=Ko;exact⟨u,hu,by rw[Ko,r2]⟩
    ·have K8:¬j*es+c<i*es:=by
      have:i*es<=j*es:=Nat.mul_le_mul_right _ (by omega);omega
     rw[if_neg K8,if_neg (by omega)];obtain⟨u,hu,Ko⟩:=b6 (j+1) c (by omega) hc0;have Ko:u=Uq2.r 2 (j+1) c:=Ko;rw[Nat.succ_mul,show j*es+es+c=j*es+c+es by omega]at hu;exact⟨u,hu,by rw[Ko,r2]⟩⟩
   have x1:(E.var 1).den Uq2=(i:Int):=hi.symm;have x2:(E.bin .add .i64 (.var 1) (.lit 1)).den Uq2=((i+1:Nat):Int):=by
    show IntKind.i64.wrap (Uq2 1+1)=_;rw[v1,hw2];omega
   have hq:Row.Kr W.P f #[Value.slice (some ⟨r,0,none⟩) N' k,.int .i64 ((E.var 1).den Uq2),.int .i64 ((E.bin .add .i64 (.var 1) (.lit 1)).den Uq2)] w (.slice (some ⟨r,0,none⟩) (N'-1) k) (putObj {w with drawn:=d} r (.cells KU ty (0,0))):=by
    rw[x1,x2];exact q1
   exact hq.q ⟨J,_,⟨some ⟨r,0,none⟩,N'-1,k,rfl,(by show _=Uq2 4;omega),.inr ⟨r,S,hρ,rfl,hkS,by omega⟩⟩,HR.1,ep.trans hr IQ HR.2,hlv⟩
theorem WI.enters{P:Program}{f:Nat}{fi:FI}(h:WI P f fi):Enters P f:=by
 obtain⟨fn,hfn,hbody,_,_,hname⟩:=h.ex;exact fun args w=>by simp[callFunc,hfn,hname,hbody]
theorem Adh:WG Tryz.prog 298 1:=.of (zs:=[.int .i64 0]) rfl (by decide) Tab.Aqd.enters fun b c n i j cs ty w h1 h2 h3 h4 h5 h6 h7 h8=>by simpa using Row.AmA b c n i j cs ty w h1 h2 h3 h4 h5 h6 h7 h8
theorem Adg:WG Tryz.prog 297 9:=.of (zs:=List.replicate 9 (.int .i64 0)) rfl (by decide) Tab.Aqc.enters fun b c n i j cs ty w h1 h2 h3 h4 h5 h6 h7 h8=>Row.Am9 b c n i j cs ty w h1 h2 h3 h4 h5 h6 h7 h8
def dI:Bq:=Mk 298 1 [.i .i64]
def dO:Bq:=Mk 297 9 (List.replicate 9 (.i .i64))
theorem AkO:dI.ok V.WD:=TO Adh _ (by decide) rfl rfl
theorem AkP:dO.ok V.WD:=TO Adg _ (by decide) rfl rfl
end Eng
namespace Eng
open Go Go.RowKit Go.Proofs
variable {U U':An} {J J':A1}
theorem Aju{cs vs D c1 c2:List Value}{a N e:Nat}(ha:a<=N)(hl:N+e<=cs.length)(hv:vs.length=e)(hD:D=(cs.take N).drop a)(h1:c1=cs.take (a+e)++D++cs.drop (a+e+D.length))(h2:c2=c1.take a++vs++c1.drop (a+vs.length)):
 c2.length=cs.length/\(∀k,k<N+e->c2[k]? =if k<a then cs[k]? else if k<a+e then vs[k-a]? else cs[k-e]?)/\∀u∈c2,u∈cs\/u∈vs:=by
 have hDl:D.length=N-a:=by rw[hD];simp;omega
 have h1l:c1.length=cs.length:=by rw[h1];simp[hDl];omega
 refine⟨by rw[h2];simp[h1l,hv];omega,fun k hk=>?_,fun u hu=>?_⟩
 ·rw[h2,List.append_assoc]
  by_cases k1:k<a
  ·rw[if_pos k1,List.getElem?_append_left (by simp;omega),List.getElem?_take,if_pos k1,h1,List.append_assoc,List.getElem?_append_left (by simp;omega),List.getElem?_take,if_pos (by omega)]
  ·rw[if_neg k1,List.getElem?_append_right (by simp;omega)];have hm:min a c1.length=a:=by omega
   by_cases k2:k<a+e
   ·rw[if_pos k2,List.getElem?_append_left (by simp;omega)]
    congr 1
    simp;omega
   ·rw[if_neg k2,List.getElem?_append_right (by simp;omega),List.getElem?_drop,h1,List.append_assoc,List.getElem?_append_right (by simp;omega),List.getElem?_append_left (by simp;omega),hD,List.getElem?_drop,List.getElem?_take,if_pos (by simp;omega)]
    congr 1
    simp;omega
 ·have m1:∀u∈c1,u∈cs:=fun u hu=>by
   rw[h1]at hu;simp only[List.mem_append]at hu;rcases hu with (hu|hu)|hu
   ·exact List.mem_of_mem_take hu
   ·rw[hD]at hu;exact List.mem_of_mem_take (List.mem_of_mem_drop hu)
   ·exact List.mem_of_mem_drop hu
  rw[h2]at hu;simp only[List.mem_append]at hu;rcases hu with (hu|hu)|hu
  ·exact .inl (m1 u (List.mem_of_mem_take hu))
  ·exact .inr hu
  ·exact .inl (m1 u (List.mem_of_mem_drop hu))
theorem AfI{cs R0 Z vs D R1 R2:List Value}{a N e:Nat}(ha:a<=N)(hl:N<=cs.length)(hv:vs.length=e)(hD:D=(cs.take N).drop a)(hR0:R0=(cs.take N).take a++Z)(hZ:N+e<=R0.length)(h1:R1=R0.take a++vs++R0.drop (a+vs.length))
 (h2:R2=R1.take (a+e)++D++R1.drop (a+e+D.length)):
 R2.length=R0.length/\(∀k,k<N+e->R2[k]? =if k<a then cs[k]? else if k<a+e then vs[k-a]? else cs[k-e]?)/\∀u∈R2,u∈cs\/u∈vs\/u∈Z:=by
 have hDl:D.length=N-a:=by rw[hD];simp;omega
 have h1l:R1.length=R0.length:=by rw[h1];simp[hv];omega
 refine⟨by rw[h2];simp[h1l,hDl];omega,fun k hk=>?_,fun u hu=>?_⟩
 ·rw[h2,List.append_assoc]
  by_cases k2:k<a+e
  ·rw[List.getElem?_append_left (by simp;omega),List.getElem?_take,if_pos k2,h1,List.append_assoc]
   by_cases k1:k<a
   ·rw[if_pos k1,List.getElem?_append_left (by simp;omega),List.getElem?_take,if_pos k1,hR0,List.getElem?_append_left (by simp;omega),List.getElem?_take,if_pos k1,List.getElem?_take,if_pos (by omega)]
   ·rw[if_neg k1,if_pos k2,List.getElem?_append_right (by simp;omega),List.getElem?_append_left (by simp;omega)]
    congr 1
    simp;omega
  ·rw[if_neg (by omega),if_neg k2,List.getElem?_append_right (by simp;omega),List.getElem?_append_left (by simp;omega),hD,List.getElem?_drop,List.getElem?_take,if_pos (by simp;omega)]
   congr 1
   simp;omega
 ·have m0:∀u∈R0,u∈cs\/u∈Z:=fun u hu=>by
   rw[hR0]at hu;rcases List.mem_append.1 hu with hu|hu
   ·exact .inl (List.mem_of_mem_take (List.mem_of_mem_take hu))
   ·exact .inr hu
  have m1:∀u∈R1,u∈cs\/u∈vs\/u∈Z:=fun u hu=>by
   rw[h1]at hu;simp only[List.mem_append]at hu;rcases hu with (hu|hu)|hu
   ·exact (m0 u (List.mem_of_mem_take hu)).imp id .inr
   ·exact .inr (.inl hu)
   ·exact (m0 u (List.mem_of_mem_drop hu)).imp id .inr
  rw[h2]at hu;simp only[List.mem_append]at hu;rcases hu with (hu|hu)|hu
  ·exact m1 u (List.mem_of_mem_take hu)
  ·rw[hD]at hu;exact .inl (List.mem_of_mem_take (List.mem_of_mem_drop hu))
  ·exact m1 u (List.mem_of_mem_drop hu)
theorem Ahe(l:Array Obj)(x y z:Obj):((l.push x).setIfInBounds l.size y).setIfInBounds l.size z=l.push z:=by
 apply Array.ext_getElem?;intro i
 by_cases hi:i=l.size
 ·subst hi;simp
 ·simp[Array.getElem?_push,hi,Ne.symm hi]
theorem Anr(b vb c vc n i:Nat)(cs ds:Array Value)(ty ty2:TypeId)(w:World)(hb:w.heap[b]? =some (.cells cs ty (0,0)))(hvb:w.heap[vb]? =some (.cells ds ty2 (0,0)))(Bs:vb ≠ b)(PX:i<n)(hnc:n<=c)(Ix:c*9=cs.size)
 (h1:∀(k:Nat) (u:Value),k<n*9->cs[k]? =some u->u.oneCell'=true) (h2:∀(k:Nat) (u:Value),ds[k]? =some u->u.oneCell'=true) (hds:ds.size=9) (hn:n<=1000000):
 ∃(d G:Nat) (KU:Array Value) (ty':TypeId),(∀k,k<(n+1)*9->KU[k]? =if k<i*9 then cs[k]? else if k<i*9+9 then ds[k-i*9]? else cs[k-9]?)/\(∀(k:Nat) (u:Value),k<(n+1)*9->KU[k]? =some u->u.oneCell'=true)/\KU.size=G*9/\n+1<=G/\
  (G=c/\ty'=ty/\Row.Kr Tryz.prog 292 #[.slice (some ⟨b,0,none⟩) n c,.int .i64 i,.slice (some ⟨vb,0,none⟩) 1 vc] w (.slice (some ⟨b,0,none⟩) (n+1) c) (putObj {w with drawn:=d} b (.cells KU ty (0,0)))\/
   Row.Kr Tryz.prog 292 #[.slice (some ⟨b,0,none⟩) n c,.int .i64 i,.slice (some ⟨vb,0,none⟩) 1 vc] w (.slice (some ⟨w.heap.size,0,none⟩) (n+1) G) (push {w with drawn:=d} (.cells KU ty' (0,0)))):=by
 have FF:(cs.toList.take (n*9)).length=n*9:=by simp;omega
 have hvl:ds.toList.length=9:=by simpa using hds
 have hcs0:∀j v,(cs.toList.take (n*9))[j]? =some v->w.cell? ⟨b,j,none⟩=some v:=fun j v hj=>by
  rw[List.getElem?_take]at hj;split at hj
  ·simp only[World.cell?,hb];simpa using hj
  ·cases hj
 have EU:∀j v,ds.toList[j]? =some v->w.cell? ⟨vb,j,none⟩=some v:=fun j v hj=>by
  simp only[World.cell?,hvb];simpa using hj
 have o2:∀v∈ds.toList,v.oneCell'=true:=fun v hv=>by
  obtain⟨k,hk⟩:=List.getElem?_of_mem hv;exact h2 k v (by simpa using hk)
 have o1c:∀v∈cs.toList.take (n*9),v.oneCell'=true:=fun v hv=>by
  obtain⟨k,hk⟩:=List.getElem?_of_mem hv;rw[List.getElem?_take]at hk;split at hk
  ·exact h1 k v (by omega) (by simpa using hk)
  ·cases hk
 have fin:∀(c2:List Value),(∀k,k<n*9+9->c2[k]? =if k<i*9 then cs.toList[k]? else if k<i*9+9 then ds.toList[k-i*9]? else cs.toList[k-9]?)->∀(k:Nat) (u:Value),k<(n+1)*9->c2[k]? =some u->u.oneCell'=true:=fun c2 g2 k u hkl hk=>by
  have hq:=g2 k (by omega);rw[hk]at hq;split at hq
  ·exact h1 k u (by omega) (by simpa using hq.symm)
  ·split at hq
   ·exact h2 (k-i*9) u (by simpa using hq.symm)
   ·exact h1 (k-9) u (by omega) (by simpa using hq.symm)
 obtain⟨D,hD⟩:∃D,D=(cs.toList.take (n*9)).drop (i*9):=⟨_,rfl⟩
 have oD:∀v∈D,v.oneCell'=true:=fun v hv=>by rw[hD]at hv;exact o1c v (List.mem_of_mem_drop hv)
 have hDl:D.length=n*9-i*9:=by rw[hD];simp;omega
 have hie:(i+1)*9=i*9+9:=by omega
 by_cases Eu:n+1<=c
 ·have hc:=Row.shift b vb c vc n i (cs.toList.take (n*9)) ds.toList w PX Eu Bs hn FF hvl hcs0
   (fun j hj=>by simp only[World.cell?,hb];rw[Array.getElem?_eq_getElem (by omega)];rfl) (fun j _=>by simp[World.frozen?,hb]) EU o1c o2
   ty2 ty ds.size cs.size (by simp[World.shape?,hvb]) (by simp[World.shape?,hb]) (by omega) (by simp[World.frozen?,hvb]) (by simp[World.frozen?,hvb])
  rw[hie,<-hD]at hc;obtain⟨c1,OD⟩:∃c1,c1=cs.toList.take (i*9+9)++D++cs.toList.drop (i*9+9+D.length):=⟨_,rfl⟩
  obtain⟨c2,hc2⟩:∃c2,c2=c1.take (i*9)++ds.toList++c1.drop (i*9+ds.toList.length):=⟨_,rfl⟩
  obtain⟨g1,g2,g3⟩:=Aju (by omega) (by simp;omega) hvl hD OD hc2;have hd:w.drew.heap[b]? =some (.cells cs ty (0,0)):=hb
  have Au:b<w.drew.heap.size:=(Ht.1 hd).1;rw[Row.Ea Tryz.prog hd (by omega) oD,<-OD,Row.Ea Tryz.prog (Cf _ _ Au) (by simp[OD];omega) o2,Row.Acr,<-hc2]at hc;refine⟨w.drawn+1,c,c2.toArray,ty,fun k hk=>by have:=g2 k (by omega);simpa using this,fun k u hkl hk=>fin c2 (fun k hk=>by simpa using g2 k hk) k u hkl (by simpa using hk),by simp at g1;simp;omega,Eu,.inl ⟨rfl,rfl,Row.Hw Tab.AkV.enters (hc.mono fun e w' h=>⟨h.1,h.2⟩)⟩⟩
 ·have hnc':c=n:=by omega
  subst hnc';obtain⟨i0,hi0,hz1,hz2,z,hz,zs,hzc,hz3,hzl0,hz4⟩:=Tab.Avp.info;have hzl:zs.length=9:=by
   have:=(hz3 (fun _=>none) {v:=fun _=>0}).length;rw[<-this];rfl
  have hc:=Row.grow b vb vc c i (cs.toList.take (c*9)) ds.toList zs w i0 z hi0 hz hz1 hz2 hzc hzl PX hn FF hvl hcs0 EU o1c o2;have K8:=grownCap_ge w (c+1) c 45;obtain⟨G,hG⟩:∃G,G=grownCap w (c+1) c 45:=⟨_,rfl⟩
  rw[<-hG]at hc K8;have hzn:∀m,(Builtin.zeroCells z.cells m).size=m*9:=fun m=>by rw[size_zeroCells,hzc];simp[hzl]
  obtain⟨Z,hZ⟩:∃Z,Z=(Builtin.zeroCells z.cells (c+1-i)).toList++(Builtin.zeroCells z.cells (G-(c+1))).toList:=⟨_,rfl⟩
  obtain⟨R0,hR0⟩:∃R0,R0=(cs.toList.take (c*9)).take (i*9)++Z:=⟨_,rfl⟩
  have hR0l:R0.length=G*9:=by rw[hR0,hZ];simp[hzn];omega
  have hRow:((cs.toList.take (c*9)).take (i*9)).toArray++Builtin.zeroCells z.cells (c+1-i)++Builtin.zeroCells z.cells (G-(c+1))=R0.toArray:=by
   apply Array.ext';rw[hR0,hZ];simp
  rw[hRow,hie,<-hD]at hc;have o3:∀v∈zs,v.oneCell'=true:=F2.one (hz3 (fun _=>none) {v:=fun _=>0})
  have o4:∀m,∀v∈(Builtin.zeroCells z.cells m).toList,v.oneCell'=true:=fun m v hv=>by
   rw[hzc]at hv;simp only[Builtin.zeroCells,Array.toList_map,Array.toList_range,List.mem_map,List.mem_range]at hv;obtain⟨k,hk,rfl⟩:=hv;have hs:zs.toArray.size=9:=by simpa using hzl
   rw[getElem!_pos zs.toArray (k % zs.toArray.size) (Nat.mod_lt _ (by omega))];exact o3 _ (by simp)
  have oZ:∀v∈Z,v.oneCell'=true:=fun v hv=>by
   rw[hZ]at hv;rcases List.mem_append.1 hv with h|h
   ·exact o4 _ v h
   ·exact o4 _ v h
  obtain⟨R1,hR1⟩:∃R1,R1=R0.take (i*9)++ds.toList++R0.drop (i*9+ds.toList.length):=⟨_,rfl⟩
  obtain⟨R2,hR2⟩:∃R2,R2=R1.take (i*9+9)++D++R1.drop (i*9+9+D.length):=⟨_,rfl⟩
  obtain⟨g1,g2,g3⟩:=AfI (by omega) (by simp;omega) hvl hD hR0 (by omega) hR1 hR2;have hw1:((w.alloc (.cells R0.toArray 45)).drew).heap[w.heap.size]? =some (.cells R0.toArray 45 (0,0)):=by
   show (w.heap.push _)[w.heap.size]? =_
   simp
  have Au:w.heap.size<((w.alloc (.cells R0.toArray 45)).drew).heap.size:=(Ht.1 hw1).1;have hw2:((putObj ((w.alloc (.cells R0.toArray 45)).drew) w.heap.size (.cells R1.toArray 45 (0,0))).drew).heap[w.heap.size]? =some (.cells R1.toArray 45 (0,0)):=Cf _ _ Au
  rw[Row.Ea Tryz.prog hw1 (by simp;omega) o2,show (R0.toArray.toList.take (i*9)++ds.toList++R0.toArray.toList.drop (i*9+ds.toList.length)).toArray=R1.toArray by rw[hR1],
   Row.Ea Tryz.prog hw2 (by simp[hR1];omega) oD,show (R1.toArray.toList.take (i*9+9)++D++R1.toArray.toList.drop (i*9+9+D.length)).toArray=R2.toArray by rw[hR2]]at hc
  refine⟨w.drawn+1+1,G,R2.toArray,45,fun k hk=>by have:=g2 k (by omega);simpa using this,fun k u hkl hk=>fin R2 (fun k hk=>by simpa using g2 k hk) k u hkl (by simpa using hk),by simp;omega,K8,.inr (Row.Hw Tab.AkV.enters (hc.mono fun e w' h=>⟨h.1,?_⟩))⟩
  ·rw[h.2];exact congrArg (fun hp=>({w with heap:=hp,drawn:=w.drawn+1+1}:World)) (Ahe w.heap _ _ _)
end Eng
namespace Eng
open Go Go.RowKit Go.Proofs
variable {U U':An} {J J':A1}
def AqT:List A:=(List.range 9).map fun c=>.sym .i64 (.var (c+3))
def AqU:Aj:=.cells (T.ofList AqT) 9 true none
def AnN:List Ck:=List.replicate 9 (.i .i64)
def Mq:Bq:=
 {f:=292,args:=[.one (.C2 0 9 (.var 0)),.one (.sym .i64 (.var 1)),.one (.slice 1 0 1 1)],bl:=[(0,.row 2 9 (.var 0) []),(1,AqU)],n:=2,np:=12,hi:=14,
  cf:=[⟨.geq,.var 1,.lit 0,true⟩,⟨.lss,.var 1,.var 0,true⟩,⟨.leq,.var 0,.lit 65535,true⟩],rd:=[(2,AnN)],
  outs:=[{v:=.one (.C2 2 9 (.var 13)),AX:=[(0,.dead),(1,AqU),(2,.row 12 9 (.var 13) [])],n1:=3,cf:=[⟨.geq,.var 13,.lit 1,true⟩,⟨.eql,.var 13,.bin .add .i64 (.var 0) (.lit 1),true⟩],rd:=[(12,AnN)]}]}
def Ajt(U:An)(j c:Nat):Value:=if (j:Int)<U 1 then U.r 2 j c else if (j:Int)=U 1 then .int .i64 (U (c+3)) else U.r 2 (j-1) c
def Ans(U:An):An:={U with v:=fun i=>if i=13 then U 0+1 else U i,r:=fun t=>if t=12 then Ajt U else U.r t}
theorem AfR{c:Nat}(hc:c<9):(T.ofList AqT).get c=some (.sym .i64 (.var (c+3))):=by
 match c,hc with
 | 0,_=>rfl
 | 1,_=>rfl
 | 2,_=>rfl
 | 3,_=>rfl
 | 4,_=>rfl
 | 5,_=>rfl
 | 6,_=>rfl
 | 7,_=>rfl
 | 8,_=>rfl
theorem Ub:Mq.ok V.WD:=by
 intro U hp;have e1:0<=U 1:=of_decide_eq_true (hp.cf.mem ⟨.geq,.var 1,.lit 0,true⟩ (by simp[Mq]));have e2:U 1<U 0:=of_decide_eq_true (hp.cf.mem ⟨.lss,.var 1,.var 0,true⟩ (by simp[Mq]));have e3:U 0<=65535:=of_decide_eq_true (hp.cf.mem ⟨.leq,.var 0,.lit 65535,true⟩ (by simp[Mq]));have hr2:=(hp.rd.mem (2,AnN) (by simp[Mq])).1;have Df:Ai 12 U (Ans U):=⟨fun i hi=>if_neg (by omega),fun i hi=>if_neg (by omega),fun _ _=>rfl,rfl,fun _ _=>rfl,fun _ _=>rfl⟩;refine⟨_,List.mem_singleton.2 rfl,Ans U,Df,fun Uq2 g2=>?_⟩;have g2:Ai 14 (Ans U) Uq2:=g2;have g3:=Df.trans (g2.le (by decide:12<=14));have v0:Uq2 0=U 0:=g3.v 0 (by decide);have v1:Uq2 1=U 1:=g3.v 1 (by decide);have v13:Uq2 13=U 0+1:=g2.v 13 (by decide);have r2:Uq2.r 2=U.r 2:=g3.r 2 (by decide);have r12:Uq2.r 12=Ajt U:=g2.r 12 (by decide);have hw1:IntKind.i64.wrap (U 0+1)=U 0+1:=Abd (by omega) (by omega);refine⟨⟨.cons ?_ (.cons ?_ .nil),.cons ⟨fun j c=>?_,trivial⟩ .nil,trivial,.nil⟩,fun C hfu=>⟨by rfl,fun J w vs hr ha=>?_⟩⟩
 ·exact decide_eq_true (by show Uq2 13>=1;omega)
 ·show (Uq2 13==IntKind.i64.wrap (Uq2 0+1))=true;rw[v13,v0,hw1];exact beq_self_eq_true _
 ·show A9 _ (Uq2.r 12 j c);rw[r12];unfold Ajt;split
  ·exact hr2 _ _
  ·split
   ·match c with
    | 0=>exact⟨_,rfl⟩
    | 1=>exact⟨_,rfl⟩
    | 2=>exact⟨_,rfl⟩
    | 3=>exact⟨_,rfl⟩
    | 4=>exact⟨_,rfl⟩
    | 5=>exact⟨_,rfl⟩
    | 6=>exact⟨_,rfl⟩
    | 7=>exact⟨_,rfl⟩
    | 8=>exact⟨_,rfl⟩
    |c+9=>exact trivial
   ·exact hr2 _ _
 ·cases ha with
  |cons ha0 ha=>
  cases ha with
  |cons OB ha=>
  cases ha with
  |cons ha2 ha=>
  cases ha;obtain⟨p,N,k,rfl,hN,hpp⟩:=ha0;obtain rfl:=OB;obtain⟨vb,S1,hρ1,rfl⟩:=ha2;have hN:(N:Int)=Uq2 0:=hN;rcases hpp with ⟨_,h0,_⟩|⟨r,S,hρ,rfl,hkS,hNk⟩
  ·omega
  ·obtain⟨o,ho,hx⟩:=hr.AE 0 r S hρ;obtain⟨cs,ty,N',rfl,b1,b2,b3,b4,b5,b6⟩:=hx _ rfl;obtain⟨o1,ho1,Qa⟩:=hr.AE 1 vb S1 hρ1;obtain⟨ds,ty2,rfl,d1,d2,d3,d4⟩:=Qa _ rfl;have hds:ds.size=9:=by rw[d1];exact (d3 rfl).symm
   have hdc:∀c,c<9->ds[c]? =some (.int .i64 (U (c+3))):=fun c hc=>by
    obtain⟨u,hu,Ko⟩:=d4 c _ (by omega) (AfR hc);have Ko:u=.int .i64 (Uq2 (c+3)):=Ko;rw[hu,Ko,g3.v (c+3) (by omega)]
   obtain⟨i,hi⟩:∃i:Nat,(i:Int)=Uq2 1:=⟨(Uq2 1).toNat,by omega⟩
   have hN':N'=N:=by
    have b2:(N':Int)=Uq2 0:=b2;omega
   subst hN';have Bs:vb ≠ r:=fun e=>by
    subst e;rcases hr.inj 0 1 vb S S1 hρ hρ1 ⟨_,rfl,fun e=>nomatch e⟩ ⟨_,rfl,fun e=>nomatch e⟩ with h|⟨c,n,f,h⟩
    ·exact absurd h (by decide)
    ·exact nomatch (show some (Aj.row 2 9 (.var 0) [])=some (.cells c n f (some 1)) from h)
   obtain⟨d,G,KU,ty',q1,q2,q3,q4,q5⟩:=Anr r vb k 1 N' i cs ds ty ty2 w ho ho1 Bs (by omega) hNk (by omega) b4
    (fun k u hu=>by
     have hk:k<9:=by have:=(Ht.1 hu).1;omega
     rw[hdc k hk]at hu;cases hu;rfl) hds (by omega)
   have x1:(E.var 1).den Uq2=(i:Int):=hi.symm;have hB:∀(Jq2:A1),BR Jq2 Uq2 C (.row 12 9 (.var 13) []) (.cells KU ty' (0,0)) KU.size:=fun Jq2=>
    ⟨KU,ty',N'+1,rfl,rfl,by show _=Uq2 13;omega,by rw[q3];exact Nat.mul_le_mul_right _ q4,q2,(fun p h=>nomatch h),fun j c hj hc=>by
     have hjc:j*9+c<(N'+1)*9:=by omega
     have hq:=q1 (j*9+c) hjc;show ∃u,KU[j*9+c]? =some u/\u=Uq2.r 12 j c
     rw[hq,r12];unfold Ajt
     by_cases k1:j<i
     ·rw[if_pos (by omega),if_pos (by omega)];obtain⟨u,hu,Ko⟩:=b6 j c (by omega) hc;have Ko:u=Uq2.r 2 j c:=Ko;exact⟨u,hu,by rw[Ko,r2]⟩
     ·by_cases k2:j=i
      ·subst k2;rw[if_neg (by omega),if_pos (by omega),if_neg (by omega),if_pos (by omega)];rw[show j*9+c-j*9=c by omega];exact⟨_,hdc c hc,rfl⟩
      ·rw[if_neg (by omega),if_neg (by omega),if_neg (by omega),if_neg (by omega)];obtain⟨u,hu,Ko⟩:=b6 (j-1) c (by omega) hc;have Ko:u=Uq2.r 2 (j-1) c:=Ko;rw[show j*9+c-9=(j-1)*9+c by omega];exact⟨u,hu,by rw[Ko,r2]⟩⟩
   rcases q5 with ⟨rfl,rfl,hc⟩|hc
   ·have IQ:=hr.drew d;have ep:=Ext.drew hr d;obtain⟨t1,t2⟩:=IQ.U2 hρ (X0:=.row 2 9 (.var 0) []) (X:=.row 12 9 (.var 13) []) rfl (fun _ _ _ _ e=>nomatch e) (fun e=>nomatch e) (ob:=.cells KU ty' (0,0)) (by have:=hB J;rwa [show KU.size=S by omega]at this) (fun e=>nomatch e);refine Row.Kr.q (v:=.slice (some ⟨r,0,none⟩) (N'+1) G) (by show Row.Kr _ _ #[Value.slice (some ⟨r,0,none⟩) N' G,.int .i64 ((E.var 1).den Uq2),.slice (some ⟨vb,0,none⟩) 1 1] w _ _;rw[x1];exact hc)
     ⟨_,_,⟨some ⟨r,0,none⟩,N'+1,G,rfl,by show _=Uq2 13;omega,.inr ⟨r,S,Ay _ _ _,rfl,hkS,q4⟩⟩,t1,ep.trans hr IQ t2,by rfl⟩
   ·have hd:=hr.die 0;have e0:=Ext.die hr 0;have IQ:=hd.drew d;have ep:=Ext.drew hd d;obtain⟨t1,t2⟩:=IQ.new (.row 12 9 (.var 13) []) (.cells KU ty' (0,0)) KU.size (hB _);refine Row.Kr.q (v:=.slice (some ⟨w.heap.size,0,none⟩) (N'+1) G) (by show Row.Kr _ _ #[Value.slice (some ⟨r,0,none⟩) N' k,.int .i64 ((E.var 1).den Uq2),.slice (some ⟨vb,0,none⟩) 1 1] w _ _;rw[x1];exact hc)
     ⟨_,_,⟨some ⟨w.heap.size,0,none⟩,N'+1,G,rfl,by show _=Uq2 13;omega,.inr ⟨w.heap.size,KU.size,Ay _ _ _,rfl,q3.symm,q4⟩⟩,t1,(e0.trans hr hd ep).trans hr IQ t2,by rfl⟩
end Eng
namespace Go.Proofs
open Go.Shelf
def Tryz.Ue:Go.Shelf.Ren:=⟨fun| 7=>323 | 10=>366 |n=>n,fun| 23=>283 | 26=>3 | 3=>71 | 28=>445 | 0=>0 | 27=>444 | 33=>52 | 4=>4 |n=>n,fun|n=>n⟩
theorem Tryz.AqW:Go.Proofs.SlLaysZI.n7 Tryz.prog Tryz.Ue:={
 mixed:=by kernel_rfl
 f7:=⟨Tryz.f323.name,by decide,Tryz.func323.trans (congrArg some (by kernel_rfl))⟩
 f10:=⟨Tryz.f366.name,by decide,Tryz.func366.trans (congrArg some (by kernel_rfl))⟩
 t0:=Tryz.underlying0
 a0:=Tryz.isAgg0
 z0:=Tryz.sizeOf0
 v0:=Tryz.zeroValue0
 t4:=Tryz.underlying4
 a4:=Tryz.isAgg4
 z4:=Tryz.sizeOf4
 v4:=Tryz.zeroValue4
 t23:=Tryz.underlying283
 a23:=Tryz.isAgg283
 z23:=Tryz.sizeOf283
 v23:=Tryz.zeroValue283
 t26:=Tryz.underlying3
 a26:=Tryz.isAgg3
 z26:=Tryz.sizeOf3
 v26:=Tryz.zeroValue3
 t27:=Tryz.underlying444
 a27:=Tryz.isAgg444
 z27:=Tryz.sizeOf444
 v27:=Tryz.zeroValue444
 t28:=Tryz.underlying445
 a28:=Tryz.isAgg445
 z28:=Tryz.sizeOf445
 v28:=Tryz.zeroValue445
 t33:=Tryz.underlying52
 a33:=Tryz.isAgg52
 z33:=Tryz.sizeOf52
 v33:=Tryz.zeroValue52}
def Tryz.Uf:Go.Shelf.Ren:=⟨fun| 7=>362 | 10=>374 |n=>n,fun| 23=>456 | 26=>3 | 3=>189 | 28=>445 | 0=>0 | 27=>444 | 33=>52 | 4=>4 |n=>n,fun|n=>n⟩
theorem Tryz.AqX:Go.Proofs.SlLaysZI.n7 Tryz.prog Tryz.Uf:={
 mixed:=by kernel_rfl
 f7:=⟨Tryz.f362.name,by decide,Tryz.func362.trans (congrArg some (by kernel_rfl))⟩
 f10:=⟨Tryz.f374.name,by decide,Tryz.func374.trans (congrArg some (by kernel_rfl))⟩
 t0:=Tryz.underlying0
 a0:=Tryz.isAgg0
 z0:=Tryz.sizeOf0
 v0:=Tryz.zeroValue0
 t4:=Tryz.underlying4
 a4:=Tryz.isAgg4
 z4:=Tryz.sizeOf4
 v4:=Tryz.zeroValue4
 t23:=Tryz.underlying456
 a23:=Tryz.isAgg456
 z23:=Tryz.sizeOf456
 v23:=Tryz.zeroValue456
 t26:=Tryz.underlying3
 a26:=Tryz.isAgg3
 z26:=Tryz.sizeOf3
 v26:=Tryz.zeroValue3
 t27:=Tryz.underlying444
 a27:=Tryz.isAgg444
 z27:=Tryz.sizeOf444
 v27:=Tryz.zeroValue444
 t28:=Tryz.underlying445
 a28:=Tryz.isAgg445
 z28:=Tryz.sizeOf445
 v28:=Tryz.zeroValue445
 t33:=Tryz.underlying52
 a33:=Tryz.isAgg52
 z33:=Tryz.sizeOf52
 v33:=Tryz.zeroValue52}
def Tryz.PC:Go.Shelf.Ren:=⟨fun| 6=>322 | 8=>364 | 9=>365 | 11=>375 | 13=>377 | 12=>376 | 23=>389 | 24=>390 | 14=>380 | 15=>381 | 16=>382 | 17=>383 | 18=>384 | 19=>385 | 20=>386 | 21=>387 | 22=>388 | 25=>391 | 26=>392 | 27=>393 | 28=>394 | 29=>395 | 30=>396 | 31=>397 |n=>n,fun| 26=>3 | 28=>445 | 24=>62 | 0=>0 | 3=>3 | 37=>185 | 48=>498 | 50=>66 | 4=>4 | 40=>491 | 39=>490 | 45=>495 | 5=>5 | 9=>9 | 51=>499 | 55=>154 | 57=>504 | 58=>132 | 33=>52 |n=>n,fun|n=>n⟩
theorem Tryz.Ac7:Go.Proofs.SlLaysZI.n6 Tryz.prog Tryz.PC:={
 mixed:=by kernel_rfl
 f6:=⟨Tryz.f322.name,by decide,Tryz.func322.trans (congrArg some (by kernel_rfl))⟩
 f8:=⟨Tryz.f364.name,by decide,Tryz.func364.trans (congrArg some (by kernel_rfl))⟩
 f11:=⟨Tryz.f375.name,by decide,Tryz.func375.trans (congrArg some (by kernel_rfl))⟩
 t0:=Tryz.underlying0
 a0:=Tryz.isAgg0
 z0:=Tryz.sizeOf0
 v0:=Tryz.zeroValue0
 t24:=Tryz.underlying62
 a24:=Tryz.isAgg62
 z24:=Tryz.sizeOf62
 v24:=Tryz.zeroValue62
 t26:=Tryz.underlying3
 a26:=Tryz.isAgg3
 z26:=Tryz.sizeOf3
 v26:=Tryz.zeroValue3
 t28:=Tryz.underlying445
 a28:=Tryz.isAgg445
 z28:=Tryz.sizeOf445
 v28:=Tryz.zeroValue445
 i26:=by kernel_rfl}
def Tryz.Aei:Go.Shelf.Ren:=⟨fun| 5=>365 | 8=>377 | 7=>376 | 19=>389 | 20=>390 | 10=>380 | 11=>381 | 12=>382 | 13=>383 | 14=>384 | 15=>385 | 16=>386 | 17=>387 | 18=>388 | 30=>391 | 31=>392 | 32=>393 | 33=>394 | 34=>395 | 35=>396 | 40=>397 |n=>n,fun| 23=>62 | 25=>3 | 3=>3 | 32=>185 | 22=>62 | 0=>0 | 44=>498 | 46=>66 | 4=>4 | 36=>491 | 35=>490 | 41=>495 | 5=>5 | 9=>9 | 53=>499 | 57=>154 | 63=>504 | 64=>132 |n=>n,fun|n=>n⟩
theorem Tryz.AlM:Go.Proofs.SlLaysM.n5 Tryz.prog Tryz.Aei:={
 mixed:=by kernel_rfl
 f5:=⟨Tryz.f365.name,by decide,Tryz.func365.trans (congrArg some (by kernel_rfl))⟩
 f7:=⟨Tryz.f376.name,by decide,Tryz.func376.trans (congrArg some (by kernel_rfl))⟩
 f8:=Tryz.func377.trans (congrArg some (by kernel_rfl))
 f10:=⟨Tryz.f380.name,by decide,Tryz.func380.trans (congrArg some (by kernel_rfl))⟩
 f11:=⟨Tryz.f381.name,by decide,Tryz.func381.trans (congrArg some (by kernel_rfl))⟩
 f12:=⟨Tryz.f382.name,by decide,Tryz.func382.trans (congrArg some (by kernel_rfl))⟩
 f13:=⟨Tryz.f383.name,by decide,Tryz.func383.trans (congrArg some (by kernel_rfl))⟩
 f14:=⟨Tryz.f384.name,by decide,Tryz.func384.trans (congrArg some (by kernel_rfl))⟩
 f15:=⟨Tryz.f385.name,by decide,Tryz.func385.trans (congrArg some (by kernel_rfl))⟩
 f16:=⟨Tryz.f386.name,by decide,Tryz.func386.trans (congrArg some (by kernel_rfl))⟩
 f17:=⟨Tryz.f387.name,by decide,Tryz.func387.trans (congrArg some (by kernel_rfl))⟩
 f18:=⟨Tryz.f388.name,by decide,Tryz.func388.trans (congrArg some (by kernel_rfl))⟩
 f19:=Tryz.func389.trans (congrArg some (by kernel_rfl))
 f20:=Tryz.func390.trans (congrArg some (by kernel_rfl))
 f30:=⟨Tryz.f391.name,by decide,Tryz.func391.trans (congrArg some (by kernel_rfl))⟩
 f31:=Tryz.func392.trans (congrArg some (by kernel_rfl))
 f32:=Tryz.func393.trans (congrArg some (by kernel_rfl))
 f33:=⟨Tryz.f394.name,by decide,Tryz.func394.trans (congrArg some (by kernel_rfl))⟩
 f34:=⟨Tryz.f395.name,by decide,Tryz.func395.trans (congrArg some (by kernel_rfl))⟩
 f35:=⟨Tryz.f396.name,by decide,Tryz.func396.trans (congrArg some (by kernel_rfl))⟩
 f40:=⟨Tryz.f397.name,by decide,Tryz.func397.trans (congrArg some (by kernel_rfl))⟩
 t0:=Tryz.underlying0
 a0:=Tryz.isAgg0
 z0:=Tryz.sizeOf0
 v0:=Tryz.zeroValue0
 t3:=Tryz.underlying3
 a3:=Tryz.isAgg3
 z3:=Tryz.sizeOf3
 v3:=Tryz.zeroValue3
 t4:=Tryz.underlying4
 a4:=Tryz.isAgg4
 z4:=Tryz.sizeOf4
 v4:=Tryz.zeroValue4
 t5:=Tryz.underlying5
 a5:=Tryz.isAgg5
 z5:=Tryz.sizeOf5
 v5:=Tryz.zeroValue5
 t9:=Tryz.underlying9
 a9:=Tryz.isAgg9
 z9:=Tryz.sizeOf9
 v9:=Tryz.zeroValue9
 t22:=Tryz.underlying62
 a22:=Tryz.isAgg62
 z22:=Tryz.sizeOf62
 v22:=Tryz.zeroValue62
 t23:=Tryz.underlying62
 a23:=Tryz.isAgg62
 z23:=Tryz.sizeOf62
 v23:=Tryz.zeroValue62
 t25:=Tryz.underlying3
 a25:=Tryz.isAgg3
 z25:=Tryz.sizeOf3
 v25:=Tryz.zeroValue3
 t32:=Tryz.underlying185
 a32:=Tryz.isAgg185
 z32:=Tryz.sizeOf185
 v32:=Tryz.zeroValue185
 t35:=Tryz.underlying490
 a35:=Tryz.isAgg490
 z35:=Tryz.sizeOf490
 v35:=Tryz.zeroValue490
 t36:=Tryz.underlying491
 a36:=Tryz.isAgg491
 z36:=Tryz.sizeOf491
 v36:=Tryz.zeroValue491
 t41:=Tryz.underlying495
 a41:=Tryz.isAgg495
 z41:=Tryz.sizeOf495
 v41:=Tryz.zeroValue495
 t44:=Tryz.underlying498
 a44:=Tryz.isAgg498
 z44:=Tryz.sizeOf498
 v44:=Tryz.zeroValue498
 t46:=Tryz.underlying66
 a46:=Tryz.isAgg66
 z46:=Tryz.sizeOf66
 v46:=Tryz.zeroValue66
 t53:=Tryz.underlying499
 a53:=Tryz.isAgg499
 z53:=Tryz.sizeOf499
 v53:=Tryz.zeroValue499
 t57:=Tryz.underlying154
 a57:=Tryz.isAgg154
 z57:=Tryz.sizeOf154
 v57:=Tryz.zeroValue154
 t63:=Tryz.underlying504
 a63:=Tryz.isAgg504
 z63:=Tryz.sizeOf504
 v63:=Tryz.zeroValue504
 t64:=Tryz.underlying132
 a64:=Tryz.isAgg132
 z64:=Tryz.sizeOf132
 v64:=Tryz.zeroValue132}
end Go.Proofs
section
namespace Go.Proofs
open Go.RowKit Go.Maps Go.Sort Go.Shelf Eng
theorem Tryz.AhA(m:Nat):AnyZI.SortsIn Tryz.prog Tryz.PC Fence.wide m:=
 ⟨fun AE off cap ss W hH OC Dr=>callsIn_wide.2 (AnyM.slices_Sort_int Tryz.AlM AE off cap ss W hH OC Dr),
  fun p cap W=>callsIn_wide.2 (AnyM.slices_Sort_int_none Tryz.AlM p cap W)⟩
namespace Keys
theorem Agx:∀{l m:List Int},l.Nodup->(∀x∈l,x∈m)->l.length<=m.length
 | [],_,_,_=>Nat.zero_le _
 |x::l,m,hnd,hs=>by
  have hx:=hs x GU;have hnd:=List.nodup_cons.1 hnd;have:=Agx (m:=m.erase x) hnd.2 fun y hy=>(List.mem_erase_of_ne (fun e=>hnd.1 (by rw[<-e];exact hy))).2 (hs y (Gq _ hy))
  rw[List.length_erase_of_mem hx]at this;have h0:0<m.length:=List.length_pos_of_mem hx;simp only[List.length_cons];omega
def kz(e:MapEntry):Int:=match e.key with |.int _ z=>z|_=>0
def R0:Value->Option (DataW Unit×List MemPlace):=fun _=>some (.nil,[])
structure MOK(ms:List MapEntry)(clock:Nat):Prop where
 keys:∀e∈ms,e.key=.int .i64 (kz e)/\0<=kz e/\kz e<65536
 nodup:(ms.map kz).Nodup
 born:∀e∈ms,e.born<clock
 bnd:(ms.map (·.born)).Nodup
theorem MOK.len{ms:List MapEntry}{clock:Nat}(h:MOK ms clock):ms.length<=65536:=by
 have:=Agx (l:=ms.map kz) (m:=(List.range 65536).map Int.ofNat) h.nodup fun x hx=>by
  obtain⟨e,he,rfl⟩:=List.mem_map.1 hx;obtain⟨_,h1,h2⟩:=h.keys e he;exact List.mem_map.2 ⟨(kz e).toNat,List.mem_range.2 (by omega),by show ((kz e).toNat:Int)=_;omega⟩
 simpa using this
theorem Aoe{ms:List MapEntry}{clock:Nat}(h:MOK ms clock){k:TypeId}(hk:Tryz.prog.underlying k=some (.int .i64)){e:MapEntry}(he:e∈ms):WideElems.rd Tryz.prog k R0 e=some (.int .i64 (kz e),.nil):=by
 obtain⟨h1,h2,h3⟩:=h.keys e he;unfold WideElems.rd;rw[h1,Maps.keyOf_int_mk hk (by
  have a1:IntKind.i64.min= -9223372036854775808:=by decide
  have a2:IntKind.i64.max=9223372036854775807:=by decide
  show (decide (IntKind.i64.min<=kz e)&&decide (kz e<=IntKind.i64.max))=true;rw[a1,a2,Ah,decide_eq_true_eq,decide_eq_true_eq];omega)]
 rfl
theorem owns{ms:List MapEntry}{clock b:Nat}{w:World}(h:MOK ms clock)(hb:w.heap[b]? =some (.map ms.toArray clock)){k:TypeId}(hk:Tryz.prog.underlying k=some (.int .i64)):
 w.ownsMap Tryz.prog k R0 b ms.length (.map ((ms.map (WideElems.rg Tryz.prog k R0)).foldr DataW.insert [])):=by
 refine⟨ms.toArray,clock,hb,⟨by simp[maxLen];have:=h.len;omega,⟨fun x hx=>h.born x (by simpa using hx),by simpa using h.bnd,?_⟩,fun x hx=>⟨_,Aoe h hk (by simpa using hx)⟩⟩,by simp,by simp⟩;have hn:=h.nodup;simp only[List.toList_toArray];rw[List.nodup_iff_pairwise_ne,List.pairwise_map]at hn ⊢;refine hn.imp_of_mem fun {a c} ha hc Bs e=>Bs ?_
 rw[(h.keys a ha).1,(h.keys c hc).1]at e;injection e
set_option maxHeartbeats 4000000 in
set_option maxRecDepth 100000 in
theorem Avg(b Bm:Nat)(ms:List MapEntry)(clock:Nat)(ty:TypeId)(w:World)(h:MOK ms clock)(hb:w.heap[b]? =some (.map ms.toArray clock))(hB:w.heap[Bm]? =some (.cells #[.map (some b)] ty (0,0))):
 Calls Tryz.prog 322 #[.func (.func 366) #[] #[.pointer (some ⟨Bm,0,none⟩)]] w fun e w'=>∃(v:Value) (ss:List Int),e=.returned v/\ss.Perm (ms.map kz)/\
  w'.ownsRow w.heap.size 3 1 v ss.length ((ss.mergeSort (fun x y=>decide (x<=y))).map encZ)/\Below w.heap.size w w':=by
 have hk:Tryz.prog.underlying 3=some (.int .i64):=by kernel_rfl
 have Kg:=owns h hb hk;have Au:=(Ht.1 hB).1;have Dr:Maps.size (DataW.map ((ms.map (WideElems.rg Tryz.prog 3 R0)).foldr DataW.insert []))=ms.length:=by
  rw[Maps.size_eq,(WideShapes.sorted_perm _).length_eq,List.length_map]
 have hseq:SeqGives Fence.wide 2 Tryz.prog 366 #[.pointer (some ⟨Bm,0,none⟩)] encZ (fun ss=>ss.Perm (intKeys (DataW.map ((ms.map (WideElems.rg Tryz.prog 3 R0)).foldr DataW.insert [])))) (Maps.size (DataW.map ((ms.map (WideElems.rg Tryz.prog 3 R0)).foldr DataW.insert []))) w:=
  AnyZI.keys_gives (ρ:=Tryz.Ue) {Tryz.AqW with} Fence.wide _ trivial rfl (by omega) Bm b ms.length _ w Au (by simp[World.cell?,hB]) Kg
 have hl:=h.len;have cS:=AnyZI.sorted_in Tryz.Ac7 Fence.wide 5 trivial trivial trivial trivial rfl (by omega) (Tryz.AhA _) Tab.AkX.enters 366 #[.pointer (some ⟨Bm,0,none⟩)] trivial Tab.Aqf.enters _ _ (by rw[Dr];simp only[maxLen];omega) (by rw[Dr];omega) _ hseq;change CallsIn _ _ Tryz.prog 322 _ _ _ at cS;refine (callsIn_wide.1 cS).mono ?_
 rintro e w' ⟨v,ss,rfl,hS,ET,hnil,Jo⟩
 refine⟨v,ss,rfl,hS.trans ?_,ET,Jo⟩;have e1:intKeys (DataW.map ((ms.map (WideElems.rg Tryz.prog 3 R0)).foldr DataW.insert []))=((ms.map (WideElems.rg Tryz.prog 3 R0)).foldr DataW.insert []).map fun p=>Go.intOf p.1:=rfl
 rw[e1];refine ((WideShapes.sorted_perm _).map _).trans ?_;rw[List.map_map];have e2:ms.map ((fun p:Lit×DataW Unit=>Go.intOf p.1)∘WideElems.rg Tryz.prog 3 R0)=ms.map kz:=List.map_congr_left fun e he=>by
  show Go.intOf (WideElems.rg Tryz.prog 3 R0 e).1=_;rw[WideElems.rg_of (Aoe h hk he)];rfl
 rw[e2]
set_option maxHeartbeats 4000000 in
set_option maxRecDepth 100000 in
theorem Avh(b Bm:Nat)(ms:List MapEntry)(clock:Nat)(ty:TypeId)(w:World)(h:MOK ms clock)(hb:w.heap[b]? =some (.map ms.toArray clock))(hB:w.heap[Bm]? =some (.cells #[.map (some b)] ty (0,0))):
 Calls Tryz.prog 322 #[.func (.func 374) #[] #[.pointer (some ⟨Bm,0,none⟩)]] w fun e w'=>∃(v:Value) (ss:List Int),e=.returned v/\ss.Perm (ms.map kz)/\
  w'.ownsRow w.heap.size 3 1 v ss.length ((ss.mergeSort (fun x y=>decide (x<=y))).map encZ)/\Below w.heap.size w w':=by
 have hk:Tryz.prog.underlying 3=some (.int .i64):=by kernel_rfl
 have Kg:=owns h hb hk;have Au:=(Ht.1 hB).1;have Dr:Maps.size (DataW.map ((ms.map (WideElems.rg Tryz.prog 3 R0)).foldr DataW.insert []))=ms.length:=by
  rw[Maps.size_eq,(WideShapes.sorted_perm _).length_eq,List.length_map]
 have hseq:SeqGives Fence.wide 2 Tryz.prog 374 #[.pointer (some ⟨Bm,0,none⟩)] encZ (fun ss=>ss.Perm (intKeys (DataW.map ((ms.map (WideElems.rg Tryz.prog 3 R0)).foldr DataW.insert [])))) (Maps.size (DataW.map ((ms.map (WideElems.rg Tryz.prog 3 R0)).foldr DataW.insert []))) w:=
  AnyZI.keys_gives (ρ:=Tryz.Uf) {Tryz.AqX with} Fence.wide _ trivial rfl (by omega) Bm b ms.length _ w Au (by simp[World.cell?,hB]) Kg
 have hl:=h.len;have cS:=AnyZI.sorted_in Tryz.Ac7 Fence.wide 5 trivial trivial trivial trivial rfl (by omega) (Tryz.AhA _) Tab.AkX.enters 374 #[.pointer (some ⟨Bm,0,none⟩)] trivial Tab.Aqg.enters _ _ (by rw[Dr];simp only[maxLen];omega) (by rw[Dr];omega) _ hseq;change CallsIn _ _ Tryz.prog 322 _ _ _ at cS;refine (callsIn_wide.1 cS).mono ?_
 rintro e w' ⟨v,ss,rfl,hS,ET,hnil,Jo⟩
 refine⟨v,ss,rfl,hS.trans ?_,ET,Jo⟩;have e1:intKeys (DataW.map ((ms.map (WideElems.rg Tryz.prog 3 R0)).foldr DataW.insert []))=((ms.map (WideElems.rg Tryz.prog 3 R0)).foldr DataW.insert []).map fun p=>Go.intOf p.1:=rfl
 rw[e1];refine ((WideShapes.sorted_perm _).map _).trans ?_;rw[List.map_map];have e2:ms.map ((fun p:Lit×DataW Unit=>Go.intOf p.1)∘WideElems.rg Tryz.prog 3 R0)=ms.map kz:=List.map_congr_left fun e he=>by
  show Go.intOf (WideElems.rg Tryz.prog 3 R0 e).1=_;rw[WideElems.rg_of (Aoe h hk he)];rfl
 rw[e2]
end Keys
end Go.Proofs
namespace Eng
open Go Go.RowKit Go.Proofs Go.Proofs.Keys
noncomputable def KA(clo:Nat)(ks:List Ck):Bq:=
 {f:=322,args:=[.one (.fn clo [0])],bl:=[(0,.cells (T.ofList [.map 1]) 1 true none),(1,.Ej 0 [])],n:=2,np:=1,hi:=3,mp:=[(0,ks)],
  outs:=[{v:=.one (.C2 2 1 (.var 2)),AX:=[(0,.cells (T.ofList [.map 1]) 1 true none),(1,.Ej 0 []),(2,.row 1 1 (.var 2) [])],n1:=3,cf:=[⟨.geq,.var 2,.lit 0,true⟩,⟨.leq,.var 2,.lit 65536,true⟩,AG 57 [.var 2] [1] [0]],rd:=[(1,[.i .i64])]}]}
def Dl(n:Nat)(m:Int->Option Value):List Int:=((List.range n).filter fun k=>(m (Int.ofNat k)).isSome).map Int.ofNat
theorem OL{n:Nat}{m:Int->Option Value}{z:Int}:z∈Dl n m↔0<=z/\z<n/\(m z).isSome=true:=by
 unfold Dl;simp only[List.mem_map,List.mem_filter,List.mem_range];constructor
 ·rintro ⟨k,⟨h1,h2⟩,rfl⟩
  exact⟨Int.natCast_nonneg k,Int.ofNat_lt.2 h1,h2⟩
 ·rintro ⟨h1,h2,h3⟩
  obtain⟨k,rfl⟩:∃k:Nat,z=Int.ofNat k:=⟨z.toNat,(Int.toNat_of_nonneg h1).symm⟩
  exact⟨k,⟨Int.ofNat_lt.1 h2,h3⟩,rfl⟩
theorem Yk{n:Nat}{m:Int->Option Value}:(Dl n m).Nodup:=by
 unfold Dl;rw[List.nodup_iff_pairwise_ne,List.pairwise_map];have h:((List.range n).filter fun k=>(m (Int.ofNat k)).isSome).Pairwise (· ≠ ·):=List.Pairwise.filter _ (List.nodup_iff_pairwise_ne.1 List.nodup_range);exact h.imp fun h e=>h (Int.ofNat.inj e)
theorem VC{n:Nat}{m:Int->Option Value}:(Dl n m).Pairwise fun a b=>decide (a<=b)=true:=by
 unfold Dl;rw[List.pairwise_map];have h:((List.range n).filter fun k=>(m (Int.ofNat k)).isSome).Pairwise (· < ·):=List.Pairwise.filter _ List.pairwise_lt_range;exact h.imp fun h=>decide_eq_true (Int.ofNat_le.2 (Nat.le_of_lt h))
theorem Ad9{n:Nat}{m:Int->Option Value}:(Dl n m).length<=n:=by
 unfold Dl;rw[List.length_map];refine Nat.le_trans (List.length_filter_le _ _) ?_;rw[List.length_range];exact Nat.le_refl _
theorem Akr{n:Nat}{m:Int->Option Value}{ss:List Int}(h:ss.Perm (Dl n m)):ss.mergeSort (fun x y=>decide (x<=y))=Dl n m:=by
 have tr:∀a b c:Int,decide (a<=b)=true->decide (b<=c)=true->decide (a<=c)=true:=fun a b c h1 h2=>decide_eq_true (Int.le_trans (of_decide_eq_true h1) (of_decide_eq_true h2))
 have to:∀a b:Int,(decide (a<=b)||decide (b<=a))=true:=fun a b=>by rcases Int.le_total a b with h|h<;>simp[h]
 exact ((List.mergeSort_perm ss _).trans h).eq_of_pairwise (fun a b _ _ h1 h2=>Int.le_antisymm (of_decide_eq_true h1) (of_decide_eq_true h2)) (List.pairwise_mergeSort tr to ss) VC
variable {U U':An} {J J':A1}
theorem mok{ms:List MapEntry}{clock:Nat}{t:Nat}{ks:List Ck}(h:CX ms clock)(hM:∀z,BY J U t [] ms z)(hk:HN U (t,ks)):MOK ms clock:=by
 have key:∀e∈ms,e.key=.int .i64 (kz e):=fun e he=>by
  obtain⟨z,hz⟩:=h.1 e he;unfold kz;rw[hz]
 refine⟨fun e he=>⟨key e he,?_⟩,?_,h.2.2.1,?_⟩
 ·have hm:=hM (kz e);unfold BY at hm;have hm:(match U.m t (kz e) with |some u=>BV ms (kz e) fun u'=>u'=u|none=>∀e'∈ms,e'.key ≠ .int .i64 (kz e)):=hm;cases hs:U.m t (kz e) with
  |none=>rw[hs]at hm;exact absurd (key e he) (hm e he)
  |some u=>exact (hk (kz e) u hs).1
 ·rw[List.nodup_iff_pairwise_ne,List.pairwise_map];exact h.2.1.imp_of_mem fun {a b} ha hb Bs e=>Bs (by rw[key a ha,key b hb,e])
 ·rw[List.nodup_iff_pairwise_ne,List.pairwise_map];exact h.2.2.2
theorem Aj0{ms:List MapEntry}{clock:Nat}{t:Nat}(h:MOK ms clock)(hM:∀z,BY J U t [] ms z):(ms.map kz).Perm (Dl 65536 (U.m t)):=by
 refine (List.perm_ext_iff_of_nodup h.nodup Yk).2 fun z=>?_
 rw[OL,List.mem_map];have hm:=hM z;unfold BY at hm;have hm:(match U.m t z with |some u=>BV ms z fun u'=>u'=u|none=>∀e'∈ms,e'.key ≠ .int .i64 z):=hm;constructor
 ·rintro ⟨e,he,rfl⟩
  obtain⟨h1,h2,h3⟩:=h.keys e he;refine⟨h2,h3,?_⟩;cases hs:U.m t (kz e) with
  |none=>rw[hs]at hm;exact absurd h1 (hm e he)
  |some u=>rfl
 ·rintro ⟨_,_,h3⟩
  cases hs:U.m t z with
  |none=>rw[hs]at h3;cases h3
  |some u=>
   rw[hs]at hm;obtain⟨e,he,q1,_⟩:=hm;refine⟨e,he,?_⟩;unfold kz;rw[q1]
def UR(P:Program)(clo:Nat):Prop:=∀(b Bm:Nat) (ms:List MapEntry) (clock:Nat) (ty:TypeId) (w:World),MOK ms clock->w.heap[b]? =some (.map ms.toArray clock)->w.heap[Bm]? =some (.cells #[.map (some b)] ty (0,0))->
 Calls P 322 #[.func (.func clo) #[] #[.pointer (some ⟨Bm,0,none⟩)]] w fun e w'=>∃(v:Value) (ss:List Int),e=.returned v/\ss.Perm (ms.map kz)/\
  w'.ownsRow w.heap.size 3 1 v ss.length ((ss.mergeSort (fun x y=>decide (x<=y))).map encZ)/\Below w.heap.size w w'
theorem Rel.Apo{C:AB}{h:H}{w w':World}(hr:Rel J U C h w){r:Nat}{x:Aj}{o:Obj}{S:Nat}(hro:w'.heap[r]? =some o)(hrw:w.heap.size<=r)(hk:∀r,r<w.heap.size->w'.heap[r]? =w.heap[r]?)(hs:w.heap.size<=w'.heap.size)(h1:w'.os=w.os)(h2:w'.tape=w.tape)(h3:w'.output=w.output)(h4:∀a,a.block<w.heap.size->w'.frozen? a=w.frozen? a)
 (hx:BR (GG J h.next (r,S)) U C x o S):Rel (GG J h.next (r,S)) U C (h.new x) w'/\Ext U J (GG J h.next (r,S)) h (h.new x) w w':=by
 have DU:=hr.Gn (r,S);have ES:=hr.Am.step (J':=GG J h.next (r,S)) (h':=h.new x) (w':=w') (Ql hx.Fw) (fun r' hf=>hk r' (hr.Am.lt hf)) (fun b' r' S' AS=>(QI r S b' r' S' AS).imp id fun e=>Nat.le_trans hrw e);refine⟨⟨?_,?_,?_,fun r' o' Mo=>⟨(hk r' (hr.Yf Mo)).trans (hr.kept r' o' Mo).1,hr.Age hrw Mo⟩,ES.1⟩,⟨?_,?_,?_,hs,?_,fun r' IQ _ _=>hk r' IQ,ES.2 _,h1,h2,h3,h4⟩⟩
 ·intro b r' S' hb
  by_cases e:b=h.next
  ·subst e;show _<h.next+1;omega
  ·rw[A6 J _ e]at hb;have:=hr.lt b r' S' hb;show _<h.next+1;omega
 ·intro b r' S' hb
  by_cases e:b=h.next
  ·subst e;rw[Ay]at hb;cases hb;refine⟨o,hro,?_⟩;intro y hy;rcases H.CJ hy with ⟨_,e2⟩|⟨e2,_⟩
   ·subst e2;exact hx
   ·exact absurd rfl e2
  ·rw[A6 J _ e]at hb;obtain⟨o',ho,hy⟩:=hr.AE b r' S' hb;refine⟨o',by rw[hk r' (hr.lt_size hb)];exact ho,?_⟩;intro y hg;rcases H.CJ hg with ⟨e2,_⟩|⟨_,e2⟩
   ·exact absurd e2 e
   ·exact (hy y e2).mono DU
 ·intro b b' r' S1 S2 hb AS hl Py
  by_cases e:b=h.next
  ·by_cases e':b'=h.next
   ·exact .inl (e.trans e'.symm)
   ·subst e;rw[Ay]at hb;rw[A6 J _ e']at AS;cases hb;have:=hr.lt_size AS;omega
  ·by_cases e':b'=h.next
   ·subst e';rw[Ay]at AS;rw[A6 J _ e]at hb;cases AS;have:=hr.lt_size hb;omega
   ·rw[A6 J _ e]at hb;rw[A6 J _ e']at AS;obtain⟨y,hy,KY⟩:=hl;obtain⟨y',FH,Qb⟩:=Py;have gy:h.get b=some y:=by rcases H.CJ hy with ⟨e2,_⟩|⟨_,e2⟩;exact absurd e2 e;exact e2
    have gy':h.get b'=some y':=by rcases H.CJ FH with ⟨e2,_⟩|⟨_,e2⟩;exact absurd e2 e';exact e2
    rcases hr.inj b b' r' S1 S2 hb AS ⟨y,gy,KY⟩ ⟨y',gy',Qb⟩ with h1|⟨c,n,f,h1⟩
    ·exact .inl h1
    ·right;rw[gy]at h1;exact⟨c,n,f,hy.trans h1⟩
 ·show _<=h.next+1;omega
 ·intro b hb;exact A6 J _ (by omega)
 ·intro b r' S' hb he
  by_cases e:b=h.next
  ·subst e;rw[Ay]at he;cases he;exact .inl hrw
  ·rw[A6 J _ e,hr.EY hb]at he;simp at he
 ·intro b hb ⟨y,hy,KY⟩;rcases H.CJ hy with ⟨e2,_⟩|⟨_,e2⟩
  ·omega
  ·exact⟨y,e2,KY⟩
theorem Agk{m:Int->Option Value}(hm:∀z u,m z=some u->0<=z/\z<65536):KeysOf ((Dl 65536 m).length:Int) (fun j _=>.int .i64 ((Dl 65536 m).getD j 0)) m:=by
 have hp:(Dl 65536 m).Pairwise (· < ·):=by
  unfold Dl;rw[List.pairwise_map];exact (List.pairwise_lt_range.filter _).imp fun h=>Int.ofNat_lt.2 h
 have hg:∀j:Nat,(j:Int)<((Dl 65536 m).length:Int)->∃h:j<(Dl 65536 m).length,numOf (Value.int .i64 ((Dl 65536 m).getD j 0))=(Dl 65536 m)[j]:=by
  intro j hj;have hj:j<(Dl 65536 m).length:=by omega
  refine⟨hj,?_⟩;show (Dl 65536 m).getD j 0=_;rw[Iw,List.getElem?_eq_getElem hj];rfl
 refine⟨fun j hj=>?_,fun i j hij hj=>?_,fun z hz=>?_⟩
 ·obtain⟨h,e⟩:=hg j hj;rw[e];exact (OL.1 (List.getElem_mem h)).2.2
 ·obtain⟨h,e⟩:=hg j hj;obtain⟨h',e'⟩:=hg i (by omega);rw[e,e'];exact List.pairwise_iff_getElem.1 hp i j h' h hij
 ·obtain⟨u,hu⟩:=Option.isSome_iff_exists.1 hz;have:=hm z u hu;have Cu:z∈Dl 65536 m:=OL.2 ⟨this.1,this.2,hz⟩;obtain⟨j,hj,e⟩:=List.getElem_of_mem Cu;refine⟨j,by omega,?_⟩;obtain⟨h,e2⟩:=hg j (by omega);rw[e2];exact e
def An1(U:An):An:={U with v:=fun i=>if i=2 then ((Dl 65536 (U.m 0)).length:Int) else U i,r:=fun t=>if t=1 then fun j c=>.int .i64 ((Dl 65536 (U.m 0)).getD j 0) else U.r t}
theorem Ud{W:Wd}{clo:Nat}(ks:List Ck)(he:Enters W.P 322)(h:UR W.P clo):(KA clo ks).ok W:=by
 intro U hp;have hmk:HN U (0,ks):=hp.mp.mem (0,ks) (by simp[KA]);have Df:Ai 1 U (An1 U):=⟨fun i hi=>if_neg (by omega),fun i hi=>if_neg (by omega),fun _ _=>rfl,rfl,fun _ _=>rfl,fun _ _=>rfl⟩;refine⟨_,List.mem_singleton.2 rfl,An1 U,Df,fun Uq2 g2=>?_⟩;have g2:Ai 3 (An1 U) Uq2:=g2;have g3:=Df.trans (g2.le (by decide:1<=3));obtain⟨KL,hKL⟩:∃KL,KL=Dl 65536 (U.m 0):=⟨_,rfl⟩
 have m0:Uq2.m 0=U.m 0:=g3.m 0 (by decide);have v2:Uq2 2=(KL.length:Int):=by rw[hKL];exact g2.v 2 (by decide)
 have r1:Uq2.r 1=fun j c=>.int .i64 (KL.getD j 0):=by rw[hKL];exact g2.r 1 (by decide)
 have hlen:KL.length<=65536:=by rw[hKL];exact Ad9
 have hmk2:HN Uq2 (0,ks):=fun z u hu=>by
  have hu:Uq2.m 0 z=some u:=hu;rw[m0]at hu;rw[g3.k];exact hmk z u hu
 have n2:E.den Uq2 (.var 2)=(KL.length:Int):=v2;refine⟨⟨.cons (decide_eq_true (by rw[n2];exact Int.natCast_nonneg _)) (.cons (decide_eq_true (by rw[n2];exact Int.ofNat_le.2 hlen)) (.cons (Az (g:=57) (ns:=[.var 2]) (rs:=[1]) (ms:=[0]) (show KeysOf (Uq2 2) (Uq2.r 1) (Uq2.m 0) from by rw[v2,r1,m0,hKL];exact Agk fun z u hu=>(hmk z u hu).1)) .nil)),.cons ⟨fun j c=>?_,trivial⟩ .nil,trivial,.nil⟩,fun C hfu=>⟨by rfl,fun J w vs hr ha=>?_⟩⟩
 ·show A9 _ (Uq2.r 1 j c);rw[r1];cases c with
  |zero=>exact⟨_,rfl⟩
  |succ c=>exact trivial
 ·cases ha with
  |cons ha0 ha=>
  cases ha;obtain⟨cvs,rfl,hcv⟩:=ha0;cases hcv with
  |cons hb hcv=>
  cases hcv;obtain⟨Bm,S0,hρ0,rfl⟩:=hb;obtain⟨o0,ho0,hx0⟩:=hr.AE 0 Bm S0 hρ0;obtain⟨cs0,ty,rfl,i1,i2,i3,i4⟩:=hx0 _ rfl;obtain⟨x,hx,hxm⟩:=i4 0 (.map 1) (by decide) rfl;obtain⟨b,S1,hρ1,rfl⟩:=hxm;obtain⟨o1,ho1,Qa⟩:=hr.AE 1 b S1 hρ1;obtain⟨ms,clock,rfl,Ia,hM⟩:=Qa _ rfl;have hcs0:cs0= #[Value.map (some b)]:=by
   have h1:cs0.size=1:=by rw[i1];exact (i3 rfl).symm
   apply Array.ext_getElem?;intro i;cases i with
   |zero=>rw[hx];rfl
   |succ i=>rw[Array.getElem?_eq_none (by omega),Array.getElem?_eq_none (by simp)]
  subst hcs0;have Iy:=mok Ia hM hmk2;have hperm:=Aj0 Iy hM;rw[m0,<-hKL]at hperm;refine Row.Ky he (h b Bm ms clock ty w Iy ho1 ho0) ?_
  rintro e w' ⟨v,ss,rfl,hS,ET,Jo⟩
  have hss:ss.mergeSort (fun x y=>decide (x<=y))=KL:=by
   rw[hKL];exact Akr (by rw[<-hKL];exact hS.trans hperm)
  have hl:ss.length=KL.length:=by rw[<-hss,List.length_mergeSort]
  rw[hss]at ET;refine⟨v,rfl,?_⟩;have IQ:Rel J Uq2 C (Aa [(0,.cells (T.ofList [.map 1]) 1 true none),(1,.Ej 0 [])] 2) w':=hr.below Jo.size fun r hr=>Jo.block r hr
  have e0:Ext Uq2 J J (Aa [(0,.cells (T.ofList [.map 1]) 1 true none),(1,.Ej 0 [])] 2) (Aa [(0,.cells (T.ofList [.map 1]) 1 true none),(1,.Ej 0 [])] 2) w w':=by
   refine⟨Nat.le_refl _,fun _ _=>rfl,(fun b r S hb he=>by rw[hr.EY hb]at he;cases he),Jo.size,fun _ _ h=>h,fun r hr _ _=>Jo.block r hr,?_,Jo.os,Jo.tape,Jo.output,fun a ha=>?_⟩
   ·exact (hr.Am.step (J':=J) (w':=w') (fun _ _ h=>h) (fun r hf=>Jo.block r (hr.Am.lt hf)) fun b r S hb=>.inl ⟨b,S,hb⟩).2 _
   ·unfold World.frozen?;rw[Jo.block _ ha]
  rcases ET.2 with ⟨rfl,hz⟩|⟨g,cap,cur,rfl,hbase,hg,q1,q2,q3,q4⟩
  ·obtain⟨r1',x1⟩:=IQ.QE (.row 1 1 (.var 2) []);exact⟨J,_,⟨none,0,0,rfl,by rw[n2,<-hl,hz],.inl ⟨rfl,rfl,rfl⟩⟩,r1',e0.trans hr IQ x1,by rfl⟩
  ·have Fm:KL.length<=cap:=by omega
   have hcur:∀k,k<KL.length->cur[k]? =some (.int .i64 (KL.getD k 0)):=fun k hk=>by
    have e1:(cur.toList.take (ss.length*1))[k]? =(KL.map encZ)[k]? :=by rw[q4]
    rw[List.getElem?_take,if_pos (by omega),List.getElem?_map,List.getElem?_eq_getElem hk]at e1;rw[Iw,List.getElem?_eq_getElem hk];simpa using e1
   obtain⟨r1',x1⟩:=hr.Apo (x:=.row 1 1 (.var 2) []) (S:=cur.size) hg hbase (fun r hr=>Jo.block r hr) Jo.size Jo.os Jo.tape Jo.output (fun a ha=>by unfold World.frozen?;rw[Jo.block _ ha])
    ⟨cur,3,KL.length,rfl,rfl,n2.symm,by omega,fun i u hi hu=>by rw[hcur i (by omega)]at hu;cases hu;rfl,(fun p h=>nomatch h),fun j c hj hc=>by
     have hc0:c=0:=by omega
     subst hc0;refine⟨_,by rw[show j*1+0=j by omega];exact hcur j hj,?_⟩;show _=Uq2.r 1 j 0;rw[r1]⟩
   exact⟨_,_,⟨some ⟨g,0,none⟩,ss.length,cap,rfl,by rw[n2,hl],.inr ⟨g,cur.size,Ay _ _ _,rfl,q3.symm,q1⟩⟩,r1',x1,by rfl⟩
theorem Aki:UR Tryz.prog 366:=fun b Bm ms clock ty w h1 h2 h3=>Keys.Avg b Bm ms clock ty w h1 h2 h3
theorem Akj:UR Tryz.prog 374:=fun b Bm ms clock ty w h1 h2 h3=>Keys.Avh b Bm ms clock ty w h1 h2 h3
theorem AbK(ks:List Ck):(KA 366 ks).ok V.WD:=Ud ks Tab.AkW.enters Aki
theorem AbL(ks:List Ck):(KA 374 ks).ok V.WD:=Ud ks Tab.AkW.enters Akj
end Eng
end
namespace V
open Go Eng
def thK:List Ck:=AcG [(3,.i .i64),(5,.i .u64),(1,.b),(2,.i .i64),(5,.i .u64),(2,.i .i64),(4,.b),(2,.i .u64)]
def AiI:List Ck:=AcG [(3,.i .i64),(1,.i .u64),(4,.i .i64)]
def e0:BP:=⟨[(Eng.dI,true),(Eng.dO,true),(KA 366 thK,true),(KA 374 (.s::AiI),true),(Mq,true)],[],rl⟩
theorem Nc:AZ WD e0:=⟨.cons ⟨AkO,fun _ _=>trivial⟩ (.cons ⟨AkP,fun _ _=>trivial⟩ (.cons ⟨AbK _,fun _ _=>trivial⟩ (.cons ⟨AbL _,fun _ _=>trivial⟩ (.cons ⟨Ub,fun _ _=>trivial⟩ .nil)))),.nil,Al5⟩
end V
end
