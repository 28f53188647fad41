/- RealmReady holds: behind each change of states, who is in the queue is just who is Ready, whatever the acts. No conditions beside those in its theorems. -/
import Derived.Test.YtijplfaplkkpcaaGreatRows
import Derived.Test.YtijplfaplkkpcaaGreatE46
import Derived.Test.YtijplfaplkkpcaaGreatJRR
set_option linter.unusedVariables false
set_option linter.unusedSimpArgs false
set_option linter.unusedSectionVars false
set_option linter.constructorNameAsVariable false
set_option maxRecDepth 100000
noncomputable section
namespace Go.Proofs.YtijplfaplkkpcaaGreat.realmReady
open Go.ChangeShapes Go.WideShapes Go.ChangeAt Go.RowKit Go.Deep Go.Proofs V
theorem own:ownKnob Tryz.prog.godebug=none:=by kernel_rfl
theorem kids:Kids Tryz.prog (· <Tryz.prog.types.size):=kids_rows (by kernel_rfl) (by kernel_rfl)
theorem full:∀t e,t<Tryz.prog.types.size->Tryz.prog.underlying t=some (.slice e)->0<Tryz.prog.cellsOf e:=slices_full_of Tryz.prog (by kernel_rfl)
theorem k31:Flat.kinds Tryz.prog 5 31=some (List.replicate 8 (.n .i64)):=by kernel_rfl
theorem l31:Flat.lay Tryz.prog 5 31=true:=by kernel_rfl
theorem z31:Tryz.prog.cellsOf 31=8:=by kernel_rfl
theorem z22:Tryz.prog.cellsOf 22=1:=by kernel_rfl
theorem same{W W':World}(u:Eng.Kept (fun _=>False) W W'):∀p:MemPlace,p.block<W.heap.size->W.sameAt W' p
 |.cell b off,hp=>by
  show W'.cell? ⟨b,off,none⟩=W.cell? ⟨b,off,none⟩;unfold World.cell?;rw[show W'.heap[b]? =W.heap[b]? from u.heap b hp id]
 |.map b,hp=>u.heap b hp id
theorem lifted(os:Os)(started:os.Started)(H:Type)(enc:TypeId×Value->H):
 ReturnsInHanded {} Tryz.checked os 4 .any (Rows.realmReadySpec.pre6 enc Tryz.prog Tryz.f4 Rows.realmReadyRow.domain false) (Rows.realmReadySpec.post enc Tryz.prog Tryz.f4 false true false false):=by
 refine returnsInHanded_of_change (C:=Tryz.checked) own started (by kernel_rfl) Tryz.func4
  (ChangeSpec.witness6 (enc:=enc) (C:=Tryz.checked) false ⟨#[],#[.slice none 0 0],[]⟩ 8 (by kernel_rfl) (by kernel_rfl) (by kernel_rfl) (by kernel_rfl)) ?_
 intro W base args ds gs before hval0 hW hcnd _;have hval:∀(j:Nat) t v,Tryz.f4.params[j]? =some t->args[j]? =some v->Value.okWide Tryz.prog W .any base t v:=hval0
 have hW':=hW;obtain⟨p,q,hA0,hV,rfl,hfz,hnd⟩:=hW;have hA:DataW.TrodAll enc Tryz.prog W 0 (fun _=>true) true Tryz.f4.params.toList args.toList ds p:=hA0;rw[Tryz.params4]at hA hval;obtain⟨v0,vs0,d0,ds0,p0,q0,Fg,rfl,rfl,h0,r0⟩:=trodAll_cons hA;obtain⟨rfl,rfl,rfl⟩:=trodAll_nil r0;obtain rfl:args= #[v0]:=by cases args;simp_all
 obtain⟨rfl,rfl⟩:=trodVars_none hV;have h0k:=h0;obtain⟨fuel,hf⟩:=h0;simp only[List.append_nil]at hW';have key:∀W',Eng.Kept (fun _=>False) W W'->∃v,Ending.returned (.bool true)=.returned v/\Rows.realmReadySpec.post enc Tryz.prog Tryz.f4 false true false false W #[v0] v W':=by
  intro W' hs;refine⟨_,rfl,AdQ (pa:=p0) (pv:=[]) hW' (fun _ _ _=>trodAll_cons_mk (shut_bool Tryz.underlying4 _) trodAll_mk0) (fun sp Ol=>?_) (fun _ _=>rfl) (by simp) hs (ok_one (by kernel_rfl) rfl (okWide_bool_mk Tryz.underlying4 _))⟩;have h1:=h0k.respare kids full (by decide +kernel) (spare':=sp) (fun x hx=>Ol x hx);obtain⟨n1,hn1⟩:=h1;have h2:DataW.Trod enc Tryz.prog W' 0 sp true 22 v0 d0 p0:=⟨n1,DataW.trod_carry n1 _ _ _ hn1 (fun x hx=>same hs x (hW'.lt x hx))⟩;have:=trodAll_cons_mk h2 (trodAll_mk0 (P:=Tryz.prog) (enc:=enc));have h3:DataW.TrodAll enc Tryz.prog W' 0 sp true [22] [v0] [d0] p0:=by simpa using this
  exact h3
 obtain⟨a,n,k,rfl⟩:=okWide_slice Tryz.underlying22 (hval 0 22 v0 rfl rfl);have hfr:Fr W 8 (List.replicate 8 (.n .i64)) a n:=by
  obtain⟨a',n',k',e,hfr⟩:=Aea Tryz.underlying22 k31 l31 z31 (by omega) hf;cases e;exact hfr
 refine (AeV (Aj2 (Aix (k:=k) (fun t ht=>by rw[List.getElem?_replicate,if_pos ht]) hfr))).mono fun e W' ⟨v,he,hv,hs⟩=>?_
 subst he;subst hv;exact key W' hs
theorem over:Rows.realmReadyRow.holds Tryz.pinned (OpenSpec.ofChange Rows.realmReadySpec):=
 OpenClaim.holds_of_wide 4 Tryz.f4 rfl rfl rfl rfl rfl rfl rfl ⟨rfl,rfl,rfl,rfl,rfl⟩ rfl rfl rfl rfl rfl (by kernel_rfl) Tryz.func4 JRealmReady.all
  (of_decide_eq_true (by kernel_rfl)) (by unfold Func.isWrapper;first|(rw[if_pos (by decide +kernel)];kernel_rfl)|(rw[if_neg (by decide +kernel)];exact⟨rfl,rfl⟩))
  (fun os started H enc _=>lifted os started H enc)
theorem proved:Rows.RealmReadySaid:=
 over
#print axioms proved
end Go.Proofs.YtijplfaplkkpcaaGreat.realmReady
end
