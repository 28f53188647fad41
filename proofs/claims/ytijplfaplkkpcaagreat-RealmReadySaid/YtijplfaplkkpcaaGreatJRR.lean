/- RealmReady: the closed facts of its row, one by one. No conditions beside those in its theorems. -/
import Derived.Test.YtijplfaplkkpcaaGreatRows
import Derived.JoinedOf
import Derived.KernelRfl
set_option linter.unusedVariables false
set_option linter.unusedSimpArgs false
set_option linter.unusedSectionVars false
set_option linter.constructorNameAsVariable false
set_option maxRecDepth 100000
noncomputable section
namespace JRealmReady
open Go
theorem ai{a b:Bool}(h:a=true)(h2:b=true):(a&&b)=true:=by rw[h,h2];rfl
abbrev JT:=Program->FuncId->Func->ChangeSpec->OpenClaim->Bool
def J0:JT:=fun P f fn s c=>c.wf (OpenSpec.ofChange s)
def J1:JT:=fun P f fn s c=>laidOutB P
def J2:JT:=fun P f fn s c=>mapsRowed P
def J3:JT:=fun P f fn s c=>fn.params.all (P.readableRec ·)
def J4:JT:=fun P f fn s c=>namedTie P c.named s.vars
def J5:JT:=fun P f fn s c=>(c.stops==[])
def J6:JT:=fun P f fn s c=>(P.stops==[])
def J7:JT:=fun P f fn s c=>(c.knobs==[])
def J8:JT:=fun P f fn s c=>(P.stopKnobs==[])
def J9:JT:=fun P f fn s c=>(c.inPlace==P.inPlace f)
def J10:JT:=fun P f fn s c=>(c.unfollowed==P.unfollowed f)
def J11:JT:=fun P f fn s c=>(c.recurses==P.recurses f)
def J12:JT:=fun P f fn s c=>(c.named==P.varsNamed f)
def J13:JT:=fun P f fn s c=>(c.maps==(fn.params.toList++s.plain.varTypes P).any (P.mapsRec ·))
def J14:JT:=fun P f fn s c=>(c.ifaces==(fn.params.toList++s.plain.varTypes P).any (P.ifacesRec ·))
def J15:JT:=fun P f fn s c=>(c.mapsOut==P.mapsAmong fn.resultTypes.toList)
def J16:JT:=fun P f fn s c=>(c.loops==(fn.params.toList++s.plain.varTypes P).any (P.loopsFrom ·))
def J17:JT:=fun P f fn s c=>(c.wideKeys==(fn.params.toList++s.plain.varTypes P++fn.resultTypes.toList).any (P.wideKeysFrom ·))
def J18:JT:=fun P f fn s c=>s.vars.all (P.varReadable ·)
def J19:JT:=fun P f fn s c=>fn.resultTypes.all (fun t=>P.readableRec t&&decide (t<P.types.size))
def J20:JT:=fun P f fn s c=>(c.ifacesOut==fn.resultTypes.toList.any (P.ifacesRec ·))
def J21:JT:=fun P f fn s c=>(c.loopsOut==fn.resultTypes.toList.any (P.loopsFrom ·))
def J22:JT:=fun P f fn s c=>(c.plainKeys==P.plainKeys)
def J23:JT:=fun P f fn s c=>c.shortTexts.isNone
def J24:JT:=fun P f fn s c=>P.stopsHeard
def J25:JT:=fun P f fn s c=>P.mayEnter
def J26:JT:=fun P f fn s c=>(c.lifted==P.liftsFinal)
def J27:JT:=fun P f fn s c=>(P.make==some c.make)
def J28:JT:=fun P f fn s c=>(c.kinds==(if c.domain.isEmpty then [] else fn.params.toList.map fun t=>match P.underlying t with |some (.int k)=>some k|_=>none))
def J29:JT:=fun P f fn s c=>(c.pinned==c.pinnedBy)
def J30:JT:=fun P f fn s c=>(c.veiled==(fn.params.toList++s.plain.varTypes P++fn.resultTypes.toList).any (P.veiledRec ·))
def J31:JT:=fun P f fn s c=>c.veiledFits P fn.params.toList (fn.params.toList++s.plain.varTypes P++fn.resultTypes.toList)
theorem of(P:Program)(f:FuncId)(fn:Func)(s:ChangeSpec)(c:OpenClaim)(k0:J0 P f fn s c=true)(k1:J1 P f fn s c=true)(k2:J2 P f fn s c=true)(k3:J3 P f fn s c=true)(k4:J4 P f fn s c=true)(k5:J5 P f fn s c=true)(k6:J6 P f fn s c=true)(k7:J7 P f fn s c=true)(k8:J8 P f fn s c=true)(k9:J9 P f fn s c=true)(k10:J10 P f fn s c=true)(k11:J11 P f fn s c=true)(k12:J12 P f fn s c=true)(k13:J13 P f fn s c=true)(k14:J14 P f fn s c=true)(k15:J15 P f fn s c=true)(k16:J16 P f fn s c=true)(k17:J17 P f fn s c=true)(k18:J18 P f fn s c=true)(k19:J19 P f fn s c=true)(k20:J20 P f fn s c=true)(k21:J21 P f fn s c=true)(k22:J22 P f fn s c=true)(k23:J23 P f fn s c=true)(k24:J24 P f fn s c=true)(k25:J25 P f fn s c=true)(k26:J26 P f fn s c=true)(k27:J27 P f fn s c=true)(k28:J28 P f fn s c=true)(k29:J29 P f fn s c=true)(k30:J30 P f fn s c=true)(k31:J31 P f fn s c=true):joinedFacts P f fn s c=true:=by
 unfold joinedFacts;exact (ai (ai (ai (ai (ai (ai (ai (ai (ai (ai (ai (ai (ai (ai (ai (ai (ai (ai (ai (ai (ai (ai (ai (ai (ai (ai (ai (ai (ai (ai (ai k0 k1) k2) k3) k4) k5) k6) k7) k8) k9) k10) k11) k12) k13) k14) k15) k16) k17) k18) k19) k20) k21) k22) k23) k24) k25) k26) k27) k28) k29) k30) k31)
noncomputable abbrev Q:=Go.Proofs.YtijplfaplkkpcaaGreat.Tryz.pinned.checked.prog
noncomputable abbrev S:=Go.Proofs.YtijplfaplkkpcaaGreat.Rows.realmReadySpec
noncomputable abbrev C:=Go.Proofs.YtijplfaplkkpcaaGreat.Rows.realmReadyRow
noncomputable abbrev F:=Go.Proofs.Tryz.f4
theorem a0:J0 Q 4 F S C=true:=by kernel_rfl
theorem a1:J1 Q 4 F S C=true:=by kernel_rfl
theorem a2:J2 Q 4 F S C=true:=by kernel_rfl
theorem a3:J3 Q 4 F S C=true:=by kernel_rfl
theorem a4:J4 Q 4 F S C=true:=by kernel_rfl
theorem a5:J5 Q 4 F S C=true:=by kernel_rfl
theorem a6:J6 Q 4 F S C=true:=by kernel_rfl
theorem a7:J7 Q 4 F S C=true:=by kernel_rfl
theorem a8:J8 Q 4 F S C=true:=by kernel_rfl
theorem a9:J9 Q 4 F S C=true:=by kernel_rfl
theorem a10:J10 Q 4 F S C=true:=by kernel_rfl
theorem a11:J11 Q 4 F S C=true:=by kernel_rfl
theorem a12:J12 Q 4 F S C=true:=by kernel_rfl
theorem a13:J13 Q 4 F S C=true:=by kernel_rfl
theorem a14:J14 Q 4 F S C=true:=by kernel_rfl
theorem a15:J15 Q 4 F S C=true:=by kernel_rfl
theorem a16:J16 Q 4 F S C=true:=by kernel_rfl
theorem a17:J17 Q 4 F S C=true:=by kernel_rfl
theorem a18:J18 Q 4 F S C=true:=by kernel_rfl
theorem a19:J19 Q 4 F S C=true:=by kernel_rfl
theorem a20:J20 Q 4 F S C=true:=by kernel_rfl
theorem a21:J21 Q 4 F S C=true:=by kernel_rfl
theorem a22:J22 Q 4 F S C=true:=by kernel_rfl
theorem a23:J23 Q 4 F S C=true:=by kernel_rfl
theorem a24:J24 Q 4 F S C=true:=by kernel_rfl
theorem a25:J25 Q 4 F S C=true:=by kernel_rfl
theorem a26:J26 Q 4 F S C=true:=by kernel_rfl
theorem a27:J27 Q 4 F S C=true:=by kernel_rfl
theorem a28:J28 Q 4 F S C=true:=by kernel_rfl
theorem a29:J29 Q 4 F S C=true:=by kernel_rfl
theorem a30:J30 Q 4 F S C=true:=by kernel_rfl
theorem a31:J31 Q 4 F S C=true:=by kernel_rfl
theorem all:joinedFacts Go.Proofs.YtijplfaplkkpcaaGreat.Tryz.pinned.checked.prog 4 Go.Proofs.Tryz.f4 Go.Proofs.YtijplfaplkkpcaaGreat.Rows.realmReadySpec Go.Proofs.YtijplfaplkkpcaaGreat.Rows.realmReadyRow=true:=of _ _ _ _ _ a0 a1 a2 a3 a4 a5 a6 a7 a8 a9 a10 a11 a12 a13 a14 a15 a16 a17 a18 a19 a20 a21 a22 a23 a24 a25 a26 a27 a28 a29 a30 a31
end JRealmReady
end
