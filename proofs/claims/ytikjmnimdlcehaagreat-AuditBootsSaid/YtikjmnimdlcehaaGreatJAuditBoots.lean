/- AuditBoots: the closed facts of its row, one by one. No conditions. -/
import Derived.Test.YtikjmnimdlcehaaGreatRows
import Derived.JoinedOf
import Derived.KernelRfl

open Go
set_option linter.unusedVariables false
namespace JAuditBoots
theorem ai {a b : Bool} (h : a = true) (h2 : b = true) : (a && b) = true := by rw [h, h2]; rfl
def J0 (P : Program) (f : FuncId) (fn : Func) (s : ChangeSpec) (c : OpenClaim) : Bool := c.wf (OpenSpec.ofChange s)
def J1 (P : Program) (f : FuncId) (fn : Func) (s : ChangeSpec) (c : OpenClaim) : Bool := laidOutB P
def J2 (P : Program) (f : FuncId) (fn : Func) (s : ChangeSpec) (c : OpenClaim) : Bool := mapsRowed P
def J3 (P : Program) (f : FuncId) (fn : Func) (s : ChangeSpec) (c : OpenClaim) : Bool := fn.params.all (P.readableRec ·)
def J4 (P : Program) (f : FuncId) (fn : Func) (s : ChangeSpec) (c : OpenClaim) : Bool := namedTie P c.named s.vars
def J5 (P : Program) (f : FuncId) (fn : Func) (s : ChangeSpec) (c : OpenClaim) : Bool := (c.stops == [])
def J6 (P : Program) (f : FuncId) (fn : Func) (s : ChangeSpec) (c : OpenClaim) : Bool := (P.stops == [])
def J7 (P : Program) (f : FuncId) (fn : Func) (s : ChangeSpec) (c : OpenClaim) : Bool := (c.knobs == [])
def J8 (P : Program) (f : FuncId) (fn : Func) (s : ChangeSpec) (c : OpenClaim) : Bool := (P.stopKnobs == [])
def J9 (P : Program) (f : FuncId) (fn : Func) (s : ChangeSpec) (c : OpenClaim) : Bool := (c.inPlace == P.inPlace f)
def J10 (P : Program) (f : FuncId) (fn : Func) (s : ChangeSpec) (c : OpenClaim) : Bool := (c.unfollowed == P.unfollowed f)
def J11 (P : Program) (f : FuncId) (fn : Func) (s : ChangeSpec) (c : OpenClaim) : Bool := (c.recurses == P.recurses f)
def J12 (P : Program) (f : FuncId) (fn : Func) (s : ChangeSpec) (c : OpenClaim) : Bool := (c.named == P.varsNamed f)
def J13 (P : Program) (f : FuncId) (fn : Func) (s : ChangeSpec) (c : OpenClaim) : Bool := (c.maps == (fn.params.toList ++ s.plain.varTypes P).any (P.mapsRec ·))
def J14 (P : Program) (f : FuncId) (fn : Func) (s : ChangeSpec) (c : OpenClaim) : Bool := (c.ifaces == (fn.params.toList ++ s.plain.varTypes P).any (P.ifacesRec ·))
def J15 (P : Program) (f : FuncId) (fn : Func) (s : ChangeSpec) (c : OpenClaim) : Bool := (c.mapsOut == P.mapsAmong fn.resultTypes.toList)
def J16 (P : Program) (f : FuncId) (fn : Func) (s : ChangeSpec) (c : OpenClaim) : Bool := (c.loops == (fn.params.toList ++ s.plain.varTypes P).any (P.loopsFrom ·))
def J17 (P : Program) (f : FuncId) (fn : Func) (s : ChangeSpec) (c : OpenClaim) : Bool := (c.wideKeys == (fn.params.toList ++ s.plain.varTypes P ++ fn.resultTypes.toList).any (P.wideKeysFrom ·))
def J18 (P : Program) (f : FuncId) (fn : Func) (s : ChangeSpec) (c : OpenClaim) : Bool := s.vars.all (P.varReadable ·)
def J19 (P : Program) (f : FuncId) (fn : Func) (s : ChangeSpec) (c : OpenClaim) : Bool := fn.resultTypes.all (fun t => P.readableRec t && decide (t < P.types.size))
def J20 (P : Program) (f : FuncId) (fn : Func) (s : ChangeSpec) (c : OpenClaim) : Bool := (c.ifacesOut == fn.resultTypes.toList.any (P.ifacesRec ·))
def J21 (P : Program) (f : FuncId) (fn : Func) (s : ChangeSpec) (c : OpenClaim) : Bool := (c.loopsOut == fn.resultTypes.toList.any (P.loopsFrom ·))
def J22 (P : Program) (f : FuncId) (fn : Func) (s : ChangeSpec) (c : OpenClaim) : Bool := (c.plainKeys == P.plainKeys)
def J23 (P : Program) (f : FuncId) (fn : Func) (s : ChangeSpec) (c : OpenClaim) : Bool := c.shortTexts.isNone
def J24 (P : Program) (f : FuncId) (fn : Func) (s : ChangeSpec) (c : OpenClaim) : Bool := P.stopsHeard
def J25 (P : Program) (f : FuncId) (fn : Func) (s : ChangeSpec) (c : OpenClaim) : Bool := P.mayEnter
def J26 (P : Program) (f : FuncId) (fn : Func) (s : ChangeSpec) (c : OpenClaim) : Bool := (c.lifted == P.liftsFinal)
def J27 (P : Program) (f : FuncId) (fn : Func) (s : ChangeSpec) (c : OpenClaim) : Bool := (P.make == some c.make)
def J28 (P : Program) (f : FuncId) (fn : Func) (s : ChangeSpec) (c : OpenClaim) : Bool := (c.kinds == (if c.domain.isEmpty then [] else fn.params.toList.map fun t => match P.underlying t with | some (.int k) => some k | _ => none))
def J29 (P : Program) (f : FuncId) (fn : Func) (s : ChangeSpec) (c : OpenClaim) : Bool := (c.pinned == c.pinnedBy)
def J30 (P : Program) (f : FuncId) (fn : Func) (s : ChangeSpec) (c : OpenClaim) : Bool := (c.veiled == (fn.params.toList ++ s.plain.varTypes P ++ fn.resultTypes.toList).any (P.veiledRec ·))
def J31 (P : Program) (f : FuncId) (fn : Func) (s : ChangeSpec) (c : OpenClaim) : Bool := c.veiledFits P fn.params.toList (fn.params.toList ++ s.plain.varTypes P ++ fn.resultTypes.toList)
theorem of (P : Program) (f : FuncId) (fn : Func) (s : ChangeSpec) (c : OpenClaim) (k0 : J0 P f fn s c = true) (k1 : J1 P f fn s c = true) (k2 : J2 P f fn s c = true) (k3 : J3 P f fn s c = true) (k4 : J4 P f fn s c = true) (k5 : J5 P f fn s c = true) (k6 : J6 P f fn s c = true) (k7 : J7 P f fn s c = true) (k8 : J8 P f fn s c = true) (k9 : J9 P f fn s c = true) (k10 : J10 P f fn s c = true) (k11 : J11 P f fn s c = true) (k12 : J12 P f fn s c = true) (k13 : J13 P f fn s c = true) (k14 : J14 P f fn s c = true) (k15 : J15 P f fn s c = true) (k16 : J16 P f fn s c = true) (k17 : J17 P f fn s c = true) (k18 : J18 P f fn s c = true) (k19 : J19 P f fn s c = true) (k20 : J20 P f fn s c = true) (k21 : J21 P f fn s c = true) (k22 : J22 P f fn s c = true) (k23 : J23 P f fn s c = true) (k24 : J24 P f fn s c = true) (k25 : J25 P f fn s c = true) (k26 : J26 P f fn s c = true) (k27 : J27 P f fn s c = true) (k28 : J28 P f fn s c = true) (k29 : J29 P f fn s c = true) (k30 : J30 P f fn s c = true) (k31 : J31 P f fn s c = true) : joinedFacts P f fn s c = true := by
  unfold joinedFacts
  exact (ai (ai (ai (ai (ai (ai (ai (ai (ai (ai (ai (ai (ai (ai (ai (ai (ai (ai (ai (ai (ai (ai (ai (ai (ai (ai (ai (ai (ai (ai (ai k0 k1) k2) k3) k4) k5) k6) k7) k8) k9) k10) k11) k12) k13) k14) k15) k16) k17) k18) k19) k20) k21) k22) k23) k24) k25) k26) k27) k28) k29) k30) k31)
set_option maxRecDepth 100000
theorem a0 : J0 Go.Proofs.YtikjmnimdlcehaaGreat.Tryz.pinned.checked.prog 3 Go.Proofs.Tryz.f3 Go.Proofs.YtikjmnimdlcehaaGreat.Rows.auditBootsSpec Go.Proofs.YtikjmnimdlcehaaGreat.Rows.auditBootsRow = true := by kernel_rfl
theorem a1 : J1 Go.Proofs.YtikjmnimdlcehaaGreat.Tryz.pinned.checked.prog 3 Go.Proofs.Tryz.f3 Go.Proofs.YtikjmnimdlcehaaGreat.Rows.auditBootsSpec Go.Proofs.YtikjmnimdlcehaaGreat.Rows.auditBootsRow = true := by kernel_rfl
theorem a2 : J2 Go.Proofs.YtikjmnimdlcehaaGreat.Tryz.pinned.checked.prog 3 Go.Proofs.Tryz.f3 Go.Proofs.YtikjmnimdlcehaaGreat.Rows.auditBootsSpec Go.Proofs.YtikjmnimdlcehaaGreat.Rows.auditBootsRow = true := by kernel_rfl
theorem a3 : J3 Go.Proofs.YtikjmnimdlcehaaGreat.Tryz.pinned.checked.prog 3 Go.Proofs.Tryz.f3 Go.Proofs.YtikjmnimdlcehaaGreat.Rows.auditBootsSpec Go.Proofs.YtikjmnimdlcehaaGreat.Rows.auditBootsRow = true := by kernel_rfl
theorem a4 : J4 Go.Proofs.YtikjmnimdlcehaaGreat.Tryz.pinned.checked.prog 3 Go.Proofs.Tryz.f3 Go.Proofs.YtikjmnimdlcehaaGreat.Rows.auditBootsSpec Go.Proofs.YtikjmnimdlcehaaGreat.Rows.auditBootsRow = true := by kernel_rfl
theorem a5 : J5 Go.Proofs.YtikjmnimdlcehaaGreat.Tryz.pinned.checked.prog 3 Go.Proofs.Tryz.f3 Go.Proofs.YtikjmnimdlcehaaGreat.Rows.auditBootsSpec Go.Proofs.YtikjmnimdlcehaaGreat.Rows.auditBootsRow = true := by kernel_rfl
theorem a6 : J6 Go.Proofs.YtikjmnimdlcehaaGreat.Tryz.pinned.checked.prog 3 Go.Proofs.Tryz.f3 Go.Proofs.YtikjmnimdlcehaaGreat.Rows.auditBootsSpec Go.Proofs.YtikjmnimdlcehaaGreat.Rows.auditBootsRow = true := by kernel_rfl
theorem a7 : J7 Go.Proofs.YtikjmnimdlcehaaGreat.Tryz.pinned.checked.prog 3 Go.Proofs.Tryz.f3 Go.Proofs.YtikjmnimdlcehaaGreat.Rows.auditBootsSpec Go.Proofs.YtikjmnimdlcehaaGreat.Rows.auditBootsRow = true := by kernel_rfl
theorem a8 : J8 Go.Proofs.YtikjmnimdlcehaaGreat.Tryz.pinned.checked.prog 3 Go.Proofs.Tryz.f3 Go.Proofs.YtikjmnimdlcehaaGreat.Rows.auditBootsSpec Go.Proofs.YtikjmnimdlcehaaGreat.Rows.auditBootsRow = true := by kernel_rfl
theorem a9 : J9 Go.Proofs.YtikjmnimdlcehaaGreat.Tryz.pinned.checked.prog 3 Go.Proofs.Tryz.f3 Go.Proofs.YtikjmnimdlcehaaGreat.Rows.auditBootsSpec Go.Proofs.YtikjmnimdlcehaaGreat.Rows.auditBootsRow = true := by kernel_rfl
theorem a10 : J10 Go.Proofs.YtikjmnimdlcehaaGreat.Tryz.pinned.checked.prog 3 Go.Proofs.Tryz.f3 Go.Proofs.YtikjmnimdlcehaaGreat.Rows.auditBootsSpec Go.Proofs.YtikjmnimdlcehaaGreat.Rows.auditBootsRow = true := by kernel_rfl
theorem a11 : J11 Go.Proofs.YtikjmnimdlcehaaGreat.Tryz.pinned.checked.prog 3 Go.Proofs.Tryz.f3 Go.Proofs.YtikjmnimdlcehaaGreat.Rows.auditBootsSpec Go.Proofs.YtikjmnimdlcehaaGreat.Rows.auditBootsRow = true := by kernel_rfl
theorem a12 : J12 Go.Proofs.YtikjmnimdlcehaaGreat.Tryz.pinned.checked.prog 3 Go.Proofs.Tryz.f3 Go.Proofs.YtikjmnimdlcehaaGreat.Rows.auditBootsSpec Go.Proofs.YtikjmnimdlcehaaGreat.Rows.auditBootsRow = true := by kernel_rfl
theorem a13 : J13 Go.Proofs.YtikjmnimdlcehaaGreat.Tryz.pinned.checked.prog 3 Go.Proofs.Tryz.f3 Go.Proofs.YtikjmnimdlcehaaGreat.Rows.auditBootsSpec Go.Proofs.YtikjmnimdlcehaaGreat.Rows.auditBootsRow = true := by kernel_rfl
theorem a14 : J14 Go.Proofs.YtikjmnimdlcehaaGreat.Tryz.pinned.checked.prog 3 Go.Proofs.Tryz.f3 Go.Proofs.YtikjmnimdlcehaaGreat.Rows.auditBootsSpec Go.Proofs.YtikjmnimdlcehaaGreat.Rows.auditBootsRow = true := by kernel_rfl
theorem a15 : J15 Go.Proofs.YtikjmnimdlcehaaGreat.Tryz.pinned.checked.prog 3 Go.Proofs.Tryz.f3 Go.Proofs.YtikjmnimdlcehaaGreat.Rows.auditBootsSpec Go.Proofs.YtikjmnimdlcehaaGreat.Rows.auditBootsRow = true := by kernel_rfl
theorem a16 : J16 Go.Proofs.YtikjmnimdlcehaaGreat.Tryz.pinned.checked.prog 3 Go.Proofs.Tryz.f3 Go.Proofs.YtikjmnimdlcehaaGreat.Rows.auditBootsSpec Go.Proofs.YtikjmnimdlcehaaGreat.Rows.auditBootsRow = true := by kernel_rfl
theorem a17 : J17 Go.Proofs.YtikjmnimdlcehaaGreat.Tryz.pinned.checked.prog 3 Go.Proofs.Tryz.f3 Go.Proofs.YtikjmnimdlcehaaGreat.Rows.auditBootsSpec Go.Proofs.YtikjmnimdlcehaaGreat.Rows.auditBootsRow = true := by kernel_rfl
theorem a18 : J18 Go.Proofs.YtikjmnimdlcehaaGreat.Tryz.pinned.checked.prog 3 Go.Proofs.Tryz.f3 Go.Proofs.YtikjmnimdlcehaaGreat.Rows.auditBootsSpec Go.Proofs.YtikjmnimdlcehaaGreat.Rows.auditBootsRow = true := by kernel_rfl
theorem a19 : J19 Go.Proofs.YtikjmnimdlcehaaGreat.Tryz.pinned.checked.prog 3 Go.Proofs.Tryz.f3 Go.Proofs.YtikjmnimdlcehaaGreat.Rows.auditBootsSpec Go.Proofs.YtikjmnimdlcehaaGreat.Rows.auditBootsRow = true := by kernel_rfl
theorem a20 : J20 Go.Proofs.YtikjmnimdlcehaaGreat.Tryz.pinned.checked.prog 3 Go.Proofs.Tryz.f3 Go.Proofs.YtikjmnimdlcehaaGreat.Rows.auditBootsSpec Go.Proofs.YtikjmnimdlcehaaGreat.Rows.auditBootsRow = true := by kernel_rfl
theorem a21 : J21 Go.Proofs.YtikjmnimdlcehaaGreat.Tryz.pinned.checked.prog 3 Go.Proofs.Tryz.f3 Go.Proofs.YtikjmnimdlcehaaGreat.Rows.auditBootsSpec Go.Proofs.YtikjmnimdlcehaaGreat.Rows.auditBootsRow = true := by kernel_rfl
theorem a22 : J22 Go.Proofs.YtikjmnimdlcehaaGreat.Tryz.pinned.checked.prog 3 Go.Proofs.Tryz.f3 Go.Proofs.YtikjmnimdlcehaaGreat.Rows.auditBootsSpec Go.Proofs.YtikjmnimdlcehaaGreat.Rows.auditBootsRow = true := by kernel_rfl
theorem a23 : J23 Go.Proofs.YtikjmnimdlcehaaGreat.Tryz.pinned.checked.prog 3 Go.Proofs.Tryz.f3 Go.Proofs.YtikjmnimdlcehaaGreat.Rows.auditBootsSpec Go.Proofs.YtikjmnimdlcehaaGreat.Rows.auditBootsRow = true := by kernel_rfl
theorem a24 : J24 Go.Proofs.YtikjmnimdlcehaaGreat.Tryz.pinned.checked.prog 3 Go.Proofs.Tryz.f3 Go.Proofs.YtikjmnimdlcehaaGreat.Rows.auditBootsSpec Go.Proofs.YtikjmnimdlcehaaGreat.Rows.auditBootsRow = true := by kernel_rfl
theorem a25 : J25 Go.Proofs.YtikjmnimdlcehaaGreat.Tryz.pinned.checked.prog 3 Go.Proofs.Tryz.f3 Go.Proofs.YtikjmnimdlcehaaGreat.Rows.auditBootsSpec Go.Proofs.YtikjmnimdlcehaaGreat.Rows.auditBootsRow = true := by kernel_rfl
theorem a26 : J26 Go.Proofs.YtikjmnimdlcehaaGreat.Tryz.pinned.checked.prog 3 Go.Proofs.Tryz.f3 Go.Proofs.YtikjmnimdlcehaaGreat.Rows.auditBootsSpec Go.Proofs.YtikjmnimdlcehaaGreat.Rows.auditBootsRow = true := by kernel_rfl
theorem a27 : J27 Go.Proofs.YtikjmnimdlcehaaGreat.Tryz.pinned.checked.prog 3 Go.Proofs.Tryz.f3 Go.Proofs.YtikjmnimdlcehaaGreat.Rows.auditBootsSpec Go.Proofs.YtikjmnimdlcehaaGreat.Rows.auditBootsRow = true := by kernel_rfl
theorem a28 : J28 Go.Proofs.YtikjmnimdlcehaaGreat.Tryz.pinned.checked.prog 3 Go.Proofs.Tryz.f3 Go.Proofs.YtikjmnimdlcehaaGreat.Rows.auditBootsSpec Go.Proofs.YtikjmnimdlcehaaGreat.Rows.auditBootsRow = true := by kernel_rfl
theorem a29 : J29 Go.Proofs.YtikjmnimdlcehaaGreat.Tryz.pinned.checked.prog 3 Go.Proofs.Tryz.f3 Go.Proofs.YtikjmnimdlcehaaGreat.Rows.auditBootsSpec Go.Proofs.YtikjmnimdlcehaaGreat.Rows.auditBootsRow = true := by kernel_rfl
theorem a30 : J30 Go.Proofs.YtikjmnimdlcehaaGreat.Tryz.pinned.checked.prog 3 Go.Proofs.Tryz.f3 Go.Proofs.YtikjmnimdlcehaaGreat.Rows.auditBootsSpec Go.Proofs.YtikjmnimdlcehaaGreat.Rows.auditBootsRow = true := by kernel_rfl
theorem a31 : J31 Go.Proofs.YtikjmnimdlcehaaGreat.Tryz.pinned.checked.prog 3 Go.Proofs.Tryz.f3 Go.Proofs.YtikjmnimdlcehaaGreat.Rows.auditBootsSpec Go.Proofs.YtikjmnimdlcehaaGreat.Rows.auditBootsRow = true := by kernel_rfl
theorem all : joinedFacts Go.Proofs.YtikjmnimdlcehaaGreat.Tryz.pinned.checked.prog 3 Go.Proofs.Tryz.f3 Go.Proofs.YtikjmnimdlcehaaGreat.Rows.auditBootsSpec Go.Proofs.YtikjmnimdlcehaaGreat.Rows.auditBootsRow = true := of _ _ _ _ _ a0 a1 a2 a3 a4 a5 a6 a7 a8 a9 a10 a11 a12 a13 a14 a15 a16 a17 a18 a19 a20 a21 a22 a23 a24 a25 a26 a27 a28 a29 a30 a31
end JAuditBoots
