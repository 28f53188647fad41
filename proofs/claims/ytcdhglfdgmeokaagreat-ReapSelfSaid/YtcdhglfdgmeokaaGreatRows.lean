/-
  No cell of these rows narrows 'for every input' (looked for: loops, veiled, ifaces, maps, wideKeys, modest, calm, conditions, laid).
  DERIVED. THE GIVEN ROWS OF THIS SEAT. 12 by the template 'for every input the law returns true; each argument reads behind the call as it read before'; 0 by the template 'total and deterministic' (their statements: YtcdhglfdgmeokaaGreatTotals.lean).
  GIVEN WITH THE SEED: the statements are not yours to turn. If you find one false, say at which input.
  Laid BY PROGRAM, IN A SANDBOX (cutbox-rows.mjs): the forced cells as the released guide's own fill.sh prints them over the translation fb9ffb55eab49353… (all of the seat's roots in one cut). By AI agents, Wed Nov 11 2026. No macro, syntax, notation, axiom, sorry.
-/
import Derived.Test.YtcdhglfdgmeokaaGreatChecked
import GoSem.Claim
import GoSem.ClaimJoined
import GoSem.ClaimMapViews
import Derived.JoinedTies
import Derived.KernelRfl
namespace Go.Proofs.YtcdhglfdgmeokaaGreat
/- THE CELL 'sum', in the pinned program and in every row, IS THE sha256 OF THE DUMP (.gsa) THAT YtcdhglfdgmeokaaGreatProg.lean LOADS. Nothing in Lean hashes anything: it is a label: what it is worth is what the hold of that sum in a sandbox is worth. -/
noncomputable def Tryz.pinned : Pinned := { name := "ytcdhglfdgmeokaagreat", sum := "fb9ffb55eab49353e8819e43a7bc2256e7ac53ac27e43347829a0b24c34a61c3", checked := Tryz.checked }
namespace Rows
def none {H : Type} : Left H := { results := [], args := [] }

/-- 'seisinlaw26.IpcNone': WHATEVER THE INPUT: true; the input reads as it did. -/
def ipcNoneSpec : ChangeSpec := { name := "ipcNone", fn := fun _ => fun
  | [d1, d2, d3] => { results := [.lit (.bool true)], args := [d1, d2, d3] }
  | _ => none }
def ipcNoneRow : OpenClaim := { program := "ytcdhglfdgmeokaagreat", sum := "fb9ffb55eab49353e8819e43a7bc2256e7ac53ac27e43347829a0b24c34a61c3", func := "seisin/seisinlaw26.IpcNone", spec := "ipcNone", inPlace := ["slices.overlaps[seisin/api.Object]"], unfollowed := true, recurses := true, plainKeys := false, apart := false }
def IpcNoneSaid : Prop := ipcNoneRow.holds Tryz.pinned (OpenSpec.ofChange ipcNoneSpec)

/-- ITS FALSE NEIGHBOUR: 'it returns false'. Refute it at one input. -/
def ipcNoneWrong : ChangeSpec := { name := "ipcNone", fn := fun _ => fun
  | [d1, d2, d3] => { results := [.lit (.bool false)], args := [d1, d2, d3] }
  | _ => none }
def IpcNoneWrongFalsely : Prop := ipcNoneRow.holds Tryz.pinned (OpenSpec.ofChange ipcNoneWrong)

/-- 'seisinlaw26.IpcDropped': WHATEVER THE INPUT: true; the input reads as it did. -/
def ipcDroppedSpec : ChangeSpec := { name := "ipcDropped", fn := fun _ => fun
  | [d1, d2] => { results := [.lit (.bool true)], args := [d1, d2] }
  | _ => none }
def ipcDroppedRow : OpenClaim := { program := "ytcdhglfdgmeokaagreat", sum := "fb9ffb55eab49353e8819e43a7bc2256e7ac53ac27e43347829a0b24c34a61c3", func := "seisin/seisinlaw26.IpcDropped", spec := "ipcDropped", inPlace := ["slices.overlaps[seisin/api.Object]"], unfollowed := true, recurses := true, plainKeys := false, apart := false }
def IpcDroppedSaid : Prop := ipcDroppedRow.holds Tryz.pinned (OpenSpec.ofChange ipcDroppedSpec)

/-- ITS FALSE NEIGHBOUR: 'it returns false'. Refute it at one input. -/
def ipcDroppedWrong : ChangeSpec := { name := "ipcDropped", fn := fun _ => fun
  | [d1, d2] => { results := [.lit (.bool false)], args := [d1, d2] }
  | _ => none }
def IpcDroppedWrongFalsely : Prop := ipcDroppedRow.holds Tryz.pinned (OpenSpec.ofChange ipcDroppedWrong)

/-- 'seisinlaw26.IpcRights': WHATEVER THE INPUT: true; the input reads as it did. -/
def ipcRightsSpec : ChangeSpec := { name := "ipcRights", fn := fun _ => fun
  | [d1, d2, d3] => { results := [.lit (.bool true)], args := [d1, d2, d3] }
  | _ => none }
def ipcRightsRow : OpenClaim := { program := "ytcdhglfdgmeokaagreat", sum := "fb9ffb55eab49353e8819e43a7bc2256e7ac53ac27e43347829a0b24c34a61c3", func := "seisin/seisinlaw26.IpcRights", spec := "ipcRights", inPlace := ["slices.overlaps[seisin/api.Object]"], unfollowed := true, recurses := true, plainKeys := false, apart := false }
def IpcRightsSaid : Prop := ipcRightsRow.holds Tryz.pinned (OpenSpec.ofChange ipcRightsSpec)

/-- ITS FALSE NEIGHBOUR: 'it returns false'. Refute it at one input. -/
def ipcRightsWrong : ChangeSpec := { name := "ipcRights", fn := fun _ => fun
  | [d1, d2, d3] => { results := [.lit (.bool false)], args := [d1, d2, d3] }
  | _ => none }
def IpcRightsWrongFalsely : Prop := ipcRightsRow.holds Tryz.pinned (OpenSpec.ofChange ipcRightsWrong)

/-- 'seisinlaw24.VspaceLevels': WHATEVER THE INPUT: true; the input reads as it did. -/
def vspaceLevelsSpec : ChangeSpec := { name := "vspaceLevels", fn := fun _ => fun
  | [d1, d2] => { results := [.lit (.bool true)], args := [d1, d2] }
  | _ => none }
def vspaceLevelsRow : OpenClaim := { program := "ytcdhglfdgmeokaagreat", sum := "fb9ffb55eab49353e8819e43a7bc2256e7ac53ac27e43347829a0b24c34a61c3", func := "seisin/seisinlaw24.VspaceLevels", spec := "vspaceLevels", inPlace := ["slices.overlaps[seisin/api.Object]"], unfollowed := true, recurses := true, plainKeys := false, apart := false }
def VspaceLevelsSaid : Prop := vspaceLevelsRow.holds Tryz.pinned (OpenSpec.ofChange vspaceLevelsSpec)

/-- ITS FALSE NEIGHBOUR: 'it returns false'. Refute it at one input. -/
def vspaceLevelsWrong : ChangeSpec := { name := "vspaceLevels", fn := fun _ => fun
  | [d1, d2] => { results := [.lit (.bool false)], args := [d1, d2] }
  | _ => none }
def VspaceLevelsWrongFalsely : Prop := vspaceLevelsRow.holds Tryz.pinned (OpenSpec.ofChange vspaceLevelsWrong)

/-- 'seisinlaw25.ReapNone': WHATEVER THE INPUT: true; the input reads as it did. -/
def reapNoneSpec : ChangeSpec := { name := "reapNone", fn := fun _ => fun
  | [d1, d2] => { results := [.lit (.bool true)], args := [d1, d2] }
  | _ => none }
def reapNoneRow : OpenClaim := { program := "ytcdhglfdgmeokaagreat", sum := "fb9ffb55eab49353e8819e43a7bc2256e7ac53ac27e43347829a0b24c34a61c3", func := "seisin/seisinlaw25.ReapNone", spec := "reapNone", inPlace := ["slices.overlaps[seisin/api.Object]"], unfollowed := true, recurses := true, plainKeys := false, apart := false }
def ReapNoneSaid : Prop := reapNoneRow.holds Tryz.pinned (OpenSpec.ofChange reapNoneSpec)

/-- ITS FALSE NEIGHBOUR: 'it returns false'. Refute it at one input. -/
def reapNoneWrong : ChangeSpec := { name := "reapNone", fn := fun _ => fun
  | [d1, d2] => { results := [.lit (.bool false)], args := [d1, d2] }
  | _ => none }
def ReapNoneWrongFalsely : Prop := reapNoneRow.holds Tryz.pinned (OpenSpec.ofChange reapNoneWrong)

/-- 'seisinlaw25.ReapNode': WHATEVER THE INPUT: true; the input reads as it did. -/
def reapNodeSpec : ChangeSpec := { name := "reapNode", fn := fun _ => fun
  | [d1, d2] => { results := [.lit (.bool true)], args := [d1, d2] }
  | _ => none }
def reapNodeRow : OpenClaim := { program := "ytcdhglfdgmeokaagreat", sum := "fb9ffb55eab49353e8819e43a7bc2256e7ac53ac27e43347829a0b24c34a61c3", func := "seisin/seisinlaw25.ReapNode", spec := "reapNode", inPlace := ["slices.overlaps[seisin/api.Object]"], unfollowed := true, recurses := true, plainKeys := false, apart := false }
def ReapNodeSaid : Prop := reapNodeRow.holds Tryz.pinned (OpenSpec.ofChange reapNodeSpec)

/-- ITS FALSE NEIGHBOUR: 'it returns false'. Refute it at one input. -/
def reapNodeWrong : ChangeSpec := { name := "reapNode", fn := fun _ => fun
  | [d1, d2] => { results := [.lit (.bool false)], args := [d1, d2] }
  | _ => none }
def ReapNodeWrongFalsely : Prop := reapNodeRow.holds Tryz.pinned (OpenSpec.ofChange reapNodeWrong)

/-- 'seisinlaw25.ReapThread': WHATEVER THE INPUT: true; the input reads as it did. -/
def reapThreadSpec : ChangeSpec := { name := "reapThread", fn := fun _ => fun
  | [d] => { results := [.lit (.bool true)], args := [d] }
  | _ => none }
def reapThreadRow : OpenClaim := { program := "ytcdhglfdgmeokaagreat", sum := "fb9ffb55eab49353e8819e43a7bc2256e7ac53ac27e43347829a0b24c34a61c3", func := "seisin/seisinlaw25.ReapThread", spec := "reapThread", inPlace := ["slices.overlaps[seisin/api.Object]"], unfollowed := true, recurses := true, plainKeys := false, apart := false }
def ReapThreadSaid : Prop := reapThreadRow.holds Tryz.pinned (OpenSpec.ofChange reapThreadSpec)

/-- ITS FALSE NEIGHBOUR: 'it returns false'. Refute it at one input. -/
def reapThreadWrong : ChangeSpec := { name := "reapThread", fn := fun _ => fun
  | [d] => { results := [.lit (.bool false)], args := [d] }
  | _ => none }
def ReapThreadWrongFalsely : Prop := reapThreadRow.holds Tryz.pinned (OpenSpec.ofChange reapThreadWrong)

/-- 'seisinlaw25.ReapEnd': WHATEVER THE INPUT: true; the input reads as it did. -/
def reapEndSpec : ChangeSpec := { name := "reapEnd", fn := fun _ => fun
  | [d1, d2] => { results := [.lit (.bool true)], args := [d1, d2] }
  | _ => none }
def reapEndRow : OpenClaim := { program := "ytcdhglfdgmeokaagreat", sum := "fb9ffb55eab49353e8819e43a7bc2256e7ac53ac27e43347829a0b24c34a61c3", func := "seisin/seisinlaw25.ReapEnd", spec := "reapEnd", inPlace := ["slices.overlaps[seisin/api.Object]"], unfollowed := true, recurses := true, plainKeys := false, apart := false }
def ReapEndSaid : Prop := reapEndRow.holds Tryz.pinned (OpenSpec.ofChange reapEndSpec)

/-- ITS FALSE NEIGHBOUR: 'it returns false'. Refute it at one input. -/
def reapEndWrong : ChangeSpec := { name := "reapEnd", fn := fun _ => fun
  | [d1, d2] => { results := [.lit (.bool false)], args := [d1, d2] }
  | _ => none }
def ReapEndWrongFalsely : Prop := reapEndRow.holds Tryz.pinned (OpenSpec.ofChange reapEndWrong)

/-- 'seisinlaw25.ReapSelf': WHATEVER THE INPUT: true; the input reads as it did. -/
def reapSelfSpec : ChangeSpec := { name := "reapSelf", fn := fun _ => fun
  | [d1, d2] => { results := [.lit (.bool true)], args := [d1, d2] }
  | _ => none }
def reapSelfRow : OpenClaim := { program := "ytcdhglfdgmeokaagreat", sum := "fb9ffb55eab49353e8819e43a7bc2256e7ac53ac27e43347829a0b24c34a61c3", func := "seisin/seisinlaw25.ReapSelf", spec := "reapSelf", inPlace := ["slices.overlaps[seisin/api.Object]"], unfollowed := true, recurses := true, plainKeys := false, apart := false }
def ReapSelfSaid : Prop := reapSelfRow.holds Tryz.pinned (OpenSpec.ofChange reapSelfSpec)

/-- ITS FALSE NEIGHBOUR: 'it returns false'. Refute it at one input. -/
def reapSelfWrong : ChangeSpec := { name := "reapSelf", fn := fun _ => fun
  | [d1, d2] => { results := [.lit (.bool false)], args := [d1, d2] }
  | _ => none }
def ReapSelfWrongFalsely : Prop := reapSelfRow.holds Tryz.pinned (OpenSpec.ofChange reapSelfWrong)

/-- 'seisinlaw27.FaultNone': WHATEVER THE INPUT: true; the input reads as it did. -/
def faultNoneSpec : ChangeSpec := { name := "faultNone", fn := fun _ => fun
  | [d1, d2] => { results := [.lit (.bool true)], args := [d1, d2] }
  | _ => none }
def faultNoneRow : OpenClaim := { program := "ytcdhglfdgmeokaagreat", sum := "fb9ffb55eab49353e8819e43a7bc2256e7ac53ac27e43347829a0b24c34a61c3", func := "seisin/seisinlaw27.FaultNone", spec := "faultNone", inPlace := ["slices.overlaps[seisin/api.Object]"], unfollowed := true, recurses := true, plainKeys := false, apart := false }
def FaultNoneSaid : Prop := faultNoneRow.holds Tryz.pinned (OpenSpec.ofChange faultNoneSpec)

/-- ITS FALSE NEIGHBOUR: 'it returns false'. Refute it at one input. -/
def faultNoneWrong : ChangeSpec := { name := "faultNone", fn := fun _ => fun
  | [d1, d2] => { results := [.lit (.bool false)], args := [d1, d2] }
  | _ => none }
def FaultNoneWrongFalsely : Prop := faultNoneRow.holds Tryz.pinned (OpenSpec.ofChange faultNoneWrong)

/-- 'seisinlaw27.FaultPages': WHATEVER THE INPUT: true; the input reads as it did. -/
def faultPagesSpec : ChangeSpec := { name := "faultPages", fn := fun _ => fun
  | [d1, d2, d3, d4] => { results := [.lit (.bool true)], args := [d1, d2, d3, d4] }
  | _ => none }
def faultPagesRow : OpenClaim := { program := "ytcdhglfdgmeokaagreat", sum := "fb9ffb55eab49353e8819e43a7bc2256e7ac53ac27e43347829a0b24c34a61c3", func := "seisin/seisinlaw27.FaultPages", spec := "faultPages", inPlace := ["slices.overlaps[seisin/api.Object]"], unfollowed := true, recurses := true, plainKeys := false, apart := false }
def FaultPagesSaid : Prop := faultPagesRow.holds Tryz.pinned (OpenSpec.ofChange faultPagesSpec)

/-- ITS FALSE NEIGHBOUR: 'it returns false'. Refute it at one input. -/
def faultPagesWrong : ChangeSpec := { name := "faultPages", fn := fun _ => fun
  | [d1, d2, d3, d4] => { results := [.lit (.bool false)], args := [d1, d2, d3, d4] }
  | _ => none }
def FaultPagesWrongFalsely : Prop := faultPagesRow.holds Tryz.pinned (OpenSpec.ofChange faultPagesWrong)

/-- 'seisinlaw27.FaultAlone': WHATEVER THE INPUT: true; the input reads as it did. -/
def faultAloneSpec : ChangeSpec := { name := "faultAlone", fn := fun _ => fun
  | [d1, d2, d3] => { results := [.lit (.bool true)], args := [d1, d2, d3] }
  | _ => none }
def faultAloneRow : OpenClaim := { program := "ytcdhglfdgmeokaagreat", sum := "fb9ffb55eab49353e8819e43a7bc2256e7ac53ac27e43347829a0b24c34a61c3", func := "seisin/seisinlaw27.FaultAlone", spec := "faultAlone", inPlace := ["slices.overlaps[seisin/api.Object]"], unfollowed := true, recurses := true, plainKeys := false, apart := false }
def FaultAloneSaid : Prop := faultAloneRow.holds Tryz.pinned (OpenSpec.ofChange faultAloneSpec)

/-- ITS FALSE NEIGHBOUR: 'it returns false'. Refute it at one input. -/
def faultAloneWrong : ChangeSpec := { name := "faultAlone", fn := fun _ => fun
  | [d1, d2, d3] => { results := [.lit (.bool false)], args := [d1, d2, d3] }
  | _ => none }
def FaultAloneWrongFalsely : Prop := faultAloneRow.holds Tryz.pinned (OpenSpec.ofChange faultAloneWrong)

/- THE SECOND FORM. 'bulk': how many values and letters a reading holds, each counted each time it is reached (what is shared counts as often as it is met; a slice's spare places count too). A statement '..UptoSaid' is the law's where the arguments, and the package variables that the reading takes, are together of bulk at most 1048576: NARROWER than '..Said'. Prove '..Said' where nothing that the law and all that it calls make is longer than what came in: it says more and counts as full. Else prove '..UptoSaid'. A law counts once. -/
mutual
def uptoBulk {H : Type} : DataW H → Nat
  | .lit (.string bytes) => bytes.length + 1
  | .lit _ => 1
  | .nil => 1
  | .ptr d => uptoBulk d + 1
  | .slice elems spare => uptoBulkAll elems + uptoBulkAll spare + 1
  | .agg parts => uptoBulkAll parts + 1
  | .iface _ d => uptoBulk d + 1
  | .map entries => uptoBulkEntries entries + 1
  | .held _ => 1
def uptoBulkAll {H : Type} : List (DataW H) → Nat
  | [] => 0
  | d :: r => uptoBulk d + uptoBulkAll r
def uptoBulkEntries {H : Type} : List (Lit × DataW H) → Nat
  | [] => 0
  | x :: r => uptoBulkEntry x + uptoBulkEntries r
def uptoBulkEntry {H : Type} : Lit × DataW H → Nat
  | (.string bytes, d) => bytes.length + uptoBulk d + 1
  | (_, d) => uptoBulk d + 1
 end
def uptoSmall : (H : Type) → List (DataW H) → Bool := fun _ ds => decide (uptoBulkAll ds ≤ 1048576)
def OpenSpec.upto (s : _root_.Go.ChangeSpec) : _root_.Go.OpenSpec := { _root_.Go.OpenSpec.ofChange s with cond := some uptoSmall }

/-- 'seisinlaw26.IpcNone', WHERE WHAT IT READS IS OF BULK AT MOST 1048576: true; the input reads as it did. -/
def ipcNoneUptoRow : OpenClaim := { program := "ytcdhglfdgmeokaagreat", sum := "fb9ffb55eab49353e8819e43a7bc2256e7ac53ac27e43347829a0b24c34a61c3", func := "seisin/seisinlaw26.IpcNone", spec := "ipcNone", inPlace := ["slices.overlaps[seisin/api.Object]"], unfollowed := true, recurses := true, plainKeys := false, apart := false, narrowed := true }
def IpcNoneUptoSaid : Prop := ipcNoneUptoRow.holds Tryz.pinned (OpenSpec.upto ipcNoneSpec)

/-- 'seisinlaw26.IpcDropped', WHERE WHAT IT READS IS OF BULK AT MOST 1048576: true; the input reads as it did. -/
def ipcDroppedUptoRow : OpenClaim := { program := "ytcdhglfdgmeokaagreat", sum := "fb9ffb55eab49353e8819e43a7bc2256e7ac53ac27e43347829a0b24c34a61c3", func := "seisin/seisinlaw26.IpcDropped", spec := "ipcDropped", inPlace := ["slices.overlaps[seisin/api.Object]"], unfollowed := true, recurses := true, plainKeys := false, apart := false, narrowed := true }
def IpcDroppedUptoSaid : Prop := ipcDroppedUptoRow.holds Tryz.pinned (OpenSpec.upto ipcDroppedSpec)

/-- 'seisinlaw26.IpcRights', WHERE WHAT IT READS IS OF BULK AT MOST 1048576: true; the input reads as it did. -/
def ipcRightsUptoRow : OpenClaim := { program := "ytcdhglfdgmeokaagreat", sum := "fb9ffb55eab49353e8819e43a7bc2256e7ac53ac27e43347829a0b24c34a61c3", func := "seisin/seisinlaw26.IpcRights", spec := "ipcRights", inPlace := ["slices.overlaps[seisin/api.Object]"], unfollowed := true, recurses := true, plainKeys := false, apart := false, narrowed := true }
def IpcRightsUptoSaid : Prop := ipcRightsUptoRow.holds Tryz.pinned (OpenSpec.upto ipcRightsSpec)

/-- 'seisinlaw24.VspaceLevels', WHERE WHAT IT READS IS OF BULK AT MOST 1048576: true; the input reads as it did. -/
def vspaceLevelsUptoRow : OpenClaim := { program := "ytcdhglfdgmeokaagreat", sum := "fb9ffb55eab49353e8819e43a7bc2256e7ac53ac27e43347829a0b24c34a61c3", func := "seisin/seisinlaw24.VspaceLevels", spec := "vspaceLevels", inPlace := ["slices.overlaps[seisin/api.Object]"], unfollowed := true, recurses := true, plainKeys := false, apart := false, narrowed := true }
def VspaceLevelsUptoSaid : Prop := vspaceLevelsUptoRow.holds Tryz.pinned (OpenSpec.upto vspaceLevelsSpec)

/-- 'seisinlaw25.ReapNone', WHERE WHAT IT READS IS OF BULK AT MOST 1048576: true; the input reads as it did. -/
def reapNoneUptoRow : OpenClaim := { program := "ytcdhglfdgmeokaagreat", sum := "fb9ffb55eab49353e8819e43a7bc2256e7ac53ac27e43347829a0b24c34a61c3", func := "seisin/seisinlaw25.ReapNone", spec := "reapNone", inPlace := ["slices.overlaps[seisin/api.Object]"], unfollowed := true, recurses := true, plainKeys := false, apart := false, narrowed := true }
def ReapNoneUptoSaid : Prop := reapNoneUptoRow.holds Tryz.pinned (OpenSpec.upto reapNoneSpec)

/-- 'seisinlaw25.ReapNode', WHERE WHAT IT READS IS OF BULK AT MOST 1048576: true; the input reads as it did. -/
def reapNodeUptoRow : OpenClaim := { program := "ytcdhglfdgmeokaagreat", sum := "fb9ffb55eab49353e8819e43a7bc2256e7ac53ac27e43347829a0b24c34a61c3", func := "seisin/seisinlaw25.ReapNode", spec := "reapNode", inPlace := ["slices.overlaps[seisin/api.Object]"], unfollowed := true, recurses := true, plainKeys := false, apart := false, narrowed := true }
def ReapNodeUptoSaid : Prop := reapNodeUptoRow.holds Tryz.pinned (OpenSpec.upto reapNodeSpec)

/-- 'seisinlaw25.ReapThread', WHERE WHAT IT READS IS OF BULK AT MOST 1048576: true; the input reads as it did. -/
def reapThreadUptoRow : OpenClaim := { program := "ytcdhglfdgmeokaagreat", sum := "fb9ffb55eab49353e8819e43a7bc2256e7ac53ac27e43347829a0b24c34a61c3", func := "seisin/seisinlaw25.ReapThread", spec := "reapThread", inPlace := ["slices.overlaps[seisin/api.Object]"], unfollowed := true, recurses := true, plainKeys := false, apart := false, narrowed := true }
def ReapThreadUptoSaid : Prop := reapThreadUptoRow.holds Tryz.pinned (OpenSpec.upto reapThreadSpec)

/-- 'seisinlaw25.ReapEnd', WHERE WHAT IT READS IS OF BULK AT MOST 1048576: true; the input reads as it did. -/
def reapEndUptoRow : OpenClaim := { program := "ytcdhglfdgmeokaagreat", sum := "fb9ffb55eab49353e8819e43a7bc2256e7ac53ac27e43347829a0b24c34a61c3", func := "seisin/seisinlaw25.ReapEnd", spec := "reapEnd", inPlace := ["slices.overlaps[seisin/api.Object]"], unfollowed := true, recurses := true, plainKeys := false, apart := false, narrowed := true }
def ReapEndUptoSaid : Prop := reapEndUptoRow.holds Tryz.pinned (OpenSpec.upto reapEndSpec)

/-- 'seisinlaw25.ReapSelf', WHERE WHAT IT READS IS OF BULK AT MOST 1048576: true; the input reads as it did. -/
def reapSelfUptoRow : OpenClaim := { program := "ytcdhglfdgmeokaagreat", sum := "fb9ffb55eab49353e8819e43a7bc2256e7ac53ac27e43347829a0b24c34a61c3", func := "seisin/seisinlaw25.ReapSelf", spec := "reapSelf", inPlace := ["slices.overlaps[seisin/api.Object]"], unfollowed := true, recurses := true, plainKeys := false, apart := false, narrowed := true }
def ReapSelfUptoSaid : Prop := reapSelfUptoRow.holds Tryz.pinned (OpenSpec.upto reapSelfSpec)

/-- 'seisinlaw27.FaultNone', WHERE WHAT IT READS IS OF BULK AT MOST 1048576: true; the input reads as it did. -/
def faultNoneUptoRow : OpenClaim := { program := "ytcdhglfdgmeokaagreat", sum := "fb9ffb55eab49353e8819e43a7bc2256e7ac53ac27e43347829a0b24c34a61c3", func := "seisin/seisinlaw27.FaultNone", spec := "faultNone", inPlace := ["slices.overlaps[seisin/api.Object]"], unfollowed := true, recurses := true, plainKeys := false, apart := false, narrowed := true }
def FaultNoneUptoSaid : Prop := faultNoneUptoRow.holds Tryz.pinned (OpenSpec.upto faultNoneSpec)

/-- 'seisinlaw27.FaultPages', WHERE WHAT IT READS IS OF BULK AT MOST 1048576: true; the input reads as it did. -/
def faultPagesUptoRow : OpenClaim := { program := "ytcdhglfdgmeokaagreat", sum := "fb9ffb55eab49353e8819e43a7bc2256e7ac53ac27e43347829a0b24c34a61c3", func := "seisin/seisinlaw27.FaultPages", spec := "faultPages", inPlace := ["slices.overlaps[seisin/api.Object]"], unfollowed := true, recurses := true, plainKeys := false, apart := false, narrowed := true }
def FaultPagesUptoSaid : Prop := faultPagesUptoRow.holds Tryz.pinned (OpenSpec.upto faultPagesSpec)

/-- 'seisinlaw27.FaultAlone', WHERE WHAT IT READS IS OF BULK AT MOST 1048576: true; the input reads as it did. -/
def faultAloneUptoRow : OpenClaim := { program := "ytcdhglfdgmeokaagreat", sum := "fb9ffb55eab49353e8819e43a7bc2256e7ac53ac27e43347829a0b24c34a61c3", func := "seisin/seisinlaw27.FaultAlone", spec := "faultAlone", inPlace := ["slices.overlaps[seisin/api.Object]"], unfollowed := true, recurses := true, plainKeys := false, apart := false, narrowed := true }
def FaultAloneUptoSaid : Prop := faultAloneUptoRow.holds Tryz.pinned (OpenSpec.upto faultAloneSpec)

end Rows
end Go.Proofs.YtcdhglfdgmeokaaGreat
