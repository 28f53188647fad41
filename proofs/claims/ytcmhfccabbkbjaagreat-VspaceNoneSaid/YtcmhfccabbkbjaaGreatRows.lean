/-
  No cell of these rows narrows 'for every input' (looked for: loops, veiled, ifaces, maps, wideKeys, modest, calm, conditions, laid).
  DERIVED. THE GIVEN ROWS OF THIS SEAT. 12 by the template 'for every input the law returns true; each argument reads behind the call as it read before'; 0 by the template 'total and deterministic' (their statements: YtcmhfccabbkbjaaGreatTotals.lean).
  GIVEN WITH THE SEED: the statements are not yours to turn. If you find one false, say at which input.
  Laid BY PROGRAM, IN A SANDBOX (cutbox-rows.mjs): the forced cells as the released guide's own fill.sh prints them over the translation 6c67ecb89d1d5fc2… (all of the seat's roots in one cut). By AI agents, Wed Nov 11 2026. No macro, syntax, notation, axiom, sorry.
-/
import Derived.Test.YtcmhfccabbkbjaaGreatChecked
import GoSem.Claim
import GoSem.ClaimJoined
import GoSem.ClaimMapViews
import Derived.JoinedTies
import Derived.KernelRfl
namespace Go.Proofs.YtcmhfccabbkbjaaGreat
/- THE CELL 'sum', in the pinned program and in every row, IS THE sha256 OF THE DUMP (.gsa) THAT YtcmhfccabbkbjaaGreatProg.lean LOADS. Nothing in Lean hashes anything: it is a label: what it is worth is what the hold of that sum in a sandbox is worth. -/
noncomputable def Tryz.pinned : Pinned := { name := "ytcmhfccabbkbjaagreat", sum := "6c67ecb89d1d5fc28f0af09c8eebd9dc853474eff2ed3dec80427e098a2cd1b8", checked := Tryz.checked }
namespace Rows
def none {H : Type} : Left H := { results := [], args := [] }

/-- 'seisinlaw23.RealmClean': WHATEVER THE INPUT: true; the input reads as it did. -/
def realmCleanSpec : ChangeSpec := { name := "realmClean", fn := fun _ => fun
  | [d1, d2, d3, d4] => { results := [.lit (.bool true)], args := [d1, d2, d3, d4] }
  | _ => none }
def realmCleanRow : OpenClaim := { program := "ytcmhfccabbkbjaagreat", sum := "6c67ecb89d1d5fc28f0af09c8eebd9dc853474eff2ed3dec80427e098a2cd1b8", func := "seisin/seisinlaw23.RealmClean", spec := "realmClean", inPlace := ["slices.overlaps[seisin/api.Object]"], unfollowed := true, recurses := true, plainKeys := false, apart := false }
def RealmCleanSaid : Prop := realmCleanRow.holds Tryz.pinned (OpenSpec.ofChange realmCleanSpec)

/-- ITS FALSE NEIGHBOUR: 'it returns false'. Refute it at one input. -/
def realmCleanWrong : ChangeSpec := { name := "realmClean", fn := fun _ => fun
  | [d1, d2, d3, d4] => { results := [.lit (.bool false)], args := [d1, d2, d3, d4] }
  | _ => none }
def RealmCleanWrongFalsely : Prop := realmCleanRow.holds Tryz.pinned (OpenSpec.ofChange realmCleanWrong)

/-- 'seisinlaw23.RealmNew': WHATEVER THE INPUT: true; the input reads as it did. -/
def realmNewSpec : ChangeSpec := { name := "realmNew", fn := fun _ => fun
  | [d1, d2] => { results := [.lit (.bool true)], args := [d1, d2] }
  | _ => none }
def realmNewRow : OpenClaim := { program := "ytcmhfccabbkbjaagreat", sum := "6c67ecb89d1d5fc28f0af09c8eebd9dc853474eff2ed3dec80427e098a2cd1b8", func := "seisin/seisinlaw23.RealmNew", spec := "realmNew", inPlace := ["slices.overlaps[seisin/api.Object]"], unfollowed := true, recurses := true, plainKeys := false, apart := false }
def RealmNewSaid : Prop := realmNewRow.holds Tryz.pinned (OpenSpec.ofChange realmNewSpec)

/-- ITS FALSE NEIGHBOUR: 'it returns false'. Refute it at one input. -/
def realmNewWrong : ChangeSpec := { name := "realmNew", fn := fun _ => fun
  | [d1, d2] => { results := [.lit (.bool false)], args := [d1, d2] }
  | _ => none }
def RealmNewWrongFalsely : Prop := realmNewRow.holds Tryz.pinned (OpenSpec.ofChange realmNewWrong)

/-- 'seisinlaw24.VspaceNone': WHATEVER THE INPUT: true; the input reads as it did. -/
def vspaceNoneSpec : ChangeSpec := { name := "vspaceNone", fn := fun _ => fun
  | [d] => { results := [.lit (.bool true)], args := [d] }
  | _ => none }
def vspaceNoneRow : OpenClaim := { program := "ytcmhfccabbkbjaagreat", sum := "6c67ecb89d1d5fc28f0af09c8eebd9dc853474eff2ed3dec80427e098a2cd1b8", func := "seisin/seisinlaw24.VspaceNone", spec := "vspaceNone", inPlace := ["slices.overlaps[seisin/api.Object]"], unfollowed := true, recurses := true, plainKeys := false, apart := false }
def VspaceNoneSaid : Prop := vspaceNoneRow.holds Tryz.pinned (OpenSpec.ofChange vspaceNoneSpec)

/-- ITS FALSE NEIGHBOUR: 'it returns false'. Refute it at one input. -/
def vspaceNoneWrong : ChangeSpec := { name := "vspaceNone", fn := fun _ => fun
  | [d] => { results := [.lit (.bool false)], args := [d] }
  | _ => none }
def VspaceNoneWrongFalsely : Prop := vspaceNoneRow.holds Tryz.pinned (OpenSpec.ofChange vspaceNoneWrong)

/-- 'seisinlaw24.VspaceLevels': WHATEVER THE INPUT: true; the input reads as it did. -/
def vspaceLevelsSpec : ChangeSpec := { name := "vspaceLevels", fn := fun _ => fun
  | [d1, d2] => { results := [.lit (.bool true)], args := [d1, d2] }
  | _ => none }
def vspaceLevelsRow : OpenClaim := { program := "ytcmhfccabbkbjaagreat", sum := "6c67ecb89d1d5fc28f0af09c8eebd9dc853474eff2ed3dec80427e098a2cd1b8", func := "seisin/seisinlaw24.VspaceLevels", spec := "vspaceLevels", inPlace := ["slices.overlaps[seisin/api.Object]"], unfollowed := true, recurses := true, plainKeys := false, apart := false }
def VspaceLevelsSaid : Prop := vspaceLevelsRow.holds Tryz.pinned (OpenSpec.ofChange vspaceLevelsSpec)

/-- ITS FALSE NEIGHBOUR: 'it returns false'. Refute it at one input. -/
def vspaceLevelsWrong : ChangeSpec := { name := "vspaceLevels", fn := fun _ => fun
  | [d1, d2] => { results := [.lit (.bool false)], args := [d1, d2] }
  | _ => none }
def VspaceLevelsWrongFalsely : Prop := vspaceLevelsRow.holds Tryz.pinned (OpenSpec.ofChange vspaceLevelsWrong)

/-- 'seisinlaw24.VspaceRemap': WHATEVER THE INPUT: true; the input reads as it did. -/
def vspaceRemapSpec : ChangeSpec := { name := "vspaceRemap", fn := fun _ => fun
  | [d1, d2, d3, d4] => { results := [.lit (.bool true)], args := [d1, d2, d3, d4] }
  | _ => none }
def vspaceRemapRow : OpenClaim := { program := "ytcmhfccabbkbjaagreat", sum := "6c67ecb89d1d5fc28f0af09c8eebd9dc853474eff2ed3dec80427e098a2cd1b8", func := "seisin/seisinlaw24.VspaceRemap", spec := "vspaceRemap", inPlace := ["slices.overlaps[seisin/api.Object]"], unfollowed := true, recurses := true, plainKeys := false, apart := false }
def VspaceRemapSaid : Prop := vspaceRemapRow.holds Tryz.pinned (OpenSpec.ofChange vspaceRemapSpec)

/-- ITS FALSE NEIGHBOUR: 'it returns false'. Refute it at one input. -/
def vspaceRemapWrong : ChangeSpec := { name := "vspaceRemap", fn := fun _ => fun
  | [d1, d2, d3, d4] => { results := [.lit (.bool false)], args := [d1, d2, d3, d4] }
  | _ => none }
def VspaceRemapWrongFalsely : Prop := vspaceRemapRow.holds Tryz.pinned (OpenSpec.ofChange vspaceRemapWrong)

/-- 'seisinlaw26.IpcOrder': WHATEVER THE INPUT: true; the input reads as it did. -/
def ipcOrderSpec : ChangeSpec := { name := "ipcOrder", fn := fun _ => fun
  | [d1, d2, d3] => { results := [.lit (.bool true)], args := [d1, d2, d3] }
  | _ => none }
def ipcOrderRow : OpenClaim := { program := "ytcmhfccabbkbjaagreat", sum := "6c67ecb89d1d5fc28f0af09c8eebd9dc853474eff2ed3dec80427e098a2cd1b8", func := "seisin/seisinlaw26.IpcOrder", spec := "ipcOrder", inPlace := ["slices.overlaps[seisin/api.Object]"], unfollowed := true, recurses := true, plainKeys := false, apart := false }
def IpcOrderSaid : Prop := ipcOrderRow.holds Tryz.pinned (OpenSpec.ofChange ipcOrderSpec)

/-- ITS FALSE NEIGHBOUR: 'it returns false'. Refute it at one input. -/
def ipcOrderWrong : ChangeSpec := { name := "ipcOrder", fn := fun _ => fun
  | [d1, d2, d3] => { results := [.lit (.bool false)], args := [d1, d2, d3] }
  | _ => none }
def IpcOrderWrongFalsely : Prop := ipcOrderRow.holds Tryz.pinned (OpenSpec.ofChange ipcOrderWrong)

/-- 'seisinlaw23.RealmNone': WHATEVER THE INPUT: true; the input reads as it did. -/
def realmNoneSpec : ChangeSpec := { name := "realmNone", fn := fun _ => fun
  | [d] => { results := [.lit (.bool true)], args := [d] }
  | _ => none }
def realmNoneRow : OpenClaim := { program := "ytcmhfccabbkbjaagreat", sum := "6c67ecb89d1d5fc28f0af09c8eebd9dc853474eff2ed3dec80427e098a2cd1b8", func := "seisin/seisinlaw23.RealmNone", spec := "realmNone", inPlace := ["slices.overlaps[seisin/api.Object]"], unfollowed := true, recurses := true, plainKeys := false, apart := false }
def RealmNoneSaid : Prop := realmNoneRow.holds Tryz.pinned (OpenSpec.ofChange realmNoneSpec)

/-- ITS FALSE NEIGHBOUR: 'it returns false'. Refute it at one input. -/
def realmNoneWrong : ChangeSpec := { name := "realmNone", fn := fun _ => fun
  | [d] => { results := [.lit (.bool false)], args := [d] }
  | _ => none }
def RealmNoneWrongFalsely : Prop := realmNoneRow.holds Tryz.pinned (OpenSpec.ofChange realmNoneWrong)

/-- 'seisinlaw26.IpcTakes': WHATEVER THE INPUT: true; the input reads as it did. -/
def ipcTakesSpec : ChangeSpec := { name := "ipcTakes", fn := fun _ => fun
  | [d1, d2, d3, d4] => { results := [.lit (.bool true)], args := [d1, d2, d3, d4] }
  | _ => none }
def ipcTakesRow : OpenClaim := { program := "ytcmhfccabbkbjaagreat", sum := "6c67ecb89d1d5fc28f0af09c8eebd9dc853474eff2ed3dec80427e098a2cd1b8", func := "seisin/seisinlaw26.IpcTakes", spec := "ipcTakes", inPlace := ["slices.overlaps[seisin/api.Object]"], unfollowed := true, recurses := true, plainKeys := false, apart := false }
def IpcTakesSaid : Prop := ipcTakesRow.holds Tryz.pinned (OpenSpec.ofChange ipcTakesSpec)

/-- ITS FALSE NEIGHBOUR: 'it returns false'. Refute it at one input. -/
def ipcTakesWrong : ChangeSpec := { name := "ipcTakes", fn := fun _ => fun
  | [d1, d2, d3, d4] => { results := [.lit (.bool false)], args := [d1, d2, d3, d4] }
  | _ => none }
def IpcTakesWrongFalsely : Prop := ipcTakesRow.holds Tryz.pinned (OpenSpec.ofChange ipcTakesWrong)

/-- 'seisinlaw26.IpcGives': WHATEVER THE INPUT: true; the input reads as it did. -/
def ipcGivesSpec : ChangeSpec := { name := "ipcGives", fn := fun _ => fun
  | [d1, d2, d3] => { results := [.lit (.bool true)], args := [d1, d2, d3] }
  | _ => none }
def ipcGivesRow : OpenClaim := { program := "ytcmhfccabbkbjaagreat", sum := "6c67ecb89d1d5fc28f0af09c8eebd9dc853474eff2ed3dec80427e098a2cd1b8", func := "seisin/seisinlaw26.IpcGives", spec := "ipcGives", inPlace := ["slices.overlaps[seisin/api.Object]"], unfollowed := true, recurses := true, plainKeys := false, apart := false }
def IpcGivesSaid : Prop := ipcGivesRow.holds Tryz.pinned (OpenSpec.ofChange ipcGivesSpec)

/-- ITS FALSE NEIGHBOUR: 'it returns false'. Refute it at one input. -/
def ipcGivesWrong : ChangeSpec := { name := "ipcGives", fn := fun _ => fun
  | [d1, d2, d3] => { results := [.lit (.bool false)], args := [d1, d2, d3] }
  | _ => none }
def IpcGivesWrongFalsely : Prop := ipcGivesRow.holds Tryz.pinned (OpenSpec.ofChange ipcGivesWrong)

/-- 'seisinlaw26.IpcNone': WHATEVER THE INPUT: true; the input reads as it did. -/
def ipcNoneSpec : ChangeSpec := { name := "ipcNone", fn := fun _ => fun
  | [d1, d2, d3] => { results := [.lit (.bool true)], args := [d1, d2, d3] }
  | _ => none }
def ipcNoneRow : OpenClaim := { program := "ytcmhfccabbkbjaagreat", sum := "6c67ecb89d1d5fc28f0af09c8eebd9dc853474eff2ed3dec80427e098a2cd1b8", func := "seisin/seisinlaw26.IpcNone", spec := "ipcNone", inPlace := ["slices.overlaps[seisin/api.Object]"], unfollowed := true, recurses := true, plainKeys := false, apart := false }
def IpcNoneSaid : Prop := ipcNoneRow.holds Tryz.pinned (OpenSpec.ofChange ipcNoneSpec)

/-- ITS FALSE NEIGHBOUR: 'it returns false'. Refute it at one input. -/
def ipcNoneWrong : ChangeSpec := { name := "ipcNone", fn := fun _ => fun
  | [d1, d2, d3] => { results := [.lit (.bool false)], args := [d1, d2, d3] }
  | _ => none }
def IpcNoneWrongFalsely : Prop := ipcNoneRow.holds Tryz.pinned (OpenSpec.ofChange ipcNoneWrong)

/-- 'seisinlaw26.IpcDropped': WHATEVER THE INPUT: true; the input reads as it did. -/
def ipcDroppedSpec : ChangeSpec := { name := "ipcDropped", fn := fun _ => fun
  | [d1, d2] => { results := [.lit (.bool true)], args := [d1, d2] }
  | _ => none }
def ipcDroppedRow : OpenClaim := { program := "ytcmhfccabbkbjaagreat", sum := "6c67ecb89d1d5fc28f0af09c8eebd9dc853474eff2ed3dec80427e098a2cd1b8", func := "seisin/seisinlaw26.IpcDropped", spec := "ipcDropped", inPlace := ["slices.overlaps[seisin/api.Object]"], unfollowed := true, recurses := true, plainKeys := false, apart := false }
def IpcDroppedSaid : Prop := ipcDroppedRow.holds Tryz.pinned (OpenSpec.ofChange ipcDroppedSpec)

/-- ITS FALSE NEIGHBOUR: 'it returns false'. Refute it at one input. -/
def ipcDroppedWrong : ChangeSpec := { name := "ipcDropped", fn := fun _ => fun
  | [d1, d2] => { results := [.lit (.bool false)], args := [d1, d2] }
  | _ => none }
def IpcDroppedWrongFalsely : Prop := ipcDroppedRow.holds Tryz.pinned (OpenSpec.ofChange ipcDroppedWrong)

/-- 'seisinlaw26.IpcRights': WHATEVER THE INPUT: true; the input reads as it did. -/
def ipcRightsSpec : ChangeSpec := { name := "ipcRights", fn := fun _ => fun
  | [d1, d2, d3] => { results := [.lit (.bool true)], args := [d1, d2, d3] }
  | _ => none }
def ipcRightsRow : OpenClaim := { program := "ytcmhfccabbkbjaagreat", sum := "6c67ecb89d1d5fc28f0af09c8eebd9dc853474eff2ed3dec80427e098a2cd1b8", func := "seisin/seisinlaw26.IpcRights", spec := "ipcRights", inPlace := ["slices.overlaps[seisin/api.Object]"], unfollowed := true, recurses := true, plainKeys := false, apart := false }
def IpcRightsSaid : Prop := ipcRightsRow.holds Tryz.pinned (OpenSpec.ofChange ipcRightsSpec)

/-- ITS FALSE NEIGHBOUR: 'it returns false'. Refute it at one input. -/
def ipcRightsWrong : ChangeSpec := { name := "ipcRights", fn := fun _ => fun
  | [d1, d2, d3] => { results := [.lit (.bool false)], args := [d1, d2, d3] }
  | _ => none }
def IpcRightsWrongFalsely : Prop := ipcRightsRow.holds Tryz.pinned (OpenSpec.ofChange ipcRightsWrong)

/- THE SECOND FORM. 'bulk': how many values and letters a reading holds, each counted each time it is reached (what is shared counts as often as it is met; a slice's spare places count too). A statement '..UptoSaid' is the law's where the arguments, and the package variables that the reading takes, are together of bulk at most 1048576: NARROWER than '..Said'. Prove '..Said' where nothing that the law and all that it calls make is longer than what came in: it says more and counts as full. Else prove '..UptoSaid'. A law counts once. -/
mutual
def uptoBulk {H : Type} : DataW H → Nat
  | .lit (.string bytes) => bytes.length + 1
  | .lit _ => 1
  | .nil => 1
  | .ptr d => uptoBulk d + 1
  | .slice elems spare => uptoBulkAll elems + uptoBulkAll spare + 1
  | .agg parts => uptoBulkAll parts + 1
  | .iface _ d => uptoBulk d + 1
  | .map entries => uptoBulkEntries entries + 1
  | .held _ => 1
def uptoBulkAll {H : Type} : List (DataW H) → Nat
  | [] => 0
  | d :: r => uptoBulk d + uptoBulkAll r
def uptoBulkEntries {H : Type} : List (Lit × DataW H) → Nat
  | [] => 0
  | x :: r => uptoBulkEntry x + uptoBulkEntries r
def uptoBulkEntry {H : Type} : Lit × DataW H → Nat
  | (.string bytes, d) => bytes.length + uptoBulk d + 1
  | (_, d) => uptoBulk d + 1
 end
def uptoSmall : (H : Type) → List (DataW H) → Bool := fun _ ds => decide (uptoBulkAll ds ≤ 1048576)
def OpenSpec.upto (s : _root_.Go.ChangeSpec) : _root_.Go.OpenSpec := { _root_.Go.OpenSpec.ofChange s with cond := some uptoSmall }

/-- 'seisinlaw23.RealmClean', WHERE WHAT IT READS IS OF BULK AT MOST 1048576: true; the input reads as it did. -/
def realmCleanUptoRow : OpenClaim := { program := "ytcmhfccabbkbjaagreat", sum := "6c67ecb89d1d5fc28f0af09c8eebd9dc853474eff2ed3dec80427e098a2cd1b8", func := "seisin/seisinlaw23.RealmClean", spec := "realmClean", inPlace := ["slices.overlaps[seisin/api.Object]"], unfollowed := true, recurses := true, plainKeys := false, apart := false, narrowed := true }
def RealmCleanUptoSaid : Prop := realmCleanUptoRow.holds Tryz.pinned (OpenSpec.upto realmCleanSpec)

/-- 'seisinlaw23.RealmNew', WHERE WHAT IT READS IS OF BULK AT MOST 1048576: true; the input reads as it did. -/
def realmNewUptoRow : OpenClaim := { program := "ytcmhfccabbkbjaagreat", sum := "6c67ecb89d1d5fc28f0af09c8eebd9dc853474eff2ed3dec80427e098a2cd1b8", func := "seisin/seisinlaw23.RealmNew", spec := "realmNew", inPlace := ["slices.overlaps[seisin/api.Object]"], unfollowed := true, recurses := true, plainKeys := false, apart := false, narrowed := true }
def RealmNewUptoSaid : Prop := realmNewUptoRow.holds Tryz.pinned (OpenSpec.upto realmNewSpec)

/-- 'seisinlaw24.VspaceNone', WHERE WHAT IT READS IS OF BULK AT MOST 1048576: true; the input reads as it did. -/
def vspaceNoneUptoRow : OpenClaim := { program := "ytcmhfccabbkbjaagreat", sum := "6c67ecb89d1d5fc28f0af09c8eebd9dc853474eff2ed3dec80427e098a2cd1b8", func := "seisin/seisinlaw24.VspaceNone", spec := "vspaceNone", inPlace := ["slices.overlaps[seisin/api.Object]"], unfollowed := true, recurses := true, plainKeys := false, apart := false, narrowed := true }
def VspaceNoneUptoSaid : Prop := vspaceNoneUptoRow.holds Tryz.pinned (OpenSpec.upto vspaceNoneSpec)

/-- 'seisinlaw24.VspaceLevels', WHERE WHAT IT READS IS OF BULK AT MOST 1048576: true; the input reads as it did. -/
def vspaceLevelsUptoRow : OpenClaim := { program := "ytcmhfccabbkbjaagreat", sum := "6c67ecb89d1d5fc28f0af09c8eebd9dc853474eff2ed3dec80427e098a2cd1b8", func := "seisin/seisinlaw24.VspaceLevels", spec := "vspaceLevels", inPlace := ["slices.overlaps[seisin/api.Object]"], unfollowed := true, recurses := true, plainKeys := false, apart := false, narrowed := true }
def VspaceLevelsUptoSaid : Prop := vspaceLevelsUptoRow.holds Tryz.pinned (OpenSpec.upto vspaceLevelsSpec)

/-- 'seisinlaw24.VspaceRemap', WHERE WHAT IT READS IS OF BULK AT MOST 1048576: true; the input reads as it did. -/
def vspaceRemapUptoRow : OpenClaim := { program := "ytcmhfccabbkbjaagreat", sum := "6c67ecb89d1d5fc28f0af09c8eebd9dc853474eff2ed3dec80427e098a2cd1b8", func := "seisin/seisinlaw24.VspaceRemap", spec := "vspaceRemap", inPlace := ["slices.overlaps[seisin/api.Object]"], unfollowed := true, recurses := true, plainKeys := false, apart := false, narrowed := true }
def VspaceRemapUptoSaid : Prop := vspaceRemapUptoRow.holds Tryz.pinned (OpenSpec.upto vspaceRemapSpec)

/-- 'seisinlaw26.IpcOrder', WHERE WHAT IT READS IS OF BULK AT MOST 1048576: true; the input reads as it did. -/
def ipcOrderUptoRow : OpenClaim := { program := "ytcmhfccabbkbjaagreat", sum := "6c67ecb89d1d5fc28f0af09c8eebd9dc853474eff2ed3dec80427e098a2cd1b8", func := "seisin/seisinlaw26.IpcOrder", spec := "ipcOrder", inPlace := ["slices.overlaps[seisin/api.Object]"], unfollowed := true, recurses := true, plainKeys := false, apart := false, narrowed := true }
def IpcOrderUptoSaid : Prop := ipcOrderUptoRow.holds Tryz.pinned (OpenSpec.upto ipcOrderSpec)

/-- 'seisinlaw23.RealmNone', WHERE WHAT IT READS IS OF BULK AT MOST 1048576: true; the input reads as it did. -/
def realmNoneUptoRow : OpenClaim := { program := "ytcmhfccabbkbjaagreat", sum := "6c67ecb89d1d5fc28f0af09c8eebd9dc853474eff2ed3dec80427e098a2cd1b8", func := "seisin/seisinlaw23.RealmNone", spec := "realmNone", inPlace := ["slices.overlaps[seisin/api.Object]"], unfollowed := true, recurses := true, plainKeys := false, apart := false, narrowed := true }
def RealmNoneUptoSaid : Prop := realmNoneUptoRow.holds Tryz.pinned (OpenSpec.upto realmNoneSpec)

/-- 'seisinlaw26.IpcTakes', WHERE WHAT IT READS IS OF BULK AT MOST 1048576: true; the input reads as it did. -/
def ipcTakesUptoRow : OpenClaim := { program := "ytcmhfccabbkbjaagreat", sum := "6c67ecb89d1d5fc28f0af09c8eebd9dc853474eff2ed3dec80427e098a2cd1b8", func := "seisin/seisinlaw26.IpcTakes", spec := "ipcTakes", inPlace := ["slices.overlaps[seisin/api.Object]"], unfollowed := true, recurses := true, plainKeys := false, apart := false, narrowed := true }
def IpcTakesUptoSaid : Prop := ipcTakesUptoRow.holds Tryz.pinned (OpenSpec.upto ipcTakesSpec)

/-- 'seisinlaw26.IpcGives', WHERE WHAT IT READS IS OF BULK AT MOST 1048576: true; the input reads as it did. -/
def ipcGivesUptoRow : OpenClaim := { program := "ytcmhfccabbkbjaagreat", sum := "6c67ecb89d1d5fc28f0af09c8eebd9dc853474eff2ed3dec80427e098a2cd1b8", func := "seisin/seisinlaw26.IpcGives", spec := "ipcGives", inPlace := ["slices.overlaps[seisin/api.Object]"], unfollowed := true, recurses := true, plainKeys := false, apart := false, narrowed := true }
def IpcGivesUptoSaid : Prop := ipcGivesUptoRow.holds Tryz.pinned (OpenSpec.upto ipcGivesSpec)

/-- 'seisinlaw26.IpcNone', WHERE WHAT IT READS IS OF BULK AT MOST 1048576: true; the input reads as it did. -/
def ipcNoneUptoRow : OpenClaim := { program := "ytcmhfccabbkbjaagreat", sum := "6c67ecb89d1d5fc28f0af09c8eebd9dc853474eff2ed3dec80427e098a2cd1b8", func := "seisin/seisinlaw26.IpcNone", spec := "ipcNone", inPlace := ["slices.overlaps[seisin/api.Object]"], unfollowed := true, recurses := true, plainKeys := false, apart := false, narrowed := true }
def IpcNoneUptoSaid : Prop := ipcNoneUptoRow.holds Tryz.pinned (OpenSpec.upto ipcNoneSpec)

/-- 'seisinlaw26.IpcDropped', WHERE WHAT IT READS IS OF BULK AT MOST 1048576: true; the input reads as it did. -/
def ipcDroppedUptoRow : OpenClaim := { program := "ytcmhfccabbkbjaagreat", sum := "6c67ecb89d1d5fc28f0af09c8eebd9dc853474eff2ed3dec80427e098a2cd1b8", func := "seisin/seisinlaw26.IpcDropped", spec := "ipcDropped", inPlace := ["slices.overlaps[seisin/api.Object]"], unfollowed := true, recurses := true, plainKeys := false, apart := false, narrowed := true }
def IpcDroppedUptoSaid : Prop := ipcDroppedUptoRow.holds Tryz.pinned (OpenSpec.upto ipcDroppedSpec)

/-- 'seisinlaw26.IpcRights', WHERE WHAT IT READS IS OF BULK AT MOST 1048576: true; the input reads as it did. -/
def ipcRightsUptoRow : OpenClaim := { program := "ytcmhfccabbkbjaagreat", sum := "6c67ecb89d1d5fc28f0af09c8eebd9dc853474eff2ed3dec80427e098a2cd1b8", func := "seisin/seisinlaw26.IpcRights", spec := "ipcRights", inPlace := ["slices.overlaps[seisin/api.Object]"], unfollowed := true, recurses := true, plainKeys := false, apart := false, narrowed := true }
def IpcRightsUptoSaid : Prop := ipcRightsUptoRow.holds Tryz.pinned (OpenSpec.upto ipcRightsSpec)

end Rows
end Go.Proofs.YtcmhfccabbkbjaaGreat
