/-
  No cell of these rows narrows 'for every input' (looked for: loops, veiled, ifaces, maps, wideKeys, modest, calm, conditions, laid).
  DERIVED. THE GIVEN ROWS OF THIS SEAT. 4 by the template 'for every input the law returns true; each argument reads behind the call as it read before'; 0 by the template 'total and deterministic' (their statements: YtpiicallicgdkaaGreatTotals.lean).
  GIVEN WITH THE SEED: the statements are not yours to turn. If you find one false, say at which input.
  Laid BY PROGRAM, IN A SANDBOX (cutbox-rows.mjs): the forced cells as the released guide's own fill.sh prints them over the translation 20df30c4c3e03cd8… (all of the seat's roots in one cut). By AI agents, Wed Nov 11 2026. No macro, syntax, notation, axiom, sorry.
-/
import Derived.Test.YtpiicallicgdkaaGreatChecked
import GoSem.Claim
import GoSem.ClaimJoined
import GoSem.ClaimMapViews
import Derived.JoinedTies
import Derived.KernelRfl
namespace Go.Proofs.YtpiicallicgdkaaGreat
/- THE CELL 'sum', in the pinned program and in every row, IS THE sha256 OF THE DUMP (.gsa) THAT YtpiicallicgdkaaGreatProg.lean LOADS. Nothing in Lean hashes anything: it is a label: what it is worth is what the hold of that sum in a sandbox is worth. -/
noncomputable def Tryz.pinned : Pinned := { name := "ytpiicallicgdkaagreat", sum := "20df30c4c3e03cd84b775cf83e4b1279706613143961dfaa707fa41ab9caf1d6", checked := Tryz.checked }
namespace Rows
def none {H : Type} : Left H := { results := [], args := [] }

/-- 'seisinlaw27.FaultRepaired': WHATEVER THE INPUT: true; the input reads as it did. -/
def faultRepairedSpec : ChangeSpec := { name := "faultRepaired", fn := fun _ => fun
  | [d1, d2, d3, d4] => { results := [.lit (.bool true)], args := [d1, d2, d3, d4] }
  | _ => none }
def faultRepairedRow : OpenClaim := { program := "ytpiicallicgdkaagreat", sum := "20df30c4c3e03cd84b775cf83e4b1279706613143961dfaa707fa41ab9caf1d6", func := "seisin/seisinlaw27.FaultRepaired", spec := "faultRepaired", inPlace := ["slices.overlaps[seisin/api.Object]"], unfollowed := true, recurses := true, plainKeys := false, apart := false }
def FaultRepairedSaid : Prop := faultRepairedRow.holds Tryz.pinned (OpenSpec.ofChange faultRepairedSpec)

/-- ITS FALSE NEIGHBOUR: 'it returns false'. Refute it at one input. -/
def faultRepairedWrong : ChangeSpec := { name := "faultRepaired", fn := fun _ => fun
  | [d1, d2, d3, d4] => { results := [.lit (.bool false)], args := [d1, d2, d3, d4] }
  | _ => none }
def FaultRepairedWrongFalsely : Prop := faultRepairedRow.holds Tryz.pinned (OpenSpec.ofChange faultRepairedWrong)

/-- 'seisinlaw26.IpcGives': WHATEVER THE INPUT: true; the input reads as it did. -/
def ipcGivesSpec : ChangeSpec := { name := "ipcGives", fn := fun _ => fun
  | [d1, d2, d3] => { results := [.lit (.bool true)], args := [d1, d2, d3] }
  | _ => none }
def ipcGivesRow : OpenClaim := { program := "ytpiicallicgdkaagreat", sum := "20df30c4c3e03cd84b775cf83e4b1279706613143961dfaa707fa41ab9caf1d6", func := "seisin/seisinlaw26.IpcGives", spec := "ipcGives", inPlace := ["slices.overlaps[seisin/api.Object]"], unfollowed := true, recurses := true, plainKeys := false, apart := false }
def IpcGivesSaid : Prop := ipcGivesRow.holds Tryz.pinned (OpenSpec.ofChange ipcGivesSpec)

/-- ITS FALSE NEIGHBOUR: 'it returns false'. Refute it at one input. -/
def ipcGivesWrong : ChangeSpec := { name := "ipcGives", fn := fun _ => fun
  | [d1, d2, d3] => { results := [.lit (.bool false)], args := [d1, d2, d3] }
  | _ => none }
def IpcGivesWrongFalsely : Prop := ipcGivesRow.holds Tryz.pinned (OpenSpec.ofChange ipcGivesWrong)

/-- 'seisinlaw24.VspaceRemap': WHATEVER THE INPUT: true; the input reads as it did. -/
def vspaceRemapSpec : ChangeSpec := { name := "vspaceRemap", fn := fun _ => fun
  | [d1, d2, d3, d4] => { results := [.lit (.bool true)], args := [d1, d2, d3, d4] }
  | _ => none }
def vspaceRemapRow : OpenClaim := { program := "ytpiicallicgdkaagreat", sum := "20df30c4c3e03cd84b775cf83e4b1279706613143961dfaa707fa41ab9caf1d6", func := "seisin/seisinlaw24.VspaceRemap", spec := "vspaceRemap", inPlace := ["slices.overlaps[seisin/api.Object]"], unfollowed := true, recurses := true, plainKeys := false, apart := false }
def VspaceRemapSaid : Prop := vspaceRemapRow.holds Tryz.pinned (OpenSpec.ofChange vspaceRemapSpec)

/-- ITS FALSE NEIGHBOUR: 'it returns false'. Refute it at one input. -/
def vspaceRemapWrong : ChangeSpec := { name := "vspaceRemap", fn := fun _ => fun
  | [d1, d2, d3, d4] => { results := [.lit (.bool false)], args := [d1, d2, d3, d4] }
  | _ => none }
def VspaceRemapWrongFalsely : Prop := vspaceRemapRow.holds Tryz.pinned (OpenSpec.ofChange vspaceRemapWrong)

/-- 'seisinlaw24.VspaceOthers': WHATEVER THE INPUT: true; the input reads as it did. -/
def vspaceOthersSpec : ChangeSpec := { name := "vspaceOthers", fn := fun _ => fun
  | [d] => { results := [.lit (.bool true)], args := [d] }
  | _ => none }
def vspaceOthersRow : OpenClaim := { program := "ytpiicallicgdkaagreat", sum := "20df30c4c3e03cd84b775cf83e4b1279706613143961dfaa707fa41ab9caf1d6", func := "seisin/seisinlaw24.VspaceOthers", spec := "vspaceOthers", inPlace := ["slices.overlaps[seisin/api.Object]"], unfollowed := true, recurses := true, plainKeys := false, apart := false }
def VspaceOthersSaid : Prop := vspaceOthersRow.holds Tryz.pinned (OpenSpec.ofChange vspaceOthersSpec)

/-- ITS FALSE NEIGHBOUR: 'it returns false'. Refute it at one input. -/
def vspaceOthersWrong : ChangeSpec := { name := "vspaceOthers", fn := fun _ => fun
  | [d] => { results := [.lit (.bool false)], args := [d] }
  | _ => none }
def VspaceOthersWrongFalsely : Prop := vspaceOthersRow.holds Tryz.pinned (OpenSpec.ofChange vspaceOthersWrong)

/- THE SECOND FORM. 'bulk': how many values and letters a reading holds, each counted each time it is reached (what is shared counts as often as it is met; a slice's spare places count too). A statement '..UptoSaid' is the law's where the arguments, and the package variables that the reading takes, are together of bulk at most 1048576: NARROWER than '..Said'. Prove '..Said' where nothing that the law and all that it calls make is longer than what came in: it says more and counts as full. Else prove '..UptoSaid'. A law counts once. -/
mutual
def uptoBulk {H : Type} : DataW H → Nat
  | .lit (.string bytes) => bytes.length + 1
  | .lit _ => 1
  | .nil => 1
  | .ptr d => uptoBulk d + 1
  | .slice elems spare => uptoBulkAll elems + uptoBulkAll spare + 1
  | .agg parts => uptoBulkAll parts + 1
  | .iface _ d => uptoBulk d + 1
  | .map entries => uptoBulkEntries entries + 1
  | .held _ => 1
def uptoBulkAll {H : Type} : List (DataW H) → Nat
  | [] => 0
  | d :: r => uptoBulk d + uptoBulkAll r
def uptoBulkEntries {H : Type} : List (Lit × DataW H) → Nat
  | [] => 0
  | x :: r => uptoBulkEntry x + uptoBulkEntries r
def uptoBulkEntry {H : Type} : Lit × DataW H → Nat
  | (.string bytes, d) => bytes.length + uptoBulk d + 1
  | (_, d) => uptoBulk d + 1
 end
def uptoSmall : (H : Type) → List (DataW H) → Bool := fun _ ds => decide (uptoBulkAll ds ≤ 1048576)
def OpenSpec.upto (s : _root_.Go.ChangeSpec) : _root_.Go.OpenSpec := { _root_.Go.OpenSpec.ofChange s with cond := some uptoSmall }

/-- 'seisinlaw27.FaultRepaired', WHERE WHAT IT READS IS OF BULK AT MOST 1048576: true; the input reads as it did. -/
def faultRepairedUptoRow : OpenClaim := { program := "ytpiicallicgdkaagreat", sum := "20df30c4c3e03cd84b775cf83e4b1279706613143961dfaa707fa41ab9caf1d6", func := "seisin/seisinlaw27.FaultRepaired", spec := "faultRepaired", inPlace := ["slices.overlaps[seisin/api.Object]"], unfollowed := true, recurses := true, plainKeys := false, apart := false, narrowed := true }
def FaultRepairedUptoSaid : Prop := faultRepairedUptoRow.holds Tryz.pinned (OpenSpec.upto faultRepairedSpec)

/-- 'seisinlaw26.IpcGives', WHERE WHAT IT READS IS OF BULK AT MOST 1048576: true; the input reads as it did. -/
def ipcGivesUptoRow : OpenClaim := { program := "ytpiicallicgdkaagreat", sum := "20df30c4c3e03cd84b775cf83e4b1279706613143961dfaa707fa41ab9caf1d6", func := "seisin/seisinlaw26.IpcGives", spec := "ipcGives", inPlace := ["slices.overlaps[seisin/api.Object]"], unfollowed := true, recurses := true, plainKeys := false, apart := false, narrowed := true }
def IpcGivesUptoSaid : Prop := ipcGivesUptoRow.holds Tryz.pinned (OpenSpec.upto ipcGivesSpec)

/-- 'seisinlaw24.VspaceRemap', WHERE WHAT IT READS IS OF BULK AT MOST 1048576: true; the input reads as it did. -/
def vspaceRemapUptoRow : OpenClaim := { program := "ytpiicallicgdkaagreat", sum := "20df30c4c3e03cd84b775cf83e4b1279706613143961dfaa707fa41ab9caf1d6", func := "seisin/seisinlaw24.VspaceRemap", spec := "vspaceRemap", inPlace := ["slices.overlaps[seisin/api.Object]"], unfollowed := true, recurses := true, plainKeys := false, apart := false, narrowed := true }
def VspaceRemapUptoSaid : Prop := vspaceRemapUptoRow.holds Tryz.pinned (OpenSpec.upto vspaceRemapSpec)

/-- 'seisinlaw24.VspaceOthers', WHERE WHAT IT READS IS OF BULK AT MOST 1048576: true; the input reads as it did. -/
def vspaceOthersUptoRow : OpenClaim := { program := "ytpiicallicgdkaagreat", sum := "20df30c4c3e03cd84b775cf83e4b1279706613143961dfaa707fa41ab9caf1d6", func := "seisin/seisinlaw24.VspaceOthers", spec := "vspaceOthers", inPlace := ["slices.overlaps[seisin/api.Object]"], unfollowed := true, recurses := true, plainKeys := false, apart := false, narrowed := true }
def VspaceOthersUptoSaid : Prop := vspaceOthersUptoRow.holds Tryz.pinned (OpenSpec.upto vspaceOthersSpec)

end Rows
end Go.Proofs.YtpiicallicgdkaaGreat
