/-
  No cell of these rows narrows 'for every input' (looked for: loops, veiled, ifaces, maps, wideKeys, modest, calm, conditions, laid).
  DERIVED. THE GIVEN ROWS OF THIS SEAT. 7 by the template 'for every input the law returns true; each argument reads behind the call as it read before'; 0 by the template 'total and deterministic' (their statements: YtijplfaplkkpcaaGreatTotals.lean).
  GIVEN WITH THE SEED: the statements are not yours to turn. If you find one false, say at which input.
  Laid BY PROGRAM, IN A SANDBOX (cutbox-rows.mjs): the forced cells as the released guide's own fill.sh prints them over the translation 83b1fb7cbd643fab… (all of the seat's roots in one cut). By AI agents, Wed Nov 11 2026. No macro, syntax, notation, axiom, sorry.
-/
import Derived.Test.YtijplfaplkkpcaaGreatChecked
import GoSem.Claim
import GoSem.ClaimJoined
import GoSem.ClaimMapViews
import Derived.JoinedTies
import Derived.KernelRfl
namespace Go.Proofs.YtijplfaplkkpcaaGreat
/- THE CELL 'sum', in the pinned program and in every row, IS THE sha256 OF THE DUMP (.gsa) THAT YtijplfaplkkpcaaGreatProg.lean LOADS. Nothing in Lean hashes anything: it is a label: what it is worth is what the hold of that sum in a sandbox is worth. -/
noncomputable def Tryz.pinned : Pinned := { name := "ytijplfaplkkpcaagreat", sum := "83b1fb7cbd643fab8beec8b7c7fdcd219d7e4d4ff2d81800f9bc4d15ee008fa8", checked := Tryz.checked }
namespace Rows
def none {H : Type} : Left H := { results := [], args := [] }

/-- 'seisinlaw23.RealmRuns': WHATEVER THE INPUT: true; the input reads as it did. -/
def realmRunsSpec : ChangeSpec := { name := "realmRuns", fn := fun _ => fun
  | [d] => { results := [.lit (.bool true)], args := [d] }
  | _ => none }
def realmRunsRow : OpenClaim := { program := "ytijplfaplkkpcaagreat", sum := "83b1fb7cbd643fab8beec8b7c7fdcd219d7e4d4ff2d81800f9bc4d15ee008fa8", func := "seisin/seisinlaw23.RealmRuns", spec := "realmRuns", inPlace := ["slices.overlaps[seisin/api.Object]"], unfollowed := true, recurses := true, plainKeys := false, apart := false }
def RealmRunsSaid : Prop := realmRunsRow.holds Tryz.pinned (OpenSpec.ofChange realmRunsSpec)

/-- ITS FALSE NEIGHBOUR: 'it returns false'. Refute it at one input. -/
def realmRunsWrong : ChangeSpec := { name := "realmRuns", fn := fun _ => fun
  | [d] => { results := [.lit (.bool false)], args := [d] }
  | _ => none }
def RealmRunsWrongFalsely : Prop := realmRunsRow.holds Tryz.pinned (OpenSpec.ofChange realmRunsWrong)

/-- 'seisinlaw23.RealmReady': WHATEVER THE INPUT: true; the input reads as it did. -/
def realmReadySpec : ChangeSpec := { name := "realmReady", fn := fun _ => fun
  | [d] => { results := [.lit (.bool true)], args := [d] }
  | _ => none }
def realmReadyRow : OpenClaim := { program := "ytijplfaplkkpcaagreat", sum := "83b1fb7cbd643fab8beec8b7c7fdcd219d7e4d4ff2d81800f9bc4d15ee008fa8", func := "seisin/seisinlaw23.RealmReady", spec := "realmReady", inPlace := ["slices.overlaps[seisin/api.Object]"], unfollowed := true, recurses := true, plainKeys := false, apart := false }
def RealmReadySaid : Prop := realmReadyRow.holds Tryz.pinned (OpenSpec.ofChange realmReadySpec)

/-- ITS FALSE NEIGHBOUR: 'it returns false'. Refute it at one input. -/
def realmReadyWrong : ChangeSpec := { name := "realmReady", fn := fun _ => fun
  | [d] => { results := [.lit (.bool false)], args := [d] }
  | _ => none }
def RealmReadyWrongFalsely : Prop := realmReadyRow.holds Tryz.pinned (OpenSpec.ofChange realmReadyWrong)

/-- 'seisinlaw24.VspaceFresh': WHATEVER THE INPUT: true; the input reads as it did. -/
def vspaceFreshSpec : ChangeSpec := { name := "vspaceFresh", fn := fun _ => fun
  | [d1, d2, d3, d4] => { results := [.lit (.bool true)], args := [d1, d2, d3, d4] }
  | _ => none }
def vspaceFreshRow : OpenClaim := { program := "ytijplfaplkkpcaagreat", sum := "83b1fb7cbd643fab8beec8b7c7fdcd219d7e4d4ff2d81800f9bc4d15ee008fa8", func := "seisin/seisinlaw24.VspaceFresh", spec := "vspaceFresh", inPlace := ["slices.overlaps[seisin/api.Object]"], unfollowed := true, recurses := true, plainKeys := false, apart := false }
def VspaceFreshSaid : Prop := vspaceFreshRow.holds Tryz.pinned (OpenSpec.ofChange vspaceFreshSpec)

/-- ITS FALSE NEIGHBOUR: 'it returns false'. Refute it at one input. -/
def vspaceFreshWrong : ChangeSpec := { name := "vspaceFresh", fn := fun _ => fun
  | [d1, d2, d3, d4] => { results := [.lit (.bool false)], args := [d1, d2, d3, d4] }
  | _ => none }
def VspaceFreshWrongFalsely : Prop := vspaceFreshRow.holds Tryz.pinned (OpenSpec.ofChange vspaceFreshWrong)

/-- 'seisinlaw24.VspaceGone': WHATEVER THE INPUT: true; the input reads as it did. -/
def vspaceGoneSpec : ChangeSpec := { name := "vspaceGone", fn := fun _ => fun
  | [d1, d2] => { results := [.lit (.bool true)], args := [d1, d2] }
  | _ => none }
def vspaceGoneRow : OpenClaim := { program := "ytijplfaplkkpcaagreat", sum := "83b1fb7cbd643fab8beec8b7c7fdcd219d7e4d4ff2d81800f9bc4d15ee008fa8", func := "seisin/seisinlaw24.VspaceGone", spec := "vspaceGone", inPlace := ["slices.overlaps[seisin/api.Object]"], unfollowed := true, recurses := true, plainKeys := false, apart := false }
def VspaceGoneSaid : Prop := vspaceGoneRow.holds Tryz.pinned (OpenSpec.ofChange vspaceGoneSpec)

/-- ITS FALSE NEIGHBOUR: 'it returns false'. Refute it at one input. -/
def vspaceGoneWrong : ChangeSpec := { name := "vspaceGone", fn := fun _ => fun
  | [d1, d2] => { results := [.lit (.bool false)], args := [d1, d2] }
  | _ => none }
def VspaceGoneWrongFalsely : Prop := vspaceGoneRow.holds Tryz.pinned (OpenSpec.ofChange vspaceGoneWrong)

/-- 'seisinlaw24.VspaceHeld': WHATEVER THE INPUT: true; the input reads as it did. -/
def vspaceHeldSpec : ChangeSpec := { name := "vspaceHeld", fn := fun _ => fun
  | [d] => { results := [.lit (.bool true)], args := [d] }
  | _ => none }
def vspaceHeldRow : OpenClaim := { program := "ytijplfaplkkpcaagreat", sum := "83b1fb7cbd643fab8beec8b7c7fdcd219d7e4d4ff2d81800f9bc4d15ee008fa8", func := "seisin/seisinlaw24.VspaceHeld", spec := "vspaceHeld", inPlace := ["slices.overlaps[seisin/api.Object]"], unfollowed := true, recurses := true, plainKeys := false, apart := false }
def VspaceHeldSaid : Prop := vspaceHeldRow.holds Tryz.pinned (OpenSpec.ofChange vspaceHeldSpec)

/-- ITS FALSE NEIGHBOUR: 'it returns false'. Refute it at one input. -/
def vspaceHeldWrong : ChangeSpec := { name := "vspaceHeld", fn := fun _ => fun
  | [d] => { results := [.lit (.bool false)], args := [d] }
  | _ => none }
def VspaceHeldWrongFalsely : Prop := vspaceHeldRow.holds Tryz.pinned (OpenSpec.ofChange vspaceHeldWrong)

/-- 'seisinlaw24.VspaceCached': WHATEVER THE INPUT: true; the input reads as it did. -/
def vspaceCachedSpec : ChangeSpec := { name := "vspaceCached", fn := fun _ => fun
  | [d] => { results := [.lit (.bool true)], args := [d] }
  | _ => none }
def vspaceCachedRow : OpenClaim := { program := "ytijplfaplkkpcaagreat", sum := "83b1fb7cbd643fab8beec8b7c7fdcd219d7e4d4ff2d81800f9bc4d15ee008fa8", func := "seisin/seisinlaw24.VspaceCached", spec := "vspaceCached", inPlace := ["slices.overlaps[seisin/api.Object]"], unfollowed := true, recurses := true, plainKeys := false, apart := false }
def VspaceCachedSaid : Prop := vspaceCachedRow.holds Tryz.pinned (OpenSpec.ofChange vspaceCachedSpec)

/-- ITS FALSE NEIGHBOUR: 'it returns false'. Refute it at one input. -/
def vspaceCachedWrong : ChangeSpec := { name := "vspaceCached", fn := fun _ => fun
  | [d] => { results := [.lit (.bool false)], args := [d] }
  | _ => none }
def VspaceCachedWrongFalsely : Prop := vspaceCachedRow.holds Tryz.pinned (OpenSpec.ofChange vspaceCachedWrong)

/-- 'seisinlaw24.VspaceScript': WHATEVER THE INPUT: true; the input reads as it did. -/
def vspaceScriptSpec : ChangeSpec := { name := "vspaceScript", fn := fun _ => fun
  | [d] => { results := [.lit (.bool true)], args := [d] }
  | _ => none }
def vspaceScriptRow : OpenClaim := { program := "ytijplfaplkkpcaagreat", sum := "83b1fb7cbd643fab8beec8b7c7fdcd219d7e4d4ff2d81800f9bc4d15ee008fa8", func := "seisin/seisinlaw24.VspaceScript", spec := "vspaceScript", inPlace := ["slices.overlaps[seisin/api.Object]"], unfollowed := true, recurses := true, plainKeys := false, apart := false }
def VspaceScriptSaid : Prop := vspaceScriptRow.holds Tryz.pinned (OpenSpec.ofChange vspaceScriptSpec)

/-- ITS FALSE NEIGHBOUR: 'it returns false'. Refute it at one input. -/
def vspaceScriptWrong : ChangeSpec := { name := "vspaceScript", fn := fun _ => fun
  | [d] => { results := [.lit (.bool false)], args := [d] }
  | _ => none }
def VspaceScriptWrongFalsely : Prop := vspaceScriptRow.holds Tryz.pinned (OpenSpec.ofChange vspaceScriptWrong)

/- THE SECOND FORM. 'bulk': how many values and letters a reading holds, each counted each time it is reached (what is shared counts as often as it is met; a slice's spare places count too). A statement '..UptoSaid' is the law's where the arguments, and the package variables that the reading takes, are together of bulk at most 1048576: NARROWER than '..Said'. Prove '..Said' where nothing that the law and all that it calls make is longer than what came in: it says more and counts as full. Else prove '..UptoSaid'. A law counts once. -/
mutual
def uptoBulk {H : Type} : DataW H → Nat
  | .lit (.string bytes) => bytes.length + 1
  | .lit _ => 1
  | .nil => 1
  | .ptr d => uptoBulk d + 1
  | .slice elems spare => uptoBulkAll elems + uptoBulkAll spare + 1
  | .agg parts => uptoBulkAll parts + 1
  | .iface _ d => uptoBulk d + 1
  | .map entries => uptoBulkEntries entries + 1
  | .held _ => 1
def uptoBulkAll {H : Type} : List (DataW H) → Nat
  | [] => 0
  | d :: r => uptoBulk d + uptoBulkAll r
def uptoBulkEntries {H : Type} : List (Lit × DataW H) → Nat
  | [] => 0
  | x :: r => uptoBulkEntry x + uptoBulkEntries r
def uptoBulkEntry {H : Type} : Lit × DataW H → Nat
  | (.string bytes, d) => bytes.length + uptoBulk d + 1
  | (_, d) => uptoBulk d + 1
 end
def uptoSmall : (H : Type) → List (DataW H) → Bool := fun _ ds => decide (uptoBulkAll ds ≤ 1048576)
def OpenSpec.upto (s : _root_.Go.ChangeSpec) : _root_.Go.OpenSpec := { _root_.Go.OpenSpec.ofChange s with cond := some uptoSmall }

/-- 'seisinlaw23.RealmRuns', WHERE WHAT IT READS IS OF BULK AT MOST 1048576: true; the input reads as it did. -/
def realmRunsUptoRow : OpenClaim := { program := "ytijplfaplkkpcaagreat", sum := "83b1fb7cbd643fab8beec8b7c7fdcd219d7e4d4ff2d81800f9bc4d15ee008fa8", func := "seisin/seisinlaw23.RealmRuns", spec := "realmRuns", inPlace := ["slices.overlaps[seisin/api.Object]"], unfollowed := true, recurses := true, plainKeys := false, apart := false, narrowed := true }
def RealmRunsUptoSaid : Prop := realmRunsUptoRow.holds Tryz.pinned (OpenSpec.upto realmRunsSpec)

/-- 'seisinlaw23.RealmReady', WHERE WHAT IT READS IS OF BULK AT MOST 1048576: true; the input reads as it did. -/
def realmReadyUptoRow : OpenClaim := { program := "ytijplfaplkkpcaagreat", sum := "83b1fb7cbd643fab8beec8b7c7fdcd219d7e4d4ff2d81800f9bc4d15ee008fa8", func := "seisin/seisinlaw23.RealmReady", spec := "realmReady", inPlace := ["slices.overlaps[seisin/api.Object]"], unfollowed := true, recurses := true, plainKeys := false, apart := false, narrowed := true }
def RealmReadyUptoSaid : Prop := realmReadyUptoRow.holds Tryz.pinned (OpenSpec.upto realmReadySpec)

/-- 'seisinlaw24.VspaceFresh', WHERE WHAT IT READS IS OF BULK AT MOST 1048576: true; the input reads as it did. -/
def vspaceFreshUptoRow : OpenClaim := { program := "ytijplfaplkkpcaagreat", sum := "83b1fb7cbd643fab8beec8b7c7fdcd219d7e4d4ff2d81800f9bc4d15ee008fa8", func := "seisin/seisinlaw24.VspaceFresh", spec := "vspaceFresh", inPlace := ["slices.overlaps[seisin/api.Object]"], unfollowed := true, recurses := true, plainKeys := false, apart := false, narrowed := true }
def VspaceFreshUptoSaid : Prop := vspaceFreshUptoRow.holds Tryz.pinned (OpenSpec.upto vspaceFreshSpec)

/-- 'seisinlaw24.VspaceGone', WHERE WHAT IT READS IS OF BULK AT MOST 1048576: true; the input reads as it did. -/
def vspaceGoneUptoRow : OpenClaim := { program := "ytijplfaplkkpcaagreat", sum := "83b1fb7cbd643fab8beec8b7c7fdcd219d7e4d4ff2d81800f9bc4d15ee008fa8", func := "seisin/seisinlaw24.VspaceGone", spec := "vspaceGone", inPlace := ["slices.overlaps[seisin/api.Object]"], unfollowed := true, recurses := true, plainKeys := false, apart := false, narrowed := true }
def VspaceGoneUptoSaid : Prop := vspaceGoneUptoRow.holds Tryz.pinned (OpenSpec.upto vspaceGoneSpec)

/-- 'seisinlaw24.VspaceHeld', WHERE WHAT IT READS IS OF BULK AT MOST 1048576: true; the input reads as it did. -/
def vspaceHeldUptoRow : OpenClaim := { program := "ytijplfaplkkpcaagreat", sum := "83b1fb7cbd643fab8beec8b7c7fdcd219d7e4d4ff2d81800f9bc4d15ee008fa8", func := "seisin/seisinlaw24.VspaceHeld", spec := "vspaceHeld", inPlace := ["slices.overlaps[seisin/api.Object]"], unfollowed := true, recurses := true, plainKeys := false, apart := false, narrowed := true }
def VspaceHeldUptoSaid : Prop := vspaceHeldUptoRow.holds Tryz.pinned (OpenSpec.upto vspaceHeldSpec)

/-- 'seisinlaw24.VspaceCached', WHERE WHAT IT READS IS OF BULK AT MOST 1048576: true; the input reads as it did. -/
def vspaceCachedUptoRow : OpenClaim := { program := "ytijplfaplkkpcaagreat", sum := "83b1fb7cbd643fab8beec8b7c7fdcd219d7e4d4ff2d81800f9bc4d15ee008fa8", func := "seisin/seisinlaw24.VspaceCached", spec := "vspaceCached", inPlace := ["slices.overlaps[seisin/api.Object]"], unfollowed := true, recurses := true, plainKeys := false, apart := false, narrowed := true }
def VspaceCachedUptoSaid : Prop := vspaceCachedUptoRow.holds Tryz.pinned (OpenSpec.upto vspaceCachedSpec)

/-- 'seisinlaw24.VspaceScript', WHERE WHAT IT READS IS OF BULK AT MOST 1048576: true; the input reads as it did. -/
def vspaceScriptUptoRow : OpenClaim := { program := "ytijplfaplkkpcaagreat", sum := "83b1fb7cbd643fab8beec8b7c7fdcd219d7e4d4ff2d81800f9bc4d15ee008fa8", func := "seisin/seisinlaw24.VspaceScript", spec := "vspaceScript", inPlace := ["slices.overlaps[seisin/api.Object]"], unfollowed := true, recurses := true, plainKeys := false, apart := false, narrowed := true }
def VspaceScriptUptoSaid : Prop := vspaceScriptUptoRow.holds Tryz.pinned (OpenSpec.upto vspaceScriptSpec)

end Rows
end Go.Proofs.YtijplfaplkkpcaaGreat
