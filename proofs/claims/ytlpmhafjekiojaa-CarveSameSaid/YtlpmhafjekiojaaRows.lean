/-
  No cell of these rows narrows 'for every input' (looked for: loops, veiled, ifaces, maps, wideKeys, modest, calm, conditions, laid).
  DERIVED. THE GIVEN ROWS OF THIS SEAT. 4 by the template 'for every input the law returns true; each argument reads behind the call as it read before'; 0 by the template 'total and deterministic' (their statements: YtlpmhafjekiojaaTotals.lean).
  GIVEN WITH THE SEED: the statements are not yours to turn. If you find one false, say at which input.
  Laid BY PROGRAM, IN A SANDBOX (cutbox-rows.mjs): the forced cells as the released guide's own fill.sh prints them over the translation 39043b0d335c714d… (all of the seat's roots in one cut). By AI agents, Wed Nov 11 2026. No macro, syntax, notation, axiom, sorry.
-/
import Derived.Test.YtlpmhafjekiojaaChecked
import GoSem.Claim
import GoSem.ClaimJoined
import GoSem.ClaimMapViews
import Derived.JoinedTies
import Derived.KernelRfl
namespace Go.Proofs.Ytlpmhafjekiojaa
/- THE CELL 'sum', in the pinned program and in every row, IS THE sha256 OF THE DUMP (.gsa) THAT YtlpmhafjekiojaaProg.lean LOADS. Nothing in Lean hashes anything: it is a label: what it is worth is what the hold of that sum in a sandbox is worth. -/
noncomputable def Try.pinned : Pinned := { name := "ytlpmhafjekiojaa", sum := "39043b0d335c714d36575281bdea4fca950c3fcb9b5a5198a7e17b00dfd25a90", checked := Try.checked }
namespace Rows
def none {H : Type} : Left H := { results := [], args := [] }

/-- 'seisinlaw11.CarveCarves': WHATEVER THE INPUT: true; the input reads as it did. -/
def carveCarvesSpec : ChangeSpec := { name := "carveCarves", fn := fun _ => fun
  | [d1, d2, d3, d4] => { results := [.lit (.bool true)], args := [d1, d2, d3, d4] }
  | _ => none }
def carveCarvesRow : OpenClaim := { program := "ytlpmhafjekiojaa", sum := "39043b0d335c714d36575281bdea4fca950c3fcb9b5a5198a7e17b00dfd25a90", func := "seisin/seisinlaw11.CarveCarves", spec := "carveCarves", unfollowed := true, recurses := true, apart := false }
def CarveCarvesSaid : Prop := carveCarvesRow.holds Try.pinned (OpenSpec.ofChange carveCarvesSpec)

/-- ITS FALSE NEIGHBOUR: 'it returns false'. Refute it at one input. -/
def carveCarvesWrong : ChangeSpec := { name := "carveCarves", fn := fun _ => fun
  | [d1, d2, d3, d4] => { results := [.lit (.bool false)], args := [d1, d2, d3, d4] }
  | _ => none }
def CarveCarvesWrongFalsely : Prop := carveCarvesRow.holds Try.pinned (OpenSpec.ofChange carveCarvesWrong)

/-- 'seisinlaw11.CarveMeets': WHATEVER THE INPUT: true; the input reads as it did. -/
def carveMeetsSpec : ChangeSpec := { name := "carveMeets", fn := fun _ => fun
  | [d1, d2, d3, d4] => { results := [.lit (.bool true)], args := [d1, d2, d3, d4] }
  | _ => none }
def carveMeetsRow : OpenClaim := { program := "ytlpmhafjekiojaa", sum := "39043b0d335c714d36575281bdea4fca950c3fcb9b5a5198a7e17b00dfd25a90", func := "seisin/seisinlaw11.CarveMeets", spec := "carveMeets", unfollowed := true, recurses := true, apart := false }
def CarveMeetsSaid : Prop := carveMeetsRow.holds Try.pinned (OpenSpec.ofChange carveMeetsSpec)

/-- ITS FALSE NEIGHBOUR: 'it returns false'. Refute it at one input. -/
def carveMeetsWrong : ChangeSpec := { name := "carveMeets", fn := fun _ => fun
  | [d1, d2, d3, d4] => { results := [.lit (.bool false)], args := [d1, d2, d3, d4] }
  | _ => none }
def CarveMeetsWrongFalsely : Prop := carveMeetsRow.holds Try.pinned (OpenSpec.ofChange carveMeetsWrong)

/-- 'seisinlaw11.CarveApart': WHATEVER THE INPUT: true; the input reads as it did. -/
def carveApartSpec : ChangeSpec := { name := "carveApart", fn := fun _ => fun
  | [d1, d2, d3, d4] => { results := [.lit (.bool true)], args := [d1, d2, d3, d4] }
  | _ => none }
def carveApartRow : OpenClaim := { program := "ytlpmhafjekiojaa", sum := "39043b0d335c714d36575281bdea4fca950c3fcb9b5a5198a7e17b00dfd25a90", func := "seisin/seisinlaw11.CarveApart", spec := "carveApart", unfollowed := true, recurses := true, apart := false }
def CarveApartSaid : Prop := carveApartRow.holds Try.pinned (OpenSpec.ofChange carveApartSpec)

/-- ITS FALSE NEIGHBOUR: 'it returns false'. Refute it at one input. -/
def carveApartWrong : ChangeSpec := { name := "carveApart", fn := fun _ => fun
  | [d1, d2, d3, d4] => { results := [.lit (.bool false)], args := [d1, d2, d3, d4] }
  | _ => none }
def CarveApartWrongFalsely : Prop := carveApartRow.holds Try.pinned (OpenSpec.ofChange carveApartWrong)

/-- 'seisinlaw11.CarveSame': WHATEVER THE INPUT: true; the input reads as it did. -/
def carveSameSpec : ChangeSpec := { name := "carveSame", fn := fun _ => fun
  | [d1, d2, d3, d4] => { results := [.lit (.bool true)], args := [d1, d2, d3, d4] }
  | _ => none }
def carveSameRow : OpenClaim := { program := "ytlpmhafjekiojaa", sum := "39043b0d335c714d36575281bdea4fca950c3fcb9b5a5198a7e17b00dfd25a90", func := "seisin/seisinlaw11.CarveSame", spec := "carveSame", unfollowed := true, recurses := true, apart := false }
def CarveSameSaid : Prop := carveSameRow.holds Try.pinned (OpenSpec.ofChange carveSameSpec)

/-- ITS FALSE NEIGHBOUR: 'it returns false'. Refute it at one input. -/
def carveSameWrong : ChangeSpec := { name := "carveSame", fn := fun _ => fun
  | [d1, d2, d3, d4] => { results := [.lit (.bool false)], args := [d1, d2, d3, d4] }
  | _ => none }
def CarveSameWrongFalsely : Prop := carveSameRow.holds Try.pinned (OpenSpec.ofChange carveSameWrong)

/- THE SECOND FORM. 'bulk': how many values and letters a reading holds, each counted each time it is reached (what is shared counts as often as it is met; a slice's spare places count too). A statement '..UptoSaid' is the law's where the arguments, and the package variables that the reading takes, are together of bulk at most 1048576: NARROWER than '..Said'. Prove '..Said' where nothing that the law and all that it calls make is longer than what came in: it says more and counts as full. Else prove '..UptoSaid'. A law counts once. -/
mutual
def uptoBulk {H : Type} : DataW H → Nat
  | .lit (.string bytes) => bytes.length + 1
  | .lit _ => 1
  | .nil => 1
  | .ptr d => uptoBulk d + 1
  | .slice elems spare => uptoBulkAll elems + uptoBulkAll spare + 1
  | .agg parts => uptoBulkAll parts + 1
  | .iface _ d => uptoBulk d + 1
  | .map entries => uptoBulkEntries entries + 1
  | .held _ => 1
def uptoBulkAll {H : Type} : List (DataW H) → Nat
  | [] => 0
  | d :: r => uptoBulk d + uptoBulkAll r
def uptoBulkEntries {H : Type} : List (Lit × DataW H) → Nat
  | [] => 0
  | x :: r => uptoBulkEntry x + uptoBulkEntries r
def uptoBulkEntry {H : Type} : Lit × DataW H → Nat
  | (.string bytes, d) => bytes.length + uptoBulk d + 1
  | (_, d) => uptoBulk d + 1
 end
def uptoSmall : (H : Type) → List (DataW H) → Bool := fun _ ds => decide (uptoBulkAll ds ≤ 1048576)
def OpenSpec.upto (s : _root_.Go.ChangeSpec) : _root_.Go.OpenSpec := { _root_.Go.OpenSpec.ofChange s with cond := some uptoSmall }

/-- 'seisinlaw11.CarveCarves', WHERE WHAT IT READS IS OF BULK AT MOST 1048576: true; the input reads as it did. -/
def carveCarvesUptoRow : OpenClaim := { program := "ytlpmhafjekiojaa", sum := "39043b0d335c714d36575281bdea4fca950c3fcb9b5a5198a7e17b00dfd25a90", func := "seisin/seisinlaw11.CarveCarves", spec := "carveCarves", unfollowed := true, recurses := true, apart := false, narrowed := true }
def CarveCarvesUptoSaid : Prop := carveCarvesUptoRow.holds Try.pinned (OpenSpec.upto carveCarvesSpec)

/-- 'seisinlaw11.CarveMeets', WHERE WHAT IT READS IS OF BULK AT MOST 1048576: true; the input reads as it did. -/
def carveMeetsUptoRow : OpenClaim := { program := "ytlpmhafjekiojaa", sum := "39043b0d335c714d36575281bdea4fca950c3fcb9b5a5198a7e17b00dfd25a90", func := "seisin/seisinlaw11.CarveMeets", spec := "carveMeets", unfollowed := true, recurses := true, apart := false, narrowed := true }
def CarveMeetsUptoSaid : Prop := carveMeetsUptoRow.holds Try.pinned (OpenSpec.upto carveMeetsSpec)

/-- 'seisinlaw11.CarveApart', WHERE WHAT IT READS IS OF BULK AT MOST 1048576: true; the input reads as it did. -/
def carveApartUptoRow : OpenClaim := { program := "ytlpmhafjekiojaa", sum := "39043b0d335c714d36575281bdea4fca950c3fcb9b5a5198a7e17b00dfd25a90", func := "seisin/seisinlaw11.CarveApart", spec := "carveApart", unfollowed := true, recurses := true, apart := false, narrowed := true }
def CarveApartUptoSaid : Prop := carveApartUptoRow.holds Try.pinned (OpenSpec.upto carveApartSpec)

/-- 'seisinlaw11.CarveSame', WHERE WHAT IT READS IS OF BULK AT MOST 1048576: true; the input reads as it did. -/
def carveSameUptoRow : OpenClaim := { program := "ytlpmhafjekiojaa", sum := "39043b0d335c714d36575281bdea4fca950c3fcb9b5a5198a7e17b00dfd25a90", func := "seisin/seisinlaw11.CarveSame", spec := "carveSame", unfollowed := true, recurses := true, apart := false, narrowed := true }
def CarveSameUptoSaid : Prop := carveSameUptoRow.holds Try.pinned (OpenSpec.upto carveSameSpec)

end Rows
end Go.Proofs.Ytlpmhafjekiojaa
