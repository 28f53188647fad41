/- Maps keyed by a slot. No conditions beside those in its theorems. -/
import Derived.Test.YtgmdginjikhamaaAO10
import Derived.DeepKeys3
import Derived.WideKeyEntry
set_option linter.unusedSimpArgs false
namespace Go.Proofs.AO
open Go.RowKit Go.Maps Go.Shelf
set_option linter.unusedVariables false
set_option maxRecDepth 100000
set_option maxHeartbeats 400000
theorem law79 : WideMaps.KeyLaw Try.prog 79 := deep_law (m := 2) (by omega) (by kernel_rfl) (by kernel_rfl) (by kernel_rfl)
theorem kt79 : Try.prog.keyType 79 = true := by kernel_rfl
theorem cells79 : Try.prog.cellsOf 79 = 2 := by kernel_rfl
theorem cells3 : Try.prog.cellsOf 3 = 1 := by kernel_rfl
theorem tsz : Try.prog.types.size + 1 = (Try.prog.types.size - 1) + 2 := by kernel_rfl
theorem lits79 (d : Nat) (a b : Int) (ha : WF a) (hb : WF b) : Try.prog.keyLits (d + 2) 79 [.int .i64 a, .int .i64 b] = some [.int .i64 a, .int .i64 b] := by
  have h3 : ∀ x : Int, WF x → Try.prog.keyLits (d + 1) 3 [.int .i64 x] = some [.int .i64 x] := by
    intro x hx
    rw [Program.keyLits.eq_def]
    simp only [Try.underlying3]
    simp [show (Lit.int .i64 x).wf = true from hx]
  rw [Program.keyLits.eq_def]
  simp only [Try.underlying79, cells79]
  simp [h3 a ha, h3 b hb, cells3]
theorem key79 (a b : Int) (ha : WF a) (hb : WF b) : ∃ kl, keyOf Try.prog 79 (.agg #[.int .i64 a, .int .i64 b]) = some kl := by
  unfold keyOf
  rw [Try.underlying79]
  simp only [kt79, Value.formed, Try.underlying79, cells79]
  rw [tsz]
  refine ⟨.string (keyBytes [.int .i64 a, .int .i64 b]), ?_⟩
  have := lits79 (Try.prog.types.size - 1) a b ha hb
  simp only [Value.cells]
  rw [this]
  rfl
/-- a map from slots to ints that is one's own, of at most n entries -/
def Mc (w : World) (B n : Nat) : Prop := ∃ D : DataW Unit, w.ownsMap Try.prog 79 (plainElem Try.prog 3) B n D
theorem Mc.heap {w w' : World} {B n : Nat} (h : Mc w B n) (e : w'.heap[B]? = w.heap[B]?) : Mc w' B n := by
  obtain ⟨D, es, clock, hb, F, hs, hD⟩ := h
  exact ⟨D, es, clock, e.trans hb, F, hs, hD⟩
theorem Mc.lt {w : World} {B n : Nat} (h : Mc w B n) : B < w.heap.size := by
  obtain ⟨D, es, clock, hb, F, hs, hD⟩ := h
  exact (Array.getElem?_eq_some_iff.1 hb).1
theorem Mc.made (w : World) : Mc (w.alloc (.map #[] 0)) w.heap.size 0 := ⟨_, World.ownsMap_made _ _ _ _⟩
theorem Mc.look {w : World} {B n : Nat} (h : Mc w B n) {a b : Int} (ha : WF a) (hb : WF b) : ∃ c : Int, WF c ∧ (Instr.lookup 77 (.map (some B)) (.agg #[.int .i64 a, .int .i64 b]) false).run Try.prog w = .ok (.int .i64 c) w := by
  obtain ⟨D, hown⟩ := h
  obtain ⟨kl, hk⟩ := key79 a b ha hb
  obtain ⟨c, hrun, hat, hwc⟩ := hown.lookup_int (Keyed.of_law law79) Try.underlying77 Try.underlying3 (zero3 w) hk
  exact ⟨c, hwc, hrun⟩
theorem grown_setBlock (w : World) (b : Nat) (o : Obj) : w.grownBy (ChangeMaps.setBlock w b o) (some b) := by
  refine ⟨rfl, rfl, rfl, by simp [ChangeMaps.setBlock], fun k hk hne => ?_⟩
  simp only [ChangeMaps.setBlock]
  rw [Array.getElem?_setIfInBounds_ne]
  intro e
  exact hne (by rw [e])
theorem set_setBlock (w : World) (b : Nat) (o o' : Obj) : ChangeMaps.setBlock (ChangeMaps.setBlock w b o) b o' = ChangeMaps.setBlock w b o' := by
  simp [ChangeMaps.setBlock]
theorem Mc.entry {w : World} {B n : Nat} (h : Mc w B n) (hn : n ≤ 100000) {a b : Int} (ha : WF a) (hb : WF b) :
    ∃ (v0 : Value) (st : Nat) (w1 : World), (Instr.mapEntry 77 (.map (some B)) (.agg #[.int .i64 a, .int .i64 b])).run Try.prog w = .ok (.tuple #[v0, goInt st]) w1 ∧ Mc w1 B (n + 1) ∧ w.grownBy w1 (some B) ∧
      ∀ val : Int, WF val → ∃ w2, (Instr.entryStore 77 (.map (some B)) (goInt st) (.int .i64 val)).run Try.prog w1 = .ok () w2 ∧ Mc w2 B (n + 1) ∧ w.grownBy w2 (some B) := by
  have hM := h
  obtain ⟨D, hown⟩ := h
  obtain ⟨kl, hk⟩ := key79 a b ha hb
  have hown' := hown
  obtain ⟨es, clock, hB, F, hs, hD⟩ := hown
  obtain ⟨v0, st, es1, clock1, h1, h2, h3⟩ := WideElems.entry_then_store (H := Unit) law79 Try.underlying77 zero3 hB F hk
  have hup : ∀ val : Int, WF val → ∃ w', (Instr.mapUpdate 77 (.map (some B)) (.agg #[.int .i64 a, .int .i64 b]) (.int .i64 val)).run Try.prog w = .ok () w' ∧ Mc w' B (n + 1) ∧ w.grownBy w' (some B) := by
    intro val hv
    obtain ⟨w', q1, q2, q3⟩ := hown'.update (Keyed.of_law law79) Try.underlying77 (by unfold maxLen; omega) hk (plainElem_int Try.underlying3 hv)
    exact ⟨w', q1, ⟨_, q2⟩, q3⟩
  have hblk : (ChangeMaps.setBlock w B (.map es1 clock1)).heap[B]? = some (.map es1 clock1) := by
    have := (Array.getElem?_eq_some_iff.1 hB).1
    simp [ChangeMaps.setBlock, this]
  refine ⟨v0, st, _, h1, ?_, grown_setBlock _ _ _, ?_⟩
  · obtain ⟨es', clock', g1, g2⟩ := h3 (ChangeMaps.setBlock w B (.map es1 clock1)) (.int .i64 0) hblk
    rcases h2 with ⟨e0, he0, hek, _⟩ | ⟨hno, hz⟩
    · rcases law79.find w hk es.toList F.keys with ⟨f1, f2⟩ | ⟨j, e1, f1, f2, f3⟩
      · exact absurd hek (f2 e0 he0)
      · have hj : es[j]? = some e1 := by simpa using f2
        have hsame : es.modify j (fun e => { e with key := .agg #[.int .i64 a, .int .i64 b] }) = es := by
          apply Array.ext'
          rw [Array.toList_modify, ChangeMaps.modify_eq_set _ _ _ _ f2]
          have : ({ e1 with key := .agg #[.int .i64 a, .int .i64 b] } : MapEntry) = e1 := by rw [← f3]
          rw [this]
          exact WideElems.set_self _ _ _ f2
        have hrun : (Instr.mapEntry 77 (.map (some B)) (.agg #[.int .i64 a, .int .i64 b])).run Try.prog w = .ok (.tuple #[e1.val, goInt e1.born]) (ChangeMaps.setBlock w B (.map es clock)) := by
          simp [Instr.mapEntry, run_underlying Try.underlying77, MapKept.run_getObj_map hB, law79.check w false hk, f1, hj, f3, law79.stays w hk, hsame, MapKept.run_setObj_map _ hB, Result.andThen, ChangeMaps.setBlock]
        rw [hrun] at h1
        simp only [Result.ok.injEq] at h1
        rw [← h1.2]
        have := hM.heap (w' := ChangeMaps.setBlock w B (.map es clock)) (by
          have hl := (Array.getElem?_eq_some_iff.1 hB).1
          rw [hB]
          simp [ChangeMaps.setBlock, hl])
        obtain ⟨D2, hD2⟩ := this
        exact ⟨D2, hD2.mono (by omega)⟩
    · rcases law79.find w hk es.toList F.keys with ⟨f1, f2⟩ | ⟨j, e1, f1, f2, f3⟩
      · have hrun : (Instr.mapEntry 77 (.map (some B)) (.agg #[.int .i64 a, .int .i64 b])).run Try.prog w = .ok (.tuple #[.int .i64 0, goInt clock]) (ChangeMaps.setBlock w B (.map (es.push ⟨.agg #[.int .i64 a, .int .i64 b], .int .i64 0, clock⟩) (clock + 1))) := by
          simp [Instr.mapEntry, run_underlying Try.underlying77, MapKept.run_getObj_map hB, law79.check w false hk, f1, zero3, MapKept.run_setObj_map _ hB, Result.andThen, ChangeMaps.setBlock]
        have hrun2 : (Instr.mapUpdate 77 (.map (some B)) (.agg #[.int .i64 a, .int .i64 b]) (.int .i64 0)).run Try.prog w = .ok () (ChangeMaps.setBlock w B (.map (es.push ⟨.agg #[.int .i64 a, .int .i64 b], .int .i64 0, clock⟩) (clock + 1))) := by
          simp [Instr.mapUpdate, run_underlying Try.underlying77, MapKept.run_getObj_map hB, law79.check w false hk, f1, MapKept.run_setObj_map _ hB, Result.andThen, ChangeMaps.setBlock]
        obtain ⟨w', q1, q2, q3⟩ := hup 0 (by decide)
        rw [hrun] at h1
        rw [hrun2] at q1
        simp only [Result.ok.injEq] at h1 q1
        rw [← h1.2, q1.2]
        exact q2
      · exact absurd f3 (hno e1 (List.mem_of_getElem? f2))
  · intro val hv
    obtain ⟨es', clock', g1, g2⟩ := h3 _ (.int .i64 val) hblk
    obtain ⟨w', q1, q2, q3⟩ := hup val hv
    rw [set_setBlock] at g1
    rw [g2] at q1
    simp only [Result.ok.injEq] at q1
    exact ⟨_, g1, by rw [q1.2]; exact q2, by rw [q1.2]; exact q3⟩
end Go.Proofs.AO
