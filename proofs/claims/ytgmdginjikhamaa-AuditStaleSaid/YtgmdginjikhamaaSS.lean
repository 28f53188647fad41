/- A row of flat structs, opened; a list of lists, opened. No conditions beside those in its theorems. -/
import Derived.Test.YtgmdginjikhamaaSR
import Derived.Test.YtgmdginjikhamaaFlat
import Derived.ProofKit
import Derived.OpenShut
import Derived.ReadAgain
import Derived.Deep.Slices
set_option linter.unusedSimpArgs false
namespace Flat
open Go
theorem Cells.length {ks : List FK} {cs : List Value} (h : Cells ks cs) : cs.length = ks.length := by
  induction h with
  | nil => rfl
  | cons _ _ ih => simp [ih]
  | bool _ ih => simp [ih]
theorem Cells.get {ks : List FK} {cs : List Value} (h : Cells ks cs) : ∀ (i : Nat) (k : IntKind), ks[i]? = some (.n k) → ∃ z, cs[i]? = some (.int k z) ∧ (Lit.int k z).wf = true := by
  induction h with
  | nil => intro i k hi; simp at hi
  | cons hw _ ih =>
    intro i k hi
    cases i with
    | zero => simp at hi; subst hi; exact ⟨_, rfl, hw⟩
    | succ i => simpa using ih i k (by simpa using hi)
  | bool _ ih =>
    intro i k hi
    cases i with
    | zero => simp at hi
    | succ i => simpa using ih i k (by simpa using hi)
theorem Cells.getB {ks : List FK} {cs : List Value} (h : Cells ks cs) : ∀ (i : Nat), ks[i]? = some .b → ∃ z, cs[i]? = some (.bool z) := by
  induction h with
  | nil => intro i hi; simp at hi
  | cons hw _ ih =>
    intro i hi
    cases i with
    | zero => simp at hi
    | succ i => simpa using ih i (by simpa using hi)
  | bool _ ih =>
    intro i hi
    cases i with
    | zero => exact ⟨_, rfl⟩
    | succ i => simpa using ih i (by simpa using hi)
theorem Cells.one {ks : List FK} {cs : List Value} (h : Cells ks cs) : ∀ v ∈ cs, v.oneCell' = true := by
  induction h with
  | nil => intro v hv; cases hv
  | cons _ _ ih => intro v hv; cases hv with | head => rfl | tail _ hv => exact ih v hv
  | bool _ ih => intro v hv; cases hv with | head => rfl | tail _ hv => exact ih v hv
end Flat
namespace Go.Proofs.AO
open Go.RowKit Go.Maps Go.Shelf Go.Lib Go.Sort Go.ChangeShapes Go.WideShapes Go.ChangeAt Go.Deep
set_option linter.unusedVariables false
set_option maxRecDepth 100000
set_option maxHeartbeats 1000000
theorem post_same {H : Type} {enc : TypeId × Value → H} {P : Program} {f : Func} {s : ChangeSpec} {apart fresh handsOn again : Bool} {W W' : World} {args : Array Value} {v : Value} {ds gs : List (DataW H)} {before pa pv : List MemPlace}
    (hW : DataW.Whole enc P f.params.toList s.vars apart W args.toList ds gs before)
    (hres : ∀ (b : Nat) (sp : Nat → Bool) (hd : Bool), DataW.TrodAll enc P W' b sp hd f.resultTypes.toList (v.resultList f.resultTypes.size) (s.fn H (ds ++ gs)).results [])
    (hargs : ∀ sp : Nat → Bool, (∀ p ∈ before, sp p.block = true) → DataW.TrodAll enc P W' 0 sp true f.params.toList args.toList (s.fn H (ds ++ gs)).args pa)
    (hvars : ∀ sp : Nat → Bool, (∀ p ∈ before, sp p.block = true) → DataW.TrodVars enc P W' sp s.vars (s.fn H (ds ++ gs)).vars pv)
    (hps : before = pa ++ pv) (u : Up W W')
    (hok : ∀ (j : Nat) (t : TypeId) (r : Value), f.resultTypes[j]? = some t → (v.resultList f.resultTypes.size)[j]? = some r → Value.okWide P W' .any 0 t r) :
    s.post enc P f apart fresh handsOn again W args v W' := by
  have hold : ∀ p ∈ before, (fun b => decide (b < W.heap.size)) p.block = true := fun p hp => by simpa using hW.lt p hp
  have hW2 := hW
  refine ⟨ds, gs, before, [], pa, pv, hW, hres _ _ _, hargs _ hold, hvars _ hold, World.keptBut_mono (fun p hp => ⟨hp.elim, ?_⟩) u.kept, fun _ => ?_⟩
  · exact hp.elim
  · obtain ⟨_, _, _, _, _, hz, hn⟩ := hW
    refine ⟨hok, _, _, ([] ++ pa) ++ pv, ⟨[] ++ pa, pv, trodAll_append (hargs _ (fun _ _ => rfl)) (hres _ _ _), hvars _ (fun _ _ => rfl), rfl, ?_, ?_⟩, ?_⟩
    · intro b off hp
      have hm : MemPlace.cell b off ∈ before := by rw [hps]; simpa using hp
      have hb : b < W.heap.size := hW2.lt _ hm
      have h1 := hz b off hm
      unfold World.frozen? at h1 ⊢
      rw [show W'.heap[b]? = W.heap[b]? from u.block b hb]
      exact h1
    · intro ha
      have := hn ha
      rw [hps] at this
      simpa using this
    · intro p hp _
      rw [hps]
      simpa using hp
/-- the number in a row's cell -/
def zAt (W : World) (a : Option Addr) (es n j t : Nat) : Int :=
  if j < n ∧ t < es then (match a with
    | some ⟨b, off, _⟩ => (match W.cell? ⟨b, off + j * es + t, none⟩ with | some (.int _ z) => z | _ => 0)
    | none => 0) else 0
/-- a row of flat structs, opened -/
def Fr (W : World) (es : Nat) (ks : List Flat.FK) (a : Option Addr) (n : Nat) : Prop :=
  ∀ i, i < n → ∃ (b off : Nat) (c : List Value), a = some ⟨b, off, none⟩ ∧ c.length = es ∧ Flat.Cells ks c ∧ ∀ j, j < es → W.cell? ⟨b, off + i * es + j, none⟩ = c[j]?
theorem Fr.z {W : World} {es : Nat} {ks : List Flat.FK} {a : Option Addr} {n : Nat} (h : Fr W es ks a n) {i t : Nat} {k : IntKind} (hi : i < n) (ht : t < es) (hk : ks[t]? = some (.n k)) :
    (Lit.int k (zAt W a es n i t)).wf = true ∧ ∃ b off, a = some ⟨b, off, none⟩ ∧ W.cell? ⟨b, off + i * es + t, none⟩ = some (.int k (zAt W a es n i t)) := by
  obtain ⟨b, off, c, rfl, hl, hc, hcell⟩ := h i hi
  obtain ⟨z, hz, hw⟩ := hc.get t k hk
  have h1 := (hcell t ht).trans hz
  have h2 : zAt W (some ⟨b, off, none⟩) es n i t = z := by simp [zAt, hi, ht, h1]
  rw [h2]
  exact ⟨hw, b, off, rfl, h1⟩
theorem Fr.rw_int {W : World} {es : Nat} {ks : List Flat.FK} {a : Option Addr} {n : Nat} (h : Fr W es ks a n) (hpos : 0 < es) (hk : ∀ t, t < es → ks[t]? = some (.n .i64)) :
    (Rw es W a n fun j t => .int .i64 (zAt W a es n j t)) ∧ ∀ j t, WF (zAt W a es n j t) := by
  refine ⟨fun j hj => ?_, fun j t => ?_⟩
  · obtain ⟨_, b, off, ha, _⟩ := h.z hj hpos (hk 0 hpos)
    refine ⟨b, off, ha, fun t ht => ?_⟩
    obtain ⟨_, b', off', ha', h1⟩ := h.z hj ht (hk t ht)
    rw [ha] at ha'
    cases ha'
    exact h1
  · by_cases hc : j < n ∧ t < es
    · exact (h.z hc.1 hc.2 (hk t hc.2)).1
    · unfold zAt
      rw [if_neg hc]
      decide
theorem rows_open {H : Type} {enc : TypeId × Value → H} {P : Program} {W : World} {spare : Nat → Bool} {held : Bool} {t e es : Nat} {ks : List Flat.FK} (ht : P.underlying t = some (.slice e)) (hk : Flat.kinds P 5 e = some ks) (hl : Flat.lay P 5 e = true) (hes : P.cellsOf e = es) (hpos : 0 < es)
    {fuel : Nat} {cs : List Value} {x : DataW H × List MemPlace} (h : DataW.trod enc P W 0 spare held fuel t cs = some x) : ∃ a n c, cs = [.slice a n c] ∧ Fr W es ks a n := by
  rcases open_slice ht h with ⟨rfl, _⟩ | ⟨a, len, cap, m, n, D, Pl, rfl, _, hlc, hcm, hmm, hx, hel⟩
  · exact ⟨_, _, _, rfl, fun i hi => by omega⟩
  · refine ⟨_, _, _, rfl, fun i hi => ?_⟩
    obtain ⟨c, hc, htr⟩ := hel i (by rw [hmm]; split <;> omega)
    rw [hes] at hc
    obtain ⟨c0, hc0, _⟩ := hel 0 (by rw [hmm]; split <;> omega)
    rw [hes] at hc0
    obtain ⟨b, off, spot⟩ := a
    obtain ⟨_, hl0', hcell0⟩ := World.cells?_some hc0
    have hspot : spot = none := by
      have h1 := hcell0 0 hpos
      obtain ⟨y, hy⟩ : ∃ y, c0[0]? = some y := ⟨_, List.getElem?_eq_getElem (by omega)⟩
      rw [hy] at h1
      simpa [Addr.add] using World.cell?_spot h1
    subst hspot
    obtain ⟨_, hl0, hcell⟩ := World.cells?_some hc
    obtain ⟨_, hcl⟩ := Flat.trod_cells 5 hk hl _ _ _ htr
    refine ⟨b, off, c, rfl, hl0, hcl, fun j hj => ?_⟩
    have h1 := hcell j hj
    rw [Addr.add_lit, Addr.add_lit] at h1
    exact h1
/-- the bool in a row's cell -/
def bAt (W : World) (a : Option Addr) (es n j t : Nat) : Bool :=
  if j < n ∧ t < es then (match a with
    | some ⟨b, off, _⟩ => (match W.cell? ⟨b, off + j * es + t, none⟩ with | some (.bool z) => z | _ => false)
    | none => false) else false
theorem Fr.bz {W : World} {es : Nat} {ks : List Flat.FK} {a : Option Addr} {n : Nat} (h : Fr W es ks a n) {i t : Nat} (hi : i < n) (ht : t < es) (hk : ks[t]? = some .b) :
    ∃ b off, a = some ⟨b, off, none⟩ ∧ W.cell? ⟨b, off + i * es + t, none⟩ = some (.bool (bAt W a es n i t)) := by
  obtain ⟨b, off, c, rfl, hl, hc, hcell⟩ := h i hi
  obtain ⟨z, hz⟩ := hc.getB t hk
  have h1 := (hcell t ht).trans hz
  have h2 : bAt W (some ⟨b, off, none⟩) es n i t = z := by simp [bAt, hi, ht, h1]
  rw [h2]
  exact ⟨b, off, rfl, h1⟩
theorem rows_len {H : Type} {enc : TypeId × Value → H} {P : Program} {W : World} {spare : Nat → Bool} {held : Bool} {t e : Nat} (ht : P.underlying t = some (.slice e)) {fuel : Nat} {cs : List Value} {x : DataW H × List MemPlace}
    (h : DataW.trod enc P W 0 spare held fuel t cs = some x) {a : Option Addr} {n c : Nat} (hc : cs = [.slice a n c]) : n ≤ maxLen := by
  rcases open_slice ht h with ⟨h1, _⟩ | ⟨a', len, cap, m, n', D, Pl, h1, _, hlc, hcm, hmm, hx, hel⟩
  · rw [h1] at hc; cases hc; exact Nat.zero_le _
  · rw [h1] at hc; cases hc; omega
/-- a list of lists, opened -/
theorem lists_open {H : Type} {enc : TypeId × Value → H} {P : Program} {W : World} {spare : Nat → Bool} {held : Bool} {t e : Nat} (ht : P.underlying t = some (.slice e)) (he : P.cellsOf e = 1) {fuel : Nat} {cs : List Value} {x : DataW H × List MemPlace}
    (h : DataW.trod enc P W 0 spare held fuel t cs = some x) : ∃ p L c, cs = [.slice p L c] ∧ L ≤ maxLen ∧ ∀ i, i < L → ∃ B O v m y, p = some ⟨B, O, none⟩ ∧ W.cell? ⟨B, O + i, none⟩ = some v ∧ DataW.trod enc P W 0 spare held m e [v] = some y := by
  rcases open_slice ht h with ⟨rfl, _⟩ | ⟨a, len, cap, m, n, D, Pl, rfl, _, hlc, hcm, hmm, hx, hel⟩
  · exact ⟨_, _, _, rfl, Nat.zero_le _, fun i hi => by omega⟩
  · refine ⟨_, _, _, rfl, by omega, fun i hi => ?_⟩
    obtain ⟨c, hc, htr⟩ := hel i (by rw [hmm]; split <;> omega)
    rw [he] at hc
    obtain ⟨b, off, spot⟩ := a
    obtain ⟨_, hl0, hcell⟩ := World.cells?_some hc
    obtain ⟨v, rfl⟩ : ∃ v, c = [v] := by
      match c, hl0 with
      | [v], _ => exact ⟨v, rfl⟩
    have h1 := hcell 0 (by omega)
    obtain ⟨c0, hc0, _⟩ := hel 0 (by rw [hmm]; split <;> omega)
    rw [he] at hc0
    obtain ⟨_, hl0', hcell0⟩ := World.cells?_some hc0
    have hspot : spot = none := by
      have h2 := hcell0 0 (by omega)
      obtain ⟨y, hy⟩ : ∃ y, c0[0]? = some y := ⟨_, List.getElem?_eq_getElem (by omega)⟩
      rw [hy] at h2
      simpa [Addr.add] using World.cell?_spot h2
    subst hspot
    rw [Addr.add_lit, Addr.add_lit, Nat.mul_one] at h1
    exact ⟨b, off, v, _, _, rfl, h1, htr⟩
end Go.Proofs.AO
namespace Go.Proofs.AO
open Go.RowKit Go.Maps Go.Shelf Go.Lib Go.Sort Go.ChangeShapes Go.WideShapes Go.ChangeAt Go.Deep
set_option linter.unusedVariables false
set_option maxRecDepth 100000
set_option maxHeartbeats 1000000
def K10 : List Flat.FK := [.n .i64, .b, .n .i64, .n .i64, .n .i64, .n .i64, .n .i64, .n .i64, .n .i64, .n .i64]
def K80 : List Flat.FK := (List.replicate 8 K10).flatten
theorem k80 : Flat.kinds Try.prog 5 29 = some K80 := by kernel_rfl
theorem l80 : Flat.lay Try.prog 5 29 = true := by kernel_rfl
theorem k47 : Flat.kinds Try.prog 5 47 = some (List.replicate 9 (.n .i64)) := by kernel_rfl
theorem l47 : Flat.lay Try.prog 5 47 = true := by kernel_rfl
theorem k87 : Flat.kinds Try.prog 5 87 = some (List.replicate 3 (.n .i64)) := by kernel_rfl
theorem l87 : Flat.lay Try.prog 5 87 = true := by kernel_rfl
theorem k3 : Flat.kinds Try.prog 5 3 = some (List.replicate 1 (.n .i64)) := by kernel_rfl
theorem l3 : Flat.lay Try.prog 5 3 = true := by kernel_rfl
theorem k83 : Flat.kinds Try.prog 5 83 = some [.n .i64, .n .i64, .n .i64, .n .i64, .n .i64, .n .u64, .n .i64, .n .i64, .n .i64, .n .i64] := by kernel_rfl
theorem l83 : Flat.lay Try.prog 5 83 = true := by kernel_rfl
theorem k93 : ∃ ks, Flat.kinds Try.prog 5 93 = some ks ∧ ks[0]? = some (.n .i64) ∧ ks[1]? = some (.n .i64) := by
  have h : (Flat.kinds Try.prog 5 93).map (fun ks => (ks[0]?, ks[1]?)) = some (some (.n .i64), some (.n .i64)) := by kernel_rfl
  cases hk : Flat.kinds Try.prog 5 93 with
  | none => rw [hk] at h; cases h
  | some ks => rw [hk] at h; simp at h; exact ⟨ks, rfl, by rw [List.getElem?_eq_some_iff] at *; simpa using h.1, h.2⟩
theorem l93 : Flat.lay Try.prog 5 93 = true := by kernel_rfl
theorem k80_get (k : Nat) (hk : k < 8) : K80[k * 10]? = some (.n .i64) ∧ ∀ j, j < 4 → K80[k * 10 + (2 + j)]? = some (.n .i64) := by
  have h : k = 0 ∨ k = 1 ∨ k = 2 ∨ k = 3 ∨ k = 4 ∨ k = 5 ∨ k = 6 ∨ k = 7 := by omega
  rcases h with rfl | rfl | rfl | rfl | rfl | rfl | rfl | rfl <;> exact ⟨rfl, fun j hj => match j, hj with | 0, _ => rfl | 1, _ => rfl | 2, _ => rfl | 3, _ => rfl⟩
def intAt (c : List Value) (i : Nat) : Int := match c[i]? with | some (.int _ z) => z | _ => 0
theorem pools_open (A : Array Value) (c : List Value) (hc : Flat.Cells K80 c) (hsub : ∀ j u, c[j]? = some u → A[4 + j]? = some u) : ∃ PA pc ro, Po A PA pc ro ∧ ∀ k, k < 8 → ∀ j, j < 4 → A[4 + k * 10 + 2 + j]? = some (.int .i64 (ro k j)) := by
  have hl : c.length = 80 := hc.length
  have hget : ∀ k t, t < 10 → (c.toArray.extract (k * 10) (k * 10 + 10))[t]? = c[k * 10 + t]? := by
    intro k t ht
    rw [Array.getElem?_extract]
    simp only [List.size_toArray, hl]
    by_cases h : t < min (k * 10 + 10) 80 - k * 10
    · rw [if_pos h]; simp
    · rw [if_neg h, List.getElem?_eq_none (by omega)]
  refine ⟨c.toArray, fun k => c.toArray.extract (k * 10) (k * 10 + 10), fun k j => intAt c (k * 10 + (2 + j)), ⟨by simpa using hl, fun j u h => hsub j u (by simpa using h), fun k hk w => ?_, fun k hk => ⟨by simp [hl]; omega, ?_⟩, fun k hk => ?_, fun k hk j hj => ?_⟩, fun k hk j hj => ?_⟩
  · have h1 : (k : Int) < 8 := by omega
    simp [Instr.index, part, run_underlying Try.underlying29, Try.isAgg28, Try.sizeOf28, go_sem]
    intro h; omega
  · rw [Array.all_eq_true_iff_forall_mem]
    intro x hx
    rw [Array.mem_extract_iff_getElem] at hx
    obtain ⟨m, hm, rfl⟩ := hx
    exact hc.one _ (by simp)
  · obtain ⟨z, hz, _⟩ := hc.get _ _ (k80_get k hk).1
    exact ⟨z, by have := hget k 0 (by omega); rw [this]; exact hz⟩
  · obtain ⟨z, hz, _⟩ := hc.get _ _ ((k80_get k hk).2 j hj)
    rw [hget k (2 + j) (by omega), hz]
    simp [intAt, hz]
  · obtain ⟨z, hz, _⟩ := hc.get _ _ ((k80_get k hk).2 j hj)
    have h1 := hsub _ _ hz
    rw [show 4 + k * 10 + 2 + j = 4 + (k * 10 + (2 + j)) by omega, h1]
    simp [intAt, hz]
theorem k57 : Flat.kinds Try.prog 5 57 = some [.n .i64, .n .i64, .n .i64, .b, .b] := by kernel_rfl
theorem l57 : Flat.lay Try.prog 5 57 = true := by kernel_rfl
theorem k66 : Flat.kinds Try.prog 5 66 = some [.n .u64] := by kernel_rfl
theorem l66 : Flat.lay Try.prog 5 66 = true := by kernel_rfl
end Go.Proofs.AO
