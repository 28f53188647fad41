/- A row of flat structs, opened; a post of what was kept. No conditions beside those in its theorems. -/
import Derived.Test.YtgmdginjikhamaaAO20
import Derived.Test.YtgmdginjikhamaaFlat
import Derived.ProofKit
import Derived.OpenShut
import Derived.ReadAgain
import Derived.Deep.Slices
set_option linter.unusedSimpArgs false
namespace Flat
open Go
theorem Cells.length {ks : List FK} {cs : List Value} (h : Cells ks cs) : cs.length = ks.length := by
  induction h with
  | nil => rfl
  | cons _ _ ih => simp [ih]
  | bool _ ih => simp [ih]
theorem Cells.get {ks : List FK} {cs : List Value} (h : Cells ks cs) : ∀ (i : Nat) (k : IntKind), ks[i]? = some (.n k) → ∃ z, cs[i]? = some (.int k z) ∧ (Lit.int k z).wf = true := by
  induction h with
  | nil => intro i k hi; simp at hi
  | cons hw _ ih =>
    intro i k hi
    cases i with
    | zero => simp at hi; subst hi; exact ⟨_, rfl, hw⟩
    | succ i => simpa using ih i k (by simpa using hi)
  | bool _ ih =>
    intro i k hi
    cases i with
    | zero => simp at hi
    | succ i => simpa using ih i k (by simpa using hi)
theorem Cells.one {ks : List FK} {cs : List Value} (h : Cells ks cs) : ∀ v ∈ cs, v.oneCell' = true := by
  induction h with
  | nil => intro v hv; cases hv
  | cons _ _ ih => intro v hv; cases hv with | head => rfl | tail _ hv => exact ih v hv
  | bool _ ih => intro v hv; cases hv with | head => rfl | tail _ hv => exact ih v hv
end Flat
namespace Go.Proofs.AO
open Go.RowKit Go.Maps Go.Shelf Go.Lib Go.Sort Go.ChangeShapes Go.WideShapes Go.ChangeAt Go.Deep
set_option linter.unusedVariables false
set_option maxRecDepth 100000
set_option maxHeartbeats 1000000
theorem post_same {H : Type} {enc : TypeId × Value → H} {P : Program} {f : Func} {s : ChangeSpec} {apart fresh handsOn again : Bool} {W W' : World} {args : Array Value} {v : Value} {ds gs : List (DataW H)} {before pa pv : List MemPlace}
    (hW : DataW.Whole enc P f.params.toList s.vars apart W args.toList ds gs before)
    (hres : ∀ (b : Nat) (sp : Nat → Bool) (hd : Bool), DataW.TrodAll enc P W' b sp hd f.resultTypes.toList (v.resultList f.resultTypes.size) (s.fn H (ds ++ gs)).results [])
    (hargs : ∀ sp : Nat → Bool, (∀ p ∈ before, sp p.block = true) → DataW.TrodAll enc P W' 0 sp true f.params.toList args.toList (s.fn H (ds ++ gs)).args pa)
    (hvars : ∀ sp : Nat → Bool, (∀ p ∈ before, sp p.block = true) → DataW.TrodVars enc P W' sp s.vars (s.fn H (ds ++ gs)).vars pv)
    (hps : before = pa ++ pv) (u : Up W W')
    (hok : ∀ (j : Nat) (t : TypeId) (r : Value), f.resultTypes[j]? = some t → (v.resultList f.resultTypes.size)[j]? = some r → Value.okWide P W' .any 0 t r) :
    s.post enc P f apart fresh handsOn again W args v W' := by
  have hold : ∀ p ∈ before, (fun b => decide (b < W.heap.size)) p.block = true := fun p hp => by simpa using hW.lt p hp
  have hW2 := hW
  refine ⟨ds, gs, before, [], pa, pv, hW, hres _ _ _, hargs _ hold, hvars _ hold, World.keptBut_mono (fun p hp => ⟨hp.elim, ?_⟩) u.kept, fun _ => ?_⟩
  · exact hp.elim
  · obtain ⟨_, _, _, _, _, hz, hn⟩ := hW
    refine ⟨hok, _, _, ([] ++ pa) ++ pv, ⟨[] ++ pa, pv, trodAll_append (hargs _ (fun _ _ => rfl)) (hres _ _ _), hvars _ (fun _ _ => rfl), rfl, ?_, ?_⟩, ?_⟩
    · intro b off hp
      have hm : MemPlace.cell b off ∈ before := by rw [hps]; simpa using hp
      have hb : b < W.heap.size := hW2.lt _ hm
      have h1 := hz b off hm
      unfold World.frozen? at h1 ⊢
      rw [show W'.heap[b]? = W.heap[b]? from u.block b hb]
      exact h1
    · intro ha
      have := hn ha
      rw [hps] at this
      simpa using this
    · intro p hp _
      rw [hps]
      simpa using hp
/-- the number in a row's cell -/
def zAt (W : World) (a : Option Addr) (es n j t : Nat) : Int :=
  if j < n ∧ t < es then (match a with
    | some ⟨b, off, _⟩ => (match W.cell? ⟨b, off + j * es + t, none⟩ with | some (.int _ z) => z | _ => 0)
    | none => 0) else 0
/-- a row of flat structs, opened -/
def Fr (W : World) (es : Nat) (ks : List Flat.FK) (a : Option Addr) (n : Nat) : Prop :=
  ∀ i, i < n → ∃ (b off : Nat) (c : List Value), a = some ⟨b, off, none⟩ ∧ c.length = es ∧ Flat.Cells ks c ∧ ∀ j, j < es → W.cell? ⟨b, off + i * es + j, none⟩ = c[j]?
theorem Fr.z {W : World} {es : Nat} {ks : List Flat.FK} {a : Option Addr} {n : Nat} (h : Fr W es ks a n) {i t : Nat} {k : IntKind} (hi : i < n) (ht : t < es) (hk : ks[t]? = some (.n k)) :
    (Lit.int k (zAt W a es n i t)).wf = true ∧ ∃ b off, a = some ⟨b, off, none⟩ ∧ W.cell? ⟨b, off + i * es + t, none⟩ = some (.int k (zAt W a es n i t)) := by
  obtain ⟨b, off, c, rfl, hl, hc, hcell⟩ := h i hi
  obtain ⟨z, hz, hw⟩ := hc.get t k hk
  have h1 := (hcell t ht).trans hz
  have h2 : zAt W (some ⟨b, off, none⟩) es n i t = z := by simp [zAt, hi, ht, h1]
  rw [h2]
  exact ⟨hw, b, off, rfl, h1⟩
theorem Fr.rw_int {W : World} {es : Nat} {ks : List Flat.FK} {a : Option Addr} {n : Nat} (h : Fr W es ks a n) (hpos : 0 < es) (hk : ∀ t, t < es → ks[t]? = some (.n .i64)) :
    (Rw es W a n fun j t => .int .i64 (zAt W a es n j t)) ∧ ∀ j t, WF (zAt W a es n j t) := by
  refine ⟨fun j hj => ?_, fun j t => ?_⟩
  · obtain ⟨_, b, off, ha, _⟩ := h.z hj hpos (hk 0 hpos)
    refine ⟨b, off, ha, fun t ht => ?_⟩
    obtain ⟨_, b', off', ha', h1⟩ := h.z hj ht (hk t ht)
    rw [ha] at ha'
    cases ha'
    exact h1
  · by_cases hc : j < n ∧ t < es
    · exact (h.z hc.1 hc.2 (hk t hc.2)).1
    · unfold zAt
      rw [if_neg hc]
      decide
theorem Fr.caps {W : World} {ks : List Flat.FK} {a : Option Addr} {n : Nat} (h : Fr W 10 ks a n) (hk : ks = [.n .i64, .n .i64, .n .i64, .n .i64, .n .i64, .n .u64, .n .i64, .n .i64, .n .i64, .n .i64]) :
    (Rw 10 W a n fun j t => (hd (zAt W a 10 n j)).getD t undef) ∧ ∀ j t, t < 2 → WF (zAt W a 10 n j t) := by
  subst hk
  refine ⟨fun j hj => ?_, fun j t ht => ?_⟩
  · obtain ⟨_, b, off, ha, _⟩ := h.z hj (t := 0) (by omega) rfl
    have key : ∀ t k, t < 10 → ([.n .i64, .n .i64, .n .i64, .n .i64, .n .i64, .n .u64, .n .i64, .n .i64, .n .i64, .n .i64] : List Flat.FK)[t]? = some (.n k) → W.cell? ⟨b, off + j * 10 + t, none⟩ = some (.int k (zAt W a 10 n j t)) := by
      intro t k ht hk
      obtain ⟨_, b', off', ha', h1⟩ := h.z hj ht hk
      rw [ha] at ha'
      cases ha'
      exact h1
    refine ⟨b, off, ha, fun t ht => ?_⟩
    match t, ht with
    | 0, _ => exact key 0 _ (by omega) rfl
    | 1, _ => exact key 1 _ (by omega) rfl
    | 2, _ => exact key 2 _ (by omega) rfl
    | 3, _ => exact key 3 _ (by omega) rfl
    | 4, _ => exact key 4 _ (by omega) rfl
    | 5, _ => exact key 5 _ (by omega) rfl
    | 6, _ => exact key 6 _ (by omega) rfl
    | 7, _ => exact key 7 _ (by omega) rfl
    | 8, _ => exact key 8 _ (by omega) rfl
    | 9, _ => exact key 9 _ (by omega) rfl
  · by_cases hc : j < n ∧ t < 10
    · have h2 : t = 0 ∨ t = 1 := by omega
      rcases h2 with rfl | rfl
      · exact (h.z hc.1 hc.2 rfl).1
      · exact (h.z hc.1 hc.2 rfl).1
    · unfold zAt
      rw [if_neg hc]
      decide
theorem Fr.ths {W : World} {ks : List Flat.FK} {a : Option Addr} {n : Nat} (h : Fr W 24 ks a n) (h0 : ks[0]? = some (.n .i64)) (h1 : ks[1]? = some (.n .i64)) : Rs 24 PrT W a n := by
  intro j hj
  obtain ⟨b, off, c, rfl, hl, hc, hcell⟩ := h j hj
  refine ⟨b, off, c.toArray, rfl, by simpa using hl, ?_, ?_, ?_⟩
  · simp only [List.all_toArray, List.all_eq_true]
    exact hc.one
  · intro t v ht
    have ht' : c[t]? = some v := by simpa using ht
    have hlt : t < 24 := by rw [← hl]; exact (List.getElem?_eq_some_iff.1 ht').1
    exact (hcell t hlt).trans ht'
  · obtain ⟨z, hz, hw⟩ := hc.get 0 _ h0
    obtain ⟨z1, hz1, _⟩ := hc.get 1 _ h1
    exact ⟨z, z1, by simpa using hz, hw, by simpa using hz1⟩
theorem rows_open {H : Type} {enc : TypeId × Value → H} {P : Program} {W : World} {spare : Nat → Bool} {held : Bool} {t e es : Nat} {ks : List Flat.FK} (ht : P.underlying t = some (.slice e)) (hk : Flat.kinds P 5 e = some ks) (hl : Flat.lay P 5 e = true) (hes : P.cellsOf e = es) (hpos : 0 < es)
    {fuel : Nat} {cs : List Value} {x : DataW H × List MemPlace} (h : DataW.trod enc P W 0 spare held fuel t cs = some x) : ∃ a n c, cs = [.slice a n c] ∧ Fr W es ks a n := by
  rcases open_slice ht h with ⟨rfl, _⟩ | ⟨a, len, cap, m, n, D, Pl, rfl, _, hlc, hcm, hmm, hx, hel⟩
  · exact ⟨_, _, _, rfl, fun i hi => by omega⟩
  · refine ⟨_, _, _, rfl, fun i hi => ?_⟩
    obtain ⟨c, hc, htr⟩ := hel i (by rw [hmm]; split <;> omega)
    rw [hes] at hc
    obtain ⟨c0, hc0, _⟩ := hel 0 (by rw [hmm]; split <;> omega)
    rw [hes] at hc0
    obtain ⟨b, off, spot⟩ := a
    obtain ⟨_, hl0', hcell0⟩ := World.cells?_some hc0
    have hspot : spot = none := by
      have h1 := hcell0 0 hpos
      obtain ⟨y, hy⟩ : ∃ y, c0[0]? = some y := ⟨_, List.getElem?_eq_getElem (by omega)⟩
      rw [hy] at h1
      simpa [Addr.add] using World.cell?_spot h1
    subst hspot
    obtain ⟨_, hl0, hcell⟩ := World.cells?_some hc
    obtain ⟨_, hcl⟩ := Flat.trod_cells 5 hk hl _ _ _ htr
    refine ⟨b, off, c, rfl, hl0, hcl, fun j hj => ?_⟩
    have h1 := hcell j hj
    rw [Addr.add_lit, Addr.add_lit] at h1
    exact h1
end Go.Proofs.AO
