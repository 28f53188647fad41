/- Both tell the same; SameInts, OverInts. No conditions beside those in its theorems. -/
import Derived.Test.YtgmdginjikhamaaSP
set_option linter.unusedSimpArgs false
namespace Go.Proofs.AO
open Go.RowKit Go.Maps Go.Shelf Go.Sort
set_option linter.unusedVariables false
set_option linter.unusedSimpArgs false
set_option maxRecDepth 100000
set_option maxHeartbeats 2000000
theorem flat_at (xw : Nat → Nat → Nat) (i j : Nat) (h : j < 8) : flat xw (8 * i + j) = xw i j := by
  unfold flat
  rw [show (8 * i + j) / 8 = i by omega, show (8 * i + j) % 8 = j by omega]
theorem g1_whole {L : Nat} {ln : Nat → Nat} {xw : Nat → Nat → Nat} (h : whole L ln = true) {f page : Int} {lv : Nat} {want : Bool} :
    g1 L ln xw f (ix page lv) want = if 0 ≤ f ∧ f < L ∧ 0 ≤ page ∧ page < 512 then (match nx L want (flat xw (8 * f.toNat + (ix page lv).toNat)) with | none => none | some _ => some (flat xw (8 * f.toNat + (ix page lv).toNat))) else none := by
  obtain ⟨h1, h2, h3⟩ := of_decide_eq_true h
  by_cases hp : 0 ≤ page ∧ page < 512
  · obtain ⟨i1, i2⟩ := ix_in page lv hp
    by_cases hf : 0 ≤ f ∧ f < L
    · have h8 := h3 f.toNat (by omega)
      obtain ⟨G, rfl⟩ := Int.eq_ofNat_of_zero_le hf.1
      obtain ⟨I, hI⟩ := Int.eq_ofNat_of_zero_le i1
      rw [hI] at i2 ⊢
      rw [Int.toNat_natCast] at h8
      rw [g1_in (by omega) (by omega), if_pos ⟨by omega, by omega, hp.1, hp.2⟩, Int.toNat_natCast, Int.toNat_natCast, flat_at _ _ _ (by omega)]
      cases nx L want (xw G I) <;> rfl
    · rw [g1_out (fun hh => hf ⟨hh.1, hh.2.1⟩), if_neg (fun hh => hf ⟨hh.1, hh.2.1⟩)]
  · rw [if_neg (fun hh => hp ⟨hh.2.2.1, hh.2.2.2⟩), g1_out]
    rintro ⟨_, _, h5, _⟩
    unfold ix at h5
    rw [if_neg hp] at h5
    omega
theorem nx_val {n : Nat} {b : Bool} {w f : Nat} (h : nx n b w = some f) : f = w / 256 % 64 ∧ f < n := by
  have := nx_some h
  exact ⟨this.2.2.2.2.1, this.2.2.2.1⟩
theorem lfr_whole {L : Nat} {ln : Nat → Nat} {xw : Nat → Nat → Nat} (h : whole L ln = true) (root page : Int) : lfr L ln xw page 2 root = wk L (flat xw) root page := by
  unfold wk
  rw [lfr]
  show (match g1 L ln xw root (ix page 1) false with | none => none | some w => lfr L ln xw page 1 _) = _
  rw [g1_whole h]
  by_cases hin : 0 ≤ root ∧ root < L ∧ 0 ≤ page ∧ page < 512
  · rw [if_pos hin, if_pos hin]
    cases h1 : nx L false (flat xw (8 * root.toNat + (ix page 1).toNat)) with
    | none => rfl
    | some f1 =>
      obtain ⟨e1, l1⟩ := nx_val h1
      simp only
      rw [lfr]
      show (match g1 L ln xw _ (ix page 2) false with | none => none | some w => lfr L ln xw page 0 _) = _
      rw [g1_whole h, ← e1, if_pos ⟨by omega, by omega, hin.2.2.1, hin.2.2.2⟩, Int.toNat_natCast]
      cases h2 : nx L false (flat xw (8 * f1 + (ix page 2).toNat)) with
      | none => rfl
      | some f2 =>
        obtain ⟨e2, l2⟩ := nx_val h2
        simp only
        rw [lfr, g1_whole h, ← e2, if_pos ⟨by omega, by omega, hin.2.2.1, hin.2.2.2⟩, Int.toNat_natCast]
        cases nx L true (flat xw (8 * f2 + (ix page 3).toNat)) <;> rfl
  · rw [if_neg hin, if_neg hin]
theorem told_congr {p q : Nat → Bool} (h : ∀ i, p i = q i) (n : Nat) : told p n = told q n := by rw [show p = q from funext h]
/-- both programs tell the same -/
theorem told_same (L : Nat) (ln : Nat → Nat) (xw : Nat → Nat → Nat) (no : Nat) (zo ro : Nat → Nat → Int) (sp pg fr : Nat → Int) (rd wt : Nat → Bool) (n : Nat) :
    told (fun i => !(whole L ln) || stl L (flat xw) zo (sr no zo ro (sp i) 32) (pg i) (fr i) (rd i) (wt i)) n = told (fun i => bd (whole L ln) (lfr L ln xw (pg i) 2 (fsr no zo ro (sp i))) (fr i) (rd i) (wt i)) n := by
  refine told_congr (fun i => ?_) n
  cases hw : whole L ln with
  | false => rfl
  | true =>
    show stl _ _ _ _ _ _ _ _ = dif _ _ _ _
    rw [lfr_whole hw]
    unfold stl fsr ff
    cases hR : sr no zo ro (sp i) 32 with
    | none =>
      show true = dif (wk L (flat xw) (-1) (pg i)) _ _ _
      unfold wk
      rw [if_neg (by omega)]
      rfl
    | some k => rfl
end Go.Proofs.AO
namespace Go.Proofs.AO
open Go.RowKit Go.Maps Go.Shelf Go.Sort
set_option linter.unusedVariables false
set_option linter.unusedSimpArgs false
set_option maxRecDepth 100000
set_option maxHeartbeats 2000000
/-- a row of ints, opened -/
theorem OI.shape {w : World} {base : Nat} {v : Value} {zs : List Int} (h : OI w base v zs) :
    ∃ ad cap, v = .slice ad zs.length cap ∧ ∀ j z, zs[j]? = some z → ∃ g, ad = some ⟨g, 0, none⟩ ∧ w.cell? ⟨g, j, none⟩ = some (.int .i64 z) ∧ w.frozen? ⟨g, j, none⟩ = false := by
  have h0 := h
  obtain ⟨h1, h3⟩ := h
  rcases h3 with ⟨rfl, h3⟩ | ⟨g, cap, cur, rfl, g2, g3, g4⟩
  · refine ⟨none, 0, by rw [h3], fun j z hz => ?_⟩
    have := (List.getElem?_eq_some_iff.1 hz).1
    omega
  · refine ⟨_, cap, rfl, fun j z hz => ⟨g, rfl, ?_, ?_⟩⟩
    · have hj := (List.getElem?_eq_some_iff.1 hz).1
      rw [World.ownsRow.cellAt h0 j (by omega), List.getElem?_map, hz]
      rfl
    · exact World.ownsRow.frozenAt h0 j
theorem sameints_f (v u : Value) (b1 b2 : Nat) (zs : List Int) (W : World) (hn : zs.length ≤ 40) (h1 : OI W b1 v zs) (h2 : OI W b2 u zs) :
    Calls Try.prog 10 #[v, u] W fun e w' => e = .returned (.bool true) ∧ Up W w' := by
  obtain ⟨a1, c1, rfl, k1⟩ := h1.shape
  obtain ⟨a2, c2, rfl, k2⟩ := h2.shape
  obtain ⟨n, hnn⟩ : ∃ n, n = zs.length := ⟨_, rfl⟩
  rw [← hnn] at hn ⊢
  go_enter Try.func10, Try.ntmps10
  go_wp2
  go_loopw [5] (fun i w' => ∃ k : Nat, k ≤ n ∧ i = .int .i64 k ∧ Up W w') (fun i _ => n - (intOf i).toNat)
  case atStart => exact ⟨0, Nat.zero_le _, rfl, Up.refl _⟩
  case round =>
    obtain ⟨k, hk, rfl, hu⟩ := hrel
    by_cases hlt : k < n
    · obtain ⟨z, hz⟩ : ∃ z, zs[k]? = some z := ⟨_, List.getElem?_eq_getElem (by omega)⟩
      obtain ⟨g1, rfl, x1, _⟩ := k1 k z hz
      obtain ⟨g2, rfl, x2, _⟩ := k2 k z hz
      have x1 := hu.keeps x1
      have x2 := hu.keeps x2
      clear hz hnn
      have q1 : 0 ≤ (k : Int) := by omega
      have q2 : (k : Int) < (n : Int) := by omega
      go_wp2
      go_quiet (fail)
      go_wp2
      go_roundw
      case rel => exact ⟨k + 1, by omega, by go_num, hu.trans (Up.drewN _ _)⟩
      case measure => simp [intOf]; omega
    · obtain rfl : k = n := by omega
      go_wp2
      go_ret
      exact ⟨rfl, hu⟩
/-- worlds that differ in one row of one's own -/
def Gb (W w : World) (v : Value) : Prop := W.grownBy w v.ownBlock
theorem grown_trans {A B C : World} {row : Option Nat} (h : A.grownBy B row) (g : B.grownBy C row) : A.grownBy C row :=
  ⟨g.os.trans h.os, g.tape.trans h.tape, g.output.trans h.output, Nat.le_trans h.size g.size, fun k hk hne => (g.block k (Nat.lt_of_lt_of_le hk h.size) hne).trans (h.block k hk hne)⟩
theorem grown_up {A B C : World} {row : Option Nat} (h : A.grownBy B row) (g : Up B C) : A.grownBy C row :=
  ⟨g.os.trans h.os, g.tape.trans h.tape, g.output.trans h.output, Nat.le_trans h.size g.size, fun k hk hne => (g.block k (Nat.lt_of_lt_of_le hk h.size)).trans (h.block k hk hne)⟩
theorem overints_f (v : Value) (b1 : Nat) (zs : List Int) (W : World) (hn : zs.length ≤ 40) (h1 : OI W b1 v zs) (hb : b1 ≤ W.heap.size) :
    Calls Try.prog 11 #[v] W fun e w' => (∃ r, e = .returned r) ∧ Gb W w' v := by
  have hsh := h1.shape
  obtain ⟨a1, c1, hv, k1⟩ := hsh
  obtain ⟨n, hnn⟩ : ∃ n, n = zs.length := ⟨_, rfl⟩
  rw [← hnn] at hn hv
  subst hv
  go_enter Try.func11, Try.ntmps11
  go_wp2
  go_loopw [2] (fun i w' => ∃ (k : Nat) (zs' : List Int), k ≤ n ∧ i = .int .i64 k ∧ zs'.length = n ∧ OI w' b1 (.slice a1 n c1) zs' ∧ Gb W w' (.slice a1 n c1)) (fun i _ => n - (intOf i).toNat)
  case atStart => exact ⟨0, zs, Nat.zero_le _, rfl, hnn.symm, h1, rfl, rfl, rfl, Nat.le_refl _, fun _ _ _ => rfl⟩
  case round =>
    obtain ⟨k, zs', hk, rfl, hz', hown, hgb⟩ := hrel
    by_cases hlt : k < n
    · obtain ⟨a1', c1', hv, k1'⟩ := hown.shape
      rw [hz'] at hv
      cases hv
      obtain ⟨z, hz⟩ : ∃ z, zs'[k]? = some z := ⟨_, List.getElem?_eq_getElem (by omega)⟩
      obtain ⟨g1, rfl, x1, f1⟩ := k1' k z hz
      have hown' := hown
      unfold OI at hown'
      rw [hz'] at hown'
      obtain ⟨hst, hgr⟩ := World.ownsRow.stored hown' k (.int .i64 (-999))
      clear hnn h1 k1 k1'
      go_wp2
      go_roundw
      case rel =>
        refine ⟨k + 1, zs'.set k (-999), by omega, by go_num, by simpa using hz', ?_, grown_trans hgb hgr⟩
        unfold OI
        rw [List.length_set, hz', List.map_set]
        exact hst
      case measure => simp [intOf]; omega
    · obtain rfl : k = n := by omega
      clear hnn h1 k1
      have hsz := hgb.size
      go_wp2_with (first | (at_builtin; refine arm_ai rfl _ _ rfl hown (by omega) (by omega) (-999) rfl rfl rfl rfl ?_; intro v' w' _ hg2 _))
      refine bodyPost_end (results_none rfl _ _ _) rfl ?_
      exact ⟨⟨_, rfl⟩, grown_trans (grown_up hgb (Up.push wr _)) hg2⟩
end Go.Proofs.AO
