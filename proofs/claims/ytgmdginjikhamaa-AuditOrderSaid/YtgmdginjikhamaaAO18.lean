/- slices.Compact of a sorted row leaves a row that rises strictly. No conditions beside those in its theorems. -/
import Derived.Test.YtgmdginjikhamaaAO18a
set_option linter.unusedSimpArgs false
namespace Go.Proofs.AO
open Go.RowKit Go.Maps Go.Shelf Go.Lib Go.Sort
set_option linter.unusedVariables false
set_option maxRecDepth 100000
set_option maxHeartbeats 1000000
/-- what Compact gives -/
def Cp (W : World) (g n : Nat) (e : Ending) (w' : World) : Prop := ∃ (K c' : Nat) (E : Nat → F3), e = .returned (.slice (some ⟨g, 0, none⟩) K c') ∧ K ≤ n ∧ Hc w' g E K ∧ (∀ j, j + 1 < K → L3 (E j) (E (j + 1))) ∧ Up W w'
theorem compact_f (W : World) (g n cap : Nat) (D : Nat → F3) (hn : n ≤ 100000) (hc : n ≤ cap) (hcm : cap ≤ maxLen) (w : World) (hg : W.heap.size ≤ g) (hu : Up W w) (hD : Hc w g D n) (hf : ∀ j, j < n * 3 → w.frozen? ⟨g, j, none⟩ = false) (hs : ∀ j, j + 1 < n → ¬ L3 (D (j + 1)) (D j)) :
    Calls Try.prog 22 #[.slice (some ⟨g, 0, none⟩) n cap] w (Cp W g n) := by
  have hcm' : cap ≤ 9223372036854775807 := by unfold maxLen at hcm; omega
  go_enter Try.func22, Try.ntmps22
  by_cases h2 : n < 2
  · go_wp2
    go_ret
    exact ⟨n, cap, D, rfl, Nat.le_refl _, hD, fun j hj => by omega, hu⟩
  · go_wp2
    go_loopw [3] (fun i w' => ∃ m : Nat, m + 1 ≤ n ∧ i = .int .i64 ((m : Int) + 1) ∧ (∀ j, j < m → L3 (D j) (D (j + 1))) ∧ Up W w' ∧ Hc w' g D n ∧ ∀ j, j < n * 3 → w'.frozen? ⟨g, j, none⟩ = false) (fun i _ => n - (intOf i).toNat)
    case atStart => exact ⟨0, by omega, rfl, fun j hj => by omega, hu, hD, hf⟩
    case round =>
      clear hu hD hf
      obtain ⟨m, hk, rfl, hst, hu, hD, hf⟩ := hrel
      by_cases hlt : m + 1 < n
      · have c0 := hD.c0 (m + 1) hlt
        have c1 := hD.c1 (m + 1) hlt
        have c2 := hD.c2 (m + 1) hlt
        have d0 := hD.c0 m (by omega)
        have d1 := hD.c1 m (by omega)
        have d2 := hD.c2 m (by omega)
        by_cases he : (D (m + 1)).1 = (D m).1 ∧ (D (m + 1)).2.1 = (D m).2.1 ∧ (D (m + 1)).2.2 = (D m).2.2
        · have hq := fun w => (eq38 (D (m + 1)).1 (D (m + 1)).2.1 (D (m + 1)).2.2 (D m).1 (D m).2.1 (D m).2.2 w).trans (by rw [decide_eq_true he])
          go_wp2
          go_region
          go_wp2
          obtain ⟨V, hV⟩ : ∃ V, V = wr := ⟨_, rfl⟩
          subst hV
          clear c0 c1 c2 d0 d1 d2 hq
          go_loopw [3, 5] (fun K k2 w' => ∃ p q : Nat, m + q + 2 ≤ n ∧ p ≤ m + q ∧ K = .int .i64 ((p : Int) + 1) ∧ k2 = .int .i64 ((q : Int) + 1) ∧ Up W w' ∧ (∀ j, j < n * 3 → w'.frozen? ⟨g, j, none⟩ = false) ∧ ∃ F, Hc w' g F n ∧ (∀ j, p + 1 ≤ j → F j = D j) ∧ (∀ j, j < p → L3 (F j) (F (j + 1))) ∧ F p = D (m + q + 1)) (fun _ k2 _ => n - (intOf k2).toNat)
          case atStart => exact ⟨m, 0, by omega, by omega, rfl, rfl, hu.trans (Up.drew _), hf, D, hD.drew, fun _ _ => rfl, hst, (ext3 he).symm⟩
          case round =>
            clear hu hD hf hst
            obtain ⟨p, q, h1, h2, rfl, rfl, hu, hf, F, hF, hF1, hF2, hF3⟩ := hrel
            by_cases hlt2 : m + q + 2 < n
            · have e1 : (m + 1) * 3 + (q + 1) * 3 = (m + 1 + (q + 1)) * 3 := by omega
              have e2 : (m + 1) * 3 + q * 3 = (m + 1 + q) * 3 := by omega
              have f1 : F (m + 1 + (q + 1)) = D (m + q + 2) := (hF1 _ (by omega)).trans (by rw [show m + 1 + (q + 1) = m + q + 2 by omega])
              have f2 : F (m + 1 + q) = D (m + q + 1) := (hF1 _ (by omega)).trans (by rw [show m + 1 + q = m + q + 1 by omega])
              have c0 : wr.cell? ⟨g, (m + 1) * 3 + (q + 1) * 3, none⟩ = some (.int .i64 (D (m + q + 2)).1) := by rw [e1, hF.c0 _ (by omega), f1]
              have c1 : wr.cell? ⟨g, (m + 1) * 3 + (q + 1) * 3 + 1, none⟩ = some (.int .i64 (D (m + q + 2)).2.1) := by rw [e1, hF.c1 _ (by omega), f1]
              have c2 : wr.cell? ⟨g, (m + 1) * 3 + (q + 1) * 3 + 2, none⟩ = some (.int .i64 (D (m + q + 2)).2.2) := by rw [e1, hF.c2 _ (by omega), f1]
              have d0 : wr.cell? ⟨g, (m + 1) * 3 + q * 3, none⟩ = some (.int .i64 (D (m + q + 1)).1) := by rw [e2, hF.c0 _ (by omega), f2]
              have d1 : wr.cell? ⟨g, (m + 1) * 3 + q * 3 + 1, none⟩ = some (.int .i64 (D (m + q + 1)).2.1) := by rw [e2, hF.c1 _ (by omega), f2]
              have d2 : wr.cell? ⟨g, (m + 1) * 3 + q * 3 + 2, none⟩ = some (.int .i64 (D (m + q + 1)).2.2) := by rw [e2, hF.c2 _ (by omega), f2]
              clear e1 e2 f1 f2
              by_cases he2 : (D (m + q + 2)).1 = (D (m + q + 1)).1 ∧ (D (m + q + 2)).2.1 = (D (m + q + 1)).2.1 ∧ (D (m + q + 2)).2.2 = (D (m + q + 1)).2.2
              · have hq := fun w => (ne38 (D (m + q + 2)).1 (D (m + q + 2)).2.1 (D (m + q + 2)).2.2 (D (m + q + 1)).1 (D (m + q + 1)).2.1 (D (m + q + 1)).2.2 w).trans (by rw [decide_eq_true he2, Bool.not_true])
                go_wp2
                go_region
                go_wp2
                go_roundw
                case rel => exact ⟨p, q + 1, by omega, by omega, rfl, by go_num, hu.trans (Up.drew _), hf, F, hF.drew, hF1, hF2, by rw [hF3]; exact (ext3 he2).symm⟩
                case measure => simp [intOf]; omega
              · have hq := fun w => (ne38 (D (m + q + 2)).1 (D (m + q + 2)).2.1 (D (m + q + 2)).2.2 (D (m + q + 1)).1 (D (m + q + 1)).2.1 (D (m + q + 1)).2.2 w).trans (by rw [decide_eq_false he2, Bool.not_false])
                have k0 := hF.c0 (p + 1) (by omega)
                have k1 := hF.c1 (p + 1) (by omega)
                have k2 := hF.c2 (p + 1) (by omega)
                have z0 := hf ((p + 1) * 3) (by omega)
                have z1 := hf ((p + 1) * 3 + 1) (by omega)
                have z2 := hf ((p + 1) * 3 + 2) (by omega)
                go_wp2
                go_region
                go_wp2
                go_roundw
                case rel =>
                  refine ⟨p + 1, q + 1, by omega, by omega, by go_num, by go_num, (up_write (K := p + 1) (x := D (m + q + 2)) hu hg).trans (Up.drew _), fun j hj => (frz_write wr g (p + 1) j (D (m + q + 2))).trans (hf j hj), fun j => if j = p + 1 then D (m + q + 2) else F j, (hF.write (by omega) _).drew, fun j hj => ?_, fun j hj => ?_, ?_⟩
                  · dsimp only
                    rw [if_neg (by omega)]
                    exact hF1 j (by omega)
                  · dsimp only
                    by_cases e : j = p
                    · subst e
                      rw [if_neg (by omega), if_pos rfl, hF3]
                      exact l3_of (hs _ (by omega)) he2
                    · rw [if_neg (by omega), if_neg (by omega)]
                      exact hF2 j (by omega)
                  · simp only [if_true]
                    rw [show m + (q + 1) + 1 = m + q + 2 by omega]
                case measure => simp [intOf]; omega
            · obtain ⟨vs, hcl⟩ := clear3 wr g ((p + 1) * 3) (n - (p + 1)) (cap - (p + 1)) (by omega) (fun j hj => by
                have h3 : j % 3 = 0 ∨ j % 3 = 1 ∨ j % 3 = 2 := by omega
                have ej : (p + 1) * 3 + j = (p + 1 + j / 3) * 3 + j % 3 := by omega
                rw [ej]
                rcases h3 with h | h | h
                · rw [h, Nat.add_zero, hF.c0 _ (by omega)]; rfl
                · rw [h, hF.c1 _ (by omega)]; rfl
                · rw [h, hF.c2 _ (by omega)]; rfl) (fun j hj => hf _ (by omega))
              go_wp2
              go_ret
              have hF' := hF.mono (m := p + 1) (by omega)
              refine ⟨p + 1, cap, F, rfl, by omega, ⟨fun j hj => ?_, fun j hj => ?_, fun j hj => ?_⟩, fun j hj => hF2 j (by omega), up_setCells g hg _ _ _ hu⟩
              · rw [setCells_low _ _ _ _ _ (by omega)]; exact hF'.c0 j hj
              · rw [setCells_low _ _ _ _ _ (by omega)]; exact hF'.c1 j hj
              · rw [setCells_low _ _ _ _ _ (by omega)]; exact hF'.c2 j hj
        · have hq := fun w => (eq38 (D (m + 1)).1 (D (m + 1)).2.1 (D (m + 1)).2.2 (D m).1 (D m).2.1 (D m).2.2 w).trans (by rw [decide_eq_false he])
          go_wp2
          go_region
          go_wp2
          go_roundw
          case rel => exact ⟨m + 1, by omega, by go_num, fun j hj => by
            by_cases e : j = m
            · subst e; exact l3_of (hs _ (by omega)) he
            · exact hst j (by omega), hu.trans (Up.drew _), hD.drew, hf⟩
          case measure => simp [intOf]; omega
      · go_wp2
        go_ret
        exact ⟨n, cap, D, rfl, Nat.le_refl _, hD, fun j hj => hst j (by omega), hu⟩
end Go.Proofs.AO
