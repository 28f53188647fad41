/- A drawn region by an invariant at each set of operations that are done. No conditions beside those in its theorems. -/
import Derived.Test.YtgmdginjikhamaaAO12
set_option linter.unusedSimpArgs false
namespace Go.Proofs.AO
open Go.RowKit Go.Maps Go.Shelf
set_option linter.unusedVariables false
set_option maxRecDepth 100000
set_option maxHeartbeats 1000000
/-- A DRAWN REGION BY AN INVARIANT: at each set of operations that are done -/
theorem wpAny_inv {P : Program} {md : Region.Mode} {ops : Array Oper} {Q : Exit → Act → World → Prop} (I : Array Bool → Act → World → Prop)
    (hsz : ∀ l a w, I l a w → l.size = ops.size)
    (step : ∀ l a w, I l a w → ∀ i ∈ Region.ready md ops l, wpOp P ops Q i (fun a' w' => I (l.setIfInBounds i true) a' w') a w)
    (done : ∀ l a w, I l a w → Region.ready md ops l = [] → Q .normal a w) :
    ∀ (fuel : Nat) (l : Array Bool) (a : Act) (w : World), I l a w → (l.toList.countP fun b => !b) ≤ fuel → wpAny P md ops Q fuel l a w := by
  intro fuel
  induction fuel with
  | zero =>
    intro l a w hI hc
    have h0 : l.toList.countP (fun b => !b) = 0 := by omega
    rw [List.countP_eq_zero] at h0
    have hr : Region.ready md ops l = [] := by
      rw [List.eq_nil_iff_forall_not_mem]
      intro j hj
      have h1 := (mem_ready.1 hj).1
      have hj2 : j < l.size := by
        rw [hsz _ _ _ hI]
        obtain ⟨o, ho, _⟩ := (mem_ready.1 hj).2
        exact (Array.getElem?_eq_some_iff.1 ho).1
      have h2 := h0 l[j] (by simp)
      rw [Array.getD_eq_getD_getElem?, Array.getElem?_eq_getElem hj2] at h1
      simp at h1 h2
      rw [h1] at h2
      cases h2
    exact ⟨hr, done l a w hI hr⟩
  | succ fuel ih =>
    intro l a w hI hc
    refine ⟨done l a w hI, fun i hi => wpOp_mono (fun a' w' h => ih _ a' w' h ?_) (step l a w hI i hi)⟩
    have h1 := (mem_ready.1 hi).1
    have hj2 : i < l.size := by
      rw [hsz _ _ _ hI]
      obtain ⟨o, ho, _⟩ := (mem_ready.1 hi).2
      exact (Array.getElem?_eq_some_iff.1 ho).1
    rw [Array.getD_eq_getD_getElem?, Array.getElem?_eq_getElem hj2] at h1
    simp at h1
    rw [Array.toList_setIfInBounds]
    rw [List.countP_set (by simpa using hj2)]
    have h1' : l.toList[i]'(by simpa using hj2) = false := by simpa using h1
    simp only [h1', Bool.not_false, if_true, Bool.not_true, Bool.false_eq_true, if_false]
    have : 0 < l.toList.countP fun b => !b := List.countP_pos_iff.2 ⟨l[i], by simp, by simp [h1]⟩
    omega
theorem inv_op {P : Program} {ops : Array Oper} {Q : Exit → Act → World → Prop} {i : Nat} {o : Oper} {K : Act → World → Prop} {a : Act} {w : World} (ho : ops[i]? = some o) (hg : o.guard = none) (h : o.wp P a w K Q) : wpOp P ops Q i K a w := by
  unfold wpOp
  rw [ho]
  have hw : Region.wanted o (yielded ops a.tmps) = true := by simp [Region.wanted, hg]
  simp only [hw, if_true]
  exact .inl h
end Go.Proofs.AO
