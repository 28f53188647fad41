/- A drawn region by what each operation yields. No conditions beside those in its theorems. -/
import Derived.Test.YtgmdginjikhamaaAO13
import Derived.Great.BuildSlice
set_option linter.unusedSimpArgs false
namespace Go.Proofs.AO
open Go.RowKit
set_option linter.unusedVariables false
set_option maxHeartbeats 1000000
def dstOf (ops : Array Oper) (i : Nat) : Option Tmp := (ops[i]?).bind (·.dst)
def okDst (ops : Array Oper) (n : Nat) (base : List (Nat × Value)) : Bool :=
  (List.range ops.size).all fun i => (match dstOf ops i with | none => true | some d => decide (d < n) && base.all (fun p => p.1 != d) && (List.range ops.size).all fun j => i == j || dstOf ops j != some d) && ((ops[i]?).map (·.guard.isNone)).getD true
theorem okDst_spec {ops : Array Oper} {n : Nat} {base : List (Nat × Value)} (h : okDst ops n base = true) {i : Nat} {o : Oper} (ho : ops[i]? = some o) :
    o.guard = none ∧ ∀ d, o.dst = some d → d < n ∧ (∀ p ∈ base, p.1 ≠ d) ∧ ∀ j o', ops[j]? = some o' → o'.dst = some d → i = j := by
  have hlt := (Array.getElem?_eq_some_iff.1 ho).1
  unfold okDst at h
  rw [List.all_eq_true] at h
  have h1 := h i (List.mem_range.2 hlt)
  rw [Bool.and_eq_true] at h1
  obtain ⟨h1, h2⟩ := h1
  rw [ho] at h2
  refine ⟨by simpa using h2, fun d hd => ?_⟩
  have e1 : dstOf ops i = some d := by simp [dstOf, ho, hd]
  rw [e1] at h1
  simp only [Bool.and_eq_true, decide_eq_true_eq, List.all_eq_true, List.mem_range, bne_iff_ne, Bool.or_eq_true, beq_iff_eq] at h1
  refine ⟨h1.1.1, h1.1.2, fun j o' hj hd' => ?_⟩
  rcases h1.2 j (Array.getElem?_eq_some_iff.1 hj).1 with h3 | h3
  · exact h3
  · exact absurd (by simp [dstOf, hj, hd']) h3
theorem eval_put_ne {a : Act} {dst : Option Tmp} {v : Value} {d : Nat} (h : ∀ e, dst = some e → e ≠ d) : (a.put dst v).eval (.tmp d) = a.eval (.tmp d) := by
  cases dst with
  | none => rfl
  | some e =>
    have := h e rfl
    simp [Act.put, Act.eval, this]
theorem eval_put_eq {a : Act} {d : Nat} {v : Value} (h : d < a.tmps.size) : (a.put (some d) v).eval (.tmp d) = v := by
  simp [Act.put, Act.eval, h]
theorem size_put (a : Act) (d : Option Tmp) (v : Value) : (a.put d v).tmps.size = a.tmps.size := by cases d <;> simp [Act.put]
theorem defers_put (a : Act) (d : Option Tmp) (v : Value) : (a.put d v).defers = a.defers := by cases d <;> rfl
/-- A DRAWN REGION BY WHAT EACH OPERATION YIELDS -/
theorem wpAny_vals {P : Program} {md : Region.Mode} {ops : Array Oper} {Q : Exit → Act → World → Prop} (n : Nat) (base : List (Nat × Value)) (F : Nat → Value → World → Prop) (S : World → Prop) (hok : okDst ops n base = true)
    (step : ∀ (i : Nat) (o : Oper), ops[i]? = some o → ∀ (a : Act) (w : World), a.tmps.size = n → (∀ p ∈ base, a.eval (.tmp p.1) = p.2) → S w →
      (∀ (j : Nat) (o' : Oper), ops[j]? = some o' → (o.after.toList.any fun e => Region.binds md e && e.on == j) = true → ∀ d, o'.dst = some d → F j (a.eval (.tmp d)) w) →
      o.wp P a w (fun a' w' => ∃ v, a' = a.put o.dst v ∧ S w' ∧ F i v w' ∧ ∀ j v, F j v w → F j v w') Q)
    (done : ∀ (a : Act) (w : World), a.tmps.size = n → a.defers = [] → (∀ p ∈ base, a.eval (.tmp p.1) = p.2) → S w → (∀ (j : Nat) (o' : Oper) (d : Nat), ops[j]? = some o' → o'.dst = some d → F j (a.eval (.tmp d)) w) → Q .normal a w)
    (hready : ∀ l : Array Bool, l.size = ops.size → Region.ready md ops l = [] → ∀ j, j < ops.size → l.getD j false = true)
    (a : Act) (w : World) (h1 : a.tmps.size = n) (h2 : a.defers = []) (h3 : ∀ p ∈ base, a.eval (.tmp p.1) = p.2) (h4 : S w) :
    wpAny P md ops Q ops.size (Array.replicate ops.size false) a w := by
  refine wpAny_inv (fun l a w => l.size = ops.size ∧ a.tmps.size = n ∧ a.defers = [] ∧ (∀ p ∈ base, a.eval (.tmp p.1) = p.2) ∧ S w ∧ ∀ (j : Nat) (o' : Oper) (d : Nat), ops[j]? = some o' → l.getD j false = true → o'.dst = some d → F j (a.eval (.tmp d)) w)
    (fun _ _ _ h => h.1) ?_ ?_ _ _ _ _ ⟨by simp, h1, h2, h3, h4, fun j o' d hj hl => by
      have hlt := (Array.getElem?_eq_some_iff.1 hj).1
      rw [Array.getD_eq_getD_getElem?, Array.getElem?_replicate, if_pos hlt] at hl
      cases hl⟩ (by
      refine Nat.le_trans List.countP_le_length ?_
      simp)
  · rintro l a w ⟨g1, g2, g3, g4, g5, g6⟩ i hi
    obtain ⟨hl, o, ho, haft⟩ := mem_ready.1 hi
    obtain ⟨hg, hspec⟩ := okDst_spec hok ho
    refine inv_op ho hg ?_
    refine Oper.wp_mono ?_ (step i o ho a w g2 g4 g5 fun j o' hj hany d hd => g6 j o' d hj (by
      rw [List.any_eq_true] at hany
      obtain ⟨e, he, hb⟩ := hany
      rw [Array.mem_toList_iff] at he
      rw [Bool.and_eq_true, beq_iff_eq] at hb
      rw [← hb.2]
      exact haft e he hb.1) hd)
    rintro a' w' ⟨v, rfl, s1, s2, s3⟩
    refine ⟨by simp [g1], by rw [size_put]; exact g2, by rw [defers_put]; exact g3, fun p hp => ?_, s1, fun j o' d hj hlj hd => ?_⟩
    · rw [eval_put_ne]
      · exact g4 p hp
      · intro e he
        exact ((hspec e he).2.1 p hp).symm
    · by_cases hij : i = j
      · subst hij
        rw [ho] at hj
        cases hj
        rw [hd, eval_put_eq (by rw [g2]; exact (hspec d hd).1)]
        exact s2
      · rw [eval_put_ne]
        · exact s3 j _ (g6 j o' d hj (by rw [getD_set_ne false hij] at hlj; exact hlj) hd)
        · intro e he hed
          subst hed
          exact hij ((hspec _ he).2.2 j o' hj hd)
  · rintro l a w ⟨g1, g2, g3, g4, g5, g6⟩ hr
    exact done a w g2 g3 g4 g5 fun j o' d hj hd => g6 j o' d hj (hready l g1 hr j (Array.getElem?_eq_some_iff.1 hj).1) hd
/-- in order: what an operation waits for stands ahead of it -/
def okAft (ops : Array Oper) : Bool := (List.range ops.size).all fun i => ((ops[i]?).map fun o => o.after.all fun e => decide (e.on < i)).getD true
theorem ready_of {md : Region.Mode} {ops : Array Oper} (h : okAft ops = true) (l : Array Bool) (hl : l.size = ops.size) (hr : Region.ready md ops l = []) : ∀ j, j < ops.size → l.getD j false = true := by
  intro j
  induction j using Nat.strongRecOn with
  | _ j ih =>
    intro hj
    cases hb : l.getD j false with
    | true => rfl
    | false =>
      exfalso
      have hmem : j ∈ Region.ready md ops l := by
        refine mem_ready.2 ⟨?_, ops[j], Array.getElem?_eq_getElem hj, fun e he _ => ?_⟩
        · have : j < l.size := by omega
          rw [Array.getD_eq_getD_getElem?, Array.getElem?_eq_getElem this] at hb ⊢
          exact hb
        · unfold okAft at h
          rw [List.all_eq_true] at h
          have := h j (List.mem_range.2 hj)
          rw [Array.getElem?_eq_getElem hj] at this
          simp only [Option.map_some, Option.getD_some, Array.all_eq_true_iff_forall_mem, decide_eq_true_eq] at this
          have h1 := this e he
          exact ih e.on h1 (by omega)
      rw [hr] at hmem
      cases hmem
end Go.Proofs.AO
