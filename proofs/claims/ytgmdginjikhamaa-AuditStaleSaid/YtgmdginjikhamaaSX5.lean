/- Drawn regions by what each operation yields. No conditions beside those in its theorems. -/
import Derived.Test.YtgmdginjikhamaaSX4
import Derived.RangeFuncNested
import Derived.RangeFuncBound
import Derived.RangeFuncCalls
import Derived.RangeFuncLeaves
import Derived.Shelf.Abstract
import Derived.Shelf.RegionOpen
import Derived.OwnWalkIn
import Derived.TacticsInMore
import Derived.LoopNIn
import Derived.LoopIn
import Derived.Scope
import Derived.Great.BuildSlice
set_option linter.unusedSimpArgs false
namespace Go
section
variable {P : Program} {b : Frame} {a : Act} {k : List Item} {cs : List Frame} {w : World} {Q : Exit → Act → World → Prop} {F : Fence} {n : Nat}
theorem stepR_scope {c : Code} : step P (lone (b.atR a (.code (.scope c) :: k)) cs w) = .next (lone (b.atR a (.code c :: .inScope c :: k)) cs w) :=
  step_lone_go (by simp [stepG, stepG.exec, Frame.atR])
theorem stepR_inScope {c : Code} : step P (lone (b.atR a (.inScope c :: k)) cs w) = .next (lone (b.atR a k) cs w) :=
  step_lone_go (by simp [stepG, stepG.exec, Frame.atR])
/-- a scope without a goto, in a fence -/
theorem wpIn_scope_straight {c : Code} (h : c.wpIn F n P (Exit.noGoto Q) a w) : (Code.scope c).wpIn F n P Q a w := by
  intro b k cs hro hb hr
  have h0 : (lone (b.atR a (.code (.scope c) :: k)) cs w).fenced P F := fenced_calm hb hr rfl
  obtain ⟨e, a₁, w₁, hq, harr⟩ := h b (.inScope c :: k) cs hro hb hr
  cases e with
  | normal => exact ⟨.normal, a₁, w₁, hq, .head h0 stepR_scope (StepsIn.trans harr (.one (fenced_calm hb hr rfl) stepR_inScope))⟩
  | exit id =>
    exact ⟨.exit id, a₁, w₁, hq, fun k' hk => .head h0 stepR_scope (harr.1 k' (by simp [exitTo, hk])), fun hr' hk => let ⟨k₁, h1, h2⟩ := harr.2 hr' (by simp [exitTo, hk]); ⟨k₁, h1, .head h0 stepR_scope h2⟩⟩
  | goto l => exact hq.elim
  | ret => exact ⟨.ret, a₁, w₁, hq, .of_steps (.head h0 stepR_scope (.refl _)) harr⟩
  | panic ch => exact ⟨.panic ch, a₁, w₁, hq, .of_steps (.head h0 stepR_scope (.refl _)) harr⟩
  | outgrown => exact ⟨.outgrown, a₁, w₁, hq, .of_steps (.head h0 stepR_scope (.refl _)) harr⟩
end
end Go
namespace Go.Proofs.AO
open Go.RowKit
theorem Up.drew (W : World) : Up W W.drew := ⟨rfl, rfl, rfl, Nat.le_refl _, fun _ _ => rfl⟩
end Go.Proofs.AO
namespace Go.Proofs.AO
open Go.RowKit Go.Maps Go.Shelf
set_option linter.unusedVariables false
set_option maxRecDepth 100000
set_option maxHeartbeats 1000000
/-- A DRAWN REGION BY AN INVARIANT: at each set of operations that are done -/
theorem wpAny_inv {P : Program} {md : Region.Mode} {ops : Array Oper} {Q : Exit → Act → World → Prop} (I : Array Bool → Act → World → Prop)
    (hsz : ∀ l a w, I l a w → l.size = ops.size)
    (step : ∀ l a w, I l a w → ∀ i ∈ Region.ready md ops l, wpOp P ops Q i (fun a' w' => I (l.setIfInBounds i true) a' w') a w)
    (done : ∀ l a w, I l a w → Region.ready md ops l = [] → Q .normal a w) :
    ∀ (fuel : Nat) (l : Array Bool) (a : Act) (w : World), I l a w → (l.toList.countP fun b => !b) ≤ fuel → wpAny P md ops Q fuel l a w := by
  intro fuel
  induction fuel with
  | zero =>
    intro l a w hI hc
    have h0 : l.toList.countP (fun b => !b) = 0 := by omega
    rw [List.countP_eq_zero] at h0
    have hr : Region.ready md ops l = [] := by
      rw [List.eq_nil_iff_forall_not_mem]
      intro j hj
      have h1 := (mem_ready.1 hj).1
      have hj2 : j < l.size := by
        rw [hsz _ _ _ hI]
        obtain ⟨o, ho, _⟩ := (mem_ready.1 hj).2
        exact (Array.getElem?_eq_some_iff.1 ho).1
      have h2 := h0 l[j] (by simp)
      rw [Array.getD_eq_getD_getElem?, Array.getElem?_eq_getElem hj2] at h1
      simp at h1 h2
      rw [h1] at h2
      cases h2
    exact ⟨hr, done l a w hI hr⟩
  | succ fuel ih =>
    intro l a w hI hc
    refine ⟨done l a w hI, fun i hi => wpOp_mono (fun a' w' h => ih _ a' w' h ?_) (step l a w hI i hi)⟩
    have h1 := (mem_ready.1 hi).1
    have hj2 : i < l.size := by
      rw [hsz _ _ _ hI]
      obtain ⟨o, ho, _⟩ := (mem_ready.1 hi).2
      exact (Array.getElem?_eq_some_iff.1 ho).1
    rw [Array.getD_eq_getD_getElem?, Array.getElem?_eq_getElem hj2] at h1
    simp at h1
    rw [Array.toList_setIfInBounds]
    rw [List.countP_set (by simpa using hj2)]
    have h1' : l.toList[i]'(by simpa using hj2) = false := by simpa using h1
    simp only [h1', Bool.not_false, if_true, Bool.not_true, Bool.false_eq_true, if_false]
    have : 0 < l.toList.countP fun b => !b := List.countP_pos_iff.2 ⟨l[i], by simp, by simp [h1]⟩
    omega
theorem inv_op {P : Program} {ops : Array Oper} {Q : Exit → Act → World → Prop} {i : Nat} {o : Oper} {K : Act → World → Prop} {a : Act} {w : World} (ho : ops[i]? = some o) (hg : o.guard = none) (h : o.wp P a w K Q) : wpOp P ops Q i K a w := by
  unfold wpOp
  rw [ho]
  have hw : Region.wanted o (yielded ops a.tmps) = true := by simp [Region.wanted, hg]
  simp only [hw, if_true]
  exact .inl h
end Go.Proofs.AO
namespace Go.Proofs.AO
open Go.RowKit
set_option linter.unusedVariables false
set_option maxHeartbeats 1000000
def dstOf (ops : Array Oper) (i : Nat) : Option Tmp := (ops[i]?).bind (·.dst)
def okDst (ops : Array Oper) (n : Nat) (base : List (Nat × Value)) : Bool :=
  (List.range ops.size).all fun i => (match dstOf ops i with | none => true | some d => decide (d < n) && base.all (fun p => p.1 != d) && (List.range ops.size).all fun j => i == j || dstOf ops j != some d) && ((ops[i]?).map (·.guard.isNone)).getD true
theorem okDst_spec {ops : Array Oper} {n : Nat} {base : List (Nat × Value)} (h : okDst ops n base = true) {i : Nat} {o : Oper} (ho : ops[i]? = some o) :
    o.guard = none ∧ ∀ d, o.dst = some d → d < n ∧ (∀ p ∈ base, p.1 ≠ d) ∧ ∀ j o', ops[j]? = some o' → o'.dst = some d → i = j := by
  have hlt := (Array.getElem?_eq_some_iff.1 ho).1
  unfold okDst at h
  rw [List.all_eq_true] at h
  have h1 := h i (List.mem_range.2 hlt)
  rw [Bool.and_eq_true] at h1
  obtain ⟨h1, h2⟩ := h1
  rw [ho] at h2
  refine ⟨by simpa using h2, fun d hd => ?_⟩
  have e1 : dstOf ops i = some d := by simp [dstOf, ho, hd]
  rw [e1] at h1
  simp only [Bool.and_eq_true, decide_eq_true_eq, List.all_eq_true, List.mem_range, bne_iff_ne, Bool.or_eq_true, beq_iff_eq] at h1
  refine ⟨h1.1.1, h1.1.2, fun j o' hj hd' => ?_⟩
  rcases h1.2 j (Array.getElem?_eq_some_iff.1 hj).1 with h3 | h3
  · exact h3
  · exact absurd (by simp [dstOf, hj, hd']) h3
theorem eval_put_ne {a : Act} {dst : Option Tmp} {v : Value} {d : Nat} (h : ∀ e, dst = some e → e ≠ d) : (a.put dst v).eval (.tmp d) = a.eval (.tmp d) := by
  cases dst with
  | none => rfl
  | some e =>
    have := h e rfl
    simp [Act.put, Act.eval, this]
theorem eval_put_eq {a : Act} {d : Nat} {v : Value} (h : d < a.tmps.size) : (a.put (some d) v).eval (.tmp d) = v := by
  simp [Act.put, Act.eval, h]
theorem size_put (a : Act) (d : Option Tmp) (v : Value) : (a.put d v).tmps.size = a.tmps.size := by cases d <;> simp [Act.put]
theorem defers_put (a : Act) (d : Option Tmp) (v : Value) : (a.put d v).defers = a.defers := by cases d <;> rfl
/-- A DRAWN REGION BY WHAT EACH OPERATION YIELDS -/
theorem wpAny_vals {P : Program} {md : Region.Mode} {ops : Array Oper} {Q : Exit → Act → World → Prop} (n : Nat) (base : List (Nat × Value)) (F : Nat → Value → World → Prop) (S : World → Prop) (hok : okDst ops n base = true)
    (step : ∀ (i : Nat) (o : Oper), ops[i]? = some o → ∀ (a : Act) (w : World), a.tmps.size = n → (∀ p ∈ base, a.eval (.tmp p.1) = p.2) → S w →
      (∀ (j : Nat) (o' : Oper), ops[j]? = some o' → (o.after.toList.any fun e => Region.binds md e && e.on == j) = true → ∀ d, o'.dst = some d → F j (a.eval (.tmp d)) w) →
      o.wp P a w (fun a' w' => ∃ v, a' = a.put o.dst v ∧ S w' ∧ F i v w' ∧ ∀ j v, F j v w → F j v w') Q)
    (done : ∀ (a : Act) (w : World), a.tmps.size = n → a.defers = [] → (∀ p ∈ base, a.eval (.tmp p.1) = p.2) → S w → (∀ (j : Nat) (o' : Oper) (d : Nat), ops[j]? = some o' → o'.dst = some d → F j (a.eval (.tmp d)) w) → Q .normal a w)
    (hready : ∀ l : Array Bool, l.size = ops.size → Region.ready md ops l = [] → ∀ j, j < ops.size → l.getD j false = true)
    (a : Act) (w : World) (h1 : a.tmps.size = n) (h2 : a.defers = []) (h3 : ∀ p ∈ base, a.eval (.tmp p.1) = p.2) (h4 : S w) :
    wpAny P md ops Q ops.size (Array.replicate ops.size false) a w := by
  refine wpAny_inv (fun l a w => l.size = ops.size ∧ a.tmps.size = n ∧ a.defers = [] ∧ (∀ p ∈ base, a.eval (.tmp p.1) = p.2) ∧ S w ∧ ∀ (j : Nat) (o' : Oper) (d : Nat), ops[j]? = some o' → l.getD j false = true → o'.dst = some d → F j (a.eval (.tmp d)) w)
    (fun _ _ _ h => h.1) ?_ ?_ _ _ _ _ ⟨by simp, h1, h2, h3, h4, fun j o' d hj hl => by
      have hlt := (Array.getElem?_eq_some_iff.1 hj).1
      rw [Array.getD_eq_getD_getElem?, Array.getElem?_replicate, if_pos hlt] at hl
      cases hl⟩ (by
      refine Nat.le_trans List.countP_le_length ?_
      simp)
  · rintro l a w ⟨g1, g2, g3, g4, g5, g6⟩ i hi
    obtain ⟨hl, o, ho, haft⟩ := mem_ready.1 hi
    obtain ⟨hg, hspec⟩ := okDst_spec hok ho
    refine inv_op ho hg ?_
    refine Oper.wp_mono ?_ (step i o ho a w g2 g4 g5 fun j o' hj hany d hd => g6 j o' d hj (by
      rw [List.any_eq_true] at hany
      obtain ⟨e, he, hb⟩ := hany
      rw [Array.mem_toList_iff] at he
      rw [Bool.and_eq_true, beq_iff_eq] at hb
      rw [← hb.2]
      exact haft e he hb.1) hd)
    rintro a' w' ⟨v, rfl, s1, s2, s3⟩
    refine ⟨by simp [g1], by rw [size_put]; exact g2, by rw [defers_put]; exact g3, fun p hp => ?_, s1, fun j o' d hj hlj hd => ?_⟩
    · rw [eval_put_ne]
      · exact g4 p hp
      · intro e he
        exact ((hspec e he).2.1 p hp).symm
    · by_cases hij : i = j
      · subst hij
        rw [ho] at hj
        cases hj
        rw [hd, eval_put_eq (by rw [g2]; exact (hspec d hd).1)]
        exact s2
      · rw [eval_put_ne]
        · exact s3 j _ (g6 j o' d hj (by rw [getD_set_ne false hij] at hlj; exact hlj) hd)
        · intro e he hed
          subst hed
          exact hij ((hspec _ he).2.2 j o' hj hd)
  · rintro l a w ⟨g1, g2, g3, g4, g5, g6⟩ hr
    exact done a w g2 g3 g4 g5 fun j o' d hj hd => g6 j o' d hj (hready l g1 hr j (Array.getElem?_eq_some_iff.1 hj).1) hd
/-- in order: what an operation waits for stands ahead of it -/
def okAft (ops : Array Oper) : Bool := (List.range ops.size).all fun i => ((ops[i]?).map fun o => o.after.all fun e => decide (e.on < i)).getD true
theorem ready_of {md : Region.Mode} {ops : Array Oper} (h : okAft ops = true) (l : Array Bool) (hl : l.size = ops.size) (hr : Region.ready md ops l = []) : ∀ j, j < ops.size → l.getD j false = true := by
  intro j
  induction j using Nat.strongRecOn with
  | _ j ih =>
    intro hj
    cases hb : l.getD j false with
    | true => rfl
    | false =>
      exfalso
      have hmem : j ∈ Region.ready md ops l := by
        refine mem_ready.2 ⟨?_, ops[j], Array.getElem?_eq_getElem hj, fun e he _ => ?_⟩
        · have : j < l.size := by omega
          rw [Array.getD_eq_getD_getElem?, Array.getElem?_eq_getElem this] at hb ⊢
          exact hb
        · unfold okAft at h
          rw [List.all_eq_true] at h
          have := h j (List.mem_range.2 hj)
          rw [Array.getElem?_eq_getElem hj] at this
          simp only [Option.map_some, Option.getD_some, Array.all_eq_true_iff_forall_mem, decide_eq_true_eq] at this
          have h1 := this e he
          exact ih e.on h1 (by omega)
      rw [hr] at hmem
      cases hmem
end Go.Proofs.AO
namespace Go.Proofs.AO
open Go.RowKit Go.Shelf
set_option linter.unusedVariables false
set_option maxHeartbeats 1000000
section
variable {P : Program} {o : Oper} {a : Act} {w : World} {K : Act → World → Prop} {Q : Exit → Act → World → Prop}
theorem op_call (f : FuncId) (xs : Array Operand) (ts : Array TypeId) (ho : o.op = .call { callee := .value (.func f), args := xs, argTypes := ts }) (vs : Array Value) (hxs : xs.map a.eval = vs) (he : ∀ (args : Array Value) (w : World), (callFunc f args).run P w = .ok (.enter f args) w)
    (h : Calls P f vs w fun e w' => ∃ v, e = .returned v ∧ K (a.put o.dst v) w') : o.wp P a w K Q := by
  have hh : (execOp a.eval o).run P w = .ok (.enter f vs) w := by
    subst hxs
    simp [execOp, ho, resolve, invoke, Act.eval, Deferred.ofValue, he, go_sem]
  unfold Oper.wp
  rw [hh, Oper.upon_enter]
  refine h.mono ?_
  rintro e w' ⟨v, rfl, hk⟩
  exact hk
theorem op_assign (x : Operand) (ho : o.op = .assign x) (h : K (a.put o.dst (a.eval x)) w) : o.wp P a w K Q := by
  unfold Oper.wp
  simp only [execOp, ho, Sem.run_bind, Sem.run_pure, Result.andThen_ok, Oper.upon_value]
  exact h
theorem op_buildSlice (t e : TypeId) (len : Nat) (parts : Array (Nat × Operand)) (ho : o.op = .buildSlice t len parts) (cells : Array Value) (ie : TypeInfo) (z : Value)
    (hu : P.underlying t = some (.slice e)) (hie : P.info? e = some ie) (hz : ie.zero = some z) (hsmall : ¬ len * ie.size > 2 ^ 24) (hpos : ¬ len * ie.size = 0)
    (hc : Instr.fill (fun i => some (i * ie.size, ie.size)) ((Array.range (len * ie.size)).map (z.cells[· % z.cells.size]!)) (parts.map fun (i, x) => (i, a.eval x)).toList = some cells)
    (h : K (a.put o.dst (.slice (some ⟨w.heap.size, 0, none⟩) len len)) (w.alloc (.cells cells e))) : o.wp P a w K Q := by
  unfold Oper.wp
  have := run_buildSlice (P := P) w t e len (parts.map fun (i, x) => (i, a.eval x)) cells ie z hu hie hz hsmall hpos hc
  simp only [execOp, ho, Sem.run_bind, Sem.run_pure, Result.andThen_ok, this, Oper.upon_value]
  exact h
end
end Go.Proofs.AO
namespace Go.Proofs.AO
open Go.RowKit
set_option linter.unusedVariables false
set_option maxHeartbeats 1000000
/-- the last operation waits for all the others -/
def okLast (md : Region.Mode) (ops : Array Oper) (m : Nat) : Bool := ops.size == m + 1 && ((ops[m]?).map fun o => o.guard.isNone && (List.range m).all fun j => o.after.toList.any fun e => Region.binds md e && e.on == j).getD false
/-- A DRAWN REGION BY WHAT EACH OPERATION YIELDS; the last one comes behind all the others, and may do as it likes -/
theorem wpAny_last {P : Program} {md : Region.Mode} {ops : Array Oper} {Q : Exit → Act → World → Prop} (n : Nat) (base : List (Nat × Value)) (F : Nat → Value → World → Prop) (S : World → Prop) (m : Nat) (hok : okDst ops n base = true) (hlast : okLast md ops m = true)
    (step : ∀ (i : Nat) (o : Oper), ops[i]? = some o → i < m → ∀ (a : Act) (w : World), a.tmps.size = n → (∀ p ∈ base, a.eval (.tmp p.1) = p.2) → S w →
      (∀ (j : Nat) (o' : Oper), ops[j]? = some o' → (o.after.toList.any fun e => Region.binds md e && e.on == j) = true → ∀ d, o'.dst = some d → F j (a.eval (.tmp d)) w) →
      o.wp P a w (fun a' w' => ∃ v, a' = a.put o.dst v ∧ S w' ∧ F i v w' ∧ ∀ j v, F j v w → F j v w') Q)
    (last : ∀ (o : Oper), ops[m]? = some o → ∀ (a : Act) (w : World), a.tmps.size = n → a.defers = [] → (∀ p ∈ base, a.eval (.tmp p.1) = p.2) → S w → (∀ (j : Nat) (o' : Oper) (d : Nat), j < m → ops[j]? = some o' → o'.dst = some d → F j (a.eval (.tmp d)) w) → o.wp P a w (Q .normal) Q)
    (hready : ∀ l : Array Bool, l.size = ops.size → Region.ready md ops l = [] → ∀ j, j < ops.size → l.getD j false = true)
    (a : Act) (w : World) (h1 : a.tmps.size = n) (h2 : a.defers = []) (h3 : ∀ p ∈ base, a.eval (.tmp p.1) = p.2) (h4 : S w) :
    wpAny P md ops Q ops.size (Array.replicate ops.size false) a w := by
  unfold okLast at hlast
  rw [Bool.and_eq_true, beq_iff_eq] at hlast
  obtain ⟨hm, hlo⟩ := hlast
  obtain ⟨om, hom⟩ : ∃ om, ops[m]? = some om := ⟨_, Array.getElem?_eq_getElem (by omega)⟩
  rw [hom] at hlo
  simp only [Option.map_some, Option.getD_some, Bool.and_eq_true, List.all_eq_true, List.mem_range] at hlo
  obtain ⟨hgm, hdep⟩ := hlo
  have hrep : ∀ j, (Array.replicate ops.size false).getD j false = false := fun j => by
    rw [Array.getD_eq_getD_getElem?, Array.getElem?_replicate]
    split <;> rfl
  refine wpAny_inv (fun l a w => l.size = ops.size ∧ ((Q .normal a w ∧ ∀ j, j < ops.size → l.getD j false = true) ∨ (l.getD m false = false ∧ a.tmps.size = n ∧ a.defers = [] ∧ (∀ p ∈ base, a.eval (.tmp p.1) = p.2) ∧ S w ∧ ∀ (j : Nat) (o' : Oper) (d : Nat), j < m → ops[j]? = some o' → l.getD j false = true → o'.dst = some d → F j (a.eval (.tmp d)) w)))
    (fun _ _ _ h => h.1) ?_ ?_ _ _ _ _ ⟨by simp, .inr ⟨hrep m, h1, h2, h3, h4, fun j o' d _ hj hl => by rw [hrep j] at hl; cases hl⟩⟩ (by
      refine Nat.le_trans List.countP_le_length ?_
      simp)
  · rintro l a w ⟨g1, h | ⟨g0, g2, g3, g4, g5, g6⟩⟩ i hi
    · obtain ⟨hl, o, ho, haft⟩ := mem_ready.1 hi
      have hlt := (Array.getElem?_eq_some_iff.1 ho).1
      have := h.2 i hlt
      rw [Array.getD_eq_getD_getElem?, Array.getElem?_eq_getElem (by omega)] at this hl
      simp at this hl
      rw [this] at hl
      cases hl
    · obtain ⟨hl, o, ho, haft⟩ := mem_ready.1 hi
      have hlt := (Array.getElem?_eq_some_iff.1 ho).1
      obtain ⟨hg, hspec⟩ := okDst_spec hok ho
      have hdone : ∀ j, (o.after.toList.any fun e => Region.binds md e && e.on == j) = true → l.getD j false = true := fun j hany => by
        rw [List.any_eq_true] at hany
        obtain ⟨e, he, hb⟩ := hany
        rw [Array.mem_toList_iff] at he
        rw [Bool.and_eq_true, beq_iff_eq] at hb
        rw [← hb.2]
        exact haft e he hb.1
      refine inv_op ho hg ?_
      by_cases him : i = m
      · subst him
        rw [hom] at ho
        cases ho
        refine Oper.wp_mono ?_ (last _ hom a w g2 g3 g4 g5 fun j o' d hj hj' hd => g6 j o' d hj hj' (hdone j (hdep j hj)) hd)
        intro a' w' hq
        refine ⟨by simp [g1], .inl ⟨hq, fun j hj => ?_⟩⟩
        by_cases hij : i = j
        · subst hij
          rw [Array.getD_eq_getD_getElem?, Array.getElem?_setIfInBounds_self_of_lt (by omega)]
          rfl
        · rw [getD_set_ne false hij]
          exact hdone j (hdep j (by omega))
      · refine Oper.wp_mono ?_ (step i o ho (by omega) a w g2 g4 g5 fun j o' hj hany d hd => g6 j o' d (by
          rcases Nat.lt_or_ge j m with hjm | hjm
          · exact hjm
          · have : j = m := by have := (Array.getElem?_eq_some_iff.1 hj).1; omega
            subst this
            rw [hdone j hany] at g0
            cases g0) hj (hdone j hany) hd)
        rintro a' w' ⟨v, rfl, s1, s2, s3⟩
        refine ⟨by simp [g1], .inr ⟨?_, by rw [size_put]; exact g2, by rw [defers_put]; exact g3, fun p hp => ?_, s1, fun j o' d hjm hj hlj hd => ?_⟩⟩
        · rw [getD_set_ne false him]
          exact g0
        · rw [eval_put_ne]
          · exact g4 p hp
          · intro e he
            exact ((hspec e he).2.1 p hp).symm
        · by_cases hij : i = j
          · subst hij
            rw [ho] at hj
            cases hj
            rw [hd, eval_put_eq (by rw [g2]; exact (hspec d hd).1)]
            exact s2
          · rw [eval_put_ne]
            · exact s3 j _ (g6 j o' d hjm hj (by rw [getD_set_ne false hij] at hlj; exact hlj) hd)
            · intro e he hed
              subst hed
              exact hij ((hspec _ he).2.2 j o' hj hd)
  · rintro l a w ⟨g1, h | ⟨g0, _⟩⟩ hr
    · exact h.1
    · rw [hready l g1 hr m (by omega)] at g0
      cases g0
end Go.Proofs.AO
namespace Go.Proofs.AO
open Go.RowKit
set_option linter.unusedVariables false
set_option maxHeartbeats 1000000
def waits (md : Region.Mode) (o : Oper) (i : Nat) : Bool := o.after.toList.any fun e => Region.binds md e && e.on == i
/-- A DRAWN REGION BY WHAT EACH OPERATION YIELDS, AND WHAT EACH STORE LEAVES -/
theorem wpAny_valsN {P : Program} {md : Region.Mode} {ops : Array Oper} {Q : Exit → Act → World → Prop} (n : Nat) (base : List (Nat × Value)) (F : Nat → Value → World → Prop) (N : Nat → Act → World → Prop) (S : World → Prop) (hok : okDst ops n base = true)
    (step : ∀ (i : Nat) (o : Oper), ops[i]? = some o → ∀ (a : Act) (w : World), a.tmps.size = n → (∀ p ∈ base, a.eval (.tmp p.1) = p.2) → S w →
      (∀ (j : Nat) (o' : Oper), ops[j]? = some o' → waits md o j = true → ∀ d, o'.dst = some d → F j (a.eval (.tmp d)) w) →
      o.wp P a w (fun a' w' => ∃ v, a' = a.put o.dst v ∧ S w' ∧ F i v w' ∧ (o.dst = none → N i a w') ∧ (∀ j v, F j v w → F j v w') ∧
        ∀ (j : Nat) (o' : Oper), ops[j]? = some o' → o'.dst = none → j ≠ i → waits md o' i = false → N j a w → N j (a.put o.dst v) w') Q)
    (done : ∀ (a : Act) (w : World), a.tmps.size = n → a.defers = [] → (∀ p ∈ base, a.eval (.tmp p.1) = p.2) → S w → (∀ (j : Nat) (o' : Oper) (d : Nat), ops[j]? = some o' → o'.dst = some d → F j (a.eval (.tmp d)) w) →
      (∀ (j : Nat) (o' : Oper), ops[j]? = some o' → o'.dst = none → N j a w) → Q .normal a w)
    (hready : ∀ l : Array Bool, l.size = ops.size → Region.ready md ops l = [] → ∀ j, j < ops.size → l.getD j false = true)
    (a : Act) (w : World) (h1 : a.tmps.size = n) (h2 : a.defers = []) (h3 : ∀ p ∈ base, a.eval (.tmp p.1) = p.2) (h4 : S w) :
    wpAny P md ops Q ops.size (Array.replicate ops.size false) a w := by
  have hrep : ∀ j, (Array.replicate ops.size false).getD j false = false := fun j => by
    rw [Array.getD_eq_getD_getElem?, Array.getElem?_replicate]
    split <;> rfl
  refine wpAny_inv (fun l a w => l.size = ops.size ∧ a.tmps.size = n ∧ a.defers = [] ∧ (∀ p ∈ base, a.eval (.tmp p.1) = p.2) ∧ S w ∧ (∀ (j : Nat) (o' : Oper) (d : Nat), ops[j]? = some o' → l.getD j false = true → o'.dst = some d → F j (a.eval (.tmp d)) w) ∧
      (∀ (j : Nat) (o' : Oper), ops[j]? = some o' → l.getD j false = true → o'.dst = none → N j a w) ∧ (∀ (j : Nat) (o' : Oper), ops[j]? = some o' → l.getD j false = true → ∀ i, waits md o' i = true → l.getD i false = true))
    (fun _ _ _ h => h.1) ?_ ?_ _ _ _ _ ⟨by simp, h1, h2, h3, h4, fun j o' d hj hl => (by rw [hrep j] at hl; cases hl), fun j o' hj hl => (by rw [hrep j] at hl; cases hl), fun j o' hj hl => (by rw [hrep j] at hl; cases hl)⟩ (by
      refine Nat.le_trans List.countP_le_length ?_
      simp)
  · rintro l a w ⟨g1, g2, g3, g4, g5, g6, g7, g8⟩ i hi
    obtain ⟨hl, o, ho, haft⟩ := mem_ready.1 hi
    have hlt := (Array.getElem?_eq_some_iff.1 ho).1
    obtain ⟨hg, hspec⟩ := okDst_spec hok ho
    have hdone : ∀ j, waits md o j = true → l.getD j false = true := fun j hany => by
      unfold waits at hany
      rw [List.any_eq_true] at hany
      obtain ⟨e, he, hb⟩ := hany
      rw [Array.mem_toList_iff] at he
      rw [Bool.and_eq_true, beq_iff_eq] at hb
      rw [← hb.2]
      exact haft e he hb.1
    have hli : l.getD i false = false := by
      rw [Array.getD_eq_getD_getElem?, Array.getElem?_eq_getElem (by omega)] at hl ⊢
      simpa using hl
    refine inv_op ho hg ?_
    refine Oper.wp_mono ?_ (step i o ho a w g2 g4 g5 fun j o' hj hany d hd => g6 j o' d hj (hdone j hany) hd)
    rintro a' w' ⟨v, rfl, s1, s2, s3, s4, s5⟩
    refine ⟨by simp [g1], by rw [size_put]; exact g2, by rw [defers_put]; exact g3, fun p hp => ?_, s1, fun j o' d hj hlj hd => ?_, fun j o' hj hlj hd => ?_, fun j o' hj hlj k hk => ?_⟩
    · rw [eval_put_ne]
      · exact g4 p hp
      · intro e he
        exact ((hspec e he).2.1 p hp).symm
    · by_cases hij : i = j
      · subst hij
        rw [ho] at hj
        cases hj
        rw [hd, eval_put_eq (by rw [g2]; exact (hspec d hd).1)]
        exact s2
      · rw [eval_put_ne]
        · exact s4 j _ (g6 j o' d hj (by rw [getD_set_ne false hij] at hlj; exact hlj) hd)
        · intro e he hed
          subst hed
          exact hij ((hspec _ he).2.2 j o' hj hd)
    · by_cases hij : i = j
      · subst hij
        rw [ho] at hj
        cases hj
        rw [hd]
        exact s3 hd
      · rw [getD_set_ne false hij] at hlj
        refine s5 j o' hj hd (fun e => hij e.symm) ?_ (g7 j o' hj hlj hd)
        cases hw : waits md o' i with
        | false => rfl
        | true => rw [g8 j o' hj hlj i hw] at hli; cases hli
    · by_cases hik : i = k
      · subst hik
        rw [Array.getD_eq_getD_getElem?, Array.getElem?_setIfInBounds_self_of_lt (by omega)]
        rfl
      · rw [getD_set_ne false hik]
        by_cases hij : i = j
        · subst hij
          rw [ho] at hj
          cases hj
          exact hdone k hk
        · rw [getD_set_ne false hij] at hlj
          exact g8 j o' hj hlj k hk
  · rintro l a w ⟨g1, g2, g3, g4, g5, g6, g7, g8⟩ hr
    exact done a w g2 g3 g4 g5 (fun j o' d hj hd => g6 j o' d hj (hready l g1 hr j (Array.getElem?_eq_some_iff.1 hj).1) hd) (fun j o' hj hd => g7 j o' hj (hready l g1 hr j (Array.getElem?_eq_some_iff.1 hj).1) hd)
end Go.Proofs.AO
namespace Go.Proofs.AO
open Go.RowKit
set_option linter.unusedVariables false
set_option linter.unusedSimpArgs false
set_option maxHeartbeats 1000000
/-- an operation that runs to a value -/
theorem op_run {P : Program} {o : Oper} {a : Act} {w : World} {K : Act → World → Prop} {Q : Exit → Act → World → Prop} (v : Value) (w' : World) (h : (execOp a.eval o).run P w = .ok (.value v) w') (hk : K (a.put o.dst v) w') : o.wp P a w K Q := by
  unfold Oper.wp
  rw [h, Oper.upon_value]
  exact hk
/-- in order: what an operation waits for in this mode stands ahead of it -/
def okAftB (md : Region.Mode) (ops : Array Oper) : Bool := (List.range ops.size).all fun i => ((ops[i]?).map fun o => o.after.all fun e => !Region.binds md e || decide (e.on < i)).getD true
theorem ready_ofB {md : Region.Mode} {ops : Array Oper} (h : okAftB md ops = true) (l : Array Bool) (hl : l.size = ops.size) (hr : Region.ready md ops l = []) : ∀ j, j < ops.size → l.getD j false = true := by
  intro j
  induction j using Nat.strongRecOn with
  | _ j ih =>
    intro hj
    cases hb : l.getD j false with
    | true => rfl
    | false =>
      exfalso
      have hmem : j ∈ Region.ready md ops l := by
        refine mem_ready.2 ⟨?_, ops[j], Array.getElem?_eq_getElem hj, fun e he hbd => ?_⟩
        · have : j < l.size := by omega
          rw [Array.getD_eq_getD_getElem?, Array.getElem?_eq_getElem this] at hb ⊢
          exact hb
        · unfold okAftB at h
          rw [List.all_eq_true] at h
          have := h j (List.mem_range.2 hj)
          rw [Array.getElem?_eq_getElem hj] at this
          simp only [Option.map_some, Option.getD_some, Array.all_eq_true_iff_forall_mem, Bool.or_eq_true, Bool.not_eq_true', decide_eq_true_eq] at this
          have h1 : e.on < j := by
            rcases this e he with h2 | h2
            · rw [hbd] at h2; cases h2
            · exact h2
          exact ih e.on h1 (by omega)
      rw [hr] at hmem
      cases hmem
/-- a move -/
theorem op_move {P : Program} {o : Oper} {a : Act} {w : World} {K : Act → World → Prop} {Q : Exit → Act → World → Prop} (x : Operand) (ho : o.op = .move x) (h : K (a.put o.dst (a.eval x)) w) : o.wp P a w K Q := by
  unfold Oper.wp
  simp only [execOp, ho, Sem.run_bind, Sem.run_pure, Result.andThen_ok, Oper.upon_value]
  exact h
end Go.Proofs.AO
namespace Go.Proofs.AO
open Go.RowKit
set_option linter.unusedVariables false
set_option maxHeartbeats 1000000
/-- only operation m has no slot, and it waits for i -/
def okOne (md : Region.Mode) (ops : Array Oper) (m : Nat) (free : List Nat) : Bool :=
  (List.range ops.size).all fun j => ((ops[j]?).map fun o => o.dst.isSome || (j == m && (List.range ops.size).all fun i => i == m || free.contains i || waits md o i)).getD true
theorem keep_of {md : Region.Mode} {ops : Array Oper} {m : Nat} {free : List Nat} (h : okOne md ops m free = true) {N : Nat → Act → World → Prop} {i : Nat} {a a' : Act} {w w' : World} (hi : i < ops.size) (hf : free.contains i = false) :
    ∀ (j : Nat) (o' : Oper), ops[j]? = some o' → o'.dst = none → j ≠ i → waits md o' i = false → N j a w → N j a' w' := by
  intro j o' hj hd hji hw
  exfalso
  unfold okOne at h
  rw [List.all_eq_true] at h
  have h1 := h j (List.mem_range.2 (Array.getElem?_eq_some_iff.1 hj).1)
  rw [hj] at h1
  simp only [Option.map_some, Option.getD_some, hd, Option.isSome_none, Bool.false_or, Bool.and_eq_true, beq_iff_eq, List.all_eq_true, List.mem_range] at h1
  obtain ⟨rfl, h2⟩ := h1
  have h3 := h2 i hi
  rw [hf, hw] at h3
  simp at h3
  exact hji h3.symm
end Go.Proofs.AO
namespace Go.Proofs.AO
open Go.RowKit
set_option linter.unusedVariables false
set_option maxHeartbeats 1000000
/-- A DRAWN REGION BY WHAT EACH OPERATION YIELDS, AND WHAT EACH STORE LEAVES; the invariant sees the slots -/
theorem wpAny_valsA {P : Program} {md : Region.Mode} {ops : Array Oper} {Q : Exit → Act → World → Prop} (n : Nat) (base : List (Nat × Value)) (F : Nat → Value → World → Prop) (N : Nat → Act → World → Prop) (S : Act → World → Prop) (hok : okDst ops n base = true)
    (step : ∀ (i : Nat) (o : Oper), ops[i]? = some o → ∀ (a : Act) (w : World), a.tmps.size = n → (∀ p ∈ base, a.eval (.tmp p.1) = p.2) → S a w →
      (∀ (j : Nat) (o' : Oper), ops[j]? = some o' → waits md o j = true → ∀ d, o'.dst = some d → F j (a.eval (.tmp d)) w) →
      o.wp P a w (fun a' w' => ∃ v, a' = a.put o.dst v ∧ S (a.put o.dst v) w' ∧ F i v w' ∧ (o.dst = none → N i a w') ∧ (∀ j v, F j v w → F j v w') ∧
        ∀ (j : Nat) (o' : Oper), ops[j]? = some o' → o'.dst = none → j ≠ i → waits md o' i = false → N j a w → N j (a.put o.dst v) w') Q)
    (done : ∀ (a : Act) (w : World), a.tmps.size = n → a.defers = [] → (∀ p ∈ base, a.eval (.tmp p.1) = p.2) → S a w → (∀ (j : Nat) (o' : Oper) (d : Nat), ops[j]? = some o' → o'.dst = some d → F j (a.eval (.tmp d)) w) →
      (∀ (j : Nat) (o' : Oper), ops[j]? = some o' → o'.dst = none → N j a w) → Q .normal a w)
    (hready : ∀ l : Array Bool, l.size = ops.size → Region.ready md ops l = [] → ∀ j, j < ops.size → l.getD j false = true)
    (a : Act) (w : World) (h1 : a.tmps.size = n) (h2 : a.defers = []) (h3 : ∀ p ∈ base, a.eval (.tmp p.1) = p.2) (h4 : S a w) :
    wpAny P md ops Q ops.size (Array.replicate ops.size false) a w := by
  have hrep : ∀ j, (Array.replicate ops.size false).getD j false = false := fun j => by
    rw [Array.getD_eq_getD_getElem?, Array.getElem?_replicate]
    split <;> rfl
  refine wpAny_inv (fun l a w => l.size = ops.size ∧ a.tmps.size = n ∧ a.defers = [] ∧ (∀ p ∈ base, a.eval (.tmp p.1) = p.2) ∧ S a w ∧ (∀ (j : Nat) (o' : Oper) (d : Nat), ops[j]? = some o' → l.getD j false = true → o'.dst = some d → F j (a.eval (.tmp d)) w) ∧
      (∀ (j : Nat) (o' : Oper), ops[j]? = some o' → l.getD j false = true → o'.dst = none → N j a w) ∧ (∀ (j : Nat) (o' : Oper), ops[j]? = some o' → l.getD j false = true → ∀ i, waits md o' i = true → l.getD i false = true))
    (fun _ _ _ h => h.1) ?_ ?_ _ _ _ _ ⟨by simp, h1, h2, h3, h4, fun j o' d hj hl => (by rw [hrep j] at hl; cases hl), fun j o' hj hl => (by rw [hrep j] at hl; cases hl), fun j o' hj hl => (by rw [hrep j] at hl; cases hl)⟩ (by
      refine Nat.le_trans List.countP_le_length ?_
      simp)
  · rintro l a w ⟨g1, g2, g3, g4, g5, g6, g7, g8⟩ i hi
    obtain ⟨hl, o, ho, haft⟩ := mem_ready.1 hi
    have hlt := (Array.getElem?_eq_some_iff.1 ho).1
    obtain ⟨hg, hspec⟩ := okDst_spec hok ho
    have hdone : ∀ j, waits md o j = true → l.getD j false = true := fun j hany => by
      unfold waits at hany
      rw [List.any_eq_true] at hany
      obtain ⟨e, he, hb⟩ := hany
      rw [Array.mem_toList_iff] at he
      rw [Bool.and_eq_true, beq_iff_eq] at hb
      rw [← hb.2]
      exact haft e he hb.1
    have hli : l.getD i false = false := by
      rw [Array.getD_eq_getD_getElem?, Array.getElem?_eq_getElem (by omega)] at hl ⊢
      simpa using hl
    refine inv_op ho hg ?_
    refine Oper.wp_mono ?_ (step i o ho a w g2 g4 g5 fun j o' hj hany d hd => g6 j o' d hj (hdone j hany) hd)
    rintro a' w' ⟨v, rfl, s1, s2, s3, s4, s5⟩
    refine ⟨by simp [g1], by rw [size_put]; exact g2, by rw [defers_put]; exact g3, fun p hp => ?_, s1, fun j o' d hj hlj hd => ?_, fun j o' hj hlj hd => ?_, fun j o' hj hlj k hk => ?_⟩
    · rw [eval_put_ne]
      · exact g4 p hp
      · intro e he
        exact ((hspec e he).2.1 p hp).symm
    · by_cases hij : i = j
      · subst hij
        rw [ho] at hj
        cases hj
        rw [hd, eval_put_eq (by rw [g2]; exact (hspec d hd).1)]
        exact s2
      · rw [eval_put_ne]
        · exact s4 j _ (g6 j o' d hj (by rw [getD_set_ne false hij] at hlj; exact hlj) hd)
        · intro e he hed
          subst hed
          exact hij ((hspec _ he).2.2 j o' hj hd)
    · by_cases hij : i = j
      · subst hij
        rw [ho] at hj
        cases hj
        rw [hd]
        exact s3 hd
      · rw [getD_set_ne false hij] at hlj
        refine s5 j o' hj hd (fun e => hij e.symm) ?_ (g7 j o' hj hlj hd)
        cases hw : waits md o' i with
        | false => rfl
        | true => rw [g8 j o' hj hlj i hw] at hli; cases hli
    · by_cases hik : i = k
      · subst hik
        rw [Array.getD_eq_getD_getElem?, Array.getElem?_setIfInBounds_self_of_lt (by omega)]
        rfl
      · rw [getD_set_ne false hik]
        by_cases hij : i = j
        · subst hij
          rw [ho] at hj
          cases hj
          exact hdone k hk
        · rw [getD_set_ne false hij] at hlj
          exact g8 j o' hj hlj k hk
  · rintro l a w ⟨g1, g2, g3, g4, g5, g6, g7, g8⟩ hr
    exact done a w g2 g3 g4 g5 (fun j o' d hj hd => g6 j o' d hj (hready l g1 hr j (Array.getElem?_eq_some_iff.1 hj).1) hd) (fun j o' hj hd => g7 j o' hj (hready l g1 hr j (Array.getElem?_eq_some_iff.1 hj).1) hd)
end Go.Proofs.AO
namespace Go.Proofs.AO
open Go.RowKit
set_option linter.unusedVariables false
set_option maxHeartbeats 1000000
def okDstG (ops : Array Oper) (n : Nat) (base : List (Nat × Value)) : Bool :=
  (List.range ops.size).all fun i => match dstOf ops i with | none => true | some d => decide (d < n) && base.all (fun p => p.1 != d) && (List.range ops.size).all fun j => i == j || dstOf ops j != some d
theorem okDstG_spec {ops : Array Oper} {n : Nat} {base : List (Nat × Value)} (h : okDstG ops n base = true) {i : Nat} {o : Oper} (ho : ops[i]? = some o) :
    ∀ d, o.dst = some d → d < n ∧ (∀ p ∈ base, p.1 ≠ d) ∧ ∀ j o', ops[j]? = some o' → o'.dst = some d → i = j := by
  have hlt := (Array.getElem?_eq_some_iff.1 ho).1
  unfold okDstG at h
  rw [List.all_eq_true] at h
  have h1 := h i (List.mem_range.2 hlt)
  intro d hd
  have e1 : dstOf ops i = some d := by simp [dstOf, ho, hd]
  rw [e1] at h1
  simp only [Bool.and_eq_true, decide_eq_true_eq, List.all_eq_true, List.mem_range, bne_iff_ne, Bool.or_eq_true, beq_iff_eq] at h1
  refine ⟨h1.1.1, h1.1.2, fun j o' hj hd' => ?_⟩
  rcases h1.2 j (Array.getElem?_eq_some_iff.1 hj).1 with h3 | h3
  · exact h3
  · exact absurd (by simp [dstOf, hj, hd']) h3
theorem wanted_of {ops : Array Oper} {o og : Oper} {a : Act} {g d : Nat} {b c : Bool} (h1 : o.guard = some (g, b)) (h2 : ops[g]? = some og) (h3 : og.dst = some d) (h4 : a.eval (.tmp d) = .bool c) : Region.wanted o (yielded ops a.tmps) = (c == b) := by
  unfold Region.wanted yielded
  rw [h1]
  simp only [h2, Option.bind_some, h3]
  have h5 : a.tmps[d]?.getD undef = .bool c := by simpa [Act.eval] using h4
  cases h6 : a.tmps[d]? with
  | none => rw [h6] at h5; cases h5
  | some v => rw [h6] at h5; simp at h5; subst h5; simp
theorem wanted_no {ops : Array Oper} {o : Oper} {a : Act} (h1 : o.guard = none) : Region.wanted o (yielded ops a.tmps) = true := by simp [Region.wanted, h1]
/-- an operation that is wanted, or not -/
def wpW (P : Program) (ops : Array Oper) (o : Oper) (a : Act) (w : World) (K : Act → World → Prop) (Q : Exit → Act → World → Prop) : Prop := if Region.wanted o (yielded ops a.tmps) = true then o.wp P a w K Q else K (a.put o.dst undef) w
theorem wpW.yes {P : Program} {ops : Array Oper} {o : Oper} {a : Act} {w : World} {K : Act → World → Prop} {Q : Exit → Act → World → Prop} (h : Region.wanted o (yielded ops a.tmps) = true) (hk : o.wp P a w K Q) : wpW P ops o a w K Q := by unfold wpW; rw [if_pos h]; exact hk
theorem wpW.no {P : Program} {ops : Array Oper} {o : Oper} {a : Act} {w : World} {K : Act → World → Prop} {Q : Exit → Act → World → Prop} (h : Region.wanted o (yielded ops a.tmps) = false) (hk : K (a.put o.dst undef) w) : wpW P ops o a w K Q := by unfold wpW; rw [if_neg (by simp [h])]; exact hk
theorem inv_opW {P : Program} {ops : Array Oper} {Q : Exit → Act → World → Prop} {i : Nat} {o : Oper} {K K' : Act → World → Prop} {a : Act} {w : World} (ho : ops[i]? = some o) (h : wpW P ops o a w K' Q) (hm : ∀ a w, K' a w → K a w) : wpOp P ops Q i K a w := by
  unfold wpOp
  rw [ho]
  unfold wpW at h
  simp only
  split
  · rename_i hw
    rw [if_pos hw] at h
    exact .inl (Oper.wp_mono hm h)
  · rename_i hw
    rw [if_neg hw] at h
    exact hm _ _ h
/-- A DRAWN REGION BY WHAT EACH OPERATION YIELDS, AND WHAT EACH STORE LEAVES; the invariant sees the slots; guards -/
theorem wpAny_valsG {P : Program} {md : Region.Mode} {ops : Array Oper} {Q : Exit → Act → World → Prop} (n : Nat) (base : List (Nat × Value)) (F : Nat → Value → World → Prop) (N : Nat → Act → World → Prop) (S : Act → World → Prop) (hok : okDstG ops n base = true)
    (step : ∀ (i : Nat) (o : Oper), ops[i]? = some o → ∀ (a : Act) (w : World), a.tmps.size = n → (∀ p ∈ base, a.eval (.tmp p.1) = p.2) → S a w →
      (∀ (j : Nat) (o' : Oper), ops[j]? = some o' → waits md o j = true → ∀ d, o'.dst = some d → F j (a.eval (.tmp d)) w) →
      wpW P ops o a w (fun a' w' => ∃ v, a' = a.put o.dst v ∧ S (a.put o.dst v) w' ∧ F i v w' ∧ (o.dst = none → N i a w') ∧ (∀ j v, F j v w → F j v w') ∧
        ∀ (j : Nat) (o' : Oper), ops[j]? = some o' → o'.dst = none → j ≠ i → waits md o' i = false → N j a w → N j (a.put o.dst v) w') Q)
    (done : ∀ (a : Act) (w : World), a.tmps.size = n → a.defers = [] → (∀ p ∈ base, a.eval (.tmp p.1) = p.2) → S a w → (∀ (j : Nat) (o' : Oper) (d : Nat), ops[j]? = some o' → o'.dst = some d → F j (a.eval (.tmp d)) w) →
      (∀ (j : Nat) (o' : Oper), ops[j]? = some o' → o'.dst = none → N j a w) → Q .normal a w)
    (hready : ∀ l : Array Bool, l.size = ops.size → Region.ready md ops l = [] → ∀ j, j < ops.size → l.getD j false = true)
    (a : Act) (w : World) (h1 : a.tmps.size = n) (h2 : a.defers = []) (h3 : ∀ p ∈ base, a.eval (.tmp p.1) = p.2) (h4 : S a w) :
    wpAny P md ops Q ops.size (Array.replicate ops.size false) a w := by
  have hrep : ∀ j, (Array.replicate ops.size false).getD j false = false := fun j => by
    rw [Array.getD_eq_getD_getElem?, Array.getElem?_replicate]
    split <;> rfl
  refine wpAny_inv (fun l a w => l.size = ops.size ∧ a.tmps.size = n ∧ a.defers = [] ∧ (∀ p ∈ base, a.eval (.tmp p.1) = p.2) ∧ S a w ∧ (∀ (j : Nat) (o' : Oper) (d : Nat), ops[j]? = some o' → l.getD j false = true → o'.dst = some d → F j (a.eval (.tmp d)) w) ∧
      (∀ (j : Nat) (o' : Oper), ops[j]? = some o' → l.getD j false = true → o'.dst = none → N j a w) ∧ (∀ (j : Nat) (o' : Oper), ops[j]? = some o' → l.getD j false = true → ∀ i, waits md o' i = true → l.getD i false = true))
    (fun _ _ _ h => h.1) ?_ ?_ _ _ _ _ ⟨by simp, h1, h2, h3, h4, fun j o' d hj hl => (by rw [hrep j] at hl; cases hl), fun j o' hj hl => (by rw [hrep j] at hl; cases hl), fun j o' hj hl => (by rw [hrep j] at hl; cases hl)⟩ (by
      refine Nat.le_trans List.countP_le_length ?_
      simp)
  · rintro l a w ⟨g1, g2, g3, g4, g5, g6, g7, g8⟩ i hi
    obtain ⟨hl, o, ho, haft⟩ := mem_ready.1 hi
    have hlt := (Array.getElem?_eq_some_iff.1 ho).1
    have hspec := okDstG_spec hok ho
    have hdone : ∀ j, waits md o j = true → l.getD j false = true := fun j hany => by
      unfold waits at hany
      rw [List.any_eq_true] at hany
      obtain ⟨e, he, hb⟩ := hany
      rw [Array.mem_toList_iff] at he
      rw [Bool.and_eq_true, beq_iff_eq] at hb
      rw [← hb.2]
      exact haft e he hb.1
    have hli : l.getD i false = false := by
      rw [Array.getD_eq_getD_getElem?, Array.getElem?_eq_getElem (by omega)] at hl ⊢
      simpa using hl
    refine inv_opW ho (step i o ho a w g2 g4 g5 fun j o' hj hany d hd => g6 j o' d hj (hdone j hany) hd) ?_
    rintro a' w' ⟨v, rfl, s1, s2, s3, s4, s5⟩
    refine ⟨by simp [g1], by rw [size_put]; exact g2, by rw [defers_put]; exact g3, fun p hp => ?_, s1, fun j o' d hj hlj hd => ?_, fun j o' hj hlj hd => ?_, fun j o' hj hlj k hk => ?_⟩
    · rw [eval_put_ne]
      · exact g4 p hp
      · intro e he
        exact ((hspec e he).2.1 p hp).symm
    · by_cases hij : i = j
      · subst hij
        rw [ho] at hj
        cases hj
        rw [hd, eval_put_eq (by rw [g2]; exact (hspec d hd).1)]
        exact s2
      · rw [eval_put_ne]
        · exact s4 j _ (g6 j o' d hj (by rw [getD_set_ne false hij] at hlj; exact hlj) hd)
        · intro e he hed
          subst hed
          exact hij ((hspec _ he).2.2 j o' hj hd)
    · by_cases hij : i = j
      · subst hij
        rw [ho] at hj
        cases hj
        rw [hd]
        exact s3 hd
      · rw [getD_set_ne false hij] at hlj
        refine s5 j o' hj hd (fun e => hij e.symm) ?_ (g7 j o' hj hlj hd)
        cases hw : waits md o' i with
        | false => rfl
        | true => rw [g8 j o' hj hlj i hw] at hli; cases hli
    · by_cases hik : i = k
      · subst hik
        rw [Array.getD_eq_getD_getElem?, Array.getElem?_setIfInBounds_self_of_lt (by omega)]
        rfl
      · rw [getD_set_ne false hik]
        by_cases hij : i = j
        · subst hij
          rw [ho] at hj
          cases hj
          exact hdone k hk
        · rw [getD_set_ne false hij] at hlj
          exact g8 j o' hj hlj k hk
  · rintro l a w ⟨g1, g2, g3, g4, g5, g6, g7, g8⟩ hr
    exact done a w g2 g3 g4 g5 (fun j o' d hj hd => g6 j o' d hj (hready l g1 hr j (Array.getElem?_eq_some_iff.1 hj).1) hd) (fun j o' hj hd => g7 j o' hj (hready l g1 hr j (Array.getElem?_eq_some_iff.1 hj).1) hd)
end Go.Proofs.AO
namespace Go.Proofs.AO
open Go.RowKit
set_option linter.unusedVariables false
set_option maxHeartbeats 1000000
/-- A DRAWN REGION BY WHAT EACH OPERATION YIELDS, AND WHAT EACH STORE LEAVES; the invariant sees the slots -/
theorem wpAny_valsU {P : Program} {md : Region.Mode} {ops : Array Oper} {Q : Exit → Act → World → Prop} (n : Nat) (base : List (Nat × Value)) (F : Nat → Value → World → Prop) (N : Nat → Act → World → Prop) (S : Act → World → Prop) (a0 : Act) (hok : okDst ops n base = true)
    (step : ∀ (i : Nat) (o : Oper), ops[i]? = some o → ∀ (a : Act) (w : World), (∀ (j : Nat) (o' : Oper), ops[j]? = some o' → (j = i ∨ waits md o' i = true) → ∀ d, o'.dst = some d → a.eval (.tmp d) = a0.eval (.tmp d)) → a.tmps.size = n → (∀ p ∈ base, a.eval (.tmp p.1) = p.2) → S a w →
      (∀ (j : Nat) (o' : Oper), ops[j]? = some o' → waits md o j = true → ∀ d, o'.dst = some d → F j (a.eval (.tmp d)) w) →
      o.wp P a w (fun a' w' => ∃ v, a' = a.put o.dst v ∧ S (a.put o.dst v) w' ∧ F i v w' ∧ (o.dst = none → N i a w') ∧ (∀ j v, F j v w → F j v w') ∧
        ∀ (j : Nat) (o' : Oper), ops[j]? = some o' → o'.dst = none → j ≠ i → waits md o' i = false → N j a w → N j (a.put o.dst v) w') Q)
    (done : ∀ (a : Act) (w : World), a.tmps.size = n → a.defers = [] → (∀ p ∈ base, a.eval (.tmp p.1) = p.2) → S a w → (∀ (j : Nat) (o' : Oper) (d : Nat), ops[j]? = some o' → o'.dst = some d → F j (a.eval (.tmp d)) w) →
      (∀ (j : Nat) (o' : Oper), ops[j]? = some o' → o'.dst = none → N j a w) → Q .normal a w)
    (hready : ∀ l : Array Bool, l.size = ops.size → Region.ready md ops l = [] → ∀ j, j < ops.size → l.getD j false = true)
    (w : World) (h1 : a0.tmps.size = n) (h2 : a0.defers = []) (h3 : ∀ p ∈ base, a0.eval (.tmp p.1) = p.2) (h4 : S a0 w) :
    wpAny P md ops Q ops.size (Array.replicate ops.size false) a0 w := by
  have hrep : ∀ j, (Array.replicate ops.size false).getD j false = false := fun j => by
    rw [Array.getD_eq_getD_getElem?, Array.getElem?_replicate]
    split <;> rfl
  refine wpAny_inv (fun l a w => l.size = ops.size ∧ a.tmps.size = n ∧ a.defers = [] ∧ (∀ p ∈ base, a.eval (.tmp p.1) = p.2) ∧ S a w ∧ (∀ (j : Nat) (o' : Oper) (d : Nat), ops[j]? = some o' → l.getD j false = true → o'.dst = some d → F j (a.eval (.tmp d)) w) ∧
      (∀ (j : Nat) (o' : Oper), ops[j]? = some o' → l.getD j false = true → o'.dst = none → N j a w) ∧ (∀ (j : Nat) (o' : Oper), ops[j]? = some o' → l.getD j false = true → ∀ i, waits md o' i = true → l.getD i false = true) ∧ (∀ (j : Nat) (o' : Oper) (d : Nat), ops[j]? = some o' → l.getD j false = false → o'.dst = some d → a.eval (.tmp d) = a0.eval (.tmp d)))
    (fun _ _ _ h => h.1) ?_ ?_ _ _ _ _ ⟨by simp, h1, h2, h3, h4, fun j o' d hj hl => (by rw [hrep j] at hl; cases hl), fun j o' hj hl => (by rw [hrep j] at hl; cases hl), fun j o' hj hl => (by rw [hrep j] at hl; cases hl), fun _ _ _ _ _ _ => rfl⟩ (by
      refine Nat.le_trans List.countP_le_length ?_
      simp)
  · rintro l a w ⟨g1, g2, g3, g4, g5, g6, g7, g8, g9⟩ i hi
    obtain ⟨hl, o, ho, haft⟩ := mem_ready.1 hi
    have hlt := (Array.getElem?_eq_some_iff.1 ho).1
    obtain ⟨hg, hspec⟩ := okDst_spec hok ho
    have hdone : ∀ j, waits md o j = true → l.getD j false = true := fun j hany => by
      unfold waits at hany
      rw [List.any_eq_true] at hany
      obtain ⟨e, he, hb⟩ := hany
      rw [Array.mem_toList_iff] at he
      rw [Bool.and_eq_true, beq_iff_eq] at hb
      rw [← hb.2]
      exact haft e he hb.1
    have hli : l.getD i false = false := by
      rw [Array.getD_eq_getD_getElem?, Array.getElem?_eq_getElem (by omega)] at hl ⊢
      simpa using hl
    refine inv_op ho hg ?_
    refine Oper.wp_mono ?_ (step i o ho a w (fun j o' hj hw d hd => g9 j o' d hj (by
      rcases hw with rfl | hw
      · exact hli
      · cases hb : l.getD j false with
        | false => rfl
        | true => have := g8 j o' hj hb i hw; rw [hli] at this; cases this) hd) g2 g4 g5 fun j o' hj hany d hd => g6 j o' d hj (hdone j hany) hd)
    rintro a' w' ⟨v, rfl, s1, s2, s3, s4, s5⟩
    refine ⟨by simp [g1], by rw [size_put]; exact g2, by rw [defers_put]; exact g3, fun p hp => ?_, s1, fun j o' d hj hlj hd => ?_, fun j o' hj hlj hd => ?_, fun j o' hj hlj k hk => ?_, fun j o' d hj hlj hd => ?_⟩
    · rw [eval_put_ne]
      · exact g4 p hp
      · intro e he
        exact ((hspec e he).2.1 p hp).symm
    · by_cases hij : i = j
      · subst hij
        rw [ho] at hj
        cases hj
        rw [hd, eval_put_eq (by rw [g2]; exact (hspec d hd).1)]
        exact s2
      · rw [eval_put_ne]
        · exact s4 j _ (g6 j o' d hj (by rw [getD_set_ne false hij] at hlj; exact hlj) hd)
        · intro e he hed
          subst hed
          exact hij ((hspec _ he).2.2 j o' hj hd)
    · by_cases hij : i = j
      · subst hij
        rw [ho] at hj
        cases hj
        rw [hd]
        exact s3 hd
      · rw [getD_set_ne false hij] at hlj
        refine s5 j o' hj hd (fun e => hij e.symm) ?_ (g7 j o' hj hlj hd)
        cases hw : waits md o' i with
        | false => rfl
        | true => rw [g8 j o' hj hlj i hw] at hli; cases hli
    · by_cases hik : i = k
      · subst hik
        rw [Array.getD_eq_getD_getElem?, Array.getElem?_setIfInBounds_self_of_lt (by omega)]
        rfl
      · rw [getD_set_ne false hik]
        by_cases hij : i = j
        · subst hij
          rw [ho] at hj
          cases hj
          exact hdone k hk
        · rw [getD_set_ne false hij] at hlj
          exact g8 j o' hj hlj k hk
    · by_cases hij : i = j
      · subst hij
        rw [Array.getD_eq_getD_getElem?, Array.getElem?_setIfInBounds_self_of_lt (by omega)] at hlj
        cases hlj
      · rw [getD_set_ne false hij] at hlj
        rw [eval_put_ne]
        · exact g9 j o' d hj hlj hd
        · intro e he hed
          subst hed
          exact hij ((hspec _ he).2.2 j o' hj hd)
  · rintro l a w ⟨g1, g2, g3, g4, g5, g6, g7, g8, g9⟩ hr
    exact done a w g2 g3 g4 g5 (fun j o' d hj hd => g6 j o' d hj (hready l g1 hr j (Array.getElem?_eq_some_iff.1 hj).1) hd) (fun j o' hj hd => g7 j o' hj (hready l g1 hr j (Array.getElem?_eq_some_iff.1 hj).1) hd)
end Go.Proofs.AO
