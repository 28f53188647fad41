/- The engine, part 6: heaps that are written down, and calls from a heap without blocks. No conditions beside those in its theorems. -/
import Derived.Test.YtikjmnimdlcehaaGreatE5
set_option linter.unusedVariables false
noncomputable section
namespace Eng
open Go Go.RowKit
variable {P : Program} {C C' : Cfg} {σ : Sig} {ρ ρ' : Rho}

/- a heap that is written down -/
def optA (a b : Option A) : Bool := match a, b with | none, none => true | some a, some b => a.eqb b | _, _ => false
theorem optA_eq {a b : Option A} (h : optA a b = true) : a = b := by
  cases a <;> cases b <;> first | rfl | (cases h; done) | (rw [A.eqb_eq (show A.eqb _ _ = true from h)])
def cellsEqb (a : T A) : T A → Bool :=
  @T.rec A (fun _ => T A → Bool) (fun b => @T.rec A (fun _ => Bool) true (fun _ _ _ _ _ => false) b)
    (fun v _ _ rl rr b => @T.rec A (fun _ => Bool) false (fun v' l' r' _ _ => optA v v' && (rl l' && rr r')) b) a
theorem cellsEqb_eq : ∀ {a b : T A}, cellsEqb a b = true → a = b := by
  intro a
  induction a with
  | nil => intro b h; cases b with | nil => rfl | node v l r => cases h
  | node v l r ihl ihr =>
    intro b h
    cases b with
    | nil => cases h
    | node v' l' r' =>
      have h' : (optA v v' && (cellsEqb l l' && cellsEqb r r')) = true := h
      simp only [Bool.and_eq_true] at h'
      rw [optA_eq h'.1, ihl h'.2.1, ihr h'.2.2]
def optN (a b : Option Nat) : Bool := match a, b with | none, none => true | some a, some b => Nat.beq a b | _, _ => false
theorem optN_eq {a b : Option Nat} (h : optN a b = true) : a = b := by
  cases a <;> cases b <;> first | rfl | (cases h; done) | (rw [beq_eq (show Nat.beq _ _ = true from h)])
def ME.eqb (a b : ME) : Bool := V.eqb a.key b.key && (V.eqb a.val b.val && Nat.beq a.born b.born)
theorem ME.eqb_eq {a b : ME} (h : a.eqb b = true) : a = b := by
  cases a; cases b
  simp only [ME.eqb, Bool.and_eq_true] at h
  rw [V.eqb_eq h.1, V.eqb_eq h.2.1, beq_eq h.2.2]
def Blk.eqb : Blk → Blk → Bool
  | .cells c n f s, .cells c' n' f' s' => Nat.beq n n' && (boolEqb f f' && (optN s s' && cellsEqb c c'))
  | .map es k, .map es' k' => Nat.beq k k' && listEqb ME.eqb es es'
  | _, _ => false
theorem Blk.eqb_eq {a b : Blk} (h : a.eqb b = true) : a = b := by
  cases a with
  | cells c n f s =>
    cases b with
    | cells c' n' f' s' =>
      simp only [Blk.eqb, Bool.and_eq_true] at h
      have hb := h.2.1
      rw [boolEqb_eq] at hb
      rw [beq_eq h.1, eq_of_beq hb, optN_eq h.2.2.1, cellsEqb_eq h.2.2.2]
    | _ => cases h
  | map es k =>
    cases b with
    | map es' k' =>
      simp only [Blk.eqb, Bool.and_eq_true] at h
      rw [beq_eq h.1, listEqb_eq (fun _ _ => ME.eqb_eq) h.2]
    | _ => cases h
  | _ => cases h
def hasBlk (h : H) (p : Nat × Blk) : Bool := match h.get p.1 with | some x => Blk.eqb x p.2 | none => false
theorem hasBlk_eq {h : H} {p : Nat × Blk} (hb : hasBlk h p = true) : h.get p.1 = some p.2 := by
  unfold hasBlk at hb
  split at hb
  · rename_i x hx; rw [hx, Blk.eqb_eq hb]
  · cases hb
def allBlk (h : H) (l : List (Nat × Blk)) : Bool := @List.rec (Nat × Blk) (fun _ => Bool) true (fun p _ r => @Bool.rec (fun _ => Bool) false r (hasBlk h p)) l
theorem allBlk_eq {h : H} : ∀ {l : List (Nat × Blk)}, allBlk h l = true → ∀ p ∈ l, h.get p.1 = some p.2 := by
  intro l
  induction l with
  | nil => intro _ p hp; cases hp
  | cons q l ih =>
    intro hk p hp
    have hk' : @Bool.rec (fun _ => Bool) false (allBlk h l) (hasBlk h q) = true := hk
    cases hb : hasBlk h q with
    | false => rw [hb] at hk'; cases hk'
    | true =>
      rw [hb] at hk'
      rcases List.mem_cons.1 hp with e | e
      · subst e; exact hasBlk_eq hb
      · exact ih hk' p e
/-- what an evaluation came to, of its heap these blocks -/
def snap (v : AV) (next : Nat) (l : List (Nat × Blk)) (r : OR) : Bool := match r with
  | some (.val v' h) => AV.eqb v' v && (Nat.beq h.next next && allBlk h l)
  | _ => false
theorem snap_some {v : AV} {next : Nat} {l : List (Nat × Blk)} {r : OR} (h : snap v next l r = true) : ∃ hh, r = some (.val v hh) ∧ hh.next = next ∧ ∀ p ∈ l, hh.get p.1 = some p.2 := by
  unfold snap at h
  split at h
  · rename_i v' hh
    simp only [Bool.and_eq_true] at h
    exact ⟨hh, by rw [AV.eqb_eq h.1], beq_eq h.2.1, allBlk_eq h.2.2⟩
  · cases h
def heapOf (l : List (Nat × Blk)) (next : Nat) : H := ⟨tableOf l, next⟩
theorem heapOf_get {l : List (Nat × Blk)} {next : Nat} {b : Nat} {x : Blk} (h : (heapOf l next).get b = some x) : (b, x) ∈ l := tableOf_mem h
theorem Rel.prune {h h' : H} {w : World} (hr : Rel ρ σ C h w) (hn : h'.next = h.next) (hs : ∀ b x, h'.get b = some x → h.get b = some x) : Rel ρ σ C h' w where
  lt := fun b r S hb => by rw [hn]; exact hr.lt b r S hb
  blk := fun b r S hb => by
    obtain ⟨o, ho, hx⟩ := hr.blk b r S hb
    exact ⟨o, ho, fun x hg => hx x (hs b x hg)⟩
  inj := by
    intro b b' r S S' hb hb' ⟨y, hy, hd⟩ ⟨y', hy', hd'⟩
    rcases hr.inj b b' r S S' hb hb' ⟨y, hs _ _ hy, hd⟩ ⟨y', hs _ _ hy', hd'⟩ with e | ⟨c, n, f, e⟩
    · exact .inl e
    · right
      rw [hs _ _ hy] at e
      exact ⟨c, n, f, hy.trans e⟩
/-- what a call answers from a heap without blocks -/
def SummE (P : Program) (σ : Sig) (C : Cfg) (s : SumE) (hP : H) : Prop := ∀ ρ h w vs, h.next = 0 → Rel ρ σ C h w → F2 (AVR ρ σ) s.args vs →
  ∃ v' w' ρ', CallR P s.f vs.toArray w v' w' ∧ AVR ρ' σ s.v v' ∧ Rel ρ' σ C hP w' ∧ Ext ρ ρ' h hP w w'
theorem SummE.of (hfu : C.fu = C'.fu) (hc : CfgOK P C σ) (hx : ExtOK C P σ) {n : Nat} {X : Ctx} {s : SumE} {next : Nat} {l : List (Nat × Blk)} (hk : snap s.v next l (eval C n X (.call s.f s.args) ⟨.nil, 0⟩) = true) : SummE P σ C' s (heapOf l next) := by
  obtain ⟨hF, h1, h2, h3⟩ := snap_some hk
  intro ρ h w vs h0 hr hvs
  have hnone : ∀ b, ρ b = none := fun b => hr.absent (by omega)
  have hr0 : Rel ρ σ C ⟨.nil, 0⟩ w := ⟨fun b r S hb => (by rw [hnone] at hb; cases hb), fun b r S hb => (by rw [hnone] at hb; cases hb), fun b b' r S S' hb => (by rw [hnone] at hb; cases hb)⟩
  obtain ⟨v', w', ρ', g1, g2, g3, g4⟩ := (eval_ok hc hx n).2.call X s.f s.args _ s.v hF h1 ρ w vs hr0 hvs
  have hsub : ∀ b x, (heapOf l next).get b = some x → hF.get b = some x := fun b x hg => h3 (b, x) (heapOf_get hg)
  refine ⟨v', w', ρ', g1, g2, (g3.prune (show next = hF.next from h2.symm) hsub).cfg hfu, ?_⟩
  refine ⟨by omega, fun b hb => (by omega), ?_, g4.size, fun b hb => (by omega), ?_, g4.os, g4.tape, g4.output, g4.fz⟩
  · intro b r S _ hb
    rcases g4.new b r S (Nat.zero_le _) hb with e | ⟨b0, S0, e, _⟩
    · exact .inl e
    · rw [hnone] at e; cases e
  · intro r hr' _
    exact g4.frame r hr' fun b S hb => (by rw [hnone] at hb; cases hb)
def extE (s : SumE) (hP : H) (ext : FuncId → List AV → H → Option (AV × H)) (f : FuncId) (args : List AV) (h : H) : Option (AV × H) :=
  @Bool.rec (fun _ => Option (AV × H)) (ext f args h) (@Bool.rec (fun _ => Option (AV × H)) (ext f args h) (@Bool.rec (fun _ => Option (AV × H)) (ext f args h) (some (s.v, hP)) (argsEqb s.args args)) (Nat.beq h.2 0)) (Nat.beq s.f f)
theorem ExtOK.start {s : SumE} {hP : H} {l : List SumE} (he : C.ext = extE s hP (extT l)) (h0 : SummE P σ C s hP) (h : Al (Summ P σ C) l) : ExtOK C P σ := by
  intro f args hh v h' hk ρ w vs hr hvs
  rw [he] at hk
  have rest : extT l f args hh = some (v, h') → ∃ v' w' ρ', CallR P f vs.toArray w v' w' ∧ AVR ρ' σ v v' ∧ Rel ρ' σ C h' w' ∧ Ext ρ ρ' hh h' w w' := by
    intro hk
    obtain ⟨rfl, hs⟩ := extT_ok h f args hh v h' hk
    exact hs ρ h' w vs hr hvs
  have hk' : @Bool.rec (fun _ => Option (AV × H)) (extT l f args hh) (@Bool.rec (fun _ => Option (AV × H)) (extT l f args hh) (@Bool.rec (fun _ => Option (AV × H)) (extT l f args hh) (some (s.v, hP)) (argsEqb s.args args)) (Nat.beq hh.2 0)) (Nat.beq s.f f) = some (v, h') := hk
  cases h1 : Nat.beq s.f f with
  | false => rw [h1] at hk'; exact rest hk'
  | true =>
    rw [h1] at hk'
    cases h2 : Nat.beq hh.2 0 with
    | false => rw [h2] at hk'; exact rest hk'
    | true =>
      rw [h2] at hk'
      cases h3 : argsEqb s.args args with
      | false => rw [h3] at hk'; exact rest hk'
      | true =>
        rw [h3] at hk'
        cases hk'
        have e1 := beq_eq h1
        have e2 := listEqb_eq (fun _ _ => AV.eqb_eq) h3
        rw [← e1]
        exact h0 ρ hh w vs (beq_eq h2) hr (by rw [e2]; exact hvs)
end Eng
end
