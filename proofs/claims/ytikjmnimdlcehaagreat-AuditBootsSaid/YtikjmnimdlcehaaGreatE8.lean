/- The engine, part 8: states that are written down: a call leads from one to another. No conditions beside those in its theorems. -/
import Derived.Test.YtikjmnimdlcehaaGreatE7
set_option linter.unusedVariables false
noncomputable section
namespace Eng
open Go Go.RowKit
variable {P : Program} {C C' : Cfg} {σ : Sig} {ρ ρ' : Rho}

/- forgetting: of a heap's blocks some are kept, that name no others -/
def A.within (k : Nat → Bool) : A → Bool
  | .ptr b _ => k b
  | .slice b _ _ _ => k b
  | .fsl b _ _ _ => k b
  | .map r => k r
  | .fn _ cs => cs.all k
  | .yld l => k l
  | .wsl b _ _ => k b
  | _ => true
def V.within (k : Nat → Bool) : V → Bool
  | .one a => a.within k
  | .agg l => l.all (A.within k)
def AV.within (k : Nat → Bool) : AV → Bool
  | .one a => a.within k
  | .agg l => l.all (A.within k)
  | .tup l => l.all (V.within k)
def optWithin (k : Nat → Bool) (v : Option A) : Bool := match v with | some a => a.within k | none => true
def cellsWithin (k : Nat → Bool) (t : T A) : Bool :=
  @T.rec A (fun _ => Bool) true (fun v _ _ rl rr => optWithin k v && (rl && rr)) t
def Blk.within (k : Nat → Bool) : Blk → Bool
  | .cells c _ _ _ => cellsWithin k c
  | .map es _ => es.all fun e => e.key.within k && e.val.within k
  | .dead => true
  | _ => false
def keep (ρ : Rho) (k : Nat → Bool) : Rho := fun b => bif k b then ρ b else none
theorem keep_some {k : Nat → Bool} {b : Nat} {x : Nat × Nat} (h : keep ρ k b = some x) : k b = true ∧ ρ b = some x := by
  unfold keep at h
  cases hk : k b with
  | false => rw [hk] at h; cases h
  | true => rw [hk] at h; exact ⟨rfl, h⟩
theorem keep_of {k : Nat → Bool} {b : Nat} (h : k b = true) : keep ρ k b = ρ b := by unfold keep; rw [h]; rfl
theorem F2.keepBox {k : Nat → Bool} : ∀ {cs : List Nat} {vs : List Value}, cs.all k = true → F2 (boxR ρ) cs vs → F2 (boxR (Eng.keep ρ k)) cs vs := by
  intro cs
  induction cs with
  | nil => intro vs _ h; cases h; exact .nil
  | cons a l ih =>
    intro vs hw h
    simp only [List.all_cons, Bool.and_eq_true] at hw
    cases h with
    | cons h1 h2 =>
      obtain ⟨r, S, h3, h4⟩ := h1
      exact .cons ⟨r, S, by rw [keep_of hw.1]; exact h3, h4⟩ (ih hw.2 h2)
theorem AR.keep {k : Nat → Bool} {a : A} {v : Value} (hw : a.within k = true) (h : AR ρ σ a v) : AR (keep ρ k) σ a v := by
  cases a with
  | ptr b o => obtain ⟨r, S, h1, h2⟩ := h; exact ⟨r, S, by rw [keep_of hw]; exact h1, h2⟩
  | slice b o l c => obtain ⟨r, S, h1, h2⟩ := h; exact ⟨r, S, by rw [keep_of hw]; exact h1, h2⟩
  | fsl b o l e => obtain ⟨r, S, c, h1, h2⟩ := h; exact ⟨r, S, c, by rw [keep_of hw]; exact h1, h2⟩
  | map r => obtain ⟨x, S, h1, h2⟩ := h; exact ⟨x, S, by rw [keep_of hw]; exact h1, h2⟩
  | fn f cs =>
    obtain ⟨vs, h1, h2⟩ := h
    refine ⟨vs, h1, ?_⟩
    exact F2.keepBox hw h2
  | yld l => obtain ⟨r, S, h1, h2⟩ := h; exact ⟨r, S, by rw [keep_of hw]; exact h1, h2⟩
  | wsl b es n => obtain ⟨r, S, N, h1, h2⟩ := h; exact ⟨r, S, N, by rw [keep_of hw]; exact h1, h2⟩
  | _ => exact h
theorem F2.keep {k : Nat → Bool} {l : List A} {vs : List Value} (hw : l.all (A.within k) = true) (h : F2 (AR ρ σ) l vs) : F2 (AR (Eng.keep ρ k) σ) l vs := by
  induction h with
  | nil => exact .nil
  | cons h0 _ ih =>
    simp only [List.all_cons, Bool.and_eq_true] at hw
    exact .cons (h0.keep hw.1) (ih hw.2)
theorem VR.keep {k : Nat → Bool} {x : V} {v : Value} (hw : x.within k = true) (h : VR ρ σ x v) : VR (Eng.keep ρ k) σ x v := by
  cases x with
  | one a => exact AR.keep hw h
  | agg l => obtain ⟨vs, h1, h2⟩ := h; exact ⟨vs, h1, F2.keep hw h2⟩
theorem cellsWithin_get {k : Nat → Bool} : ∀ {t : T A} {i : Nat} {a : A}, cellsWithin k t = true → T.get t i = some a → a.within k = true := by
  intro t
  induction t with
  | nil => intro i a _ h; cases h
  | node v l r ihl ihr =>
    intro i a hw h
    have hw' : (optWithin k v && (cellsWithin k l && cellsWithin k r)) = true := hw
    simp only [Bool.and_eq_true] at hw'
    cases i with
    | zero =>
      have h' : v = some a := h
      subst h'
      exact hw'.1
    | succ m =>
      have h' : @Bool.rec (fun _ => Option A) (T.get r (Nat.div m 2)) (T.get l (Nat.div m 2)) (Nat.beq (Nat.mod m 2) 0) = some a := h
      cases hb : Nat.beq (Nat.mod m 2) 0 with
      | true => rw [hb] at h'; exact ihl hw'.2.1 h'
      | false => rw [hb] at h'; exact ihr hw'.2.2 h'
theorem BR.keep {k : Nat → Bool} {x : Blk} {o : Obj} {S : Nat} (hw : x.within k = true) (h : BR ρ σ C x o S) : BR (Eng.keep ρ k) σ C x o S := by
  cases x with
  | cells c n f s =>
    obtain ⟨cs, e, h1, h2, h3, h4, h5⟩ := h
    exact ⟨cs, e, h1, h2, h3, h4, fun i a hi ha => let ⟨v, hv, har⟩ := h5 i a hi ha; ⟨v, hv, har.keep (cellsWithin_get (show cellsWithin k c = true from hw) ha)⟩⟩
  | map es clock =>
    have hw' : (es.all fun e => e.key.within k && e.val.within k) = true := hw
    obtain ⟨ms, h1, h2⟩ := h
    refine ⟨ms, h1, ?_⟩
    clear h1
    induction h2 with
    | nil => exact .nil
    | cons h0 _ ih =>
      simp only [List.all_cons, Bool.and_eq_true] at hw'
      obtain ⟨a, b, c⟩ := h0
      exact .cons ⟨a.keep hw'.1.1, b.keep hw'.1.2, c⟩ (ih (by simpa only [Blk.within] using hw'.2) hw'.2)
  | dead => trivial
  | _ => cases hw
def hasKey (l : List (Nat × Blk)) (b : Nat) : Bool := l.any fun p => Nat.beq p.1 b
def closedL (l : List (Nat × Blk)) (n : Nat) : Bool := l.all fun p => Nat.blt p.1 n && p.2.within (hasKey l)
theorem Rel.forget {h : H} {w : World} (hr : Rel ρ σ C h w) {l : List (Nat × Blk)} {n : Nat} (hg : ∀ p ∈ l, h.get p.1 = some p.2) (hc : closedL l n = true) : Rel (Eng.keep ρ (hasKey l)) σ C (heapOf l n) w where
  lt := by
    intro b r S hb
    obtain ⟨hk, _⟩ := keep_some hb
    obtain ⟨p, hp, hpb⟩ := List.any_eq_true.1 hk
    have := List.all_eq_true.1 hc p hp
    simp only [Bool.and_eq_true] at this
    have h1 : p.1 < n := by have := this.1; rwa [Nat.blt_eq] at this
    rw [beq_eq hpb] at h1
    exact h1
  blk := by
    intro b r S hb
    obtain ⟨hk, hb'⟩ := keep_some hb
    obtain ⟨o, ho, hx⟩ := hr.blk b r S hb'
    refine ⟨o, ho, fun x hgx => ?_⟩
    have hm := heapOf_get hgx
    have := List.all_eq_true.1 hc _ hm
    simp only [Bool.and_eq_true] at this
    exact (hx x (hg _ hm)).keep this.2
  inj := by
    intro b b' r S S' hb hb' ⟨y, hy, hd⟩ ⟨y', hy', hd'⟩
    obtain ⟨_, hb⟩ := keep_some hb
    obtain ⟨_, hb'⟩ := keep_some hb'
    have hm := heapOf_get hy
    have hm' := heapOf_get hy'
    rcases hr.inj b b' r S S' hb hb' ⟨y, hg _ hm, hd⟩ ⟨y', hg _ hm', hd'⟩ with e | ⟨c, n', f, e⟩
    · exact .inl e
    · right
      rw [hg _ hm] at e
      exact ⟨c, n', f, hy.trans e⟩
end Eng
end

noncomputable section
namespace Eng
open Go Go.RowKit
variable {P : Program} {C C' : Cfg} {σ σ2 : Sig} {ρ ρ' : Rho}

/- a heap that an evaluation left, seen as another one that is written down: blocks that are not wanted are forgotten, and the number that the symbol 0 stands for is what an expression came to -/
def A.fits (e0 : E) (found stated : A) : Bool := match stated with
  | .sym k (.var i) => (match found with | .sym k' e => Nat.beq i 0 && (Nat.beq (kindNo k) (kindNo k') && e.eqb e0) | _ => false)
  | .sym .. => false
  | .wsl .. => false
  | a => found.eqb a
def V.fits (e0 : E) (found stated : V) : Bool := match found, stated with
  | .one a, .one b => a.fits e0 b
  | .agg l, .agg m => listEqb (A.fits e0) l m
  | _, _ => false
def ME.fits (e0 : E) (a b : ME) : Bool := V.fits e0 a.key b.key && (V.fits e0 a.val b.val && Nat.beq a.born b.born)
def optFits (e0 : E) (found stated : Option A) : Bool := match stated with
  | none => true
  | some b => match found with | some a => a.fits e0 b | none => false
def cellsFits (e0 : E) (a : T A) : T A → Bool :=
  @T.rec A (fun _ => T A → Bool) (fun b => @T.rec A (fun _ => Bool) true (fun _ _ _ _ _ => false) b)
    (fun v _ _ rl rr b => @T.rec A (fun _ => Bool) true (fun v' l' r' _ _ => optFits e0 v v' && (rl l' && rr r')) b) a
def Blk.fits (e0 : E) : Blk → Blk → Bool
  | .cells c n f s, .cells c' n' f' s' => Nat.beq n n' && (boolEqb f f' && (optN s s' && cellsFits e0 c c'))
  | .map es k, .map es' k' => Nat.beq k k' && listEqb (ME.fits e0) es es'
  | .dead, .dead => true
  | _, _ => false
theorem kind_inj {a b : IntKind} (h : Nat.beq (kindNo a) (kindNo b) = true) : a = b := by
  cases a <;> cases b <;> first | rfl | cases h
theorem A.fits_ok {e0 : E} {a b : A} {v : Value} (hf : a.fits e0 b = true) (hs : σ2 0 = e0.den σ) (h : AR ρ σ a v) : AR ρ σ2 b v := by
  unfold A.fits at hf
  split at hf
  · rename_i k i
    split at hf
    · rename_i k' e
      simp only [Bool.and_eq_true] at hf
      obtain ⟨h1, h2, h3⟩ := hf
      have h1 := beq_eq h1
      subst h1
      have h2 := kind_inj h2
      subst h2
      have h3 := Eng.eqb_eq h3
      subst h3
      show v = .int _ (σ2 0)
      rw [hs]
      exact h
    · cases hf
  · cases hf
  · cases hf
  · rename_i n1 n2 n3
    have := A.eqb_eq hf
    subst this
    cases a <;> first | exact h | exact (n2 _ _ rfl).elim | exact (n3 _ _ _ rfl).elim
theorem listEqb_cons {α : Type} {f : α → α → Bool} {a b : α} {l m : List α} (h : listEqb f (a :: l) (b :: m) = true) : f a b = true ∧ listEqb f l m = true := by
  have h' : @Bool.rec (fun _ => Bool) false (listEqb f l m) (f a b) = true := h
  cases hb : f a b with
  | false => rw [hb] at h'; cases h'
  | true => rw [hb] at h'; exact ⟨rfl, h'⟩
theorem F2.fits {e0 : E} : ∀ {l m : List A} {vs : List Value}, listEqb (A.fits e0) l m = true → σ2 0 = e0.den σ → F2 (AR ρ σ) l vs → F2 (AR ρ σ2) m vs := by
  intro l
  induction l with
  | nil => intro m vs hl _ h; cases m with | nil => cases h; exact .nil | cons => cases hl
  | cons a l ih =>
    intro m vs hl hs h
    cases m with
    | nil => cases hl
    | cons b m =>
      have hl' := listEqb_cons hl
      cases h with
      | cons h1 h2 => exact .cons (A.fits_ok hl'.1 hs h1) (ih hl'.2 hs h2)
theorem V.fits_ok {e0 : E} {a b : V} {v : Value} (hf : a.fits e0 b = true) (hs : σ2 0 = e0.den σ) (h : VR ρ σ a v) : VR ρ σ2 b v := by
  cases a with
  | one a => cases b with
    | one b => exact A.fits_ok hf hs h
    | agg l => cases hf
  | agg l => cases b with
    | one b => cases hf
    | agg m => obtain ⟨vs, h1, h2⟩ := h; exact ⟨vs, h1, F2.fits hf hs h2⟩
theorem F2.fitsM {e0 : E} : ∀ {l m : List ME} {vs : List MapEntry}, listEqb (ME.fits e0) l m = true → σ2 0 = e0.den σ → F2 (MER ρ σ) l vs → F2 (MER ρ σ2) m vs := by
  intro l
  induction l with
  | nil => intro m vs hl _ h; cases m with | nil => cases h; exact .nil | cons => cases hl
  | cons a l ih =>
    intro m vs hl hs h
    cases m with
    | nil => cases hl
    | cons b m =>
      have hl' := listEqb_cons hl
      simp only [Bool.and_eq_true, ME.fits] at hl'
      cases h with
      | cons h1 h2 =>
        obtain ⟨q1, q2, q3⟩ := h1
        exact .cons ⟨V.fits_ok hl'.1.1 hs q1, V.fits_ok hl'.1.2.1 hs q2, q3.trans (beq_eq hl'.1.2.2)⟩ (ih hl'.2 hs h2)
theorem cellsFits_get {e0 : E} : ∀ {t u : T A} {i : Nat} {b : A}, cellsFits e0 t u = true → T.get u i = some b → ∃ a, T.get t i = some a ∧ a.fits e0 b = true := by
  intro t
  induction t with
  | nil => intro u i b h hg; cases u with | nil => cases hg | node v l r => cases h
  | node v l r ihl ihr =>
    intro u i b h hg
    cases u with
    | nil => cases hg
    | node v' l' r' =>
      have h' : (optFits e0 v v' && (cellsFits e0 l l' && cellsFits e0 r r')) = true := h
      simp only [Bool.and_eq_true] at h'
      cases i with
      | zero =>
        have hv : v' = some b := hg
        subst hv
        have h1 := h'.1
        unfold optFits at h1
        cases v with
        | none => cases h1
        | some a => exact ⟨a, rfl, h1⟩
      | succ m =>
        have hg' : @Bool.rec (fun _ => Option A) (T.get r' (Nat.div m 2)) (T.get l' (Nat.div m 2)) (Nat.beq (Nat.mod m 2) 0) = some b := hg
        show ∃ a, @Bool.rec (fun _ => Option A) (T.get r (Nat.div m 2)) (T.get l (Nat.div m 2)) (Nat.beq (Nat.mod m 2) 0) = some a ∧ _
        cases hb : Nat.beq (Nat.mod m 2) 0 with
        | true => rw [hb] at hg'; exact ihl h'.2.1 hg'
        | false => rw [hb] at hg'; exact ihr h'.2.2 hg'
theorem Blk.fits_ok {e0 : E} {x y : Blk} {o : Obj} {S : Nat} (hf : x.fits e0 y = true) (hs : σ2 0 = e0.den σ) (h : BR ρ σ C x o S) : BR ρ σ2 C y o S := by
  cases x with
  | cells c n f s =>
    cases y with
    | cells c' n' f' s' =>
      simp only [Blk.fits, Bool.and_eq_true] at hf
      obtain ⟨cs, e, h1, h2, h3, h4, h5⟩ := h
      have hb := hf.2.1
      rw [boolEqb_eq] at hb
      have hn := beq_eq hf.1
      subst hn
      have hff := eq_of_beq hb
      subst hff
      refine ⟨cs, e, h1, h2, h3, h4, fun i a hi ha => ?_⟩
      obtain ⟨a', ha', hfit⟩ := cellsFits_get hf.2.2.2 ha
      obtain ⟨v, hv, har⟩ := h5 i a' hi ha'
      exact ⟨v, hv, A.fits_ok hfit hs har⟩
    | _ => cases hf
  | map es k =>
    cases y with
    | map es' k' =>
      simp only [Blk.fits, Bool.and_eq_true] at hf
      obtain ⟨ms, h1, h2⟩ := h
      have hk := beq_eq hf.1
      subst hk
      exact ⟨ms, h1, F2.fitsM hf.2 hs h2⟩
    | _ => cases hf
  | dead => cases y with
    | dead => trivial
    | _ => cases hf
  | _ => cases hf
def fitsBlk (e0 : E) (h : H) (p : Nat × Blk) : Bool := match h.get p.1 with | some x => Blk.fits e0 x p.2 | none => false
def allFits (e0 : E) (h : H) (l : List (Nat × Blk)) : Bool := @List.rec (Nat × Blk) (fun _ => Bool) true (fun p _ r => @Bool.rec (fun _ => Bool) false r (fitsBlk e0 h p)) l
theorem allFits_get {e0 : E} {h : H} : ∀ {l : List (Nat × Blk)}, allFits e0 h l = true → ∀ p ∈ l, ∃ x, h.get p.1 = some x ∧ x.fits e0 p.2 = true := by
  intro l
  induction l with
  | nil => intro _ p hp; cases hp
  | cons q l ih =>
    intro hk p hp
    have hk' : @Bool.rec (fun _ => Bool) false (allFits e0 h l) (fitsBlk e0 h q) = true := hk
    cases hb : fitsBlk e0 h q with
    | false => rw [hb] at hk'; cases hk'
    | true =>
      rw [hb] at hk'
      rcases List.mem_cons.1 hp with e | e
      · subst e
        unfold fitsBlk at hb
        split at hb
        · rename_i x hx; exact ⟨x, hx, hb⟩
        · cases hb
      · exact ih hk' p e
def noDead (x : Blk) : Bool := match x with | .cells .. => true | .map .. => true | _ => false
theorem Rel.move {h : H} {w : World} (hr : Rel ρ σ C h w) {l : List (Nat × Blk)} {n : Nat} {e0 : E} (hs : σ2 0 = e0.den σ) (hg : allFits e0 h l = true) (hc : closedL l n = true) : Rel (Eng.keep ρ (hasKey l)) σ2 C (heapOf l n) w where
  lt := by
    intro b r S hb
    obtain ⟨hk, _⟩ := keep_some hb
    obtain ⟨p, hp, hpb⟩ := List.any_eq_true.1 hk
    have := List.all_eq_true.1 hc p hp
    simp only [Bool.and_eq_true] at this
    have h1 : p.1 < n := by have := this.1; rwa [Nat.blt_eq] at this
    rw [beq_eq hpb] at h1
    exact h1
  blk := by
    intro b r S hb
    obtain ⟨hk, hb'⟩ := keep_some hb
    obtain ⟨o, ho, hx⟩ := hr.blk b r S hb'
    refine ⟨o, ho, fun x hgx => ?_⟩
    have hm := heapOf_get hgx
    have := List.all_eq_true.1 hc _ hm
    simp only [Bool.and_eq_true] at this
    obtain ⟨y, hy, hf⟩ := allFits_get hg _ hm
    exact (Blk.fits_ok hf hs (hx y hy)).keep this.2
  inj := by
    intro b b' r S S' hb hb' ⟨y, hy, hd⟩ ⟨y', hy', hd'⟩
    obtain ⟨_, hb⟩ := keep_some hb
    obtain ⟨_, hb'⟩ := keep_some hb'
    have hm := heapOf_get hy
    have hm' := heapOf_get hy'
    obtain ⟨z, hz, hf⟩ := allFits_get hg _ hm
    obtain ⟨z', hz', hf'⟩ := allFits_get hg _ hm'
    have live : ∀ {u v : Blk}, u.fits e0 v = true → v ≠ .dead → u ≠ .dead := by
      intro u v hq hv e; subst e; cases v <;> first | exact hv rfl | cases hq
    rcases hr.inj b b' r S S' hb hb' ⟨z, hz, live hf hd⟩ ⟨z', hz', live hf' hd'⟩ with e | ⟨c, n', f, e⟩
    · exact .inl e
    · right
      rw [show h.get b = some z from hz] at e
      cases e
      cases y with
      | cells c' n'' f' s' =>
        simp only [Blk.fits, Bool.and_eq_true] at hf
        have hs' := optN_eq hf.2.2.1
        exact ⟨c', n'', f', by rw [hs']; exact hy⟩
      | _ => cases hf
end Eng
end

noncomputable section
namespace Eng
open Go Go.RowKit
variable {P : Program} {C C' : Cfg} {σ σ2 : Sig} {ρ ρ' : Rho}

/-- what is none of the heap's stays -/
structure Stays (Z : Nat → Prop) (w w' : World) : Prop where
  size : w.heap.size ≤ w'.heap.size
  heap : ∀ r, Z r → w'.heap[r]? = w.heap[r]?
  os : w'.os = w.os
  tape : w'.tape = w.tape
  output : w'.output = w.output
  fz : ∀ a, w'.frozen? a = w.frozen? a
theorem Stays.refl (Z : Nat → Prop) (w : World) : Stays Z w w := ⟨Nat.le_refl _, fun _ _ => rfl, rfl, rfl, rfl, fun _ => rfl⟩
theorem Stays.trans {Z : Nat → Prop} {w w1 w2 : World} (h : Stays Z w w1) (g : Stays Z w1 w2) : Stays Z w w2 :=
  ⟨Nat.le_trans h.size g.size, fun r hr => (g.heap r hr).trans (h.heap r hr), g.os.trans h.os, g.tape.trans h.tape, g.output.trans h.output, fun a => (g.fz a).trans (h.fz a)⟩
theorem Stays.grown {Z : Nat → Prop} {w w' : World} (h : Stays Z w w') (hz : ∀ r, r < w.heap.size → Z r) : Grown w w' := by
  refine ⟨⟨h.os, h.output, ?_⟩, h.fz, h.size⟩
  intro i hi
  rw [h.heap i (hz i hi)]
  exact (World.keptBut_refl w (fun _ => False)).2.2 i hi

/- code from one act on, in a frame that is known -/
def WB (P : Program) (b : Frame) (c : Code) (Q : Exit → Act → World → Prop) (a : Act) (w : World) : Prop :=
  ∀ (k : List Item) (cs : List Frame), ∃ e a' w', Q e a' w' ∧ Arrives P (lone (b.at a (.code c :: k)) cs w) b k cs e a' w'
section
variable {b : Frame} {Q : Exit → Act → World → Prop} {a : Act} {w : World}
theorem WB.of_wp {c : Code} (h : c.wp P Q a w) : WB P b c Q a w := h b
theorem WB.mono {c : Code} {Q' : Exit → Act → World → Prop} (h : WB P b c Q a w) (hq : ∀ e a w, Q e a w → Q' e a w) : WB P b c Q' a w :=
  fun k cs => let ⟨e, a', w', q, r⟩ := h k cs; ⟨e, a', w', hq _ _ _ q, r⟩
theorem WB.seq {x y : Code} (h : WB P b x (Exit.then (WB P b y Q) Q) a w) : WB P b (.seq x y) Q a w := by
  intro k cs
  obtain ⟨e, a₁, w₁, hq, harr⟩ := h (.code y :: k) cs
  cases e with
  | normal =>
    obtain ⟨e₂, a₂, w₂, hq₂, harr₂⟩ := hq k cs
    exact ⟨e₂, a₂, w₂, hq₂, .of_steps (.head step_seq harr) harr₂⟩
  | exit id => exact ⟨_, a₁, w₁, hq, .of_steps (.one step_seq) (.pass (x := .code y) rfl (fun _ _ => .inl (by simp)) harr)⟩
  | goto l => exact ⟨_, a₁, w₁, hq, .of_steps (.one step_seq) (.pass (x := .code y) rfl (fun _ _ => .inl (by simp)) harr)⟩
  | ret => exact ⟨_, a₁, w₁, hq, .of_steps (.one step_seq) (.pass (x := .code y) rfl (fun _ _ => .inl (by simp)) harr)⟩
  | panic ch => exact ⟨_, a₁, w₁, hq, .of_steps (.one step_seq) (.pass (x := .code y) rfl (fun _ _ => .inl (by simp)) harr)⟩
  | outgrown => exact ⟨_, a₁, w₁, hq, .of_steps (.one step_seq) (.pass (x := .code y) rfl (fun _ _ => .inl (by simp)) harr)⟩
theorem WB.cond {c : Operand} {x y : Code} {t : Bool} (hc : a.eval c = .bool t) (h : WB P b (if t then x else y) Q a w) : WB P b (.cond c x y) Q a w :=
  fun k cs => let ⟨e, a', w', q, r⟩ := h k cs; ⟨e, a', w', q, .of_steps (.one (step_cond hc)) r⟩
theorem WB.block {id : Nat} {c : Code} (h : WB P b c (Exit.inBlock id Q) a w) : WB P b (.block id c) Q a w := by
  intro k cs
  obtain ⟨e, a₁, w₁, hq, harr⟩ := h (.inBlock id :: k) cs
  cases e with
  | normal => exact ⟨.normal, a₁, w₁, hq, .head step_block (Steps.trans harr (.one step_inBlock))⟩
  | exit id' =>
    by_cases hid : id' = id
    · simp only [Exit.inBlock, hid, if_true] at hq
      exact ⟨.normal, a₁, w₁, hq, .head step_block (harr k (by simp [exitTo, hid]))⟩
    · simp only [Exit.inBlock, hid, if_false] at hq
      refine ⟨.exit id', a₁, w₁, hq, fun k' hk => .head step_block (harr k' ?_)⟩
      have : (id == id') = false := by simp; exact fun h => hid h.symm
      simp [exitTo, this, hk]
  | goto l => exact ⟨_, a₁, w₁, hq, fun k' hk => .head step_block (harr k' (by simp [gotoIn, hk]))⟩
  | ret => exact ⟨_, a₁, w₁, hq, .of_steps (.one step_block) harr⟩
  | panic ch => exact ⟨_, a₁, w₁, hq, .of_steps (.one step_block) harr⟩
  | outgrown => exact ⟨_, a₁, w₁, hq, .of_steps (b := b) (k := k) (cs := cs) (e := .outgrown) (.one step_block) harr⟩
theorem WB.loop {c : Code} (I : Act → World → Prop) (μ : Act → World → Nat) (h₀ : I a w)
    (round : ∀ a w, I a w → WB P b c (Exit.then (fun a' w' => I a' w' ∧ μ a' w' < μ a w) Q) a w) : WB P b (.loop c) Q a w := by
  intro k cs
  have key : ∀ n a w, μ a w = n → I a w →
      ∃ e a' w', Q e a' w' ∧ Arrives P (lone (b.at a (.code c :: .inLoop c :: k)) cs w) b k cs e a' w' := by
    intro n
    induction n using Nat.strongRecOn with
    | _ n ih =>
      intro a w hn hI
      obtain ⟨e, a₁, w₁, hq, harr⟩ := round a w hI (.inLoop c :: k) cs
      cases e with
      | normal =>
        obtain ⟨hI₁, hlt⟩ := hq
        obtain ⟨e₂, a₂, w₂, hq₂, harr₂⟩ := ih (μ a₁ w₁) (hn ▸ hlt) a₁ w₁ rfl hI₁
        exact ⟨e₂, a₂, w₂, hq₂, .of_steps (Steps.trans harr (.one step_inLoop)) harr₂⟩
      | exit id => exact ⟨_, a₁, w₁, hq, .pass (x := .inLoop c) rfl (fun _ _ => .inl (by simp)) harr⟩
      | goto l => exact ⟨_, a₁, w₁, hq, .pass (x := .inLoop c) rfl (fun _ _ => .inl (by simp)) harr⟩
      | ret => exact ⟨_, a₁, w₁, hq, .pass (x := .inLoop c) rfl (fun _ _ => .inl (by simp)) harr⟩
      | panic ch => exact ⟨_, a₁, w₁, hq, .pass (x := .inLoop c) rfl (fun _ _ => .inl (by simp)) harr⟩
      | outgrown => exact ⟨_, a₁, w₁, hq, .pass (x := .inLoop c) rfl (fun _ _ => .inl (by simp)) harr⟩
  obtain ⟨e, a', w', hq, harr⟩ := key _ a w rfl h₀
  exact ⟨e, a', w', hq, .of_steps (.one step_loop) harr⟩
end
def bare (f : FuncId) : Frame := { (default : Frame) with fn := f, kind := .normal }
theorem WB.calls {f : FuncId} {fn : Func} {c : Code} {args : Array Value} {w : World} {R : Ending → World → Prop} (hf : P.funcs[f]? = some fn) (hb : fn.body = some c)
    (h : WB P (bare f) c (bodyPost P fn R) { tmps := args ++ Array.replicate (fn.ntmps - args.size) undef, defers := [] } w) : Calls P f args w R := by
  intro cs
  have henter : Frame.enter P f args .normal = (bare f).at { tmps := args ++ Array.replicate (fn.ntmps - args.size) undef, defers := [] } [.code c] := by
    simp [Frame.enter, Frame.at, hf, hb, bare]
  obtain ⟨e, a', w', hq, harr⟩ := h [] cs
  rw [← henter] at harr
  cases e with
  | normal =>
    obtain ⟨hd, v, hr, hR⟩ := hq
    exact ⟨.returned v, w', _, hR, Steps.trans harr (.one step_end), rfl, rfl, hd, rfl, fn, hf, hr⟩
  | ret =>
    obtain ⟨hd, v, hr, hR⟩ := hq
    obtain ⟨todo, hs⟩ := harr
    exact ⟨.returned v, w', _, hR, hs, rfl, rfl, hd, rfl, fn, hf, hr⟩
  | panic chain =>
    obtain ⟨hd, hR⟩ := hq
    obtain ⟨todo, hs⟩ := harr
    exact ⟨.panicked chain, w', _, hR, hs, rfl, rfl, hd, fn, hf⟩
  | exit id => exact hq.elim
  | goto l => exact hq.elim
  | outgrown => exact ⟨.outgrown, w', bare f, hq, harr.resolve_left (by simp [bare]), rfl, trivial⟩
def Out.ex : Out → Exit
  | .norm => .normal
  | .exit id => .exit id
  | .ret => .ret
theorem ArrR.arrives {m : Machine} {b : Frame} (hb : b.roundOf = none) {k : List Item} {cs : List Frame} {o : Out} {a : Act} {w : World} (h : ArrR P m b k cs o a w) : Arrives P m b k cs o.ex a w := by
  cases o with
  | norm => show Steps P m _; rw [← Frame.atR_of_none hb]; exact h
  | exit id =>
    obtain ⟨k0, h1, h2⟩ := h
    intro k' hk
    rw [Frame.atR_of_none hb] at h2
    exact h2.trans (.one (step_exit (by rw [h1]; exact hk)))
  | ret =>
    obtain ⟨k0, h2⟩ := h
    rw [Frame.atR_of_none hb] at h2
    exact ⟨_, h2.trans (.one step_ret)⟩
/-- what is evaluated is done -/
theorem WB.code {n0 : Nat} {X : Ctx} {b : Frame} {c : Code} {fr fr' : FR} {h h' : H} {o : Out} {Q : Exit → Act → World → Prop} {a : Act} {w : World} (hk : eval C n0 X (.code c fr) h = some (.code o fr' h')) (hc : CfgOK P C σ) (hx : ExtOK C P σ)
    (hb : CtxR C ρ X b) (hn : X.round = none) (hr : Rel ρ σ C h w) (hf : FrR ρ σ X.nt X.nl fr a) (hq : ∀ a' w' ρ', FrR ρ' σ X.nt X.nl fr' a' → Rel ρ' σ C h' w' → Ext ρ ρ' h h' w w' → Q o.ex a' w') : WB P b c Q a w := by
  obtain ⟨a', w', ρ', h1, h2, h3, h4⟩ := (eval_ok hc hx n0).1 X c fr h o fr' h' hk ρ w a b hb hr hf
  have hbr : b.roundOf = none := by have := hb.round; rw [hn] at this; exact this
  intro k cs
  have := h1 _ k cs .code
  rw [Frame.atR_of_none hbr] at this
  exact ⟨_, a', w', hq a' w' ρ' h2 h3 h4, this.arrives hbr⟩
def nest : List Code → Code → Code
  | [], r => r
  | c :: l, r => .seq c (nest l r)
def evs (C : Cfg) (n0 : Nat) (X : Ctx) (cs : List Code) (fr : FR) (h : H) : OR :=
  @List.rec Code (fun _ => FR → H → OR) (fun fr h => some (.code .norm fr h)) (fun c _ r fr h => match eval C n0 X (.code c fr) h with | some (.code .norm fr' h') => r fr' h' | _ => none) cs fr h
theorem WB.chain {n0 : Nat} {X : Ctx} {b : Frame} {rest : Code} {Q : Exit → Act → World → Prop} (hc : CfgOK P C σ) (hx : ExtOK C P σ) (hn : X.round = none) {fr' : FR} {h' : H} :
    ∀ {cs : List Code} {fr : FR} {h : H} {ρ : Rho} {a : Act} {w : World}, evs C n0 X cs fr h = some (.code .norm fr' h') → (∀ ρ, CtxR C ρ X b) → Rel ρ σ C h w → FrR ρ σ X.nt X.nl fr a →
      (∀ a' w' ρ', FrR ρ' σ X.nt X.nl fr' a' → Rel ρ' σ C h' w' → Ext ρ ρ' h h' w w' → WB P b rest Q a' w') → WB P b (nest cs rest) Q a w := by
  intro cs
  induction cs with
  | nil =>
    intro fr h ρ a w hk _ hr hf hq
    cases hk
    exact hq a w ρ hf hr (Ext.refl ρ h' w hr)
  | cons c l ih =>
    intro fr h ρ a w hk hb hr hf hq
    have hk' : (match eval C n0 X (.code c fr) h with | some (.code .norm fr' h') => evs C n0 X l fr' h' | _ => none) = some (.code .norm fr' h') := hk
    split at hk'
    · rename_i fr1 h1 he
      refine WB.seq (WB.code he hc hx (hb ρ) hn hr hf fun a1 w1 ρ1 g1 g2 g3 => ?_)
      exact ih hk' hb g2 g1 fun a2 w2 ρ2 q1 q2 q3 => hq a2 w2 ρ2 q1 q2 (Ext.trans hr g2 g3 q3)
    · cases hk'

/- a place in the code: slots, and a heap that is written down; Z: blocks that are none of its; F: blocks that are named -/
def frOf (L : List (Nat × AV)) : FR := ⟨tableOf L, .nil, []⟩
structure AtS (C : Cfg) (nt nl : Nat) (Z : Nat → Prop) (F : List (Nat × Nat × Nat)) (l : List (Nat × Blk)) (n : Nat) (L : List (Nat × AV)) (σ : Sig) (a : Act) (w : World) : Prop where
  below : ∀ r, Z r → r < w.heap.size
  rel : ∃ ρ : Rho, Rel ρ σ C (heapOf l n) w ∧ FrR ρ σ nt nl (frOf L) a ∧ (∀ b r S, ρ b = some (r, S) → Live (heapOf l n) b → ¬ Z r) ∧ ∀ p ∈ F, ρ p.1 = some p.2
def At (C : Cfg) (nt nl : Nat) (Z : Nat → Prop) (F : List (Nat × Nat × Nat)) (l : List (Nat × Blk)) (n : Nat) (x : Int) (L : List (Nat × AV)) (a : Act) (w : World) : Prop := ∀ σ : Sig, σ 0 = x → AtS C nt nl Z F l n L σ a w
def Keeps (k : Nat → Bool) (v : AV) : Prop := ∀ (ρ : Rho) (σ σ2 : Sig) (x : Value), AVR ρ σ v x → AVR (Eng.keep ρ k) σ2 v x
def A.fixed (k : Nat → Bool) (a : A) : Bool := match a with | .sym .. => false | .wsl .. => false | a => a.within k
theorem A.fixed_keeps {k : Nat → Bool} {a : A} (h : a.fixed k = true) {ρ : Rho} {σ σ2 : Sig} {v : Value} (hr : AR ρ σ a v) : AR (Eng.keep ρ k) σ2 a v := by
  cases a <;> first | (cases h; done) | exact AR.keep (σ := σ2) h hr
theorem Keeps.one {k : Nat → Bool} {a : A} (h : a.fixed k = true) : Keeps k (.one a) := fun _ _ _ _ hr => A.fixed_keeps h hr
/-- the end of a piece: what was found, seen as what is written down -/
theorem AtS.arrive {nt nl : Nat} {Z : Nat → Prop} {F : List (Nat × Nat × Nat)} {h h' : H} {l' : List (Nat × Blk)} {n' : Nat} {L' : List (Nat × AV)} {e0 : E} {fr' : FR} {a' : Act} {w w' : World}
    (hr : Rel ρ σ C' h w) (hz0 : ∀ r, Z r → r < w.heap.size) (hz : ∀ b r S, ρ b = some (r, S) → Live h b → ¬ Z r) (hF : ∀ p ∈ F, ρ p.1 = some p.2)
    (g1 : FrR ρ' σ nt nl fr' a') (g2 : Rel ρ' σ C' h' w') (g3 : Ext ρ ρ' h h' w w') (hfit : allFits e0 h' l' = true) (hcl : closedL l' n' = true) (hL : ∀ p ∈ L', T.get fr'.pt p.1 = some p.2 ∧ Keeps (hasKey l') p.2) (hm : fr'.marks = [])
    (hFk : F.all (fun p => hasKey l' p.1) = true) (hfu : C'.fu = C.fu) : At C nt nl Z F l' n' (e0.den σ) L' a' w' ∧ Stays Z w w' := by
  refine ⟨fun σ2 h2 => ⟨fun r hr' => Nat.lt_of_lt_of_le (hz0 r hr') g3.size, Eng.keep ρ' (hasKey l'), (g2.move h2 hfit hcl).cfg hfu, ?_, ?_, ?_⟩, ⟨g3.size, ?_, g3.os, g3.tape, g3.output, g3.fz⟩⟩
  · refine ⟨g1.size, ?_, ?_, ?_⟩
    · intro t v ht hg
      have hm := tableOf_mem (show (tableOf L').get t = some v from hg)
      obtain ⟨q1, q2⟩ := hL _ hm
      obtain ⟨v', hv', har⟩ := g1.pt t v ht q1
      exact ⟨v', hv', q2 _ _ _ _ har⟩
    · intro t v _ hg; cases hg
    · have := g1.marks
      rw [hm] at this
      show F2 _ [] a'.defers
      generalize a'.defers = d at this ⊢
      cases this
      exact .nil
  · intro b r S hb hl hzr
    obtain ⟨hk, hb'⟩ := keep_some hb
    obtain ⟨y, hy, hd⟩ := hl
    have hm := heapOf_get hy
    obtain ⟨y', hy', hf⟩ := allFits_get hfit _ hm
    have hlive : Live h' b := ⟨y', hy', fun e => by subst e; cases y <;> first | exact hd rfl | cases hf⟩
    rcases Nat.lt_or_ge b h.next with e | e
    · rw [g3.old b e] at hb'
      exact hz b r S hb' (g3.live b e hlive) hzr
    · rcases g3.new b r S e hb' with e' | ⟨b0, S0, e', hl0⟩
      · have := hz0 r hzr; omega
      · exact hz b0 r S0 e' hl0 hzr
  · intro p hp
    have h1 := hF p hp
    rw [keep_of (List.all_eq_true.1 hFk p hp), g3.old p.1 (hr.lt _ _ _ h1)]
    exact h1
  · intro r hr'
    exact g3.frame r (hz0 r hr') fun b S hb hl => hz b r S hb hl hr'
end Eng
end

noncomputable section
namespace Eng
open Go Go.RowKit
variable {P : Program} {C C' : Cfg} {σ σ2 : Sig} {ρ ρ' : Rho}

def outEq : Out → Out → Bool
  | .norm, .norm => true
  | .ret, .ret => true
  | .exit a, .exit b => Nat.beq a b
  | _, _ => false
theorem outEq_eq {a b : Out} (h : outEq a b = true) : a = b := by
  cases a <;> cases b <;> first | rfl | (cases h; done) | (rw [beq_eq (show Nat.beq _ _ = true from h)])
def slotB (pt : T AV) (p : Nat × AV) : Bool := match T.get pt p.1 with | some v => AV.eqb v p.2 | none => false
theorem slotB_eq {pt : T AV} {p : Nat × AV} (h : slotB pt p = true) : T.get pt p.1 = some p.2 := by
  unfold slotB at h
  split at h
  · rename_i v hv; rw [hv, AV.eqb_eq h]
  · cases h
def fixedV (k : Nat → Bool) (v : AV) : Bool := match v with | .one a => a.fixed k | _ => false
theorem fixedV_keeps {k : Nat → Bool} {v : AV} (h : fixedV k v = true) : Keeps k v := by
  cases v with
  | one a => exact Keeps.one h
  | agg l => cases h
  | tup l => cases h
/-- what is asked of an evaluation's end; the slots ks are told apart -/
def sumC (o : Out) (e0 : E) (l' : List (Nat × Blk)) (Lc : List (Nat × AV)) (ks : List Nat) (r : OR) : Bool × List (Option AV) := match r with
  | some (.code o' fr' h') => (outEq o' o && (Lc.all (slotB fr'.pt) && (List.isEmpty fr'.marks && allFits e0 h' l')), ks.map fun k => T.get fr'.pt k)
  | _ => (false, [])
theorem zip_mem : ∀ {ks : List Nat} {vs : List AV} {pt : T AV} {p : Nat × AV}, ks.map (fun k => T.get pt k) = vs.map some → p ∈ ks.zip vs → T.get pt p.1 = some p.2 ∧ p.2 ∈ vs := by
  intro ks
  induction ks with
  | nil => intro vs pt p _ hp; cases hp
  | cons k ks ih =>
    intro vs pt p h hp
    cases vs with
    | nil => cases hp
    | cons v vs =>
      simp only [List.map_cons, List.cons.injEq] at h
      rcases List.mem_cons.1 hp with e | e
      · subst e; exact ⟨h.1, List.mem_cons_self⟩
      · exact ⟨(ih h.2 e).1, List.mem_cons_of_mem _ (ih h.2 e).2⟩
theorem sumC_some {o : Out} {e0 : E} {l' : List (Nat × Blk)} {Lc : List (Nat × AV)} {ks : List Nat} {r : OR} {vs : List AV} (h : sumC o e0 l' Lc ks r = (true, vs.map some)) (hv : ∀ v ∈ vs, Keeps (hasKey l') v) (hL : Lc.all (fun p => fixedV (hasKey l') p.2) = true) :
    ∃ fr' h', r = some (.code o fr' h') ∧ allFits e0 h' l' = true ∧ fr'.marks = [] ∧ ∀ p ∈ ks.zip vs ++ Lc, T.get fr'.pt p.1 = some p.2 ∧ Keeps (hasKey l') p.2 := by
  unfold sumC at h
  split at h
  · rename_i o' fr' h'
    simp only [Prod.mk.injEq, Bool.and_eq_true] at h
    obtain ⟨⟨h1, h2, h3, h4⟩, h5⟩ := h
    rw [outEq_eq h1]
    refine ⟨fr', h', rfl, h4, List.isEmpty_iff.1 h3, fun p hp => ?_⟩
    rcases List.mem_append.1 hp with e | e
    · have := zip_mem h5 e
      exact ⟨this.1, hv _ this.2⟩
    · exact ⟨slotB_eq (List.all_eq_true.1 h2 p e), fixedV_keeps (List.all_eq_true.1 hL p e)⟩
  · simp at h
theorem ctx_bare {X : Ctx} {fi : FI} (hf : C.fu X.fn = some fi) (h1 : fi.nt = X.nt) (h2 : fi.nl = X.nl) (hn : X.round = none) (ρ : Rho) : CtxR C ρ X (bare X.fn) := ⟨⟨fi, hf, h1, h2⟩, rfl, rfl, by rw [hn]; rfl⟩
/-- a piece of code, from one place that is written down to another one -/
theorem AtS.code {n0 : Nat} {X : Ctx} {fi : FI} {c : Code} {L Lc : List (Nat × AV)} {l l' : List (Nat × Blk)} {n n' : Nat} {o : Out} {e0 : E} {ks : List Nat} {vs : List AV} {Z : Nat → Prop} {F : List (Nat × Nat × Nat)} {a : Act} {w : World}
    (hk : sumC o e0 l' Lc ks (eval C' n0 X (.code c (frOf L)) (heapOf l n)) = (true, vs.map some)) (hv : ∀ v ∈ vs, Keeps (hasKey l') v) (hL : Lc.all (fun p => fixedV (hasKey l') p.2) = true) (hcl : closedL l' n' = true) (hF : F.all (fun p => hasKey l' p.1) = true)
    (hfu : C'.fu = C.fu) (hc : CfgOK P C' σ) (hx : ExtOK C' P σ) (hf : C.fu X.fn = some fi) (hnt : fi.nt = X.nt) (hnl : fi.nl = X.nl) (hn : X.round = none) (hs : AtS C X.nt X.nl Z F l n L σ a w) :
    WB P (bare X.fn) c (fun e a' w' => e = o.ex ∧ At C X.nt X.nl Z F l' n' (e0.den σ) (ks.zip vs ++ Lc) a' w' ∧ Stays Z w w') a w := by
  obtain ⟨fr', h', h1, h2, h3, h4⟩ := sumC_some hk hv hL
  obtain ⟨hb, ρ, hr, hfr, hz, hFF⟩ := hs
  refine WB.code h1 hc hx (ctx_bare (by rw [hfu]; exact hf) hnt hnl hn ρ) hn (hr.cfg hfu.symm) hfr fun a' w' ρ' g1 g2 g3 => ⟨rfl, ?_⟩
  exact AtS.arrive (hr.cfg hfu.symm) hb hz hFF g1 g2 g3 h2 hcl h4 h3 hF hfu
/-- the same of pieces that follow each other -/
theorem AtS.chain {n0 : Nat} {X : Ctx} {fi : FI} {cs : List Code} {rest : Code} {L Lc : List (Nat × AV)} {l l' : List (Nat × Blk)} {n n' : Nat} {e0 : E} {ks : List Nat} {vs : List AV} {Z : Nat → Prop} {F : List (Nat × Nat × Nat)} {Q : Exit → Act → World → Prop} {a : Act} {w : World}
    (hk : sumC .norm e0 l' Lc ks (evs C' n0 X cs (frOf L) (heapOf l n)) = (true, vs.map some)) (hv : ∀ v ∈ vs, Keeps (hasKey l') v) (hL : Lc.all (fun p => fixedV (hasKey l') p.2) = true) (hcl : closedL l' n' = true) (hF : F.all (fun p => hasKey l' p.1) = true)
    (hfu : C'.fu = C.fu) (hc : CfgOK P C' σ) (hx : ExtOK C' P σ) (hf : C.fu X.fn = some fi) (hnt : fi.nt = X.nt) (hnl : fi.nl = X.nl) (hn : X.round = none) (hs : AtS C X.nt X.nl Z F l n L σ a w)
    (hq : ∀ a' w', At C X.nt X.nl Z F l' n' (e0.den σ) (ks.zip vs ++ Lc) a' w' → Stays Z w w' → WB P (bare X.fn) rest Q a' w') : WB P (bare X.fn) (nest cs rest) Q a w := by
  obtain ⟨fr', h', h1, h2, h3, h4⟩ := sumC_some hk hv hL
  obtain ⟨hb, ρ, hr, hfr, hz, hFF⟩ := hs
  refine WB.chain hc hx hn h1 (fun ρ => ctx_bare (by rw [hfu]; exact hf) hnt hnl hn ρ) (hr.cfg hfu.symm) hfr fun a' w' ρ' g1 g2 g3 => ?_
  have := AtS.arrive (hr.cfg hfu.symm) hb hz hFF g1 g2 g3 h2 hcl h4 h3 hF hfu
  exact hq a' w' this.1 this.2
/-- slots, seen another way -/
theorem AtS.slots {nt nl : Nat} {L L' : List (Nat × AV)} {l : List (Nat × Blk)} {n : Nat} {Z : Nat → Prop} {F : List (Nat × Nat × Nat)} {a a' : Act} {w : World} (hs : AtS C nt nl Z F l n L σ a w) (hsz : nt ≤ a'.tmps.size) (hd : a'.defers = a.defers)
    (hL : ∀ p ∈ L', p.1 < nl → ∀ ρ : Rho, FrR ρ σ nt nl (frOf L) a → ∃ v', a'.tmps[p.1]? = some v' ∧ AVR ρ σ p.2 v') : AtS C nt nl Z F l n L' σ a' w := by
  obtain ⟨hb, ρ, hr, hfr, hz, hFF⟩ := hs
  refine ⟨hb, ρ, hr, ⟨hsz, ?_, ?_, ?_⟩, hz, hFF⟩
  · intro t v ht hg
    exact hL _ (tableOf_mem (show (tableOf L').get t = some v from hg)) ht ρ hfr
  · intro t v _ hg; cases hg
  · rw [hd]; exact hfr.marks
/-- a new block -/
theorem AtS.push {nt nl : Nat} {L : List (Nat × AV)} {l : List (Nat × Blk)} {n : Nat} {Z : Nat → Prop} {F : List (Nat × Nat × Nat)} {a a' : Act} {w : World} {cells : List A} {vs : List Value} {ty : TypeId} {t : Nat} (hs : AtS C nt nl Z F l n L σ a w) (hc : ∀ ρ : Rho, F2 (AR ρ σ) cells vs)
    (hsz : nt ≤ a'.tmps.size) (hd : a'.defers = a.defers) (ht : a'.tmps[t]? = some (.pointer (some ⟨w.heap.size, 0, none⟩))) (hL : ∀ p ∈ L, p.1 ≠ t → p.1 < nl → ∀ ρ : Rho, FrR ρ σ nt nl (frOf L) a → ∃ v', a'.tmps[p.1]? = some v' ∧ AVR ρ σ p.2 v') :
    AtS C nt nl Z F ((n, .cells (T.ofList cells) cells.length true none) :: l) (n + 1) ((t, .one (.ptr n 0)) :: L) σ a' (Eng.push w (Obj.cells vs.toArray ty)) := by
  obtain ⟨hb, ρ, hr, hfr, hz, hFF⟩ := hs
  have hlen := (hc ρ).length
  have hx : BR (upd ρ (heapOf l n).next (w.heap.size, cells.length)) σ C (.cells (T.ofList cells) cells.length true none) (.cells vs.toArray ty) cells.length := by
    refine ⟨vs.toArray, ty, rfl, by simpa using hlen.symm, Nat.le_refl _, fun _ => rfl, fun i b _ hg => ?_⟩
    obtain ⟨v, hv, har⟩ := (hc (upd ρ (heapOf l n).next (w.heap.size, cells.length))).get (T.get_ofList hg)
    exact ⟨v, by simpa using hv, har⟩
  obtain ⟨g1, g2⟩ := hr.new _ _ _ hx (by intro cs e lo hi h; cases h; exact Nat.le_refl _)
  have hsub := hr.sub_upd (w.heap.size, cells.length)
  have hsz' : (Eng.push w (Obj.cells vs.toArray ty)).heap.size = w.heap.size + 1 := by show (w.heap.push _).size = _; simp
  refine ⟨fun r hr' => by have := hb r hr'; omega, upd ρ n (w.heap.size, cells.length), g1, ⟨hsz, ?_, ?_, ?_⟩, ?_, ?_⟩
  · intro t' v ht' hg
    rcases T.get_set (show T.get (T.set (tableOf L) t (AV.one (.ptr n 0))) t' = some v from hg) with ⟨e1, e2⟩ | ⟨e1, e2⟩
    · subst e1; subst e2
      exact ⟨_, ht, ⟨_, _, upd_self ρ n _, rfl⟩⟩
    · obtain ⟨v', h1, h2⟩ := hL _ (tableOf_mem e2) e1 ht' ρ hfr
      exact ⟨v', h1, h2.mono hsub⟩
  · intro t' v _ hg; cases hg
  · rw [hd]
    exact hfr.marks.mono fun _ _ ⟨r, S, h1, h2⟩ => ⟨r, S, hsub _ _ h1, h2⟩
  · intro b r S hb' hl hzr
    by_cases e : b = n
    · subst e
      rw [upd_self] at hb'
      cases hb'
      have := hb _ hzr
      omega
    · rw [upd_ne ρ _ e] at hb'
      obtain ⟨y, hy, hyd⟩ := hl
      refine hz b r S hb' ⟨y, ?_, hyd⟩ hzr
      rcases T.get_set (show T.get (T.set (tableOf l) n _) b = some y from hy) with ⟨e1, _⟩ | ⟨_, e1⟩
      · exact absurd e1 e
      · exact e1
  · intro p hp
    exact hsub _ _ (hFF p hp)
end Eng
end
