/- The engine, part 12: a number in a range; code evaluated piece by piece, what was found being seen as what is written down. No conditions beside those in its theorems. -/
import Derived.Test.YtikjmnimdlcehaaGreatE11
set_option linter.unusedVariables false
noncomputable section
namespace Eng
open Go Go.RowKit
/- a number that is not known, but lies between two: what is so at each of its values -/
def allR (f : Int → Bool) (lo : Int) (n : Nat) : Bool := @Nat.rec (fun _ => Bool) true (fun i r => @Bool.rec (fun _ => Bool) false r (f (lo + Int.ofNat i))) n
theorem allR_spec {f : Int → Bool} {lo : Int} : ∀ {n : Nat}, allR f lo n = true → ∀ u : Int, lo ≤ u → u < lo + n → f u = true := by
  intro n
  induction n with
  | zero => intro _ u h1 h2; omega
  | succ n ih =>
    intro h u h1 h2
    have h' : @Bool.rec (fun _ => Bool) false (allR f lo n) (f (lo + Int.ofNat n)) = true := h
    cases hb : f (lo + Int.ofNat n) with
    | false => rw [hb] at h'; cases h'
    | true =>
      rw [hb] at h'
      by_cases e : u = lo + Int.ofNat n
      · rw [e]; exact hb
      · exact ih h' u h1 (by simp at e; omega)
def at0 (u : Int) : Sig := fun _ => u
def cmpR (lo : Int) (n : Nat) (op : BinOp) (a b : E) : Option Bool :=
  bif a.under 1 && b.under 1 then
    (fun r => bif allR (fun u => boolEqb (cmpDen op (a.den (at0 u)) (b.den (at0 u))) r) lo n then some r else none) (cmpDen op (a.den (at0 lo)) (b.den (at0 lo)))
  else none
def normR (lo : Int) (n : Nat) (e : E) : Option Int :=
  bif e.under 1 then (fun r => bif allR (fun u => intEqb (e.den (at0 u)) r) lo n then some r else none) (e.den (at0 lo)) else none
theorem den_at0 {e : E} (h : e.under 1 = true) (σ : Sig) : e.den (at0 (σ 0)) = e.den σ :=
  E.den_sig (n := 1) (σ := at0 (σ 0)) (σ' := σ) (fun i hi => by
    have e : i = 0 := by omega
    rw [e]
    rfl) h
theorem cmpR_ok {lo : Int} {n : Nat} {σ : Sig} (h1 : lo ≤ σ 0) (h2 : σ 0 < lo + n) (op : BinOp) (a b : E) (r : Bool) (h : cmpR lo n op a b = some r) : cmpDen op (a.den σ) (b.den σ) = r := by
  unfold cmpR at h
  cases hu : (a.under 1 && b.under 1) with
  | false => rw [hu] at h; cases h
  | true =>
    rw [hu] at h
    simp only [Bool.and_eq_true] at hu
    simp only [cond_true] at h
    cases ha : allR (fun u => boolEqb (cmpDen op (a.den (at0 u)) (b.den (at0 u))) (cmpDen op (a.den (at0 lo)) (b.den (at0 lo)))) lo n with
    | false => rw [ha] at h; cases h
    | true =>
      rw [ha] at h
      cases h
      have := allR_spec ha (σ 0) h1 h2
      simp only [boolEqb_eq] at this
      rw [← den_at0 hu.1 σ, ← den_at0 hu.2 σ]
      exact eq_of_beq this
theorem normR_ok {lo : Int} {n : Nat} {σ : Sig} (h1 : lo ≤ σ 0) (h2 : σ 0 < lo + n) (e : E) (r : Int) (h : normR lo n e = some r) : e.den σ = r := by
  unfold normR at h
  cases hu : e.under 1 with
  | false => rw [hu] at h; cases h
  | true =>
    rw [hu] at h
    simp only [cond_true] at h
    cases ha : allR (fun u => intEqb (e.den (at0 u)) (e.den (at0 lo))) lo n with
    | false => rw [ha] at h; cases h
    | true =>
      rw [ha] at h
      cases h
      have := allR_spec ha (σ 0) h1 h2
      simp only [intEqb_eq] at this
      rw [← den_at0 hu σ]
      exact eq_of_beq this
end Eng
end

noncomputable section
namespace Eng
open Go Go.RowKit
variable {P : Program} {C C' : Cfg} {σ σ2 : Sig} {ρ ρ' : Rho}

/- a heap that an evaluation left, seen as one that is written down under other numbers (g: the number that a block was found under), numbers as values of expressions of the symbol 0, slices that are not looked at as 'any' -/
def anySl (a : A) : Bool := match a with | .slice .. => true | .fsl .. => true | .nils => true | .emp => true | .any => true | .wsl .. => true | _ => false
def symFit (e0 : E) (k : IntKind) (e : E) (found : A) : Bool := match found with
  | .int k' n => Nat.beq (kindNo k) (kindNo k') && (e.under 1 && (match e0 with | .lit m => intEqb (e.den (at0 m)) n | _ => false))
  | .sym k' e' => Nat.beq (kindNo k) (kindNo k') && ((match e with | .var i => Nat.beq i 0 && e'.eqb e0 | _ => false) || (e'.eqb e && (e.under 1 && e0.eqb (.var 0))))
  | _ => false
def A.fitsG (g : Nat → Nat) (e0 : E) (found stated : A) : Bool := match stated with
  | .any => anySl found
  | .sym k e => symFit e0 k e found
  | .wsl .. => false
  | .yld _ => false
  | .ptr b o => (match found with | .ptr b' o' => Nat.beq b' (g b) && Nat.beq o' o | _ => false)
  | .slice b o l c => (match found with | .slice b' o' l' c' => Nat.beq b' (g b) && (Nat.beq o' o && (Nat.beq l' l && Nat.beq c' c)) | _ => false)
  | .fsl b o l c => (match found with | .fsl b' o' l' c' => Nat.beq b' (g b) && (Nat.beq o' o && (Nat.beq l' l && Nat.beq c' c)) | _ => false)
  | .map r => (match found with | .map r' => Nat.beq r' (g r) | _ => false)
  | .fn _ cs => List.isEmpty cs && found.eqb stated
  | a => found.eqb a
/-- the blocks of the written heap, by the numbers that they were found under -/
def Ren (ρ : Rho) (g : Nat → Nat) (k : Nat → Bool) : Rho := fun b => bif k b then ρ (g b) else none
theorem Ren_of {g : Nat → Nat} {k : Nat → Bool} {b : Nat} (h : k b = true) : Ren ρ g k b = ρ (g b) := by unfold Ren; rw [h]; rfl
theorem Ren_some {g : Nat → Nat} {k : Nat → Bool} {b : Nat} {x : Nat × Nat} (h : Ren ρ g k b = some x) : k b = true ∧ ρ (g b) = some x := by
  unfold Ren at h
  cases hk : k b with
  | false => rw [hk] at h; cases h
  | true => rw [hk] at h; exact ⟨rfl, h⟩
theorem symFit_ok {e0 : E} {k : IntKind} {e : E} {a : A} {v : Value} (hf : symFit e0 k e a = true) (hs : σ2 0 = e0.den σ) (h : AR ρ σ a v) : v = .int k (e.den σ2) := by
  unfold symFit at hf
  split at hf
  · rename_i k' n
    simp only [Bool.and_eq_true] at hf
    obtain ⟨h1, h2, h3⟩ := hf
    have h1 := kind_inj h1
    subst h1
    split at h3
    · rename_i m
      rw [intEqb_eq] at h3
      have h4 : e.den σ2 = e.den (at0 m) := by rw [← den_at0 h2 σ2, hs]; rfl
      rw [h4, eq_of_beq h3]
      exact h
    · cases h3
  · rename_i k' e'
    simp only [Bool.and_eq_true, Bool.or_eq_true] at hf
    obtain ⟨h1, h2⟩ := hf
    have h1 := kind_inj h1
    subst h1
    rcases h2 with h2 | ⟨h2, h3, h4⟩
    · split at h2
      · rename_i i
        simp only [Bool.and_eq_true] at h2
        have h3 := beq_eq h2.1
        subst h3
        have h4 := Eng.eqb_eq h2.2
        subst h4
        show v = .int _ (σ2 0)
        rw [hs]
        exact h
      · cases h2
    · have h2 := Eng.eqb_eq h2
      subst h2
      have h4 := Eng.eqb_eq h4
      subst h4
      have h5 : σ2 0 = σ 0 := hs
      rw [← den_at0 h3 σ2, h5, den_at0 h3 σ]
      exact h
  · cases hf
theorem A.fitsG_ok {g : Nat → Nat} {k : Nat → Bool} {e0 : E} {a b : A} {v : Value} (hf : a.fitsG g e0 b = true) (hw : b.within k = true) (hs : σ2 0 = e0.den σ) (h : AR ρ σ a v) : AR (Ren ρ g k) σ2 b v := by
  cases b with
  | any =>
    cases a <;> first | (cases hf; done) | skip
    · obtain ⟨r, S, _, h1⟩ := h; exact ⟨_, _, _, h1⟩
    · obtain ⟨r, S, c, _, h1, _⟩ := h; exact ⟨_, _, _, h1⟩
    · exact ⟨_, _, _, h⟩
    · obtain ⟨x, c, h1⟩ := h; exact ⟨_, _, _, h1⟩
    · exact h
    · obtain ⟨r, S, N, _, h1, _⟩ := h; exact ⟨_, _, _, h1⟩
  | sym q e => exact symFit_ok hf hs h
  | wsl b es n => cases hf
  | yld l => cases hf
  | ptr b o =>
    cases a <;> first | (cases hf; done) | skip
    rename_i b' o'
    have hf' : (Nat.beq b' (g b) && Nat.beq o' o) = true := hf
    simp only [Bool.and_eq_true] at hf'
    have e1 := beq_eq hf'.1
    have e2 := beq_eq hf'.2
    subst e1; subst e2
    obtain ⟨r, S, h1, h2⟩ := h
    exact ⟨r, S, by rw [Ren_of hw]; exact h1, h2⟩
  | slice b o l c =>
    cases a <;> first | (cases hf; done) | skip
    rename_i b' o' l' c'
    have hf' : (Nat.beq b' (g b) && (Nat.beq o' o && (Nat.beq l' l && Nat.beq c' c))) = true := hf
    simp only [Bool.and_eq_true] at hf'
    have e1 := beq_eq hf'.1
    have e2 := beq_eq hf'.2.1
    have e3 := beq_eq hf'.2.2.1
    have e4 := beq_eq hf'.2.2.2
    subst e1; subst e2; subst e3; subst e4
    obtain ⟨r, S, h1, h2⟩ := h
    exact ⟨r, S, by rw [Ren_of hw]; exact h1, h2⟩
  | fsl b o l c =>
    cases a <;> first | (cases hf; done) | skip
    rename_i b' o' l' c'
    have hf' : (Nat.beq b' (g b) && (Nat.beq o' o && (Nat.beq l' l && Nat.beq c' c))) = true := hf
    simp only [Bool.and_eq_true] at hf'
    have e1 := beq_eq hf'.1
    have e2 := beq_eq hf'.2.1
    have e3 := beq_eq hf'.2.2.1
    have e4 := beq_eq hf'.2.2.2
    subst e1; subst e2; subst e3; subst e4
    obtain ⟨r, S, cc, h1, h2⟩ := h
    exact ⟨r, S, cc, by rw [Ren_of hw]; exact h1, h2⟩
  | map r =>
    cases a <;> first | (cases hf; done) | skip
    rename_i r'
    have e1 := beq_eq (show Nat.beq r' (g r) = true from hf)
    subst e1
    obtain ⟨x, S, h1, h2⟩ := h
    exact ⟨x, S, by rw [Ren_of hw]; exact h1, h2⟩
  | fn f cs =>
    have hf' : (List.isEmpty cs && a.eqb (.fn f cs)) = true := hf
    simp only [Bool.and_eq_true] at hf'
    have e1 := List.isEmpty_iff.1 hf'.1
    subst e1
    have e2 := A.eqb_eq hf'.2
    subst e2
    obtain ⟨vs, h1, h2⟩ := h
    cases h2
    exact ⟨[], h1, .nil⟩
  | bool x => have := A.eqb_eq (show a.eqb (.bool x) = true from hf); subst this; exact h
  | int q n => have := A.eqb_eq (show a.eqb (.int q n) = true from hf); subst this; exact h
  | str s => have := A.eqb_eq (show a.eqb (.str s) = true from hf); subst this; exact h
  | nilp => have := A.eqb_eq (show a.eqb .nilp = true from hf); subst this; exact h
  | nils => have := A.eqb_eq (show a.eqb .nils = true from hf); subst this; exact h
  | emp => have := A.eqb_eq (show a.eqb .emp = true from hf); subst this; exact h
  | nilm => have := A.eqb_eq (show a.eqb .nilm = true from hf); subst this; exact h
  | nilf => have := A.eqb_eq (show a.eqb .nilf = true from hf); subst this; exact h
def optFitsG (g : Nat → Nat) (e0 : E) (found stated : Option A) : Bool := match stated with
  | none => true
  | some b => match found with | some a => a.fitsG g e0 b | none => false
def cellsFitsG (g : Nat → Nat) (e0 : E) (a : T A) : T A → Bool :=
  @T.rec A (fun _ => T A → Bool) (fun b => @T.rec A (fun _ => Bool) true (fun _ _ _ _ _ => false) b)
    (fun v _ _ rl rr b => @T.rec A (fun _ => Bool) true (fun v' l' r' _ _ => optFitsG g e0 v v' && (rl l' && rr r')) b) a
theorem cellsFitsG_get {g : Nat → Nat} {e0 : E} : ∀ {t u : T A} {i : Nat} {b : A}, cellsFitsG g e0 t u = true → T.get u i = some b → ∃ a, T.get t i = some a ∧ a.fitsG g e0 b = true := by
  intro t
  induction t with
  | nil => intro u i b h hg; cases u with | nil => cases hg | node v l r => cases h
  | node v l r ihl ihr =>
    intro u i b h hg
    cases u with
    | nil => cases hg
    | node v' l' r' =>
      have h' : (optFitsG g e0 v v' && (cellsFitsG g e0 l l' && cellsFitsG g e0 r r')) = true := h
      simp only [Bool.and_eq_true] at h'
      cases i with
      | zero =>
        have hv : v' = some b := hg
        subst hv
        have h1 := h'.1
        unfold optFitsG at h1
        cases v with
        | none => cases h1
        | some a => exact ⟨a, rfl, h1⟩
      | succ m =>
        have hg' : @Bool.rec (fun _ => Option A) (T.get r' (Nat.div m 2)) (T.get l' (Nat.div m 2)) (Nat.beq (Nat.mod m 2) 0) = some b := hg
        show ∃ a, @Bool.rec (fun _ => Option A) (T.get r (Nat.div m 2)) (T.get l (Nat.div m 2)) (Nat.beq (Nat.mod m 2) 0) = some a ∧ _
        cases hb : Nat.beq (Nat.mod m 2) 0 with
        | true => rw [hb] at hg'; exact ihl h'.2.1 hg'
        | false => rw [hb] at hg'; exact ihr h'.2.2 hg'
/-- a block's sibling is none of those that are written down -/
def sibOut (g : Nat → Nat) (l : List (Nat × Blk)) (s : Option Nat) : Bool := match s with | none => true | some b => l.all fun p => bnot (Nat.beq (g p.1) b)
def fitsBlkG (g : Nat → Nat) (e0 : E) (h : H) (l : List (Nat × Blk)) (p : Nat × Blk) : Bool := match h.get (g p.1) with
  | some (.cells c n f s) => (match p.2 with | .cells c' n' f' none => Nat.beq n n' && (boolEqb f f' && (sibOut g l s && cellsFitsG g e0 c c')) | _ => false)
  | _ => false
def allFitsG (g : Nat → Nat) (e0 : E) (h : H) (l0 l : List (Nat × Blk)) : Bool := @List.rec (Nat × Blk) (fun _ => Bool) true (fun p _ r => @Bool.rec (fun _ => Bool) false r (fitsBlkG g e0 h l0 p)) l
theorem allFitsG_get {g : Nat → Nat} {e0 : E} {h : H} {l0 : List (Nat × Blk)} : ∀ {l : List (Nat × Blk)}, allFitsG g e0 h l0 l = true → ∀ p ∈ l, fitsBlkG g e0 h l0 p = true := by
  intro l
  induction l with
  | nil => intro _ p hp; cases hp
  | cons q l ih =>
    intro hk p hp
    have hk' : @Bool.rec (fun _ => Bool) false (allFitsG g e0 h l0 l) (fitsBlkG g e0 h l0 q) = true := hk
    cases hb : fitsBlkG g e0 h l0 q with
    | false => rw [hb] at hk'; cases hk'
    | true =>
      rw [hb] at hk'
      rcases List.mem_cons.1 hp with e | e
      · subst e; exact hb
      · exact ih hk' p e
theorem fitsBlkG_some {g : Nat → Nat} {e0 : E} {h : H} {l : List (Nat × Blk)} {p : Nat × Blk} (hf : fitsBlkG g e0 h l p = true) :
    ∃ c n f s c', h.get (g p.1) = some (.cells c n f s) ∧ p.2 = .cells c' n f none ∧ sibOut g l s = true ∧ cellsFitsG g e0 c c' = true := by
  unfold fitsBlkG at hf
  split at hf
  · rename_i c n f s hg
    split at hf
    · rename_i c' n' f' hp
      simp only [Bool.and_eq_true] at hf
      obtain ⟨h1, h2, h3, h4⟩ := hf
      have h1 := beq_eq h1
      subst h1
      rw [boolEqb_eq] at h2
      have h2 := eq_of_beq h2
      subst h2
      exact ⟨c, n, f, s, c', hg, hp, h3, h4⟩
    · cases hf
  · cases hf
theorem Rel.moveG {h : H} {w : World} (hr : Rel ρ σ C h w) {l : List (Nat × Blk)} {n : Nat} {g : Nat → Nat} (hgi : ∀ b b', g b = g b' → b = b') {e0 : E} (hs : σ2 0 = e0.den σ) (hg : allFitsG g e0 h l l = true) (hc : closedL l n = true) : Rel (Ren ρ g (hasKey l)) σ2 C (heapOf l n) w where
  lt := by
    intro b r S hb
    obtain ⟨hk, _⟩ := Ren_some hb
    obtain ⟨p, hp, hpb⟩ := List.any_eq_true.1 hk
    have := List.all_eq_true.1 hc p hp
    simp only [Bool.and_eq_true] at this
    have h1 : p.1 < n := by have := this.1; rwa [Nat.blt_eq] at this
    rw [beq_eq hpb] at h1
    exact h1
  blk := by
    intro b r S hb
    obtain ⟨hk, hb'⟩ := Ren_some hb
    obtain ⟨o, ho, hx⟩ := hr.blk (g b) r S hb'
    refine ⟨o, ho, fun x hgx => ?_⟩
    have hm := heapOf_get hgx
    have hcl := List.all_eq_true.1 hc _ hm
    simp only [Bool.and_eq_true] at hcl
    obtain ⟨c, n', f, s, c', q1, q2, q3, q4⟩ := fitsBlkG_some (allFitsG_get hg _ hm)
    have q2' : x = .cells c' n' f none := q2
    subst q2'
    obtain ⟨cs, e, h1, h2, h3, h4, h5⟩ := hx _ q1
    refine ⟨cs, e, h1, h2, h3, h4, fun i a hi ha => ?_⟩
    obtain ⟨a', ha', hfit⟩ := cellsFitsG_get q4 ha
    obtain ⟨v, hv, har⟩ := h5 i a' hi ha'
    have hwi : cellsWithin (hasKey l) c' = true := hcl.2
    exact ⟨v, hv, A.fitsG_ok hfit (cellsWithin_get hwi ha) hs har⟩
  inj := by
    intro b b' r S S' hb hb' ⟨y, hy, hd⟩ ⟨y', hy', hd'⟩
    obtain ⟨_, hb⟩ := Ren_some hb
    obtain ⟨_, hb'⟩ := Ren_some hb'
    have hm := heapOf_get hy
    have hm' := heapOf_get hy'
    obtain ⟨c, n1, f, s, c', q1, q2, q3, q4⟩ := fitsBlkG_some (allFitsG_get hg _ hm)
    obtain ⟨d, n2, f2, s2, d', p1, p2, p3, p4⟩ := fitsBlkG_some (allFitsG_get hg _ hm')
    rcases hr.inj (g b) (g b') r S S' hb hb' ⟨_, q1, by intro e; cases e⟩ ⟨_, p1, by intro e; cases e⟩ with e | ⟨c2, n', f', e⟩
    · exact .inl (hgi _ _ e)
    · exfalso
      rw [show h.get (g b) = _ from q1] at e
      cases e
      have h1 := List.all_eq_true.1 (show (l.all fun p => bnot (Nat.beq (g p.1) (g b'))) = true from q3) _ hm'
      simp [bnot_eq, Nat.beq_refl] at h1
end Eng
end

noncomputable section
namespace Eng
open Go Go.RowKit
variable {P : Program} {C C' : Cfg} {σ σ2 : Sig} {ρ ρ' : Rho}

/- as R45, with maps, and with a test of its own for numbers -/
abbrev FitF := IntKind → E → A → Bool
def FitOK (σ σ2 : Sig) (ft : FitF) : Prop := ∀ k e a (ρ : Rho) v, ft k e a = true → AR ρ σ a v → v = .int k (e.den σ2)
def fitSame : FitF := fun k e a => match a with | .sym k' e' => Nat.beq (kindNo k) (kindNo k') && e'.eqb e | _ => false
theorem fitSame_ok (σ : Sig) : FitOK σ σ fitSame := by
  intro k e a ρ v h ha
  unfold fitSame at h
  split at h
  · rename_i k' e'
    simp only [Bool.and_eq_true] at h
    rw [kind_inj h.1, ← Eng.eqb_eq h.2]
    exact ha
  · cases h
/-- the symbol 0 is what e0 comes to, the symbol 1 what e1 does -/
def fitTo (e0 e1 : E) : FitF := fun k e a => symFit e0 k e a || (match e, a with | .var i, .sym k' e' => Nat.beq i 1 && (Nat.beq (kindNo k) (kindNo k') && e'.eqb e1) | _, _ => false)
theorem fitTo_ok {σ σ2 : Sig} {e0 e1 : E} (h0 : σ2 0 = e0.den σ) (h1 : σ2 1 = e1.den σ) : FitOK σ σ2 (fitTo e0 e1) := by
  intro k e a ρ v h ha
  unfold fitTo at h
  simp only [Bool.or_eq_true] at h
  rcases h with h | h
  · exact symFit_ok h h0 ha
  · split at h
    · rename_i i k' e'
      simp only [Bool.and_eq_true] at h
      have e1 := beq_eq h.1
      subst e1
      rw [kind_inj h.2.1]
      show v = .int _ (σ2 1)
      rw [h1, ← Eng.eqb_eq h.2.2]
      exact ha
    · cases h
def A.fitsX (g : Nat → Nat) (ft : FitF) (found stated : A) : Bool := match stated with
  | .any => anySl found
  | .sym k e => ft k e found
  | .wsl .. => false
  | .yld _ => false
  | .ptr b o => (match found with | .ptr b' o' => Nat.beq b' (g b) && Nat.beq o' o | _ => false)
  | .slice b o l c => (match found with | .slice b' o' l' c' => Nat.beq b' (g b) && (Nat.beq o' o && (Nat.beq l' l && Nat.beq c' c)) | _ => false)
  | .fsl b o l c => (match found with | .fsl b' o' l' c' => Nat.beq b' (g b) && (Nat.beq o' o && (Nat.beq l' l && Nat.beq c' c)) | _ => false)
  | .map r => (match found with | .map r' => Nat.beq r' (g r) | _ => false)
  | .fn _ cs => List.isEmpty cs && found.eqb stated
  | a => found.eqb a
theorem A.fitsX_ok {g : Nat → Nat} {k : Nat → Bool} {ft : FitF} {a b : A} {v : Value} (hf : a.fitsX g ft b = true) (hw : b.within k = true) (hs : FitOK σ σ2 ft) (h : AR ρ σ a v) : AR (Ren ρ g k) σ2 b v := by
  cases b with
  | any =>
    cases a <;> first | (cases hf; done) | skip
    · obtain ⟨r, S, _, h1⟩ := h; exact ⟨_, _, _, h1⟩
    · obtain ⟨r, S, c, _, h1, _⟩ := h; exact ⟨_, _, _, h1⟩
    · exact ⟨_, _, _, h⟩
    · obtain ⟨x, c, h1⟩ := h; exact ⟨_, _, _, h1⟩
    · exact h
    · obtain ⟨r, S, N, _, h1, _⟩ := h; exact ⟨_, _, _, h1⟩
  | sym q e => exact hs _ _ _ _ _ hf h
  | wsl b es n => cases hf
  | yld l => cases hf
  | ptr b o =>
    cases a <;> first | (cases hf; done) | skip
    rename_i b' o'
    have hf' : (Nat.beq b' (g b) && Nat.beq o' o) = true := hf
    simp only [Bool.and_eq_true] at hf'
    have e1 := beq_eq hf'.1
    have e2 := beq_eq hf'.2
    subst e1; subst e2
    obtain ⟨r, S, h1, h2⟩ := h
    exact ⟨r, S, by rw [Ren_of hw]; exact h1, h2⟩
  | slice b o l c =>
    cases a <;> first | (cases hf; done) | skip
    rename_i b' o' l' c'
    have hf' : (Nat.beq b' (g b) && (Nat.beq o' o && (Nat.beq l' l && Nat.beq c' c))) = true := hf
    simp only [Bool.and_eq_true] at hf'
    have e1 := beq_eq hf'.1
    have e2 := beq_eq hf'.2.1
    have e3 := beq_eq hf'.2.2.1
    have e4 := beq_eq hf'.2.2.2
    subst e1; subst e2; subst e3; subst e4
    obtain ⟨r, S, h1, h2⟩ := h
    exact ⟨r, S, by rw [Ren_of hw]; exact h1, h2⟩
  | fsl b o l c =>
    cases a <;> first | (cases hf; done) | skip
    rename_i b' o' l' c'
    have hf' : (Nat.beq b' (g b) && (Nat.beq o' o && (Nat.beq l' l && Nat.beq c' c))) = true := hf
    simp only [Bool.and_eq_true] at hf'
    have e1 := beq_eq hf'.1
    have e2 := beq_eq hf'.2.1
    have e3 := beq_eq hf'.2.2.1
    have e4 := beq_eq hf'.2.2.2
    subst e1; subst e2; subst e3; subst e4
    obtain ⟨r, S, cc, h1, h2⟩ := h
    exact ⟨r, S, cc, by rw [Ren_of hw]; exact h1, h2⟩
  | map r =>
    cases a <;> first | (cases hf; done) | skip
    rename_i r'
    have e1 := beq_eq (show Nat.beq r' (g r) = true from hf)
    subst e1
    obtain ⟨x, S, h1, h2⟩ := h
    exact ⟨x, S, by rw [Ren_of hw]; exact h1, h2⟩
  | fn f cs =>
    have hf' : (List.isEmpty cs && a.eqb (.fn f cs)) = true := hf
    simp only [Bool.and_eq_true] at hf'
    have e1 := List.isEmpty_iff.1 hf'.1
    subst e1
    have e2 := A.eqb_eq hf'.2
    subst e2
    obtain ⟨vs, h1, h2⟩ := h
    cases h2
    exact ⟨[], h1, .nil⟩
  | bool x => have := A.eqb_eq (show a.eqb (.bool x) = true from hf); subst this; exact h
  | int q n => have := A.eqb_eq (show a.eqb (.int q n) = true from hf); subst this; exact h
  | str s => have := A.eqb_eq (show a.eqb (.str s) = true from hf); subst this; exact h
  | nilp => have := A.eqb_eq (show a.eqb .nilp = true from hf); subst this; exact h
  | nils => have := A.eqb_eq (show a.eqb .nils = true from hf); subst this; exact h
  | emp => have := A.eqb_eq (show a.eqb .emp = true from hf); subst this; exact h
  | nilm => have := A.eqb_eq (show a.eqb .nilm = true from hf); subst this; exact h
  | nilf => have := A.eqb_eq (show a.eqb .nilf = true from hf); subst this; exact h
def optFitsX (g : Nat → Nat) (ft : FitF) (found stated : Option A) : Bool := match stated with
  | none => true
  | some b => match found with | some a => a.fitsX g ft b | none => false
def cellsFitsX (g : Nat → Nat) (ft : FitF) (a : T A) : T A → Bool :=
  @T.rec A (fun _ => T A → Bool) (fun b => @T.rec A (fun _ => Bool) true (fun _ _ _ _ _ => false) b)
    (fun v _ _ rl rr b => @T.rec A (fun _ => Bool) true (fun v' l' r' _ _ => optFitsX g ft v v' && (rl l' && rr r')) b) a
theorem cellsFitsX_get {g : Nat → Nat} {ft : FitF} : ∀ {t u : T A} {i : Nat} {b : A}, cellsFitsX g ft t u = true → T.get u i = some b → ∃ a, T.get t i = some a ∧ a.fitsX g ft b = true := by
  intro t
  induction t with
  | nil => intro u i b h hg; cases u with | nil => cases hg | node v l r => cases h
  | node v l r ihl ihr =>
    intro u i b h hg
    cases u with
    | nil => cases hg
    | node v' l' r' =>
      have h' : (optFitsX g ft v v' && (cellsFitsX g ft l l' && cellsFitsX g ft r r')) = true := h
      simp only [Bool.and_eq_true] at h'
      cases i with
      | zero =>
        have hv : v' = some b := hg
        subst hv
        have h1 := h'.1
        unfold optFitsX at h1
        cases v with
        | none => cases h1
        | some a => exact ⟨a, rfl, h1⟩
      | succ m =>
        have hg' : @Bool.rec (fun _ => Option A) (T.get r' (Nat.div m 2)) (T.get l' (Nat.div m 2)) (Nat.beq (Nat.mod m 2) 0) = some b := hg
        show ∃ a, @Bool.rec (fun _ => Option A) (T.get r (Nat.div m 2)) (T.get l (Nat.div m 2)) (Nat.beq (Nat.mod m 2) 0) = some a ∧ _
        cases hb : Nat.beq (Nat.mod m 2) 0 with
        | true => rw [hb] at hg'; exact ihl h'.2.1 hg'
        | false => rw [hb] at hg'; exact ihr h'.2.2 hg'
def VfitsX (g : Nat → Nat) (ft : FitF) : V → V → Bool
  | .one a, .one b => a.fitsX g ft b
  | .agg l, .agg m => listEqb (A.fitsX g ft) l m
  | _, _ => false
def AVfitsX (g : Nat → Nat) (ft : FitF) : AV → AV → Bool
  | .one a, .one b => a.fitsX g ft b
  | .agg l, .agg m => listEqb (A.fitsX g ft) l m
  | _, _ => false
theorem F2.fitsX {g : Nat → Nat} {k : Nat → Bool} {ft : FitF} (hs : FitOK σ σ2 ft) : ∀ {l m : List A} {vs : List Value}, listEqb (A.fitsX g ft) l m = true → m.all (A.within k) = true → F2 (AR ρ σ) l vs → F2 (AR (Ren ρ g k) σ2) m vs := by
  intro l
  induction l with
  | nil => intro m vs hl _ h; cases m with | nil => cases h; exact .nil | cons => cases hl
  | cons a l ih =>
    intro m vs hl hw h
    cases m with
    | nil => cases hl
    | cons b m =>
      have hl' := listEqb_cons hl
      simp only [List.all_cons, Bool.and_eq_true] at hw
      cases h with
      | cons h1 h2 => exact .cons (A.fitsX_ok hl'.1 hw.1 hs h1) (ih hl'.2 hw.2 h2)
theorem VfitsX_ok {g : Nat → Nat} {k : Nat → Bool} {ft : FitF} (hs : FitOK σ σ2 ft) {a b : V} {v : Value} (hf : VfitsX g ft a b = true) (hw : b.within k = true) (h : VR ρ σ a v) : VR (Ren ρ g k) σ2 b v := by
  cases a with
  | one a => cases b with
    | one b => exact A.fitsX_ok hf hw hs h
    | agg l => cases hf
  | agg l => cases b with
    | one b => cases hf
    | agg m => obtain ⟨vs, h1, h2⟩ := h; exact ⟨vs, h1, F2.fitsX hs hf hw h2⟩
theorem AVfitsX_ok {g : Nat → Nat} {k : Nat → Bool} {ft : FitF} (hs : FitOK σ σ2 ft) {a b : AV} {v : Value} (hf : AVfitsX g ft a b = true) (hw : b.within k = true) (h : AVR ρ σ a v) : AVR (Ren ρ g k) σ2 b v := by
  cases a with
  | one a => cases b with
    | one b => exact A.fitsX_ok hf hw hs h
    | agg l => cases hf
    | tup l => cases hf
  | agg l => cases b with
    | one b => cases hf
    | agg m => obtain ⟨vs, h1, h2⟩ := h; exact ⟨vs, h1, F2.fitsX hs hf hw h2⟩
    | tup l => cases hf
  | tup l => cases b <;> cases hf
def MEfitsX (g : Nat → Nat) (ft : FitF) (a b : ME) : Bool := VfitsX g ft a.key b.key && (VfitsX g ft a.val b.val && Nat.beq a.born b.born)
theorem F2.fitsXM {g : Nat → Nat} {k : Nat → Bool} {ft : FitF} (hs : FitOK σ σ2 ft) : ∀ {l m : List ME} {vs : List MapEntry}, listEqb (MEfitsX g ft) l m = true → (m.all fun e => e.key.within k && e.val.within k) = true → F2 (MER ρ σ) l vs → F2 (MER (Ren ρ g k) σ2) m vs := by
  intro l
  induction l with
  | nil => intro m vs hl _ h; cases m with | nil => cases h; exact .nil | cons => cases hl
  | cons a l ih =>
    intro m vs hl hw h
    cases m with
    | nil => cases hl
    | cons b m =>
      have hl' := listEqb_cons hl
      simp only [Bool.and_eq_true, MEfitsX] at hl'
      simp only [List.all_cons, Bool.and_eq_true] at hw
      cases h with
      | cons h1 h2 =>
        obtain ⟨q1, q2, q3⟩ := h1
        exact .cons ⟨VfitsX_ok hs hl'.1.1 hw.1.1 q1, VfitsX_ok hs hl'.1.2.1 hw.1.2 q2, q3.trans (beq_eq hl'.1.2.2)⟩ (ih hl'.2 (by simpa using hw.2) h2)
def fitsBlkX (g : Nat → Nat) (ft : FitF) (h : H) (l : List (Nat × Blk)) (p : Nat × Blk) : Bool := match h.get (g p.1) with
  | some (.cells c n f s) => (match p.2 with | .cells c' n' f' none => Nat.beq n n' && (boolEqb f f' && (sibOut g l s && cellsFitsX g ft c c')) | _ => false)
  | some (.map es k) => (match p.2 with | .map es' k' => Nat.beq k k' && listEqb (MEfitsX g ft) es es' | _ => false)
  | _ => false
def allFitsX (g : Nat → Nat) (ft : FitF) (h : H) (l0 l : List (Nat × Blk)) : Bool := @List.rec (Nat × Blk) (fun _ => Bool) true (fun p _ r => @Bool.rec (fun _ => Bool) false r (fitsBlkX g ft h l0 p)) l
theorem allFitsX_get {g : Nat → Nat} {ft : FitF} {h : H} {l0 : List (Nat × Blk)} : ∀ {l : List (Nat × Blk)}, allFitsX g ft h l0 l = true → ∀ p ∈ l, fitsBlkX g ft h l0 p = true := by
  intro l
  induction l with
  | nil => intro _ p hp; cases hp
  | cons q l ih =>
    intro hk p hp
    have hk' : @Bool.rec (fun _ => Bool) false (allFitsX g ft h l0 l) (fitsBlkX g ft h l0 q) = true := hk
    cases hb : fitsBlkX g ft h l0 q with
    | false => rw [hb] at hk'; cases hk'
    | true =>
      rw [hb] at hk'
      rcases List.mem_cons.1 hp with e | e
      · subst e; exact hb
      · exact ih hk' p e
theorem fitsBlkX_some {g : Nat → Nat} {ft : FitF} {h : H} {l : List (Nat × Blk)} {p : Nat × Blk} (hf : fitsBlkX g ft h l p = true) :
    (∃ c n f s c', h.get (g p.1) = some (.cells c n f s) ∧ p.2 = .cells c' n f none ∧ sibOut g l s = true ∧ cellsFitsX g ft c c' = true) ∨
    (∃ es es' k, h.get (g p.1) = some (.map es k) ∧ p.2 = .map es' k ∧ listEqb (MEfitsX g ft) es es' = true) := by
  unfold fitsBlkX at hf
  split at hf
  · rename_i c n f s hg
    split at hf
    · rename_i c' n' f' hp
      simp only [Bool.and_eq_true] at hf
      obtain ⟨h1, h2, h3, h4⟩ := hf
      have h1 := beq_eq h1
      subst h1
      rw [boolEqb_eq] at h2
      have h2 := eq_of_beq h2
      subst h2
      exact .inl ⟨c, n, f, s, c', hg, hp, h3, h4⟩
    · cases hf
  · rename_i es k hg
    split at hf
    · rename_i es' k' hp
      simp only [Bool.and_eq_true] at hf
      have h1 := beq_eq hf.1
      subst h1
      exact .inr ⟨es, es', k, hg, hp, hf.2⟩
    · cases hf
  · cases hf
theorem fitsBlkX_live {g : Nat → Nat} {ft : FitF} {h : H} {l : List (Nat × Blk)} {p : Nat × Blk} (hf : fitsBlkX g ft h l p = true) : Live h (g p.1) := by
  rcases fitsBlkX_some hf with ⟨c, n, f, s, c', q1, _⟩ | ⟨es, es', k, q1, _⟩
  · exact ⟨_, q1, by intro e; cases e⟩
  · exact ⟨_, q1, by intro e; cases e⟩
theorem Rel.moveX {h : H} {w : World} (hr : Rel ρ σ C h w) {l : List (Nat × Blk)} {n : Nat} {g : Nat → Nat} (hgi : ∀ b b', g b = g b' → b = b') {ft : FitF} (hs : FitOK σ σ2 ft) (hg : allFitsX g ft h l l = true) (hc : closedL l n = true) : Rel (Ren ρ g (hasKey l)) σ2 C (heapOf l n) w where
  lt := by
    intro b r S hb
    obtain ⟨hk, _⟩ := Ren_some hb
    obtain ⟨p, hp, hpb⟩ := List.any_eq_true.1 hk
    have := List.all_eq_true.1 hc p hp
    simp only [Bool.and_eq_true] at this
    have h1 : p.1 < n := by have := this.1; rwa [Nat.blt_eq] at this
    rw [beq_eq hpb] at h1
    exact h1
  blk := by
    intro b r S hb
    obtain ⟨hk, hb'⟩ := Ren_some hb
    obtain ⟨o, ho, hx⟩ := hr.blk (g b) r S hb'
    refine ⟨o, ho, fun x hgx => ?_⟩
    have hm := heapOf_get hgx
    have hcl := List.all_eq_true.1 hc _ hm
    simp only [Bool.and_eq_true] at hcl
    rcases fitsBlkX_some (allFitsX_get hg _ hm) with ⟨c, n', f, s, c', q1, q2, q3, q4⟩ | ⟨es, es', k', q1, q2, q3⟩
    · have q2' : x = .cells c' n' f none := q2
      subst q2'
      obtain ⟨cs, e, h1, h2, h3, h4, h5⟩ := hx _ q1
      refine ⟨cs, e, h1, h2, h3, h4, fun i a hi ha => ?_⟩
      obtain ⟨a', ha', hfit⟩ := cellsFitsX_get q4 ha
      obtain ⟨v, hv, har⟩ := h5 i a' hi ha'
      have hwi : cellsWithin (hasKey l) c' = true := hcl.2
      exact ⟨v, hv, A.fitsX_ok hfit (cellsWithin_get hwi ha) hs har⟩
    · have q2' : x = .map es' k' := q2
      subst q2'
      obtain ⟨ms, h1, h2⟩ := hx _ q1
      exact ⟨ms, h1, F2.fitsXM hs q3 hcl.2 h2⟩
  inj := by
    intro b b' r S S' hb hb' ⟨y, hy, hd⟩ ⟨y', hy', hd'⟩
    obtain ⟨_, hb⟩ := Ren_some hb
    obtain ⟨_, hb'⟩ := Ren_some hb'
    have hm := heapOf_get hy
    have hm' := heapOf_get hy'
    have hf := allFitsX_get hg _ hm
    have hf' := allFitsX_get hg _ hm'
    rcases hr.inj (g b) (g b') r S S' hb hb' (fitsBlkX_live hf) (fitsBlkX_live hf') with e | ⟨c2, n', f', e⟩
    · exact .inl (hgi _ _ e)
    · exfalso
      rcases fitsBlkX_some hf with ⟨c, n1, f, s, c', q1, q2, q3, q4⟩ | ⟨es, es', k', q1, _⟩
      · rw [show h.get (g b) = _ from q1] at e
        cases e
        have h1 := List.all_eq_true.1 (show (l.all fun p => bnot (Nat.beq (g p.1) (g b'))) = true from q3) _ hm'
        simp [bnot_eq, Nat.beq_refl] at h1
      · rw [show h.get (g b) = _ from q1] at e
        cases e
end Eng
end

noncomputable section
namespace Eng
open Go Go.RowKit
variable {P : Program} {C C' : Cfg} {σ σ1 σ2 σ3 : Sig} {ρ ρ' : Rho}

/- code that is evaluated piece by piece; between two pieces what was found is seen as what is written down -/
structure XE (ρ ρ' : Rho) (h h' : H) (w w' : World) : Prop where
  new : ∀ b r S, ρ' b = some (r, S) → w.heap.size ≤ r ∨ ∃ b0 S0, ρ b0 = some (r, S0) ∧ (Live h' b → Live h b0)
  size : w.heap.size ≤ w'.heap.size
  frame : ∀ r, r < w.heap.size → (∀ b S, ρ b = some (r, S) → ¬ Live h b) → w'.heap[r]? = w.heap[r]?
  os : w'.os = w.os
  tape : w'.tape = w.tape
  output : w'.output = w.output
  fz : ∀ a, w'.frozen? a = w.frozen? a
theorem Ext.toX {h h' : H} {w w' : World} (g : Ext ρ ρ' h h' w w') : XE ρ ρ' h h' w w' := by
  refine ⟨?_, g.size, g.frame, g.os, g.tape, g.output, g.fz⟩
  intro b r S hb
  rcases Nat.lt_or_ge b h.next with e | e
  · exact .inr ⟨b, S, by rw [← g.old b e]; exact hb, g.live b e⟩
  · rcases g.new b r S e hb with q | ⟨b0, S0, q1, q2⟩
    · exact .inl q
    · exact .inr ⟨b0, S0, q1, fun _ => q2⟩
theorem XE.trans {ρ1 ρ2 : Rho} {h h1 h2 : H} {w w1 w2 : World} (a : XE ρ ρ1 h h1 w w1) (b : XE ρ1 ρ2 h1 h2 w1 w2) : XE ρ ρ2 h h2 w w2 := by
  refine ⟨?_, Nat.le_trans a.size b.size, ?_, b.os.trans a.os, b.tape.trans a.tape, b.output.trans a.output, fun x => (b.fz x).trans (a.fz x)⟩
  · intro k r S hb
    rcases b.new k r S hb with e | ⟨b1, S1, q1, q2⟩
    · exact .inl (Nat.le_trans a.size e)
    · rcases a.new b1 r S1 q1 with e | ⟨b0, S0, p1, p2⟩
      · exact .inl e
      · exact .inr ⟨b0, S0, p1, fun hl => p2 (q2 hl)⟩
  · intro r hr hn
    rw [b.frame r (Nat.lt_of_lt_of_le hr a.size) ?_, a.frame r hr hn]
    intro k S hb hl
    rcases a.new k r S hb with e | ⟨b0, S0, p1, p2⟩
    · omega
    · exact hn b0 S0 p1 (p2 hl)
theorem XE.toE (hn : ∀ b x, ρ b ≠ some x) {h' : H} {w w' : World} (g : XE ρ ρ' ⟨.nil, 0⟩ h' w w') : Ext ρ ρ' ⟨.nil, 0⟩ h' w w' := by
  refine ⟨Nat.zero_le _, fun b hb => absurd hb (Nat.not_lt_zero _), ?_, g.size, fun b hb => absurd hb (Nat.not_lt_zero _), g.frame, g.os, g.tape, g.output, g.fz⟩
  intro b r S _ hb
  rcases g.new b r S hb with e | ⟨b0, S0, q, _⟩
  · exact .inl e
  · exact absurd q (hn _ _)
def CodeX (P : Program) (C : Cfg) (X : Ctx) (c : Code) (σ : Sig) (fr : FR) (h : H) (o : Out) (σ' : Sig) (fr' : FR) (h' : H) : Prop :=
  ∀ ρ w a b, CtxR C ρ X b → Rel ρ σ C h w → FrR ρ σ X.nt X.nl fr a → ∃ a' w' ρ', CodeR P c b a w o a' w' ∧ FrR ρ' σ' X.nt X.nl fr' a' ∧ Rel ρ' σ' C h' w' ∧ XE ρ ρ' h h' w w'
theorem ctx_any {X : Ctx} {b : Frame} (hn : X.round = none) (h : CtxR C ρ X b) (ρ' : Rho) : CtxR C ρ' X b := by
  refine ⟨h.fi, h.fn, h.kind, ?_⟩
  have := h.round
  rw [hn] at this ⊢
  exact this
theorem CodeX.eval {n0 : Nat} {X : Ctx} {c : Code} {fr fr' : FR} {h h' : H} {o : Out} (hk : Eng.eval C' n0 X (.code c fr) h = some (.code o fr' h')) (hc : CfgOK P C' σ) (hx : ExtOK C' P σ) (hfu : C'.fu = C.fu) : CodeX P C X c σ fr h o σ fr' h' := by
  intro ρ w a b hb hr hf
  obtain ⟨a', w', ρ', h1, h2, h3, h4⟩ := ((eval_ok hc hx n0).1.cfg hfu) X c fr h o fr' h' hk ρ w a b hb hr hf
  exact ⟨a', w', ρ', h1, h2, h3, h4.toX⟩
theorem CodeX.seq {X : Ctx} {c1 c2 : Code} {fr fr1 fr' : FR} {h h1 h' : H} {o : Out} (hn : X.round = none) (hA : CodeX P C X c1 σ fr h .norm σ1 fr1 h1) (hB : CodeX P C X c2 σ1 fr1 h1 o σ2 fr' h') : CodeX P C X (.seq c1 c2) σ fr h o σ2 fr' h' := by
  intro ρ w a b hx hr hf
  obtain ⟨a1, w1, ρ1, hc1, hf1, hr1, hx1⟩ := hA ρ w a b hx hr hf
  obtain ⟨a2, w2, ρ2, hc2, hf2, hr2, hx2⟩ := hB ρ1 w1 a1 b (ctx_any hn hx ρ1) hr1 hf1
  refine ⟨a2, w2, ρ2, ?_, hf2, hr2, hx1.trans hx2⟩
  intro todo k cs hs
  cases hs
  exact .of_steps ((Steps.one stepR_seq).trans (hc1 _ _ cs .code)) (hc2 _ k cs .code)
theorem CodeX.chain {n0 : Nat} {X : Ctx} {rest : Code} (hn : X.round = none) (hc : CfgOK P C' σ) (hx : ExtOK C' P σ) (hfu : C'.fu = C.fu) {fr1 fr' : FR} {h1 h' : H} {o : Out} (hB : CodeX P C X rest σ fr1 h1 o σ2 fr' h') :
    ∀ {cs : List Code} {fr : FR} {h : H}, evs C' n0 X cs fr h = some (.code .norm fr1 h1) → CodeX P C X (nest cs rest) σ fr h o σ2 fr' h' := by
  intro cs
  induction cs with
  | nil => intro fr h hk; cases hk; exact hB
  | cons c l ih =>
    intro fr h hk
    have hk' : (match Eng.eval C' n0 X (.code c fr) h with | some (.code .norm fr' h') => evs C' n0 X l fr' h' | _ => none) = some (.code .norm fr1 h1) := hk
    split at hk'
    · rename_i fr2 h2 he
      exact .seq hn (.eval he hc hx hfu) (ih hk')
    · cases hk'
/-- slots and heap as they were found, seen as they are written down -/
def slotFits (g : Nat → Nat) (ft : FitF) (pt : T AV) (p : Nat × AV) : Bool := match T.get pt p.1 with | some v => AVfitsX g ft v p.2 | none => false
def frFits (g : Nat → Nat) (ft : FitF) (fr : FR) (h : H) (L : List (Nat × AV)) (l : List (Nat × Blk)) : Bool := L.all (slotFits g ft fr.pt) && (List.isEmpty fr.marks && allFitsX g ft h l l)
def closedF (L : List (Nat × AV)) (l : List (Nat × Blk)) (n : Nat) : Bool := closedL l n && L.all fun p => p.2.within (hasKey l)
theorem CodeX.move {X : Ctx} {c : Code} {fr fr' : FR} {h h' : H} {o : Out} {L : List (Nat × AV)} {l : List (Nat × Blk)} {n : Nat} {g : Nat → Nat} {ft : FitF} (hn : X.round = none) (hgi : ∀ b b', g b = g b' → b = b') (hs : FitOK σ σ1 ft)
    (hf : frFits g ft fr h L l = true) (hcl : closedF L l n = true) (hB : CodeX P C X c σ1 (frOf L) (heapOf l n) o σ2 fr' h') : CodeX P C X c σ fr h o σ2 fr' h' := by
  simp only [frFits, Bool.and_eq_true] at hf
  obtain ⟨q1, q2, q3⟩ := hf
  simp only [closedF, Bool.and_eq_true] at hcl
  obtain ⟨c1, c2⟩ := hcl
  intro ρ w a b hx hr hfr
  have hr1 : Rel (Ren ρ g (hasKey l)) σ1 C (heapOf l n) w := hr.moveX hgi hs q3 c1
  have hf1 : FrR (Ren ρ g (hasKey l)) σ1 X.nt X.nl (frOf L) a := by
    refine ⟨hfr.size, ?_, ?_, ?_⟩
    · intro t v ht hg
      have hm := tableOf_mem (show (tableOf L).get t = some v from hg)
      have h1 : slotFits g ft fr.pt (t, v) = true := List.all_eq_true.1 q1 _ hm
      have h2 : v.within (hasKey l) = true := List.all_eq_true.1 c2 _ hm
      unfold slotFits at h1
      split at h1
      · rename_i v0 hv0
        obtain ⟨x, hx1, hx2⟩ := hfr.pt t v0 ht hv0
        exact ⟨x, hx1, AVfitsX_ok hs h1 h2 hx2⟩
      · cases h1
    · intro t v _ hg; cases hg
    · have h1 := hfr.marks
      rw [List.isEmpty_iff.1 q2] at h1
      show F2 _ [] a.defers
      generalize a.defers = d at h1 ⊢
      cases h1
      exact .nil
  obtain ⟨a', w', ρ', g1, g2, g3, g4⟩ := hB _ w a b (ctx_any hn hx _) hr1 hf1
  refine ⟨a', w', ρ', g1, g2, g3, XE.trans ⟨?_, Nat.le_refl _, fun _ _ _ => rfl, rfl, rfl, rfl, fun _ => rfl⟩ g4⟩
  intro k r S hb
  obtain ⟨_, hb'⟩ := Ren_some hb
  refine .inr ⟨g k, S, hb', fun ⟨y, hy, _⟩ => ?_⟩
  exact fitsBlkX_live (allFitsX_get q3 _ (heapOf_get hy))
theorem CodeX.call (hc : CfgOK P C σ) {f : FuncId} {fi : FI} {args : List AV} {o : Out} {fr' : FR} {h1 : H} {v : AV} {h' : H} (hf : C.fu f = some fi) (hx : CodeX P C ⟨f, fi.nt, fi.nl, none⟩ fi.body σ ⟨T.ofList args, .nil, []⟩ ⟨.nil, 0⟩ o σ fr' h1)
    (hk : stRet C fi o fr' h1 = some (.val v h')) {ρ : Rho} {w : World} {vs : List Value} (hr : Rel ρ σ C ⟨.nil, 0⟩ w) (ha : F2 (AVR ρ σ) args vs) : ∃ v' w' ρ', CallR P f vs.toArray w v' w' ∧ AVR ρ' σ v v' ∧ Rel ρ' σ C h' w' ∧ Ext ρ ρ' ⟨.nil, 0⟩ h' w w' := by
  classical
  let X : Ctx := ⟨f, fi.nt, fi.nl, none⟩
  let fr0 : FR := ⟨T.ofList args, .nil, []⟩
  let rec' : Rec := fun X1 t1 hh => if X1 = X ∧ t1 = .code fi.body fr0 ∧ hh = ⟨.nil, 0⟩ then some (.code o fr' h1) else none
  have hrec : CodeS C P σ rec' := by
    intro X1 c1 fr1 hh o1 fr2 h2 he
    have he' : (if X1 = X ∧ Task.code c1 fr1 = .code fi.body fr0 ∧ hh = ⟨.nil, 0⟩ then some (Rs.code o fr' h1) else none) = some (.code o1 fr2 h2) := he
    by_cases e : X1 = X ∧ Task.code c1 fr1 = .code fi.body fr0 ∧ hh = ⟨.nil, 0⟩
    · rw [if_pos e] at he'
      obtain ⟨e1, e2, e3⟩ := e
      injection e2 with e4 e5
      subst e1; subst e4; subst e5; subst e3
      cases he'
      intro ρ w a b hb hr hfr
      obtain ⟨a', w', ρ', g1, g2, g3, g4⟩ := hx ρ w a b hb hr hfr
      exact ⟨a', w', ρ', g1, g2, g3, g4.toE fun k x hk => absurd (hr.lt k x.1 x.2 hk) (Nat.not_lt_zero _)⟩
    · rw [if_neg e] at he'
      cases he'
  have hk' : stCall2 C rec' f args ⟨.nil, 0⟩ fi = some (.val v h') := by
    have e : rec' ⟨f, fi.nt, fi.nl, none⟩ (.code fi.body ⟨T.ofList args, .nil, []⟩) ⟨.nil, 0⟩ = some (.code o fr' h1) := if_pos ⟨rfl, rfl, rfl⟩
    show codeK (rec' ⟨f, fi.nt, fi.nl, none⟩ (.code fi.body ⟨T.ofList args, .nil, []⟩) ⟨.nil, 0⟩) (stRet C fi) = _
    rw [e]
    exact hk
  exact call_s hc hrec hf hk' hr ha
theorem CodeX.calls_true (hc : CfgOK P C σ) {f : FuncId} {fi : FI} {args : List AV} {o : Out} {fr' : FR} {h1 h' : H} (hf : C.fu f = some fi) (hx : CodeX P C ⟨f, fi.nt, fi.nl, none⟩ fi.body σ ⟨T.ofList args, .nil, []⟩ ⟨.nil, 0⟩ o σ fr' h1)
    (hk : stRet C fi o fr' h1 = some (.val (.one (.bool true)) h')) {vs : List Value} (ha : F2 (AVR rho0 σ) args vs) (w : World) : Calls P f vs.toArray w fun e w' => e = .returned (.bool true) ∧ Grown w w' := by
  obtain ⟨v', w', ρ', g1, g2, g3, g4⟩ := CodeX.call hc hf hx hk (rel0 w) ha
  intro cs
  obtain ⟨fr2, s1, s2, s3⟩ := g1.2 cs
  refine ⟨.returned v', w', fr2, ⟨congrArg _ g2, ⟨g4.os, g4.output, ?_⟩, g4.fz, g4.size⟩, s1, s2, s3⟩
  intro j hj
  rw [g4.frame j hj fun b S hb => (nomatch hb)]
  exact (World.keptBut_refl w (fun _ => False)).2.2 j hj
/-- a call from the heap without blocks of which it is known what it comes to -/
def emptyH (h : H) : Bool := @T.rec Blk (fun _ => Bool) true (fun _ _ _ _ _ => false) h.1 && Nat.beq h.2 0
theorem emptyH_eq {h : H} (he : emptyH h = true) : h = ⟨.nil, 0⟩ := by
  obtain ⟨t, n⟩ := h
  simp only [emptyH, Bool.and_eq_true] at he
  have h2 := beq_eq he.2
  subst h2
  cases t with
  | nil => rfl
  | node v l r => exact absurd he.1 (by intro h; cases h)
def extAt (f0 : FuncId) (args0 : List AV) (r : Option (AV × H)) (ext : FuncId → List AV → H → Option (AV × H)) : FuncId → List AV → H → Option (AV × H) :=
  fun f args h => @Bool.rec (fun _ => Option (AV × H)) (ext f args h) r (Nat.beq f f0 && (emptyH h && listEqb AV.eqb args args0))
theorem argsEqb_eq : ∀ {l m : List AV}, listEqb AV.eqb l m = true → l = m := by
  intro l
  induction l with
  | nil => intro m h; cases m with | nil => rfl | cons => cases h
  | cons a l ih =>
    intro m h
    cases m with
    | nil => cases h
    | cons b m =>
      obtain ⟨h1, h2⟩ := listEqb_cons h
      rw [AV.eqb_eq h1, ih h2]
theorem ExtS.at {f0 : FuncId} {args0 : List AV} {r : Option (AV × H)} {ext : FuncId → List AV → H → Option (AV × H)} (h0 : ExtS P σ C ext)
    (hr : ∀ v h', r = some (v, h') → ∀ ρ w vs, Rel ρ σ C ⟨.nil, 0⟩ w → F2 (AVR ρ σ) args0 vs → ∃ v' w' ρ', CallR P f0 vs.toArray w v' w' ∧ AVR ρ' σ v v' ∧ Rel ρ' σ C h' w' ∧ Ext ρ ρ' ⟨.nil, 0⟩ h' w w') : ExtS P σ C (extAt f0 args0 r ext) := by
  intro f args h v h' hk ρ w vs hrel ha
  unfold extAt at hk
  cases hb : (Nat.beq f f0 && (emptyH h && listEqb AV.eqb args args0)) with
  | false => rw [hb] at hk; exact h0 f args h v h' hk ρ w vs hrel ha
  | true =>
    rw [hb] at hk
    simp only [Bool.and_eq_true] at hb
    obtain ⟨h1, h2, h3⟩ := hb
    have h1 := beq_eq h1
    subst h1
    have h2 := emptyH_eq h2
    subst h2
    have h3 := argsEqb_eq h3
    subst h3
    exact hr v h' hk ρ w vs hrel ha
theorem gId_inj : ∀ b b' : Nat, (fun b : Nat => b) b = (fun b : Nat => b) b' → b = b' := fun _ _ h => h
def gOf (L : List Nat) (M : Nat) : Nat → Nat := fun b => @Option.rec Nat (fun _ => Nat) (Nat.add b M) (fun x => x) L[b]?
def gOk (L : List Nat) (M : Nat) : Bool := decide L.Nodup && L.all fun x => Nat.blt x M
theorem gOf_inj {L : List Nat} {M : Nat} (h : gOk L M = true) : ∀ b b', gOf L M b = gOf L M b' → b = b' := by
  simp only [gOk, Bool.and_eq_true, decide_eq_true_eq] at h
  obtain ⟨hn, hl⟩ := h
  have lt : ∀ x ∈ L, x < M := fun x hx => by have := List.all_eq_true.1 hl x hx; rwa [Nat.blt_eq] at this
  intro b b' he
  unfold gOf at he
  rcases hb : L[b]? with _ | x <;> rcases hb' : L[b']? with _ | y <;> rw [hb, hb'] at he
  · exact Nat.add_right_cancel he
  · have := lt y (List.mem_of_getElem? hb')
    have he : b + M = y := he
    omega
  · have := lt x (List.mem_of_getElem? hb)
    have he : x = b' + M := he
    omega
  · have he : x = y := he
    subst he
    obtain ⟨i1, i2⟩ := List.getElem?_eq_some_iff.1 hb
    obtain ⟨j1, j2⟩ := List.getElem?_eq_some_iff.1 hb'
    have hp := List.pairwise_iff_getElem.1 hn
    rcases Nat.lt_trichotomy b b' with e | e | e
    · exact absurd (i2.trans j2.symm) (hp b b' i1 j1 e)
    · exact e
    · exact absurd (j2.trans i2.symm) (hp b' b j1 i1 e)
end Eng
end

noncomputable section
namespace Eng
open Go Go.RowKit
variable {P : Program} {C C' : Cfg} {σ σ1 σ2 : Sig} {ρ ρ' : Rho}

/- a call that only looks at blocks that are written down, and answers with a nil slice: so it does wherever they stand -/
def optEqA (v v' : Option A) : Bool := match v, v' with | none, none => true | some x, some y => x.eqb y | _, _ => false
def tEqb (a : T A) : T A → Bool :=
  @T.rec A (fun _ => T A → Bool) (fun b => @T.rec A (fun _ => Bool) true (fun _ _ _ _ _ => false) b)
    (fun v _ _ rl rr b => @T.rec A (fun _ => Bool) false (fun v' l' r' _ _ => optEqA v v' && (rl l' && rr r')) b) a
theorem tEqb_eq : ∀ {t u : T A}, tEqb t u = true → t = u := by
  intro t
  induction t with
  | nil => intro u h; cases u with | nil => rfl | node v l r => cases h
  | node v l r ihl ihr =>
    intro u h
    cases u with
    | nil => cases h
    | node v' l' r' =>
      have h' : (optEqA v v' && (tEqb l l' && tEqb r r')) = true := h
      simp only [Bool.and_eq_true] at h'
      obtain ⟨h1, h2, h3⟩ := h'
      rw [ihl h2, ihr h3]
      cases v <;> cases v' <;> first | rfl | (cases h1; done) | (rw [A.eqb_eq h1])
def blkEqb (x y : Blk) : Bool := match x, y with
  | .cells c n f none, .cells c' n' f' none => Nat.beq n n' && (boolEqb f f' && tEqb c c')
  | _, _ => false
theorem blkEqb_eq {x y : Blk} (h : blkEqb x y = true) : x = y ∧ ∃ c n f, y = .cells c n f none := by
  unfold blkEqb at h
  split at h
  · rename_i c n f c' n' f'
    simp only [Bool.and_eq_true] at h
    obtain ⟨h1, h2, h3⟩ := h
    rw [boolEqb_eq] at h2
    rw [beq_eq h1, eq_of_beq h2, tEqb_eq h3]
    exact ⟨rfl, _, _, _, rfl⟩
  · cases h
def okVB (h : H) (bl : List (Nat × Blk)) : Bool := bl.all fun p => match h.get p.1 with | some x => blkEqb x p.2 | none => false
theorem okVB_get {h : H} {bl : List (Nat × Blk)} (hk : okVB h bl = true) : ∀ p ∈ bl, h.get p.1 = some p.2 ∧ ∃ c n f, p.2 = .cells c n f none := by
  intro p hp
  have h1 := List.all_eq_true.1 hk p hp
  cases hg : h.get p.1 with
  | none => rw [hg] at h1; cases h1
  | some x =>
    rw [hg] at h1
    obtain ⟨h2, h3⟩ := blkEqb_eq h1
    exact ⟨by rw [h2], h3⟩
structure SumV where
  f : FuncId
  args : List AV
  bl : List (Nat × Blk)
  n : Nat
def SummV (P : Program) (σ : Sig) (C : Cfg) (s : SumV) : Prop := closedL s.bl s.n = true ∧ s.args.all (AV.within (hasKey s.bl)) = true ∧ ∀ ρ w vs, Rel ρ σ C (heapOf s.bl s.n) w → F2 (AVR ρ σ) s.args vs →
  ∃ v' w' ρ' h', CallR P s.f vs.toArray w v' w' ∧ v' = .slice none 0 0 ∧ Rel ρ' σ C h' w' ∧ Ext ρ ρ' (heapOf s.bl s.n) h' w w' ∧ okVB h' s.bl = true
def saysV (bl : List (Nat × Blk)) (r : OR) : Bool := match r with | some (.val (.one .nils) h') => okVB h' bl | _ => false
def closedV (s : SumV) : Bool := closedL s.bl s.n && s.args.all (AV.within (hasKey s.bl))
theorem SummV.of (hfu : C'.fu = C.fu) (hc : CfgOK P C' σ) (hx : ExtOK C' P σ) {n : Nat} {X : Ctx} {s : SumV} (hcl : closedV s = true) (hk : saysV s.bl (eval C' n X (.call s.f s.args) (heapOf s.bl s.n)) = true) : SummV P σ C s := by
  simp only [closedV, Bool.and_eq_true] at hcl
  refine ⟨hcl.1, hcl.2, fun ρ w vs hr ha => ?_⟩
  unfold saysV at hk
  split at hk
  · rename_i h' he
    obtain ⟨v', w', ρ', g1, g2, g3, g4⟩ := (eval_ok hc hx n).2.call X s.f s.args _ _ h' he ρ w vs (hr.cfg hfu.symm) ha
    exact ⟨v', w', ρ', h', g1, g2, g3.cfg hfu, g4, hk⟩
  · cases hk
theorem F2.fitsAV {g : Nat → Nat} {k : Nat → Bool} {ft : FitF} (hs : FitOK σ σ2 ft) : ∀ {l m : List AV} {vs : List Value}, listEqb (AVfitsX g ft) l m = true → m.all (AV.within k) = true → F2 (AVR ρ σ) l vs → F2 (AVR (Ren ρ g k) σ2) m vs := by
  intro l
  induction l with
  | nil => intro m vs hl _ h; cases m with | nil => cases h; exact .nil | cons => cases hl
  | cons a l ih =>
    intro m vs hl hw h
    cases m with
    | nil => cases hl
    | cons b m =>
      have hl' := listEqb_cons hl
      simp only [List.all_cons, Bool.and_eq_true] at hw
      cases h with
      | cons h1 h2 => exact .cons (AVfitsX_ok hs hl'.1 hw.1 h1) (ih hl'.2 hw.2 h2)
theorem SummV.run {s : SumV} (hs : SummV P σ C s) {h : H} {args : List AV} (hfit : listEqb (AVfitsX (fun b => b) fitSame) args s.args = true) (hb : okVB h s.bl = true) {w : World} {vs : List Value} (hr : Rel ρ σ C h w) (ha : F2 (AVR ρ σ) args vs) :
    ∃ v' w' ρ', CallR P s.f vs.toArray w v' w' ∧ AVR ρ' σ (.one .nils) v' ∧ Rel ρ' σ C h w' ∧ Ext ρ ρ' h h w w' := by
  obtain ⟨hcl, hwi, hs⟩ := hs
  have hget := okVB_get hb
  have hr1 : Rel (Eng.keep ρ (hasKey s.bl)) σ C (heapOf s.bl s.n) w := hr.forget (fun p hp => (hget p hp).1) hcl
  have ha1 : F2 (AVR (Eng.keep ρ (hasKey s.bl)) σ) s.args vs := F2.fitsAV (g := fun b => b) (fitSame_ok σ) hfit hwi ha
  obtain ⟨v', w', ρ', h', g1, g2, g3, g4, g5⟩ := hs _ w vs hr1 ha1
  have hget' := okVB_get g5
  have key : ∀ b, hasKey s.bl b = true → ∃ x, (b, x) ∈ s.bl ∧ b < s.n := by
    intro b hk
    obtain ⟨p, hp, hpb⟩ := List.any_eq_true.1 hk
    have h1 := List.all_eq_true.1 hcl p hp
    simp only [Bool.and_eq_true] at h1
    have h2 : p.1 < s.n := by have := h1.1; rwa [Nat.blt_eq] at this
    have h3 := beq_eq hpb
    refine ⟨p.2, ?_, by rw [← h3]; exact h2⟩
    rw [← h3]
    exact hp
  have old : ∀ b, hasKey s.bl b = true → ρ' b = ρ b := by
    intro b hk
    obtain ⟨x, _, hlt⟩ := key b hk
    rw [g4.old b hlt, keep_of hk]
  have sub : Sub (Eng.keep ρ' (hasKey s.bl)) ρ := by
    intro b x hbx
    obtain ⟨hk, h1⟩ := keep_some hbx
    rw [← old b hk]
    exact h1
  have live : ∀ b, hasKey s.bl b = true → Live h b := by
    intro b hk
    obtain ⟨x, hx, _⟩ := key b hk
    obtain ⟨h1, c, n, f, h2⟩ := hget _ hx
    exact ⟨x, h1, by intro e; rw [show x = Blk.cells c n f none from h2] at e; cases e⟩
  refine ⟨v', w', ρ, g1, g2, ⟨hr.lt, ?_, hr.inj⟩, ⟨Nat.le_refl _, fun _ _ => rfl, ?_, g4.size, fun _ _ hl => hl, ?_, g4.os, g4.tape, g4.output, g4.fz⟩⟩
  · intro b r S hbr
    obtain ⟨o, ho, hx⟩ := hr.blk b r S hbr
    have hlt : r < w.heap.size := (Array.getElem?_eq_some_iff.1 ho).1
    cases hk : hasKey s.bl b with
    | true =>
      obtain ⟨x, hxm, _⟩ := key b hk
      obtain ⟨o', ho', hx'⟩ := g3.blk b r S (by rw [old b hk]; exact hbr)
      refine ⟨o', ho', fun y hy => ?_⟩
      rw [(hget _ hxm).1] at hy
      cases hy
      have h1 := hx' x (hget' _ hxm).1
      have h2 := List.all_eq_true.1 hcl _ hxm
      simp only [Bool.and_eq_true] at h2
      exact (h1.keep h2.2).mono sub
    | false =>
      by_cases hl : Live h b
      · refine ⟨o, ?_, hx⟩
        rw [g4.frame r hlt ?_]
        · exact ho
        · intro b0 S0 hb0 _
          obtain ⟨hk0, hb0'⟩ := keep_some hb0
          rcases hr.inj b0 b r S0 S hb0' hbr (live b0 hk0) hl with e | ⟨c, n, f, e⟩
          · subst e; rw [hk0] at hk; cases hk
          · obtain ⟨x, hxm, _⟩ := key b0 hk0
            obtain ⟨h1, c', n', f', h2⟩ := hget _ hxm
            rw [h1] at e
            have h2 : x = .cells c' n' f' none := h2
            rw [h2] at e
            cases e
      · have hlt' : r < w'.heap.size := Nat.lt_of_lt_of_le hlt g4.size
        refine ⟨_, Array.getElem?_eq_getElem hlt', fun y hy => ?_⟩
        have : y = .dead := by
          apply Classical.byContradiction
          intro hne
          exact hl ⟨y, hy, hne⟩
        subst this
        trivial
  · intro b r S hge hbr
    have := hr.lt b r S hbr
    omega
  · intro r hlt hn
    refine g4.frame r hlt fun b0 S0 hb0 _ => ?_
    obtain ⟨hk0, hb0'⟩ := keep_some hb0
    exact hn b0 S0 hb0' (live b0 hk0)
def hitV (s : SumV) (f : FuncId) (args : List AV) (h : H) : Bool := @Bool.rec (fun _ => Bool) false (@Bool.rec (fun _ => Bool) false (okVB h s.bl) (listEqb (AVfitsX (fun b => b) fitSame) args s.args)) (Nat.beq f s.f)
def extV (l : List SumV) (ext : FuncId → List AV → H → Option (AV × H)) (f : FuncId) (args : List AV) (h : H) : Option (AV × H) :=
  @List.rec SumV (fun _ => Option (AV × H)) (ext f args h) (fun s _ r => @Bool.rec (fun _ => Option (AV × H)) r (some (.one .nils, h)) (hitV s f args h)) l
theorem ExtS.sumV {ext : FuncId → List AV → H → Option (AV × H)} (h0 : ExtS P σ C ext) : ∀ {l : List SumV}, Al (SummV P σ C) l → ExtS P σ C (extV l ext) := by
  intro l hl f args h v h' hk ρ w vs hr ha
  induction hl with
  | nil => exact h0 f args h v h' hk ρ w vs hr ha
  | cons hs _ ih =>
    rename_i s l' _
    have hk' : @Bool.rec (fun _ => Option (AV × H)) (extV l' ext f args h) (some (.one .nils, h)) (hitV s f args h) = some (v, h') := hk
    cases hb : hitV s f args h with
    | false => rw [hb] at hk'; exact ih hk'
    | true =>
      rw [hb] at hk'
      cases hk'
      unfold hitV at hb
      cases h1 : Nat.beq f s.f with
      | false => rw [h1] at hb; cases hb
      | true =>
        rw [h1] at hb
        cases h2 : listEqb (AVfitsX (fun b => b) fitSame) args s.args with
        | false => rw [h2] at hb; cases hb
        | true =>
          rw [h2] at hb
          have h1 := beq_eq h1
          subst h1
          exact hs.run h2 hb hr ha
end Eng
end

noncomputable section
namespace Eng
open Go Go.RowKit
variable {P : Program} {C : Cfg}

/- six keys in any order: the orders by their first -/
theorem codeB2 {r : OR} {k1 k2 k3 : FR → H → Bool} (hk : ∀ a b, k1 a b = true → k2 a b = true → k3 a b = true) (h1 : codeB r k1 = true) (h2 : codeB r k2 = true) : codeB r k3 = true := by
  obtain ⟨fr, hh, rfl, g1⟩ := codeB_some h1
  exact hk _ _ g1 h2
theorem codeRB2 {r : OR} {k1 k2 k3 : FR → H → Bool} (hk : ∀ a b, k1 a b = true → k2 a b = true → k3 a b = true) (h1 : codeRB r k1 = true) (h2 : codeRB r k2 = true) : codeRB r k3 = true := by
  obtain ⟨fr, hh, rfl, g1⟩ := codeRB_some h1
  exact hk _ _ g1 h2
theorem valB2 {r : OR} {k1 k2 k3 : AV → H → Bool} (hk : ∀ a b, k1 a b = true → k2 a b = true → k3 a b = true) (h1 : valB r k1 = true) (h2 : valB r k2 = true) : valB r k3 = true := by
  obtain ⟨v, hh, rfl, g1⟩ := valB_some h1
  exact hk _ _ g1 h2
theorem loopB2 {h : H} {l : Nat} {k1 k2 k3 : LoopA → Bool} (hk : ∀ a, k1 a = true → k2 a = true → k3 a = true) (h1 : loopB h l k1 = true) (h2 : loopB h l k2 = true) : loopB h l k3 = true := by
  obtain ⟨r, hr, g1⟩ := loopB_some h1
  unfold loopB at h2 ⊢
  rw [hr] at h2 ⊢
  exact hk _ g1 h2
theorem and2 {a b1 b2 b3 : Bool} (hk : b1 = true → b2 = true → b3 = true) (h1 : (a && b1) = true) (h2 : (a && b2) = true) : (a && b3) = true := by
  simp only [Bool.and_eq_true] at h1 h2 ⊢
  exact ⟨h1.1, hk h1.2 h2.2⟩
theorem rnd2 {F : Nat} {XK : Ctx} {c3 : Code} {l q : Nat} {k1 k2 k3 : H → Bool} (hk : ∀ a, k1 a = true → k2 a = true → k3 a = true) : ∀ {m j : Nat} {h : H}, rnd C F XK c3 l q m j h k1 = true → rnd C F XK c3 l q m j h k2 = true → rnd C F XK c3 l q m j h k3 = true := by
  intro m
  induction m with
  | zero => intro j h h1 h2; exact and2 (hk _) h1 h2
  | succ m ih => intro j h h1 h2; exact and2 (codeB2 fun _ _ => and2 ih) h1 h2
theorem chkA2 {p : AP} {F n : Nat} {k1 k2 k3 : AV → H → Bool} (hk : ∀ a b, k1 a b = true → k2 a b = true → k3 a b = true) (h1 : chkA C p F n k1 = true) (h2 : chkA C p F n k2 = true) : chkA C p F n k3 = true := by
  unfold chkA at h1 h2 ⊢
  exact codeB2 (fun _ _ => codeB2 fun _ _ => and2 (and2 (rnd2 fun _ => loopB2 fun _ => codeB2 fun _ _ => codeRB2 fun _ _ => valB2 hk))) h1 h2
def chkK (C : Cfg) (St F n : Nat) (π : List Nat) (v : AV) (h : H) : Bool := valB (eval (withP C π) F ⟨0, 0, 0, none⟩ (.call St [v]) h) fun _ h' => finB π n v h'
/-- those that begin with x -/
def chkP (C : Cfg) (p : AP) (St F n x : Nat) : Bool :=
  chkA C p F (n + 1) fun v h => (enum n ((List.range (n + 1)).filter fun y => bnot (Nat.beq y x))).all fun π => chkK C St F (n + 1) (x :: π) v h
theorem chkS_of {p : AP} {St F n : Nat} (h : ∀ x, x < n + 1 → chkP C p St F n x = true) : chkS C p St F (n + 1) = true := by
  have key : ∀ m, m < n + 1 → chkA C p F (n + 1) (fun v h => (List.range (m + 1)).all fun x => (enum n ((List.range (n + 1)).filter fun y => bnot (Nat.beq y x))).all fun π => chkK C St F (n + 1) (x :: π) v h) = true := by
    intro m
    induction m with
    | zero =>
      intro hm
      refine chkA2 (fun a b g _ => ?_) (h 0 hm) (h 0 hm)
      simpa using g
    | succ m ih =>
      intro hm
      refine chkA2 (fun a b g1 g2 => ?_) (ih (by omega)) (h (m + 1) hm)
      rw [List.range_succ, List.all_append]
      simp only [Bool.and_eq_true]
      exact ⟨g1, by simpa using g2⟩
  refine chkA2 (fun a b g _ => ?_) (key n (by omega)) (key n (by omega))
  show ((List.range (n + 1)).flatMap fun x => (enum n ((List.range (n + 1)).filter fun y => bnot (Nat.beq y x))).map (x :: ·)).all _ = true
  rw [List.all_flatMap]
  refine List.all_eq_true.2 fun x hx => ?_
  rw [List.all_map]
  exact List.all_eq_true.1 g x hx
end Eng
end
