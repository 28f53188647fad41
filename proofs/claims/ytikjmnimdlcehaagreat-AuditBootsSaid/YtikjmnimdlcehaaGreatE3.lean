/- The engine, part 3: equality, lengths and maps of the evaluator are right. No conditions beside those in its theorems. -/
import Derived.Test.YtikjmnimdlcehaaGreatE2
import Derived.ChangeKeysEq
import Derived.LaidEql
set_option linter.unusedVariables false
noncomputable section
namespace Eng
open Go
variable {ρ ρ' : Rho} {σ : Sig} {C : Cfg} {P : Program} {nl : Nat} {o : Oper}

/- cells of one kind -/
def ckT (c : CK) : TypeDesc :=
  match c with
  | .int k => .int k
  | .bool => .bool
  | .str => .string
theorem symEq_den (hc : CfgOK P C σ) {x y : E} {r : Bool} (h : symEq C x y = some r) : r = (x.den σ == y.den σ) := by
  unfold symEq at h
  split at h
  · rename_i q hq
    cases h
    have := hc.cmp .eql x y _ hq
    simpa [cmpDen] using this.symm
  · cases he : x.eqb y with
    | false => rw [he] at h; cases h
    | true =>
      rw [he] at h
      cases h
      have := eqb_eq he
      subst this
      simp
theorem run_eqCell {c : CK} {a b : A} {r : Bool} (h : eqCell C c a b = some r) (hc : CfgOK P C σ) {va vb : Value} (ha : AR ρ σ a va) (hb : AR ρ σ b vb) {t : TypeId} (ht : P.underlying t = some (ckT c)) (d : Nat) (w : World) :
    (Op.equalIn (d + 1) t va vb).run P w = .ok r w := by
  cases c with
  | int q =>
    have key : ∀ (k k' : IntKind) (x y : Int), va = .int k x → vb = .int k' y → kindNo k = kindNo q → kindNo k' = kindNo q → r = (x == y) → (Op.equalIn (d + 1) t va vb).run P w = .ok r w := by
      intro k k' x y h1 h2 h3 h4 h5
      have e1 := kindNo_inj (k := k) (k' := q) (by rw [h3]; exact Nat.beq_refl _)
      have e2 := kindNo_inj (k := k') (k' := q) (by rw [h4]; exact Nat.beq_refl _)
      subst e1; subst e2
      rw [h1, h2, h5]
      exact run_equalIn_int w d t _ _ x y ht
    have spl : ∀ {p q' : Bool} {u : Option Bool}, (bif p && q' then u else none) = some r → p = true ∧ q' = true ∧ u = some r := by
      intro p q' u h
      cases p <;> cases q' <;> simp_all
    unfold eqCell at h
    simp only at h
    split at h
    · obtain ⟨h1, h2, h3⟩ := spl h
      cases h3
      exact key _ _ _ _ ha hb (beq_eq h1) (beq_eq h2) (intEqb_eq _ _)
    · obtain ⟨h1, h2, h3⟩ := spl h
      exact key _ _ _ _ ha hb (beq_eq h1) (beq_eq h2) (symEq_den hc h3)
    · obtain ⟨h1, h2, h3⟩ := spl h
      exact key _ _ _ _ ha hb (beq_eq h1) (beq_eq h2) (symEq_den hc h3)
    · obtain ⟨h1, h2, h3⟩ := spl h
      exact key _ _ _ _ ha hb (beq_eq h1) (beq_eq h2) (symEq_den hc h3)
    · cases h
  | bool =>
    unfold eqCell at h
    simp only at h
    split at h
    · cases h
      obtain rfl : va = _ := ha
      obtain rfl : vb = _ := hb
      rw [run_equalIn_bool' w d t _ _ ht, boolEqb_eq]
    · cases h
  | str =>
    unfold eqCell at h
    simp only at h
    split at h
    · cases h
      obtain rfl : va = _ := ha
      obtain rfl : vb = _ := hb
      simp [Op.equalIn, run_underlying ht, ckT]
    · cases h

/- runs of cells -/
theorem eqCells_nil (la lb : List A) {r : Bool} (h : eqCells C [] la lb = some r) : la = [] ∧ lb = [] ∧ r = true := by
  cases la with
  | nil => cases lb with
    | nil => cases h; exact ⟨rfl, rfl, rfl⟩
    | cons => cases h
  | cons => cases h
theorem eqCells_cons {c : CK} {cs : List CK} {la lb : List A} {r : Bool} (h : eqCells C (c :: cs) la lb = some r) : ∃ a as b bs, la = a :: as ∧ lb = b :: bs ∧ andO (eqCell C c a b) (eqCells C cs as bs) = some r := by
  cases la with
  | nil => cases h
  | cons a as => cases lb with
    | nil => cases h
    | cons b bs => exact ⟨a, as, b, bs, rfl, rfl, h⟩
theorem andO_some {a b : Option Bool} {r : Bool} (h : andO a b = some r) : (a = some false ∧ r = false) ∨ (a = some true ∧ b = some r) := by
  cases a with
  | none => cases h
  | some x => cases x with
    | false => cases h; exact .inl ⟨rfl, rfl⟩
    | true => exact .inr ⟨rfl, h⟩
theorem eqCells_app {c2 : List CK} {r : Bool} : ∀ {c1 : List CK} {la lb : List A}, eqCells C (c1 ++ c2) la lb = some r →
    (eqCells C c1 (la.take c1.length) (lb.take c1.length) = some false ∧ r = false) ∨ (eqCells C c1 (la.take c1.length) (lb.take c1.length) = some true ∧ eqCells C c2 (la.drop c1.length) (lb.drop c1.length) = some r) := by
  intro c1
  induction c1 with
  | nil => intro la lb h; exact .inr ⟨rfl, h⟩
  | cons c c1 ih =>
    intro la lb h
    obtain ⟨a, as, b, bs, rfl, rfl, h1⟩ := eqCells_cons (show eqCells C (c :: (c1 ++ c2)) la lb = some r from h)
    rcases andO_some h1 with ⟨h2, h3⟩ | ⟨h2, h3⟩
    · left
      refine ⟨?_, h3⟩
      show andO (eqCell C c a b) _ = _
      rw [h2]; rfl
    · rcases ih h3 with ⟨h4, h5⟩ | ⟨h4, h5⟩
      · left
        refine ⟨?_, h5⟩
        show andO (eqCell C c a b) (eqCells C c1 (as.take c1.length) (bs.take c1.length)) = _
        rw [h2, h4]; rfl
      · right
        refine ⟨?_, h5⟩
        show andO (eqCell C c a b) (eqCells C c1 (as.take c1.length) (bs.take c1.length)) = _
        rw [h2, h4]; rfl
theorem eqCells_ne {cs : List CK} {la lb : List A} {r : Bool} (h : eqCells C cs la lb = some r) (hc : cs ≠ []) : la ≠ [] ∧ lb ≠ [] := by
  cases cs with
  | nil => exact absurd rfl hc
  | cons c cs =>
    obtain ⟨a, as, b, bs, rfl, rfl, _⟩ := eqCells_cons h
    exact ⟨by simp, by simp⟩

def Vof (agg : Bool) (v : Value) (vs : List Value) : Prop := (agg = true → v = .agg vs.toArray) ∧ (agg = false → vs = [v])
theorem TyR.size1 {t : TypeId} {ti : TI} (h : TyR P t ti) (ha : ti.agg = false) : ti.size = 1 := by
  obtain ⟨i, _, _, _, z, _, zs, _, h2, h3, _, h5⟩ := h.info
  have := (h2 (fun _ => none) (fun _ => 0)).length
  rw [h5 ha, h3] at this
  simpa using this
theorem run_part' {t : TypeId} {ti : TI} (ht : TyR P t ti) {vs : List Value} {off : Nat} (hne : (vs.drop off).take ti.size ≠ []) (w : World) :
    ∃ v, (part t vs.toArray off).run P w = .ok v w ∧ Vof ti.agg v ((vs.drop off).take ti.size) := by
  have h1 := ht.runAgg w
  have h2 := ht.runSize w
  cases ha : ti.agg with
  | true =>
    rw [ha] at h1
    refine ⟨.agg ((vs.drop off).take ti.size).toArray, ?_, fun _ => rfl, fun h => by cases h⟩
    simp [part, h1, h2, List.extract_eq_take_drop]
  | false =>
    rw [ha] at h1
    rw [ht.size1 ha] at hne ⊢
    cases hv : vs[off]? with
    | none =>
      exfalso; apply hne
      have := List.getElem?_eq_none_iff.1 hv
      rw [List.drop_eq_nil_of_le this]; rfl
    | some v =>
      refine ⟨v, ?_, fun h => (by cases h), fun _ => ?_⟩
      · simp [part, h1, hv]
      · obtain ⟨hlt, rfl⟩ := List.getElem?_eq_some_iff.1 hv
        rw [List.drop_eq_getElem_cons hlt]; rfl

/- the kinds of a type's cells -/
def cksUnd (C : Cfg) (r : TypeId → Option (List CK)) (ti : TI) : Option (List CK) :=
  match ti.und with
  | .int k => some [.int k]
  | .bool => some [.bool]
  | .string => some [.str]
  | .struct fs => bif ti.plain && fieldsOk C fs.toList 0 ti.size then joinO (fs.toList.map fun f => r f.type) else none
  | .array n e => match C.ty e with
    | some ei => bif Nat.beq ti.size (Nat.mul n ei.size) && Nat.ble 1 ei.size then (match r e with | some l => some (repeatL l n) | none => none) else none
    | none => none
  | _ => none
theorem cks_succ {f : Nat} {t : TypeId} {cs : List CK} (h : cks C (f + 1) t = some cs) : ∃ ti, C.ty t = some ti ∧ cksUnd C (cks C f) ti = some cs := by
  have h' : (match C.ty t with | some ti => cksUnd C (cks C f) ti | none => none) = some cs := h
  split at h'
  · rename_i ti hti; exact ⟨ti, hti, h'⟩
  · cases h'
def OfKinds (P : Program) (C : Cfg) (σ : Sig) (f : Nat) (t : TypeId) (cs : List CK) : Prop :=
  ∀ ti, C.ty t = some ti → cs.length = ti.size ∧ (∀ d, f ≤ d → P.eqGuardType d t = false) ∧
    ∀ (ρ : Rho) (la lb : List A) (va vb : List Value) (x y : Value) (r : Bool) (w : World) (d : Nat), f ≤ d → eqCells C cs la lb = some r → F2 (AR ρ σ) la va → F2 (AR ρ σ) lb vb → Vof ti.agg x va → Vof ti.agg y vb →
      (Op.equalIn d t x y).run P w = .ok r w
theorem joinO_cons {x : Option (List CK)} {xs : List (Option (List CK))} {cs : List CK} (h : joinO (x :: xs) = some cs) : ∃ a b, x = some a ∧ joinO xs = some b ∧ cs = a ++ b := by
  unfold joinO at h
  split at h
  · rename_i a b h2; cases h; exact ⟨a, b, rfl, h2, by rw [app_eq]⟩
  · cases h
theorem fields_kinds (hc : CfgOK P C σ) {f : Nat} (ih : ∀ t cs, cks C f t = some cs → OfKinds P C σ f t cs) : ∀ (fs : List Field) (off size : Nat) (cs : List CK), fieldsOk C fs off size = true → joinO (fs.map fun g => cks C f g.type) = some cs →
    off + cs.length = size ∧ (∀ d, f ≤ d → (fs.any fun g => g.name != "_" && P.eqGuardType d g.type) = false) ∧
    ∀ (ρ : Rho) (la lb : List A) (va vb : List Value) (r : Bool) (w : World) (d : Nat), f ≤ d → eqCells C cs (la.drop off) (lb.drop off) = some r → F2 (AR ρ σ) la va → F2 (AR ρ σ) lb vb →
      (Op.eqFields d va.toArray vb.toArray fs).run P w = .ok r w := by
  intro fs
  induction fs with
  | nil =>
    intro off size cs h1 h2
    cases h2
    refine ⟨beq_eq h1, fun _ _ => rfl, ?_⟩
    intro ρ la lb va vb r w d _ he _ _
    obtain ⟨_, _, rfl⟩ := eqCells_nil _ _ he
    rfl
  | cons g fs ihf =>
    intro off size cs h1 h2
    obtain ⟨a, b, h3, h4, rfl⟩ := joinO_cons h2
    unfold fieldsOk at h1
    split at h1
    · rename_i ti hti
      simp only [Bool.and_eq_true, bne_iff_ne, ne_eq] at h1
      obtain ⟨⟨h5, h6⟩, h7⟩ := h1
      have h5 := beq_eq h5
      obtain ⟨h8, h9, h10⟩ := ih g.type a h3 ti hti
      obtain ⟨h11, h12, h13⟩ := ihf _ _ _ h7 h4
      refine ⟨?_, ?_, ?_⟩
      · have : Nat.add off ti.size = off + ti.size := rfl
        rw [List.length_append]; omega
      · intro d hd
        simp only [List.any_cons, h9 d hd, Bool.and_false, Bool.false_or]
        exact h12 d hd
      · intro ρ la lb va vb r w d hd he ha hb
        simp only [Op.eqFields]
        rw [if_pos (show g.name ≠ "_" from h6)]
        have part : ∀ (la : List A) (va : List Value), F2 (AR ρ σ) la va → (a = [] → False) → (la.drop off).take a.length ≠ [] → ∃ v, (part g.type va.toArray g.offset).run P w = .ok v w ∧ Vof ti.agg v ((va.drop off).take ti.size) := by
          intro la va hf _ hne
          rw [h5]
          refine run_part' (hc.ty _ ti hti) ?_ w
          have := ((hf.drop off).take a.length).length
          rw [h8] at this hne
          intro e
          rw [e] at this
          exact hne (List.length_eq_zero_iff.1 this)
        by_cases h0 : a = []
        · -- a field without cells
          subst h0
          have hsz : ti.size = 0 := by simpa using h8.symm
          have hag : ti.agg = true := by
            cases hg : ti.agg with
            | true => rfl
            | false => have := (hc.ty _ ti hti).size1 hg; omega
          have hp : ∀ va : List Value, (Go.part g.type va.toArray g.offset).run P w = .ok (.agg #[]) w := by
            intro va
            have e1 := (hc.ty _ ti hti).runAgg w
            have e2 := (hc.ty _ ti hti).runSize w
            rw [hag] at e1
            rw [hsz] at e2
            simp [Go.part, e1, e2]
          have hq := h10 ρ [] [] [] [] (.agg #[]) (.agg #[]) true w d hd rfl .nil .nil ⟨fun _ => rfl, fun h => by rw [hag] at h; cases h⟩ ⟨fun _ => rfl, fun h => by rw [hag] at h; cases h⟩
          simp only [Sem.run_bind, hp, Result.andThen_ok, hq]
          simp only [Bool.not_true, Bool.false_eq_true, if_false]
          refine h13 ρ la lb va vb r w d hd ?_ ha hb
          rw [hsz]
          exact he
        · have hcases := eqCells_app he
          have hsome : ∃ q, eqCells C a ((la.drop off).take a.length) ((lb.drop off).take a.length) = some q := by
            rcases hcases with ⟨h, _⟩ | ⟨h, _⟩ <;> exact ⟨_, h⟩
          obtain ⟨q, hq⟩ := hsome
          obtain ⟨n1, n2⟩ := eqCells_ne hq h0
          obtain ⟨u, hu, hu'⟩ := part la va ha h0 n1
          obtain ⟨v, hv, hv'⟩ := part lb vb hb h0 n2
          have f1 : F2 (AR ρ σ) ((la.drop off).take a.length) ((va.drop off).take ti.size) := by rw [h8]; exact (ha.drop off).take _
          have f2 : F2 (AR ρ σ) ((lb.drop off).take a.length) ((vb.drop off).take ti.size) := by rw [h8]; exact (hb.drop off).take _
          have hrun := h10 ρ _ _ _ _ u v q w d hd hq f1 f2 hu' hv'
          simp only [Sem.run_bind, hu, hv, Result.andThen_ok, hrun]
          rcases hcases with ⟨e1, e2⟩ | ⟨e1, e2⟩
          · rw [hq] at e1; cases e1
            subst e2
            rfl
          · rw [hq] at e1; cases e1
            simp only [Bool.not_true, Bool.false_eq_true, if_false]
            refine h13 ρ la lb va vb r w d hd ?_ ha hb
            rw [List.drop_drop, List.drop_drop, h8] at e2
            exact e2
    · cases h1
theorem items_kinds (hc : CfgOK P C σ) {f : Nat} {e : TypeId} {ei : TI} {l : List CK} (he : C.ty e = some ei) (hl : OfKinds P C σ f e l) (hpos : 0 < ei.size) {ρ : Rho} {la lb : List A} {va vb : List Value} {d : Nat} (hd : f ≤ d)
    (ha : F2 (AR ρ σ) la va) (hb : F2 (AR ρ σ) lb vb) (w : World) : ∀ (n i : Nat) (r : Bool), eqCells C (repeatL l n) (la.drop (i * ei.size)) (lb.drop (i * ei.size)) = some r →
    (Op.eqItems d e (P.cellsOf e) va.toArray vb.toArray (List.range' i n)).run P w = .ok r w := by
  obtain ⟨h1, h2, h3⟩ := hl ei he
  have hcell : P.cellsOf e = ei.size := by
    obtain ⟨ie, g1, g2, _⟩ := (hc.ty _ ei he).info
    simp [Program.cellsOf, g1, g2]
  have h0 : l ≠ [] := by intro e; rw [e] at h1; simp at h1; omega
  intro n
  induction n with
  | zero =>
    intro i r hr
    obtain ⟨_, _, rfl⟩ := eqCells_nil _ _ hr
    rfl
  | succ n ih =>
    intro i r hr
    rw [repeatL_succ] at hr
    have hcases := eqCells_app hr
    have hsome : ∃ q, eqCells C l ((la.drop (i * ei.size)).take l.length) ((lb.drop (i * ei.size)).take l.length) = some q := by
      rcases hcases with ⟨h, _⟩ | ⟨h, _⟩ <;> exact ⟨_, h⟩
    obtain ⟨q, hq⟩ := hsome
    obtain ⟨n1, n2⟩ := eqCells_ne hq h0
    have part : ∀ (la : List A) (va : List Value), F2 (AR ρ σ) la va → (la.drop (i * ei.size)).take l.length ≠ [] → ∃ v, (part e va.toArray (i * P.cellsOf e)).run P w = .ok v w ∧ Vof ei.agg v ((va.drop (i * ei.size)).take ei.size) := by
      intro la va hf hne
      rw [hcell]
      refine run_part' (hc.ty _ ei he) ?_ w
      have := ((hf.drop (i * ei.size)).take l.length).length
      rw [h1] at this hne
      intro e
      rw [e] at this
      exact hne (List.length_eq_zero_iff.1 this)
    obtain ⟨u, hu, hu'⟩ := part la va ha n1
    obtain ⟨v, hv, hv'⟩ := part lb vb hb n2
    have f1 : F2 (AR ρ σ) ((la.drop (i * ei.size)).take l.length) ((va.drop (i * ei.size)).take ei.size) := by rw [h1]; exact (ha.drop _).take _
    have f2 : F2 (AR ρ σ) ((lb.drop (i * ei.size)).take l.length) ((vb.drop (i * ei.size)).take ei.size) := by rw [h1]; exact (hb.drop _).take _
    have hrun := h3 ρ _ _ _ _ u v q w d hd hq f1 f2 hu' hv'
    rw [List.range'_succ]
    simp only [Op.eqItems, Sem.run_bind, hu, hv, Result.andThen_ok, hrun]
    rcases hcases with ⟨e1, e2⟩ | ⟨e1, e2⟩
    · rw [hq] at e1; cases e1
      subst e2
      rfl
    · rw [hq] at e1; cases e1
      simp only [Bool.not_true, Bool.false_eq_true, if_false]
      refine ih (i + 1) r ?_
      rw [List.drop_drop, List.drop_drop, h1] at e2
      rw [Nat.succ_mul]
      exact e2
theorem kinds_ok (hc : CfgOK P C σ) : ∀ (f : Nat) (t : TypeId) (cs : List CK), cks C f t = some cs → OfKinds P C σ f t cs := by
  intro f
  induction f with
  | zero => intro t cs h; cases h
  | succ f ih =>
    intro t cs h ti hti
    obtain ⟨ti', hti', hu⟩ := cks_succ h
    rw [hti] at hti'; cases hti'
    have hT := hc.ty t ti hti
    have hund := hT.und
    have flat : ∀ c : CK, ti.und = ckT c → cs = [c] → ti.agg = false → cs.length = ti.size ∧ (∀ d, f + 1 ≤ d → P.eqGuardType d t = false) ∧
        ∀ (ρ : Rho) (la lb : List A) (va vb : List Value) (x y : Value) (r : Bool) (w : World) (d : Nat), f + 1 ≤ d → eqCells C cs la lb = some r → F2 (AR ρ σ) la va → F2 (AR ρ σ) lb vb → Vof ti.agg x va → Vof ti.agg y vb →
          (Op.equalIn d t x y).run P w = .ok r w := by
      intro c hcu hcs hag
      subst hcs
      rw [hcu] at hund
      refine ⟨by rw [hT.size1 hag]; rfl, ?_, ?_⟩
      · intro d hd
        obtain ⟨d, rfl⟩ : ∃ d', d = d' + 1 := ⟨d - 1, by omega⟩
        simp only [Program.eqGuardType, hund]
        cases c <;> rfl
      · intro ρ la lb va vb x y r w d hd he ha hb hx hy
        obtain ⟨d, rfl⟩ : ∃ d', d = d' + 1 := ⟨d - 1, by omega⟩
        obtain ⟨a, as, b, bs, rfl, rfl, h1⟩ := eqCells_cons he
        have := hx.2 hag
        subst this
        have := hy.2 hag
        subst this
        cases ha with
        | cons ha ha' => cases hb with
          | cons hb hb' =>
            rcases andO_some h1 with ⟨h2, h3⟩ | ⟨h2, h3⟩
            · subst h3
              exact run_eqCell h2 hc ha hb hund d w
            · obtain ⟨_, _, rfl⟩ := eqCells_nil _ _ h3
              exact run_eqCell h2 hc ha hb hund d w
    have hagg := hT.agg
    unfold cksUnd at hu
    split at hu
    · rename_i k hk; cases hu; rw [hk] at hagg; exact flat (.int k) hk rfl hagg
    · rename_i hk; cases hu; rw [hk] at hagg; exact flat .bool hk rfl hagg
    · rename_i hk; cases hu; rw [hk] at hagg; exact flat .str hk rfl hagg
    · rename_i fs hk
      rw [hk] at hagg hund
      simp only at hagg
      cases hb : (ti.plain && fieldsOk C fs.toList 0 ti.size) with
      | false => rw [hb] at hu; cases hu
      | true =>
        rw [hb] at hu
        simp only [cond_true] at hu
        simp only [Bool.and_eq_true] at hb
        obtain ⟨h1, h2, h3⟩ := fields_kinds hc ih fs.toList 0 ti.size cs hb.2 hu
        refine ⟨by omega, ?_, ?_⟩
        · intro d hd
          obtain ⟨d, rfl⟩ : ∃ d', d = d' + 1 := ⟨d - 1, by omega⟩
          simp only [Program.eqGuardType, hund]
          rw [← Array.any_toList]
          exact h2 d (by omega)
        · intro ρ la lb va vb x y r w d hd he hva hvb hx hy
          obtain ⟨d, rfl⟩ : ∃ d', d = d' + 1 := ⟨d - 1, by omega⟩
          rw [hx.1 hagg, hy.1 hagg]
          have hf : P.fieldsOf t = fs := by simp [Program.fieldsOf, hund]
          rw [run_equalIn_struct w d t _ _ (by rw [hf]; exact hund) (hT.plain hb.1), hf]
          exact h3 ρ la lb va vb r w d (by omega) he hva hvb
    · rename_i n e hk
      rw [hk] at hagg hund
      simp only at hagg
      split at hu
      · rename_i ei hei
        cases hb : (Nat.beq ti.size (Nat.mul n ei.size) && Nat.ble 1 ei.size) with
        | false => rw [hb] at hu; cases hu
        | true =>
          rw [hb] at hu
          simp only [cond_true] at hu
          split at hu
          · rename_i l hl
            cases hu
            simp only [Bool.and_eq_true] at hb
            have hsz : ti.size = n * ei.size := beq_eq hb.1
            have hpos : 0 < ei.size := ble_le hb.2
            have hok := ih e l hl
            obtain ⟨h1, h2, h3⟩ := hok ei hei
            refine ⟨by rw [repeatL_length, h1, hsz], ?_, ?_⟩
            · intro d hd
              obtain ⟨d, rfl⟩ : ∃ d', d = d' + 1 := ⟨d - 1, by omega⟩
              simp only [Program.eqGuardType, hund]
              exact h2 d (by omega)
            · intro ρ la lb va vb x y r w d hd he hva hvb hx hy
              obtain ⟨d, rfl⟩ : ∃ d', d = d' + 1 := ⟨d - 1, by omega⟩
              rw [hx.1 hagg, hy.1 hagg]
              obtain ⟨ie, g1, g2, _⟩ := (hc.ty _ ei hei).info
              rw [run_equalIn_array w d va.toArray vb.toArray hund g1, List.range_eq_range']
              exact items_kinds hc hei hok hpos (by omega) hva hvb w n 0 r (by simpa using he)
          · cases hu
      · cases hu
    · cases hu

/- comparisons -/
def opOf (ne : Bool) : BinOp := bif ne then .neq else .eql
def eqB (op : BinOp) (t : TypeId) (a b : Value) : Sem Value := do
  let r ← Op.equal t a b
  pure (.bool (if op = .neq then !r else r))
def Shp (v : Value) : Prop :=
  match v with
  | .bool _ | .pointer _ | .slice .. | .map _ | .func .. | .nilFunc => True
  | _ => False
theorem shp_guard {v : Value} (h : Shp v) (op : BinOp) (t : TypeId) (x y : Operand) (b : Value) : eqGuard op t x y v b = pure () := by
  cases v <;> first | cases h; done | (cases op <;> rfl)
theorem shp_bin {v : Value} (h : Shp v) {op : BinOp} (ho : op = .eql ∨ op = .neq) (t : TypeId) (b : Value) : binOp op t v b = eqB op t v b := by
  rcases ho with rfl | rfl <;> (cases v <;> first | cases h; done | (cases b <;> rfl))
theorem exec_cmp {ne : Bool} {t t' : TypeId} {x y : Operand} (ho : o.op = .binOp (opOf ne) t x y t') {e : Operand → Value} {w : World} {r : Bool}
    (hg : (eqGuard (opOf ne) t x y (e x) (e y)).run P w = .ok () w) (hb : binOp (opOf ne) t (e x) (e y) = eqB (opOf ne) t (e x) (e y))
    (h : (Op.equal t (e x) (e y)).run P w = .ok r w) : Exec P e o w (.bool (bif ne then bnot r else r)) w := by
  left
  simp only [execOp, ho, Sem.run_bind, hg, Result.andThen_ok, hb]
  cases ne <;> simp [opOf, bnot_eq, h, eqB]
theorem run_equal {t : TypeId} {a b : Value} {r : Bool} {w : World} (h : ∀ d, (Op.equalIn (d + 1) t a b).run P w = .ok r w) : (Op.equal t a b).run P w = .ok r w := h 9999
/-- comparing two cells that are no numbers -/
theorem cmp_any {ne : Bool} {t t' : TypeId} {x y : Operand} {F : H → A → A → Option Bool} (ho : o.op = .binOp (opOf ne) t x y t') {f : OpS}
    (hf : f = fun _ _ k pt tl h => ev (od nl x) pt tl fun a => oneK a fun a => ev (od nl y) pt tl fun b => oneK b fun b => optK (F h a b) fun r => k (.one (.bool (bif ne then bnot r else r))) h)
    {rec : Rec} {X : Ctx} {k : K} {pt : T AV} {tl : TL} {h : H} {r : Rs} (hk : f rec X k pt tl h = some r) :
    ∃ v, (∀ rec' X' k' h', (∀ a b, F h' a b = F h a b) → f rec' X' k' pt tl h' = k' v h') ∧
    ∀ P σ ρ e w, (∀ a b q, F h a b = some q → ∀ va vb, AR ρ σ a va → AR ρ σ b vb → Shp va ∧ ∀ d, (Op.equalIn (d + 1) t va vb).run P w = .ok q w) → OpdR ρ σ nl o.op pt tl e → ∃ v', Exec P e o w v' w ∧ AVR ρ σ v v' := by
  subst hf
  obtain ⟨u, hu, hk1⟩ := ev_some (show ev (od nl x) pt tl _ = some r from hk)
  obtain ⟨a, rfl, hk2⟩ := oneK_some hk1
  obtain ⟨u', hu', hk3⟩ := ev_some (show ev (od nl y) pt tl _ = some r from hk2)
  obtain ⟨b, rfl, hk4⟩ := oneK_some hk3
  obtain ⟨q, hq, hk5⟩ := optK_some hk4
  refine ⟨.one (.bool (bif ne then bnot q else q)), ?_, ?_⟩
  · intro rec' X' k' h' hF
    show ev (od nl x) pt tl _ = _
    rw [ev_eq hu]
    show ev (od nl y) pt tl _ = _
    rw [ev_eq hu']
    show optK (F h' a b) _ = _
    rw [hF a b]
    exact optK_eq hq
  · intro P σ ρ e w hrun hop
    have hx := hop x (by simp [ho, Op.operands]) _ hu
    have hy := hop y (by simp [ho, Op.operands]) _ hu'
    obtain ⟨h1, h2⟩ := hrun a b q hq _ _ hx hy
    exact ⟨_, exec_cmp ho (by rw [shp_guard h1]; rfl) (shp_bin h1 (by cases ne <;> simp [opOf]) _ _) (run_equal h2), rfl⟩
theorem eqBool_pure {ne : Bool} {t t' : TypeId} {x y : Operand} {ti : TI} (ho : o.op = .binOp (opOf ne) t x y t') (ht : C.ty t = some ti) (hu0 : ti.und = .bool) :
    PureL C nl o (runOp (.n2 (opEqBool ne) (od nl x) (od nl y))) := by
  intro rec X k pt tl h r hk
  obtain ⟨v, h1, h2⟩ := cmp_any (F := fun _ => eqBool) (rec := rec) (X := X) ho rfl hk
  refine ⟨v, fun rec' X' k' h' => h1 rec' X' k' h' fun _ _ => rfl, ?_⟩
  intro P σ ρ e w hc hop
  refine h2 P σ ρ e w ?_ hop
  intro a b q hq va vb ha hb
  have hund := (hc.ty t ti ht).und
  rw [hu0] at hund
  unfold eqBool at hq
  split at hq
  · cases hq
    obtain rfl : va = _ := ha
    obtain rfl : vb = _ := hb
    exact ⟨trivial, fun d => by rw [run_equalIn_bool' w d t _ _ hund, boolEqb_eq]⟩
  · cases hq
theorem eqNilS_pure {ne : Bool} {t t' : TypeId} {x y : Operand} {ti : TI} (ho : o.op = .binOp (opOf ne) t x y t') (ht : C.ty t = some ti) (hu0 : ∃ e, ti.und = .slice e) :
    PureL C nl o (runOp (.n2 (opEqNil eqNilS ne) (od nl x) (od nl y))) := by
  intro rec X k pt tl h r hk
  obtain ⟨v, h1, h2⟩ := cmp_any (F := fun _ => eqNilS) (rec := rec) (X := X) ho rfl hk
  refine ⟨v, fun rec' X' k' h' => h1 rec' X' k' h' fun _ _ => rfl, ?_⟩
  intro P σ ρ e w hc hop
  refine h2 P σ ρ e w ?_ hop
  intro a b q hq va vb ha hb
  have hund := (hc.ty t ti ht).und
  obtain ⟨_, hu0⟩ := hu0
  rw [hu0] at hund
  cases a <;> cases b <;> first
    | (cases hq; done)
    | (cases hq
       simp only [AR] at ha hb
       first
         | (obtain ⟨_, _, _, ha1⟩ := ha; subst ha1; subst hb; exact ⟨trivial, fun d => by simp [Op.equalIn, run_underlying hund]⟩)
         | (obtain ⟨_, _, _, hb1⟩ := hb; subst hb1; subst ha; exact ⟨trivial, fun d => by simp [Op.equalIn, run_underlying hund]⟩)
         | (obtain ⟨_, _, _, _, ha1, _⟩ := ha; subst ha1; subst hb; exact ⟨trivial, fun d => by simp [Op.equalIn, run_underlying hund]⟩)
         | (obtain ⟨_, _, _, _, hb1, _⟩ := hb; subst hb1; subst ha; exact ⟨trivial, fun d => by simp [Op.equalIn, run_underlying hund]⟩)
         | (obtain ⟨_, _, ha1⟩ := ha; subst ha1; subst hb; exact ⟨trivial, fun d => by simp [Op.equalIn, run_underlying hund]⟩)
         | (obtain ⟨_, _, hb1⟩ := hb; subst hb1; subst ha; exact ⟨trivial, fun d => by simp [Op.equalIn, run_underlying hund]⟩)
         | (obtain ⟨_, ha1, _⟩ := ha; subst ha1; subst hb; exact ⟨trivial, fun d => by simp [Op.equalIn, run_underlying hund]⟩)
         | (obtain ⟨_, hb1, _⟩ := hb; subst hb1; subst ha; exact ⟨trivial, fun d => by simp [Op.equalIn, run_underlying hund]⟩)
         | (subst ha; subst hb; exact ⟨trivial, fun d => by simp [Op.equalIn, run_underlying hund]⟩))
theorem eqNilM_pure {ne : Bool} {t t' : TypeId} {x y : Operand} {ti : TI} (ho : o.op = .binOp (opOf ne) t x y t') (ht : C.ty t = some ti) (hu0 : ∃ a b, ti.und = .map a b) :
    PureL C nl o (runOp (.n2 (opEqNil eqNilM ne) (od nl x) (od nl y))) := by
  intro rec X k pt tl h r hk
  obtain ⟨v, h1, h2⟩ := cmp_any (F := fun _ => eqNilM) (rec := rec) (X := X) ho rfl hk
  refine ⟨v, fun rec' X' k' h' => h1 rec' X' k' h' fun _ _ => rfl, ?_⟩
  intro P σ ρ e w hc hop
  refine h2 P σ ρ e w ?_ hop
  intro a b q hq va vb ha hb
  have hund := (hc.ty t ti ht).und
  obtain ⟨_, _, hu0⟩ := hu0
  rw [hu0] at hund
  cases a <;> cases b <;> first
    | (cases hq; done)
    | (cases hq
       simp only [AR] at ha hb
       first
         | (obtain ⟨_, _, _, ha1⟩ := ha; subst ha1; subst hb; exact ⟨trivial, fun d => by simp [Op.equalIn, run_underlying hund]⟩)
         | (obtain ⟨_, _, _, hb1⟩ := hb; subst hb1; subst ha; exact ⟨trivial, fun d => by simp [Op.equalIn, run_underlying hund]⟩)
         | (obtain ⟨_, _, _, _, ha1, _⟩ := ha; subst ha1; subst hb; exact ⟨trivial, fun d => by simp [Op.equalIn, run_underlying hund]⟩)
         | (obtain ⟨_, _, _, _, hb1, _⟩ := hb; subst hb1; subst ha; exact ⟨trivial, fun d => by simp [Op.equalIn, run_underlying hund]⟩)
         | (obtain ⟨_, _, ha1⟩ := ha; subst ha1; subst hb; exact ⟨trivial, fun d => by simp [Op.equalIn, run_underlying hund]⟩)
         | (obtain ⟨_, _, hb1⟩ := hb; subst hb1; subst ha; exact ⟨trivial, fun d => by simp [Op.equalIn, run_underlying hund]⟩)
         | (obtain ⟨_, ha1, _⟩ := ha; subst ha1; subst hb; exact ⟨trivial, fun d => by simp [Op.equalIn, run_underlying hund]⟩)
         | (obtain ⟨_, hb1, _⟩ := hb; subst hb1; subst ha; exact ⟨trivial, fun d => by simp [Op.equalIn, run_underlying hund]⟩)
         | (subst ha; subst hb; exact ⟨trivial, fun d => by simp [Op.equalIn, run_underlying hund]⟩))
theorem eqNilF_pure {ne : Bool} {t t' : TypeId} {x y : Operand} {ti : TI} (ho : o.op = .binOp (opOf ne) t x y t') (ht : C.ty t = some ti) (hu0 : ∃ a b c, ti.und = .func a b c) :
    PureL C nl o (runOp (.n2 (opEqNil eqNilF ne) (od nl x) (od nl y))) := by
  intro rec X k pt tl h r hk
  obtain ⟨v, h1, h2⟩ := cmp_any (F := fun _ => eqNilF) (rec := rec) (X := X) ho rfl hk
  refine ⟨v, fun rec' X' k' h' => h1 rec' X' k' h' fun _ _ => rfl, ?_⟩
  intro P σ ρ e w hc hop
  refine h2 P σ ρ e w ?_ hop
  intro a b q hq va vb ha hb
  have hund := (hc.ty t ti ht).und
  obtain ⟨_, _, _, hu0⟩ := hu0
  rw [hu0] at hund
  cases a <;> cases b <;> first
    | (cases hq; done)
    | (cases hq
       simp only [AR] at ha hb
       first
         | (obtain ⟨_, _, _, ha1⟩ := ha; subst ha1; subst hb; exact ⟨trivial, fun d => by simp [Op.equalIn, run_underlying hund]⟩)
         | (obtain ⟨_, _, _, hb1⟩ := hb; subst hb1; subst ha; exact ⟨trivial, fun d => by simp [Op.equalIn, run_underlying hund]⟩)
         | (obtain ⟨_, _, _, _, ha1, _⟩ := ha; subst ha1; subst hb; exact ⟨trivial, fun d => by simp [Op.equalIn, run_underlying hund]⟩)
         | (obtain ⟨_, _, _, _, hb1, _⟩ := hb; subst hb1; subst ha; exact ⟨trivial, fun d => by simp [Op.equalIn, run_underlying hund]⟩)
         | (obtain ⟨_, _, ha1⟩ := ha; subst ha1; subst hb; exact ⟨trivial, fun d => by simp [Op.equalIn, run_underlying hund]⟩)
         | (obtain ⟨_, _, hb1⟩ := hb; subst hb1; subst ha; exact ⟨trivial, fun d => by simp [Op.equalIn, run_underlying hund]⟩)
         | (obtain ⟨_, ha1, _⟩ := ha; subst ha1; subst hb; exact ⟨trivial, fun d => by simp [Op.equalIn, run_underlying hund]⟩)
         | (obtain ⟨_, hb1, _⟩ := hb; subst hb1; subst ha; exact ⟨trivial, fun d => by simp [Op.equalIn, run_underlying hund]⟩)
         | (subst ha; subst hb; exact ⟨trivial, fun d => by simp [Op.equalIn, run_underlying hund]⟩))
theorem eqPtr_read {ne : Bool} {t t' el : TypeId} {x y : Operand} {ti ei : TI} (ho : o.op = .binOp (opOf ne) t x y t') (ht : C.ty t = some ti) (hu0 : ti.und = .pointer el) (he : C.ty el = some ei) (hz : Nat.beq ei.size 0 = false) :
    ReadL C nl o (runOp (.n2 (opEqPtr ne) (od nl x) (od nl y))) := by
  intro rec X k pt tl h r hk
  obtain ⟨v, h1, h2⟩ := cmp_any (F := eqPtr) (rec := rec) (X := X) ho rfl hk
  refine ⟨v, fun rec' X' k' => h1 rec' X' k' h fun _ _ => rfl, ?_⟩
  intro P σ ρ e w hc hr hop
  refine h2 P σ ρ e w ?_ hop
  intro a b q hq va vb ha hb
  have hund := (hc.ty t ti ht).und
  rw [hu0] at hund
  have hsz := (hc.ty _ ei he).runSize w
  have hz' := beq_false_ne hz
  have hpl : ∀ c, plainBlk h c = true → ∃ x n f, h.get c = some (.cells x n f none) := by
    intro c hcb
    unfold plainBlk at hcb
    split at hcb
    · rename_i x n f hg; exact ⟨x, n, f, hg⟩
    · cases hcb
  unfold eqPtr at hq
  split at hq
  · rename_i b1 o1 b2 o2
    obtain ⟨r1, S1, hb1, rfl⟩ := ha
    obtain ⟨r2, S2, hb2, rfl⟩ := hb
    refine ⟨trivial, fun d => ?_⟩
    cases e1 : Nat.beq b1 b2 with
    | true =>
      rw [e1] at hq
      cases hq
      have := beq_eq e1
      subst this
      rw [hb1] at hb2; cases hb2
      by_cases e2 : o1 = o2
      · subst e2
        simp [Op.equalIn, run_underlying hund, hsz, run_sameAddr_same]
      · have : Nat.beq o1 o2 = false := by
          cases e3 : Nat.beq o1 o2 with
          | true => exact absurd (beq_eq e3) e2
          | false => rfl
        rw [this]
        simp [Op.equalIn, run_underlying hund, hsz, hz', sameAddr, e2]
    | false =>
      rw [e1] at hq
      cases e2 : (plainBlk h b1 && plainBlk h b2) with
      | false => rw [e2] at hq; cases hq
      | true =>
        rw [e2] at hq
        cases hq
        simp only [Bool.and_eq_true] at e2
        obtain ⟨x1, n1, f1, g1⟩ := hpl _ e2.1
        obtain ⟨x2, n2, f2, g2⟩ := hpl _ e2.2
        have hne : r1 ≠ r2 := by
          rintro rfl
          rcases hr.inj b1 b2 r1 S1 S2 hb1 hb2 ⟨_, g1, by simp⟩ ⟨_, g2, by simp⟩ with e3 | ⟨c, n, f, e3⟩
          · exact beq_false_ne e1 e3
          · rw [g1] at e3; cases e3
        obtain ⟨ob1, hw1, hx1⟩ := hr.blk b1 r1 S1 hb1
        obtain ⟨cs1, t1, rfl, _⟩ := hx1 _ g1
        obtain ⟨ob2, hw2, hx2⟩ := hr.blk b2 r2 S2 hb2
        obtain ⟨cs2, t2, rfl, _⟩ := hx2 _ g2
        have := run_sameAddr_other (P := P) (a := ⟨r1, o1, none⟩) (b := ⟨r2, o2, none⟩) w (by intro h; exact hne (congrArg Addr.block h)) hw1 hw2
        simp [Op.equalIn, run_underlying hund, hsz, hz', this]
  · obtain ⟨r1, S1, hb1, rfl⟩ := ha
    obtain rfl : vb = _ := hb
    cases hq
    exact ⟨trivial, fun d => by simp [Op.equalIn, run_underlying hund]⟩
  · obtain ⟨r1, S1, hb1, rfl⟩ := hb
    obtain rfl : va = _ := ha
    cases hq
    exact ⟨trivial, fun d => by simp [Op.equalIn, run_underlying hund]⟩
  · obtain rfl : va = _ := ha
    obtain rfl : vb = _ := hb
    cases hq
    exact ⟨trivial, fun d => by simp [Op.equalIn, run_underlying hund]⟩
  · cases hq
theorem eqAgg_pure {ne : Bool} {t t' : TypeId} {x y : Operand} {ti : TI} {cs : List CK} (ho : o.op = .binOp (opOf ne) t x y t') (ht : C.ty t = some ti) (hund : (∃ fs, ti.und = .struct fs) ∨ ∃ n e, ti.und = .array n e) (hcs : cks C 8 t = some cs) :
    PureL C nl o (runOp (.n2 (opEqAgg C ne cs) (od nl x) (od nl y))) := by
  intro rec X k pt tl h r hk
  obtain ⟨u, hu, hk1⟩ := ev_some (show ev (od nl x) pt tl _ = some r from hk)
  obtain ⟨u', hu', hk2⟩ := ev_some (show ev (od nl y) pt tl _ = some r from hk1)
  cases u with
  | agg la =>
    cases u' with
    | agg lb =>
      obtain ⟨q, hq, hk3⟩ := optK_some hk2
      refine ⟨.one (.bool (bif ne then bnot q else q)), ?_, ?_⟩
      · intro rec' X' k' h'
        show ev (od nl x) pt tl _ = _
        rw [ev_eq hu]
        show ev (od nl y) pt tl _ = _
        rw [ev_eq hu']
        exact optK_eq hq
      · intro P σ ρ e w hc hop
        obtain ⟨va, hx, hva⟩ := hop x (by simp [ho, Op.operands]) _ hu
        obtain ⟨vb, hy, hvb⟩ := hop y (by simp [ho, Op.operands]) _ hu'
        obtain ⟨_, h1, h2⟩ := kinds_ok hc 8 t cs hcs ti ht
        have hag : ti.agg = true := by
          have := (hc.ty t ti ht).agg
          rcases hund with ⟨_, hu⟩ | ⟨_, _, hu⟩ <;> (rw [hu] at this; exact this)
        have hd : 8 ≤ P.depth := by simp [Program.depth, Made.depth]; omega
        refine ⟨_, exec_cmp ho ?_ ?_ ?_, rfl⟩
        · rw [hx, hy]; exact run_eqGuard_agg w _ t x y _ _ (h1 _ hd)
        · rw [hx, hy]; cases ne <;> rfl
        · exact h2 ρ la lb va vb (e x) (e y) q w 10000 (by omega) hq hva hvb ⟨fun _ => hx, fun h => by rw [hag] at h; cases h⟩ ⟨fun _ => hy, fun h => by rw [hag] at h; cases h⟩
    | _ => cases hk2
  | _ => cases hk2
end Eng
end

noncomputable section
namespace Eng
open Go
variable {ρ ρ' : Rho} {σ : Sig} {C : Cfg} {P : Program} {nl : Nat} {o : Oper}

theorem exec_b {c : Call} {b : Builtin} (ho : o.op = .call c) (hcal : c.callee = .builtin b) (e : Operand → Value) (w : World) :
    (execOp e o).run P w = (builtin b c.argTypes o.type (c.args.map fun | .const _ => true | _ => false) (c.args.map e)).run P w := by
  simp only [execOp, ho, resolve, hcal, Sem.run_bind, Sem.run_pure, Result.andThen_ok, invoke]
  rfl
theorem run_getMap {w : World} {r : Nat} {es : Array MapEntry} {clock : Nat} (hb : w.heap[r]? = some (.map es clock)) : (getObj r).run P w = .ok (.map es clock) w := by
  simp [getObj, Sem.run, hb]
theorem run_setMap {w : World} {r : Nat} {es : Array MapEntry} {clock : Nat} (ob : Obj) (hb : w.heap[r]? = some (.map es clock)) : (setObj r ob).run P w = .ok () (putObj w r ob) := by
  simp [setObj, Sem.run, hb, putObj]
theorem arr1 {α : Type} {a : Array α} {x : α} (h : a.toList = [x]) : a = #[x] := by apply Array.ext'; simp [h]
theorem arr2 {α : Type} {a : Array α} {x y : α} (h : a.toList = [x, y]) : a = #[x, y] := by apply Array.ext'; simp [h]
theorem arr0 {α : Type} {a : Array α} {x : α} {l : List α} (h : a.toList = x :: l) : a[0]? = some x := by rw [← Array.getElem?_toList, h]; rfl
theorem lenA_some {a : A} {k : Nat → OR} {r : Rs} (h : lenA a k = some r) : ∃ n, k n = some r ∧ (∀ k', lenA a k' = k' n) ∧ ∀ (ρ : Rho) (σ : Sig) v, AR ρ σ a v → ∃ base c, v = .slice base n c := by
  cases a with
  | slice b off ln c => exact ⟨ln, h, fun _ => rfl, fun ρ σ v ⟨r, S, _, hv⟩ => ⟨_, _, hv⟩⟩
  | fsl b off ln es => exact ⟨ln, h, fun _ => rfl, fun ρ σ v ⟨r, S, c, _, hv, _⟩ => ⟨_, _, hv⟩⟩
  | nils => exact ⟨0, h, fun _ => rfl, fun ρ σ v hv => ⟨_, _, hv⟩⟩
  | emp => exact ⟨0, h, fun _ => rfl, fun ρ σ v ⟨a, c, hv⟩ => ⟨_, _, hv⟩⟩
  | _ => cases h
theorem len_pure {c : Call} {t : TypeId} {ts : List TypeId} {x : Operand} {ti : TI} {el : TypeId} (ho : o.op = .call c) (hcal : c.callee = .builtin .len) (hts : c.argTypes.toList = t :: ts) (hxs : c.args.toList = [x])
    (ht : C.ty t = some ti) (hu0 : ti.und = .slice el) : PureL C nl o (runOp (.n1 opLen (od nl x))) := by
  intro rec X k pt tl h r hk
  obtain ⟨u, hu, hk1⟩ := ev_some (show ev (od nl x) pt tl _ = some r from hk)
  obtain ⟨a, rfl, hk2⟩ := oneK_some hk1
  by_cases hw : ∃ b es n, a = .wsl b es n
  · obtain ⟨b, es, n, rfl⟩ := hw
    refine ⟨.one (.sym .i64 n), ?_, ?_⟩
    · intro rec' X' k' h'
      show ev (od nl x) pt tl _ = _
      rw [ev_eq hu]
      rfl
    · intro P σ ρ e w hc hop
      obtain ⟨r, S, N, _, hv, hN, _⟩ := hop x (by simp [ho, Op.operands, Call.operands, hcal, arr1 hxs]) _ hu
      have h3 := (hc.ty t ti ht).runUnd w
      rw [hu0] at h3
      refine ⟨goInt N, .inl ?_, by show goInt N = .int .i64 _; rw [← hN]; rfl⟩
      rw [exec_b ho hcal]
      simp [builtin, Builtin.len_, arr0 hts, arr1 hxs, h3, hv]
  have hws : ∀ K r, wslK a K r = r := fun K r => by
    cases a with
    | wsl b es n => exact (hw ⟨b, es, n, rfl⟩).elim
    | _ => rfl
  rw [hws] at hk2
  obtain ⟨n, hk3, h1, h2⟩ := lenA_some hk2
  refine ⟨.one (.int .i64 (.ofNat n)), ?_, ?_⟩
  · intro rec' X' k' h'
    show ev (od nl x) pt tl _ = _
    rw [ev_eq hu]
    show wslK a _ (lenA a _) = _
    rw [hws]
    exact h1 (fun n => k' (.one (.int .i64 (.ofNat n))) h')
  · intro P σ ρ e w hc hop
    obtain ⟨base, cp, hv⟩ := h2 ρ σ (e x) (hop x (by simp [ho, Op.operands, Call.operands, hcal, arr1 hxs]) _ hu)
    have h3 := (hc.ty t ti ht).runUnd w
    rw [hu0] at h3
    refine ⟨goInt n, .inl ?_, rfl⟩
    rw [exec_b ho hcal]
    simp [builtin, Builtin.len_, arr0 hts, arr1 hxs, h3, hv]
theorem lenC_pure {c : Call} {t : TypeId} {ts : List TypeId} {x : Operand} {n : Nat} (ho : o.op = .call c) (hcal : c.callee = .builtin .len) (hts : c.argTypes.toList = t :: ts) (hxs : c.args.toList = [x])
    (ht : ∀ P σ w (v : Value), CfgOK P C σ → (Builtin.len_ c.argTypes o.type #[v]).run P w = .ok (goInt n) w) : PureL C nl o (runOp (.n0 (opLenC n))) := by
  intro rec X k pt tl h r hk
  refine ⟨.one (.int .i64 (.ofNat n)), fun _ _ _ _ => rfl, ?_⟩
  intro P σ ρ e w hc hop
  refine ⟨goInt n, .inl ?_, rfl⟩
  rw [exec_b ho hcal]
  have := ht P σ w (e x) hc
  simp [builtin, arr1 hxs, this]
theorem entsK_some {h : H} {a : A} {k : List ME → OR} {r : Rs} (hk : entsK h a k = some r) : ∃ es, k es = some r ∧ (∀ k', entsK h a k' = k' es) ∧
    ((a = .nilm ∧ es = []) ∨ ∃ b clock, a = .map b ∧ h.get b = some (.map es clock)) := by
  cases a with
  | nilm => exact ⟨[], hk, fun _ => rfl, .inl ⟨rfl, rfl⟩⟩
  | map b =>
    have hk' : (match h.get b with | some (.map es _) => k es | _ => none) = some r := hk
    cases hg : h.get b with
    | none => rw [hg] at hk'; cases hk'
    | some y =>
      rw [hg] at hk'
      cases y with
      | map es clock =>
        refine ⟨es, hk', ?_, .inr ⟨b, clock, rfl, hg⟩⟩
        intro k'
        show (match h.get b with | some (.map es _) => k' es | _ => none) = _
        rw [hg]
      | _ => cases hk'
  | _ => cases hk
theorem Rel.map {h : H} {w : World} (hr : Rel ρ σ C h w) {b r S : Nat} (hb : ρ b = some (r, S)) {es : List ME} {clock : Nat} (hg : h.get b = some (.map es clock)) :
    ∃ ms : List MapEntry, w.heap[r]? = some (.map ms.toArray clock) ∧ F2 (MER ρ σ) es ms := by
  obtain ⟨ob, hw, hx⟩ := hr.blk b r S hb
  obtain ⟨ms, rfl, hms⟩ := hx _ hg
  exact ⟨ms, hw, hms⟩
theorem lenMap_read {c : Call} {t q el : TypeId} {ts : List TypeId} {x : Operand} {ti : TI} (ho : o.op = .call c) (hcal : c.callee = .builtin .len) (hts : c.argTypes.toList = t :: ts) (hxs : c.args.toList = [x])
    (ht : C.ty t = some ti) (hu0 : ti.und = .map q el) : ReadL C nl o (runOp (.n1 opLenMap (od nl x))) := by
  intro rec X k pt tl h r hk
  obtain ⟨u, hu, hk1⟩ := ev_some (show ev (od nl x) pt tl _ = some r from hk)
  obtain ⟨a, rfl, hk2⟩ := oneK_some hk1
  obtain ⟨es, hk3, h1, h2⟩ := entsK_some hk2
  refine ⟨.one (.int .i64 (.ofNat (len es))), ?_, ?_⟩
  · intro rec' X' k'
    show ev (od nl x) pt tl _ = _
    rw [ev_eq hu]
    exact h1 (fun es => k' (.one (.int .i64 (.ofNat (len es)))) h)
  · intro P σ ρ e w hc hr hop
    have hx := hop x (by simp [ho, Op.operands, Call.operands, hcal, arr1 hxs]) _ hu
    have h3 := (hc.ty t ti ht).runUnd w
    rw [hu0] at h3
    refine ⟨goInt es.length, .inl ?_, by rw [len_eq]; rfl⟩
    rw [exec_b ho hcal]
    rcases h2 with ⟨rfl, rfl⟩ | ⟨b, clock, rfl, hg⟩
    · have hx : e x = .map none := hx
      simp [builtin, Builtin.len_, arr0 hts, arr1 hxs, h3, hx]
    · obtain ⟨rr, S, hb, he⟩ := hx
      obtain ⟨ms, hw, hms⟩ := hr.map hb hg
      have := run_getMap (P := P) hw
      simp [builtin, Builtin.len_, arr0 hts, arr1 hxs, h3, he, this, hms.length]
theorem cap_pure {c : Call} {t el : TypeId} {ts : List TypeId} {x : Operand} {ti : TI} (ho : o.op = .call c) (hcal : c.callee = .builtin .cap) (hts : c.argTypes.toList = t :: ts) (hxs : c.args.toList = [x])
    (ht : C.ty t = some ti) (hu0 : ti.und = .slice el) : PureL C nl o (runOp (.n1 opCap (od nl x))) := by
  intro rec X k pt tl h r hk
  obtain ⟨u, hu, hk1⟩ := ev_some (show ev (od nl x) pt tl _ = some r from hk)
  obtain ⟨a, rfl, hk2⟩ := oneK_some hk1
  have key : ∀ n, (∀ k', capA a k' = k' n) → (∀ (ρ : Rho) (σ : Sig) v, AR ρ σ a v → ∃ base l, v = .slice base l n) → ∃ v,
      (∀ rec' X' k' h', runOp (.n1 opCap (od nl x)) rec' X' k' pt tl h' = k' v h') ∧
      ∀ P σ ρ e w, CfgOK P C σ → OpdR ρ σ nl o.op pt tl e → ∃ v', Exec P e o w v' w ∧ AVR ρ σ v v' := by
    intro n h1 h2
    refine ⟨.one (.int .i64 (.ofNat n)), ?_, ?_⟩
    · intro rec' X' k' h'
      show ev (od nl x) pt tl _ = _
      rw [ev_eq hu]
      exact h1 (fun n => k' (.one (.int .i64 (.ofNat n))) h')
    · intro P σ ρ e w hc hop
      obtain ⟨base, l, hv⟩ := h2 ρ σ (e x) (hop x (by simp [ho, Op.operands, Call.operands, hcal, arr1 hxs]) _ hu)
      have h3 := (hc.ty t ti ht).runUnd w
      rw [hu0] at h3
      refine ⟨goInt n, .inl ?_, rfl⟩
      rw [exec_b ho hcal]
      simp [builtin, Builtin.cap_, arr0 hts, arr1 hxs, h3, hv]
  cases a with
  | slice b off ln cp => exact key cp (fun _ => rfl) fun ρ σ v ⟨r, S, _, hv⟩ => ⟨_, _, hv⟩
  | nils => exact key 0 (fun _ => rfl) fun ρ σ v hv => ⟨_, _, hv⟩
  | _ => cases hk2
theorem ints2_some {a b : A} {k : IntKind → Int → IntKind → Int → OR} {r : Rs} (h : intsK a b k none = some r) : ∃ q x q' y, a = .int q x ∧ b = .int q' y ∧ k q x q' y = some r := by
  cases a with
  | int q x => cases b with
    | int q' y => exact ⟨q, x, q', y, rfl, rfl, h⟩
    | _ => cases h
  | _ => cases h
theorem eOf_R {a : A} {q : IntKind} {x : E} {v : Value} (h : eOf a = some (q, x)) (ha : AR ρ σ a v) : v = .int q (x.den σ) := by
  cases a with
  | int k n => cases h; exact ha
  | sym k e => cases h; exact ha
  | _ => cases h
theorem aOf_R (q : IntKind) (x : E) : AR ρ σ (aOf q x) (.int q (x.den σ)) := by cases x <;> rfl
theorem minmax_pure {c : Call} {mx : Bool} {x y : Operand} (ho : o.op = .call c) (hcal : c.callee = .builtin (bif mx then .max else .min)) (hxs : c.args.toList = [x, y]) : PureL C nl o (runOp (.n2 (opMinMax C mx) (od nl x) (od nl y))) := by
  intro rec X k pt tl h r hk
  obtain ⟨u, hu, hk1⟩ := ev_some (show ev (od nl x) pt tl _ = some r from hk)
  obtain ⟨a, rfl, hk2⟩ := oneK_some hk1
  obtain ⟨u', hu', hk3⟩ := ev_some (show ev (od nl y) pt tl _ = some r from hk2)
  obtain ⟨b, rfl, hk4⟩ := oneK_some hk3
  have hev : ∀ rec' X' (k' : K) h', runOp (.n2 (opMinMax C mx) (od nl x) (od nl y)) rec' X' k' pt tl h' = intsK a b (fun q m _ n => k' (.one (.int q (bif bif mx then iltb m n else iltb n m then n else m))) h') (optK (mmA C mx a b) fun r => k' (.one r) h') := by
    intro rec' X' k' h'
    show ev (od nl x) pt tl _ = _
    rw [ev_eq hu]
    show ev (od nl y) pt tl _ = _
    rw [ev_eq hu']
    rfl
  rcases intsK_some (a := a) (b := b) (k := fun q m _ n => k (.one (.int q (bif bif mx then iltb m n else iltb n m then n else m))) h) (r := optK (mmA C mx a b) fun r => k (.one r) h) with ⟨q, m, q', n, rfl, rfl, e⟩ | ⟨hno, e⟩
  · refine ⟨.one (.int q (bif bif mx then iltb m n else iltb n m then n else m)), fun rec' X' k' h' => by rw [hev]; rfl, ?_⟩
    intro P σ ρ e w hc hop
    have hx : e x = .int q m := hop x (by simp [ho, Op.operands, Call.operands, arr2 hxs]) _ hu
    have hy : e y = .int q' n := hop y (by simp [ho, Op.operands, Call.operands, arr2 hxs]) _ hu'
    refine ⟨_, .inl ?_, rfl⟩
    rw [exec_b ho hcal]
    cases mx with
    | true =>
      simp [builtin, Builtin.max_, arr2 hxs, hx, hy, Builtin.max2, iltb_eq]
    | false =>
      simp [builtin, Builtin.min_, arr2 hxs, hx, hy, Builtin.min2, iltb_eq]
  · have hk5 : optK (mmA C mx a b) (fun r => k (.one r) h) = some r := by rw [← e]; exact hk4
    obtain ⟨z, hz, _⟩ := optK_some hk5
    refine ⟨.one z, fun rec' X' k' h' => ?_, ?_⟩
    · rw [hev]
      rcases intsK_some (a := a) (b := b) (k := fun q m _ n => k' (.one (.int q (bif bif mx then iltb m n else iltb n m then n else m))) h') (r := optK (mmA C mx a b) fun r => k' (.one r) h') with ⟨q, m, q', n, ha, hb, _⟩ | ⟨_, e'⟩
      · exact absurd ⟨q, m, q', n, ha, hb⟩ hno
      · rw [e', hz]; rfl
    · intro P σ ρ e w hc hop
      unfold mmA at hz
      split at hz
      · rename_i q xe q' ye h1 h2
        have hx : e x = .int q (xe.den σ) := eOf_R h1 (hop x (by simp [ho, Op.operands, Call.operands, arr2 hxs]) _ hu)
        have hy : e y = .int q' (ye.den σ) := eOf_R h2 (hop y (by simp [ho, Op.operands, Call.operands, arr2 hxs]) _ hu')
        split at hz
        · rename_i t ht
          cases hz
          refine ⟨.int q ((bif t then ye else xe).den σ), .inl ?_, aOf_R _ _⟩
          rw [exec_b ho hcal]
          cases mx with
          | true =>
            have h3 := hc.cmp _ _ _ _ ht
            simp only [cmpDen] at h3
            cases t <;> simp at h3 <;> simp [builtin, Builtin.max_, arr2 hxs, hx, hy, Builtin.max2] <;> omega
          | false =>
            have h3 := hc.cmp _ _ _ _ ht
            simp only [cmpDen] at h3
            cases t <;> simp at h3 <;> simp [builtin, Builtin.min_, arr2 hxs, hx, hy, Builtin.min2] <;> omega
        · cases hz
      · cases hz
end Eng
end

noncomputable section
namespace Eng
open Go
variable {ρ ρ' : Rho} {σ : Sig} {C : Cfg} {P : Program} {nl : Nat} {o : Oper}

theorem run_partL {t : TypeId} {ti : TI} (ht : TyR P t ti) {vs : List Value} {off : Nat} (hle : off + ti.size ≤ vs.length) (w : World) :
    ∃ v, (part t vs.toArray off).run P w = .ok v w ∧ Vof ti.agg v ((vs.drop off).take ti.size) ∧ ((vs.drop off).take ti.size).length = ti.size := by
  have hlen : ((vs.drop off).take ti.size).length = ti.size := by simp; omega
  by_cases h0 : ti.size = 0
  · have hag : ti.agg = true := by
      cases hg : ti.agg with
      | true => rfl
      | false => have := ht.size1 hg; omega
    have h1 := ht.runAgg w
    have h2 := ht.runSize w
    rw [hag] at h1
    refine ⟨.agg ((vs.drop off).take ti.size).toArray, ?_, ⟨fun _ => rfl, fun h => by rw [hag] at h; cases h⟩, hlen⟩
    simp [part, h1, h2, List.extract_eq_take_drop]
  · obtain ⟨v, h1, h2⟩ := run_part' ht (vs := vs) (off := off) (by intro e; rw [e] at hlen; simp at hlen; omega) w
    exact ⟨v, h1, h2, hlen⟩
/-- a key of a type of plain cells may be asked for -/
def KeyRun (P : Program) (C : Cfg) (f : Nat) (t : TypeId) : Prop :=
  ∀ ti, C.ty t = some ti → ∀ (e : Bool) (d : Nat) (vs : List Value) (v : Value) (w : World), f ≤ d → vs.length = ti.size → Vof ti.agg v vs → (Instr.checkKey e d t v).run P w = .ok () w
theorem fields_key (hc : CfgOK P C σ) {f : Nat} (ih : ∀ t cs, cks C f t = some cs → KeyRun P C f t) {e : Bool} {d : Nat} (hd : f ≤ d) {vs : List Value} {w : World} : ∀ (fs : List Field) (off : Nat) (cs : List CK), fieldsOk C fs off vs.length = true →
    joinO (fs.map fun g => cks C f g.type) = some cs →
    (forIn fs PUnit.unit fun g (_ : PUnit) => if g.name ≠ "_" then do let x ← part g.type vs.toArray g.offset; Instr.checkKey e d g.type x; pure (ForInStep.yield PUnit.unit) else pure (ForInStep.yield PUnit.unit) : Sem PUnit).run P w = .ok PUnit.unit w := by
  intro fs
  induction fs with
  | nil => intro off cs _ _; simp
  | cons g fs ihf =>
    intro off cs h1 h2
    obtain ⟨a, b, h3, h4, rfl⟩ := joinO_cons h2
    unfold fieldsOk at h1
    split at h1
    · rename_i ti hti
      simp only [Bool.and_eq_true, bne_iff_ne, ne_eq] at h1
      obtain ⟨⟨h5, h6⟩, h7⟩ := h1
      have h5 := beq_eq h5
      have hle : ∀ (fs : List Field) (off : Nat), fieldsOk C fs off vs.length = true → off ≤ vs.length := by
        intro fs
        induction fs with
        | nil => intro off h; have := beq_eq h; omega
        | cons g fs ih =>
          intro off h
          unfold fieldsOk at h
          split at h
          · simp only [Bool.and_eq_true] at h
            have := ih _ h.2
            have : Nat.add off (‹TI›).size = off + (‹TI›).size := rfl
            omega
          · cases h
      have h8 := hle fs _ h7
      have h8' : off + ti.size ≤ vs.length := h8
      obtain ⟨x, hx1, hx2, hx3⟩ := run_partL (hc.ty _ ti hti) h8' w
      have hk := ih g.type a h3 ti hti e d _ x w hd hx3 hx2
      rw [List.forIn_cons]
      rw [if_pos (show g.name ≠ "_" from h6), h5]
      simp only [Sem.run_bind, hx1, Result.andThen_ok, hk, Sem.run_pure]
      exact ihf _ b h7 h4
    · cases h1
theorem key_run (hc : CfgOK P C σ) : ∀ (f : Nat) (t : TypeId) (cs : List CK), cks C f t = some cs → KeyRun P C f t := by
  intro f
  induction f with
  | zero => intro t cs h; cases h
  | succ f ih =>
    intro t cs h ti hti e d vs v w hd hlen hv
    obtain ⟨d, rfl⟩ : ∃ d', d = d' + 1 := ⟨d - 1, by omega⟩
    obtain ⟨ti', hti', hu⟩ := cks_succ h
    rw [hti] at hti'; cases hti'
    have hT := hc.ty t ti hti
    have hund := hT.runUnd w
    have hagg := hT.agg
    unfold cksUnd at hu
    split at hu
    · rename_i hk; rw [hk] at hund; simp [Instr.checkKey, hund]
    · rename_i hk; rw [hk] at hund; simp [Instr.checkKey, hund]
    · rename_i hk; rw [hk] at hund; simp [Instr.checkKey, hund]
    · rename_i fs hk
      rw [hk] at hagg hund
      simp only at hagg
      cases hb : (ti.plain && fieldsOk C fs.toList 0 ti.size) with
      | false => rw [hb] at hu; cases hu
      | true =>
        rw [hb] at hu
        simp only [cond_true] at hu
        simp only [Bool.and_eq_true] at hb
        rw [hv.1 hagg]
        have := fields_key hc ih (e := e) (d := d) (by omega) (w := w) fs.toList 0 cs (by rw [hlen]; exact hb.2) hu
        simp only [Instr.checkKey, Sem.run_bind, hund, Result.andThen_ok]
        rw [← Array.forIn_toList]
        show (Sem.run P (forIn fs.toList PUnit.unit _) w).andThen _ = _
        erw [this]
        rfl
    · rename_i n el hk
      rw [hk] at hagg hund
      simp only at hagg
      split at hu
      · rename_i ei hei
        cases hb : (Nat.beq ti.size (Nat.mul n ei.size) && Nat.ble 1 ei.size) with
        | false => rw [hb] at hu; cases hu
        | true =>
          rw [hb] at hu
          simp only [cond_true] at hu
          split at hu
          · rename_i l hl
            simp only [Bool.and_eq_true] at hb
            have hsz : ti.size = n * ei.size := beq_eq hb.1
            have hsize := (hc.ty _ ei hei).runSize w
            rw [hv.1 hagg]
            simp only [Instr.checkKey, Sem.run_bind, hund, Result.andThen_ok]
            simp only [Std.Legacy.Range.forIn_eq_forIn_range', Std.Legacy.Range.size, Nat.sub_zero, Nat.add_one_sub_one, Nat.div_one]
            have key : ∀ (m i : Nat), i + m = n → (forIn (List.range' i m) PUnit.unit fun i (_ : PUnit) => do
                let y ← Go.sizeOf el; let x ← part el vs.toArray (i * y); Instr.checkKey e d el x; pure (ForInStep.yield PUnit.unit) : Sem PUnit).run P w = .ok PUnit.unit w := by
              intro m
              induction m with
              | zero => intro i _; simp
              | succ m ihm =>
                intro i him
                have hle : i * ei.size + ei.size ≤ vs.length := by
                  rw [hlen, hsz]
                  calc i * ei.size + ei.size = (i + 1) * ei.size := by rw [Nat.succ_mul]
                    _ ≤ n * ei.size := Nat.mul_le_mul_right _ (by omega)
                obtain ⟨x, hx1, hx2, hx3⟩ := run_partL (hc.ty _ ei hei) hle w
                have hk := ih el l hl ei hei e d _ x w (by omega) hx3 hx2
                rw [List.range'_succ, List.forIn_cons]
                simp only [Sem.run_bind, hsize, hx1, Result.andThen_ok, hk, Sem.run_pure]
                exact ihm (i + 1) (by omega)
            have := key n 0 (by omega)
            show (Sem.run P (forIn (List.range' 0 n) PUnit.unit _) w).andThen _ = _
            erw [this]
            rfl
          · cases hu
      · cases hu
    · cases hu
/- finding a key -/
theorem run_equalIn_str {t : TypeId} (h : P.underlying t = some .string) (d : Nat) (a b : ByteArray) (w : World) : (Op.equalIn (d + 1) t (.string a) (.string b)).run P w = .ok (a == b) w := by
  simp [Op.equalIn, run_underlying h]
theorem sameNow_eq {t : TypeId} {und : TypeDesc} (hu : P.underlying t = some und) {x y : Value} {b : Bool} {w : World} (h : (Op.equal t x y).run P w = .ok b w) : Instr.sameNow und x y = none ∨ Instr.sameNow und x y = some b := by
  have h' : (Op.equalIn 10000 t x y).run P w = .ok b w := h
  cases und <;> try exact .inl rfl
  · cases x <;> try exact .inl rfl
    cases y <;> try exact .inl rfl
    rw [run_equalIn_bool' w 9999 t _ _ hu] at h'
    cases h'
    exact .inr rfl
  · rename_i q
    cases x <;> try exact .inl rfl
    rename_i k a
    cases y <;> try exact .inl rfl
    rename_i k' b'
    by_cases e : k = k'
    · subst e
      rw [run_equalIn_int w 9999 t _ _ a b' hu] at h'
      cases h'
      exact .inr (by simp [Instr.sameNow])
    · exact .inl (by simp [Instr.sameNow, e])
  · cases x <;> try exact .inl rfl
    cases y <;> try exact .inl rfl
    rw [run_equalIn_str hu 9999] at h'
    cases h'
    exact .inr rfl
theorem eqV_run (hc : CfgOK P C σ) {t : TypeId} {tt : TI} {kc : List CK} (hk : cks C 8 t = some kc) (ht : C.ty t = some tt) {a b : V} {r : Bool} (h : eqV C tt.agg kc a b = some r) {va vb : Value} (ha : VR ρ σ a va) (hb : VR ρ σ b vb) (w : World) :
    (Op.equal t va vb).run P w = .ok r w := by
  have h3 := (kinds_ok hc 8 t kc hk tt ht).2.2
  unfold eqV at h
  split at h
  · rename_i x y
    cases hag : tt.agg with
    | true => rw [hag] at h; cases h
    | false =>
      rw [hag] at h
      simp only [cond_false] at h
      split at h
      · rename_i c
        refine h3 ρ [x] [y] [va] [vb] va vb r w 10000 (by omega) ?_ (.cons ha .nil) (.cons hb .nil) ⟨(fun e => by rw [hag] at e; cases e), fun _ => rfl⟩ ⟨(fun e => by rw [hag] at e; cases e), fun _ => rfl⟩
        show andO (eqCell C c x y) (some true) = some r
        rw [h]
        cases r <;> rfl
      · cases h
  · rename_i x y
    cases hag : tt.agg with
    | false => rw [hag] at h; cases h
    | true =>
      rw [hag] at h
      simp only [cond_true] at h
      obtain ⟨vx, rfl, hx⟩ := ha
      obtain ⟨vy, rfl, hy⟩ := hb
      exact h3 ρ x y vx vy _ _ r w 10000 (by omega) h hx hy ⟨fun _ => rfl, fun e => by rw [hag] at e; cases e⟩ ⟨fun _ => rfl, fun e => by rw [hag] at e; cases e⟩
  · cases h
/-- what the search finds -/
def found (ms : List MapEntry) (res : Option (Nat × ME)) : Option (Nat × Value) := res.bind fun p => (ms[p.1]?).map fun m => (p.1, m.val)
theorem find_run (hc : CfgOK P C σ) {t : TypeId} {tt : TI} {kc : List CK} (hk : cks C 8 t = some kc) (ht : C.ty t = some tt) {q : V} {vq : Value} (hq : VR ρ σ q vq) (w : World) : ∀ (es : List ME) (ms : List MapEntry) (i : Nat) (res : Option (Nat × ME)),
    F2 (MER ρ σ) es ms → findK C tt.agg kc q es i = some res →
    (∃ out, (Instr.findAsking t vq ms i).run P w = .ok out w ∧ (Instr.findNow tt.und vq ms i = none ∨ Instr.findNow tt.und vq ms i = some out) ∧
      ((res = none ∧ out = none) ∨ ∃ j e m, res = some (i + j, e) ∧ out = some (i + j, m.val) ∧ es[j]? = some e ∧ ms[j]? = some m ∧ (Op.equal t vq m.key).run P w = .ok true w ∧ eqV C tt.agg kc q e.key = some true)) := by
  intro es
  induction es with
  | nil =>
    intro ms i res hf h
    cases hf
    cases h
    exact ⟨none, rfl, .inr rfl, .inl ⟨rfl, rfl⟩⟩
  | cons e es ih =>
    intro ms i res hf h
    cases hf with
    | cons hm hf =>
      rename_i m ms
      have h' : findStep e i (eqV C tt.agg kc q e.key) (findK C tt.agg kc q es) = some res := h
      cases hv : eqV C tt.agg kc q e.key with
      | none => rw [hv] at h'; cases h'
      | some b =>
        rw [hv] at h'
        have hrun := eqV_run hc hk ht hv hq hm.1 w
        have hnow := sameNow_eq (hc.ty t tt ht).und hrun
        cases b with
        | true =>
          cases h'
          refine ⟨some (i, m.val), by simp [Instr.findAsking, hrun], ?_, .inr ⟨0, e, m, rfl, rfl, rfl, rfl, hrun, hv⟩⟩
          rcases hnow with h1 | h1
          · left; simp [Instr.findNow, h1]
          · right; simp [Instr.findNow, h1]
        | false =>
          obtain ⟨out, g1, g2, g3⟩ := ih ms (i + 1) res hf h'
          refine ⟨out, by simp [Instr.findAsking, hrun, g1], ?_, ?_⟩
          · rcases hnow with h1 | h1
            · left; simp [Instr.findNow, h1]
            · simp only [Instr.findNow, h1]; exact g2
          · rcases g3 with ⟨h1, h2⟩ | ⟨j, e', m', h1, h2, h3, h4, h5⟩
            · exact .inl ⟨h1, h2⟩
            · exact .inr ⟨j + 1, e', m', by rw [h1]; congr 2; omega, by rw [h2]; congr 2; omega, h3, h4, h5⟩
theorem findKey_run (hc : CfgOK P C σ) {t : TypeId} {tt : TI} {kc : List CK} (hk : cks C 8 t = some kc) (ht : C.ty t = some tt) {q : V} {vq : Value} (hq : VR ρ σ q vq) (w : World) {es : List ME} {ms : List MapEntry} {res : Option (Nat × ME)}
    (hf : F2 (MER ρ σ) es ms) (h : findK C tt.agg kc q es 0 = some res) :
    (res = none ∧ (Instr.findKey t vq ms).run P w = .ok none w) ∨ ∃ j e m, res = some (j, e) ∧ es[j]? = some e ∧ ms[j]? = some m ∧ (Instr.findKey t vq ms).run P w = .ok (some (j, m.val)) w ∧ eqV C tt.agg kc q e.key = some true := by
  obtain ⟨out, h1, h2, h3⟩ := find_run hc hk ht hq w es ms 0 res hf h
  have hu := (hc.ty t tt ht).runUnd w
  have hrun : (Instr.findKey t vq ms).run P w = .ok out w := by
    simp only [Instr.findKey, Sem.run_bind, hu, Result.andThen_ok]
    rcases h2 with h2 | h2 <;> rw [h2]
    · exact h1
    · rfl
  rcases h3 with ⟨rfl, rfl⟩ | ⟨j, e, m, h4, h5, h6, h7, _, h8⟩
  · exact .inl ⟨rfl, hrun⟩
  · refine .inr ⟨j, e, m, by rw [h4]; simp, h6, h7, ?_, h8⟩
    rw [hrun, h5]; simp
theorem keyOk_run (hc : CfgOK P C σ) {t : TypeId} {tt : TI} {kc : List CK} (hk : cks C 8 t = some kc) (ht : C.ty t = some tt) {q : V} {vq : Value} (hq : VR ρ σ q vq) (h : keyOk tt.agg kc q = true) (e : Bool) (w : World) :
    (Instr.checkKey e 10000 t vq).run P w = .ok () w := by
  have hlen := (kinds_ok hc 8 t kc hk tt ht).1
  cases q with
  | one a =>
    have hag : tt.agg = false := by cases hg : tt.agg with | false => rfl | true => rw [hg] at h; cases h
    refine key_run hc 8 t kc hk tt ht e 10000 [vq] vq w (by omega) ?_ ⟨(fun e => by rw [hag] at e; cases e), fun _ => rfl⟩
    rw [(hc.ty t tt ht).size1 hag]; rfl
  | agg l =>
    have h' : (tt.agg && Nat.beq (len l) (len kc)) = true := h
    simp only [Bool.and_eq_true] at h'
    obtain ⟨vs, rfl, hv⟩ := hq
    have h2 : len l = len kc := beq_eq h'.2
    rw [len_eq, len_eq] at h2
    exact key_run hc 8 t kc hk tt ht e 10000 vs _ w (by omega) (by rw [← hv.length]; omega) ⟨fun _ => rfl, fun e => by rw [h'.1] at e; cases e⟩
end Eng
end

noncomputable section
namespace Eng
open Go
variable {ρ ρ' : Rho} {σ : Sig} {C : Cfg} {P : Program} {nl : Nat} {o : Oper}

theorem oneK_eq (a : A) (k : A → OR) : oneK (.one a) k = k a := rfl
theorem keyK_ind {t : TypeId} {k : Bool → List CK → AOp} (M : AOp → Prop) (hbad : M (.n0 opBad))
    (h : ∀ ti q e tt l, C.ty t = some ti → ti.und = .map q e → C.ty q = some tt → cks C 8 q = some l → M (k tt.agg l)) : M (keyK C t k) := by
  unfold keyK
  cases ht : C.ty t with
  | none => rw [tyK_none ht]; exact hbad
  | some ti =>
    rw [tyK_some ht]
    split
    · rename_i q e hu
      split
      · rename_i l hl
        obtain ⟨tt, htt, _⟩ := cks_succ (f := 7) hl
        have : isAggT C q = tt.agg := by unfold isAggT; rw [htt]
        rw [this]
        exact h ti q e tt l ht hu htt hl
      · exact hbad
    · exact hbad
theorem cMapV_ind {t : TypeId} {k : V → AOp} (M : AOp → Prop) (hbad : M (.n0 opBad))
    (h : ∀ ti q e ei z, C.ty t = some ti → ti.und = .map q e → C.ty e = some ei → zeroV ei = some z → M (k z)) : M (cMapV C t k) := by
  unfold cMapV
  cases ht : C.ty t with
  | none => rw [tyK_none ht]; exact hbad
  | some ti =>
    rw [tyK_some ht]
    split
    · rename_i q e hu
      cases he : C.ty e with
      | none => rw [tyK_none he]; exact hbad
      | some ei =>
        rw [tyK_some he]
        split
        · rename_i z hz; exact h ti q e ei z ht hu he hz
        · exact hbad
    · exact hbad
theorem zeroV_run {t : TypeId} {ti : TI} (ht : TyR P t ti) {z : V} (hz : zeroV ti = some z) (w : World) : ∃ v, (zeroValue t).run P w = .ok v w ∧ ∀ (ρ : Rho) (σ : Sig), VR ρ σ z v := by
  obtain ⟨v, zs, h1, h2, h3, h4, h5, h6⟩ := ht.runZero w
  refine ⟨v, h1, ?_⟩
  intro ρ σ
  unfold zeroV at hz
  cases ha : ti.agg with
  | true =>
    rw [ha] at hz
    cases hz
    exact ⟨zs, h5 ha, h3 ρ σ⟩
  | false =>
    rw [ha] at hz
    simp only [cond_false] at hz
    split at hz
    · rename_i z0 hz0
      cases hz
      have := h3 ρ σ
      rw [hz0, h6 ha] at this
      cases this with
      | cons h _ => exact h
    · cases hz
theorem okV_R {v : V} {va : Value} (h : VR ρ σ v va) (ok b : Bool) : AVR ρ σ (okV ok v b) (if ok then .tuple #[va, .bool b] else va) := by
  cases ok with
  | true => exact ⟨[va, .bool b], rfl, .cons h (.cons rfl .nil)⟩
  | false => exact VR.av _ _ h
def lookV (ok : Bool) (z : V) (res : Option (Nat × ME)) : AV := match res with | some (_, e) => okV ok e.val true | none => okV ok z false
theorem lookup_read {t : TypeId} {x q : Operand} {ok : Bool} (ho : o.op = .lookup t x q ok) : ReadL C nl o (runOp (keyK C t fun ka kc => cMapV C t fun z => .n2 (opLookup C ka kc z ok) (od nl x) (od nl q))) := by
  refine keyK_ind (fun a => ReadL C nl o (runOp a)) bad_read ?_
  intro ti kt et tt kc ht hu0 htt hkc
  refine cMapV_ind (fun a => ReadL C nl o (runOp a)) bad_read ?_
  intro ti' kt' et' ei z ht' hu0' hei hz
  rw [ht] at ht'; cases ht'
  rw [hu0] at hu0'; cases hu0'
  intro rec X k pt tl h r hk
  obtain ⟨u, hu, hk1⟩ := ev_some (show ev (od nl x) pt tl _ = some r from hk)
  obtain ⟨a, rfl, hk2⟩ := oneK_some hk1
  obtain ⟨es, hk3, hes, hmap⟩ := entsK_some hk2
  obtain ⟨u', hu', hk4⟩ := ev_some (show ev (od nl q) pt tl _ = some r from hk3)
  obtain ⟨qv, rfl, hk5⟩ := vK_some hk4
  obtain ⟨hok, hk6⟩ := ifK_some hk5
  have key : ∀ res, findK C tt.agg kc qv es 0 = some res → ∃ v, (∀ rec' X' k', runOp (.n2 (opLookup C tt.agg kc z ok) (od nl x) (od nl q)) rec' X' k' pt tl h = k' v h) ∧
      ∀ P σ ρ e w, CfgOK P C σ → Rel ρ σ C h w → OpdR ρ σ nl o.op pt tl e → ∃ v', Exec P e o w v' w ∧ AVR ρ σ v v' := by
    intro res hfind
    refine ⟨lookV ok z res, ?_, ?_⟩
    · intro rec' X' k'
      show ev (od nl x) pt tl _ = _
      rw [ev_eq hu, oneK_eq, hes, ev_eq hu', vK_av, ifK_eq hok, hfind]
      cases res with
      | none => rfl
      | some p => rfl
    · intro P σ ρ e w hc hr hop
      have hx := hop x (by simp [ho, Op.operands]) _ hu
      have hq := AVR.ofV _ _ (hop q (by simp [ho, Op.operands]) _ hu')
      have h1 := (hc.ty t ti ht).runUnd w
      rw [hu0] at h1
      have hm : ∃ ms : List MapEntry, F2 (MER ρ σ) es ms ∧ (do
          let es ← match e x with
            | .map none => pure #[]
            | .map (some r) => do
              let .map es _ ← getObj r | stuck "Lookup: map expected"
              pure es
            | _ => stuck "Lookup: map expected"
          pure es : Sem (Array MapEntry)).run P w = .ok ms.toArray w := by
        rcases hmap with ⟨rfl, rfl⟩ | ⟨b, clock, rfl, hg⟩
        · have hx : e x = .map none := hx
          exact ⟨[], .nil, by simp [hx]⟩
        · obtain ⟨rr, S, hb, he⟩ := hx
          obtain ⟨ms, hw, hms⟩ := hr.map hb hg
          exact ⟨ms, hms, by simp [he, run_getMap (P := P) hw]⟩
      obtain ⟨ms, hms, hrun⟩ := hm
      have hck := fun b => keyOk_run hc hkc htt hq hok b w
      obtain ⟨zv, hz1, hz2⟩ := zeroV_run (hc.ty _ ei hei) hz w
      rcases findKey_run hc hkc htt hq w hms hfind with ⟨rfl, hf⟩ | ⟨j, e', m, rfl, he', hm', hf, _⟩
      · refine ⟨_, .inl ?_, okV_R (hz2 ρ σ) ok false⟩
        rcases hmap with ⟨rfl, rfl⟩ | ⟨b, clock, rfl, hg⟩
        · have hx : e x = .map none := hx
          cases hms
          simp [execOp, ho, Instr.lookup, h1, hx, hck, hf, hz1]
        · obtain ⟨rr, S, hb, he⟩ := hx
          obtain ⟨ms', hw, hms'⟩ := hr.map hb hg
          simp only [he, Sem.run_bind, run_getMap (P := P) hw, Result.andThen_ok, Sem.run_pure] at hrun
          cases hrun
          simp [execOp, ho, Instr.lookup, h1, he, run_getMap (P := P) hw, hck, hf, hz1]
      · obtain ⟨m2, hm2, hmr⟩ := hms.get he'
        rw [hm'] at hm2; cases hm2
        refine ⟨_, .inl ?_, okV_R hmr.2.1 ok true⟩
        rcases hmap with ⟨rfl, rfl⟩ | ⟨b, clock, rfl, hg⟩
        · simp at he'
        · obtain ⟨rr, S, hb, he⟩ := hx
          obtain ⟨ms', hw, hms'⟩ := hr.map hb hg
          simp only [he, Sem.run_bind, run_getMap (P := P) hw, Result.andThen_ok, Sem.run_pure] at hrun
          cases hrun
          simp [execOp, ho, Instr.lookup, h1, he, run_getMap (P := P) hw, hck, hf]
  cases hfk : findK C tt.agg kc qv es 0 with
  | none => rw [hfk] at hk6; cases hk6
  | some res => exact key res hfk
/- entries -/
theorem mapK_some {h : H} {v : AV} {k : Nat → List ME → Nat → OR} {r : Rs} (hk : mapK h v k = some r) : ∃ b es clock, v = .one (.map b) ∧ h.get b = some (.map es clock) ∧ k b es clock = some r := by
  unfold mapK at hk
  split at hk
  · rename_i b
    split at hk
    · rename_i es clock hg
      exact ⟨b, es, clock, rfl, hg, hk⟩
    · cases hk
  · cases hk
theorem modNth_eq (e : ME) : ∀ (es : List ME) (i : Nat), modNth es i e = es.set i e := by
  intro es
  induction es with
  | nil => intro i; rfl
  | cons x t ih =>
    intro i
    cases i with
    | zero => rfl
    | succ i => show x :: modNth t i e = _; rw [ih]; rfl
theorem delNth_eq : ∀ (es : List ME) (i : Nat), delNth es i = es.eraseIdx i := by
  intro es
  induction es with
  | nil => intro i; rfl
  | cons x t ih =>
    intro i
    cases i with
    | zero => rfl
    | succ i => show x :: delNth t i = _; rw [ih]; rfl
theorem F2.erase {α β : Type} {R : α → β → Prop} {l : List α} {m : List β} (h : F2 R l m) (i : Nat) : F2 R (l.eraseIdx i) (m.eraseIdx i) := by
  induction h generalizing i with
  | nil => exact .nil
  | cons h0 h ih => cases i with
    | zero => exact h
    | succ i => exact .cons h0 (ih i)
theorem modify_set (ms : List MapEntry) (i : Nat) (f : MapEntry → MapEntry) {m : MapEntry} (h : ms[i]? = some m) : ms.toArray.modify i f = (ms.set i (f m)).toArray := by
  apply Array.ext'
  rw [Array.toList_modify]
  show ms.modify i f = ms.set i (f m)
  apply List.ext_getElem?
  intro j
  rw [List.getElem?_modify, List.getElem?_set]
  by_cases e : i = j
  · subst e
    obtain ⟨h1, h2⟩ := List.getElem?_eq_some_iff.1 h
    simp [h1, h2]
  · simp [e]
/-- equal cells are the same -/
theorem bytes_eq {x y : ByteArray} (h : (x == y) = true) : x = y := by
  rw [beq_toListBytes, ByteArray.toList_eq, ByteArray.toList_eq] at h
  have h := eq_of_beq h
  cases x; cases y
  simp at h
  rw [h]
theorem bytes_refl (x : ByteArray) : (x == x) = true := by rw [beq_toListBytes]; exact beq_self_eq_true _
theorem eqCell_true {c : CK} {a b : A} (hc : CfgOK P C σ) (h : eqCell C c a b = some true) {va vb : Value} (ha : AR ρ σ a va) (hb : AR ρ σ b vb) : (∃ k n, va = .int k n ∧ vb = .int k n) ∨ (∃ q, va = .bool q ∧ vb = .bool q) ∨ ∃ s, va = .string s ∧ vb = .string s := by
  cases c with
  | int q =>
    left
    have key : ∀ (k k' : IntKind) (x y : Int), va = .int k x → vb = .int k' y → Nat.beq (kindNo k) (kindNo q) = true → Nat.beq (kindNo k') (kindNo q) = true → (x == y) = true → ∃ k n, va = .int k n ∧ vb = .int k n := by
      intro k k' x y h1 h2 h3 h4 h5
      have e1 := kindNo_inj h3
      have e2 := kindNo_inj h4
      subst e1; subst e2
      have := eq_of_beq h5
      subst this
      exact ⟨_, _, h1, h2⟩
    have spl : ∀ {p q' : Bool} {u : Option Bool}, (bif p && q' then u else none) = some true → p = true ∧ q' = true ∧ u = some true := by
      intro p q' u h
      cases p <;> cases q' <;> simp_all
    unfold eqCell at h
    simp only at h
    split at h
    · obtain ⟨h1, h2, h3⟩ := spl h
      exact key _ _ _ _ ha hb h1 h2 (by rw [← intEqb_eq]; exact Option.some.inj h3)
    · obtain ⟨h1, h2, h3⟩ := spl h
      exact key _ _ _ _ ha hb h1 h2 (symEq_den hc h3).symm
    · obtain ⟨h1, h2, h3⟩ := spl h
      exact key _ _ _ _ ha hb h1 h2 (symEq_den hc h3).symm
    · obtain ⟨h1, h2, h3⟩ := spl h
      exact key _ _ _ _ ha hb h1 h2 (symEq_den hc h3).symm
    · cases h
  | bool =>
    unfold eqCell at h
    simp only at h
    split at h
    · rename_i x y
      have : x = y := by rw [boolEqb_eq] at h; simpa using h
      subst this
      exact .inr (.inl ⟨x, ha, hb⟩)
    · cases h
  | str =>
    unfold eqCell at h
    simp only at h
    split at h
    · rename_i x y
      have : x = y := bytes_eq (Option.some.inj h)
      subst this
      exact .inr (.inr ⟨x, ha, hb⟩)
    · cases h
theorem eqCells_true (hc : CfgOK P C σ) : ∀ {cs : List CK} {la lb : List A} {va vb : List Value}, eqCells C cs la lb = some true → F2 (AR ρ σ) la va → F2 (AR ρ σ) lb vb → va = vb ∧ ∀ n, ∀ v ∈ va, Instr.sameBits n v v = true := by
  intro cs
  induction cs with
  | nil =>
    intro la lb va vb h ha hb
    obtain ⟨rfl, rfl, _⟩ := eqCells_nil _ _ h
    cases ha; cases hb
    exact ⟨rfl, fun n v hv => nomatch hv⟩
  | cons c cs ih =>
    intro la lb va vb h ha hb
    obtain ⟨a, as, b, bs, rfl, rfl, h1⟩ := eqCells_cons h
    cases ha with
    | cons ha has => cases hb with
      | cons hb hbs =>
        rcases andO_some h1 with ⟨_, h3⟩ | ⟨h2, h3⟩
        · cases h3
        · obtain ⟨e, h4⟩ := ih h3 has hbs
          subst e
          rcases eqCell_true hc h2 ha hb with ⟨k, n, rfl, rfl⟩ | ⟨q, rfl, rfl⟩ | ⟨s, rfl, rfl⟩
          all_goals
            refine ⟨rfl, fun m v hv => ?_⟩
            rcases List.mem_cons.1 hv with e | e
            · subst e; cases m <;> simp [Instr.sameBits, bytes_refl]
            · exact h4 m v e
theorem eqV_true (hc : CfgOK P C σ) {ka : Bool} {kc : List CK} {a b : V} (h : eqV C ka kc a b = some true) {va vb : Value} (ha : VR ρ σ a va) (hb : VR ρ σ b vb) : va = vb ∧ Instr.sameBits 10000 va va = true := by
  unfold eqV at h
  split at h
  · rename_i x y
    cases ka with
    | true => cases h
    | false =>
      simp only [cond_false] at h
      split at h
      · rename_i c
        rcases eqCell_true hc h ha hb with ⟨k, n, rfl, rfl⟩ | ⟨q, rfl, rfl⟩ | ⟨s, rfl, rfl⟩ <;> exact ⟨rfl, by simp [Instr.sameBits, bytes_refl]⟩
      · cases h
  · rename_i x y
    cases ka with
    | false => cases h
    | true =>
      simp only [cond_true] at h
      obtain ⟨vx, rfl, hx⟩ := ha
      obtain ⟨vy, rfl, hy⟩ := hb
      obtain ⟨e, h2⟩ := eqCells_true hc h hx hy
      subst e
      refine ⟨rfl, ?_⟩
      show (vx.toArray.size == vx.toArray.size && (vx.toArray.toList.zip vx.toArray.toList).all fun (x, y) => Instr.sameBits 9999 x y) = true
      simp only [beq_self_eq_true, Bool.true_and, List.all_eq_true]
      rintro ⟨p, q⟩ hpq
      have : p = q ∧ p ∈ vx := by
        obtain ⟨i, hi⟩ := List.getElem?_of_mem (show (p, q) ∈ vx.zip vx from hpq)
        rw [List.getElem?_zip_eq_some] at hi
        have h3 := hi.1.symm.trans hi.2
        exact ⟨Option.some.inj h3, List.mem_of_getElem? hi.1⟩
      obtain ⟨rfl, hp⟩ := this
      exact h2 9999 p hp
  · cases h
theorem keyStays {v : Value} (h : Instr.sameBits 10000 v v = true) (w : World) : (Instr.keyThatStays v v).run P w = .ok v w := by
  simp [Instr.keyThatStays, h]
theorem Rel.putMap {h : H} {w : World} (hr : Rel ρ σ C h w) {b r S : Nat} (hb : ρ b = some (r, S)) {es es' : List ME} {clock clock' : Nat} (hg : h.get b = some (.map es clock)) {ms' : List MapEntry} (hms : F2 (MER ρ σ) es' ms') :
    Rel ρ σ C (h.put b (.map es' clock')) (putObj w r (.map ms'.toArray clock')) ∧ Ext ρ ρ h (h.put b (.map es' clock')) w (putObj w r (.map ms'.toArray clock')) :=
  hr.put hb ⟨_, hg, by simp⟩ (hr.one hb hg (by simp) (by simp)) _ _ ⟨ms', rfl, hms⟩
theorem mapSet_eff {t : TypeId} {m q x : Operand} (ho : o.op = .mapUpdate t m q x ∨ o.op = .insert t m q x) : EffL C nl o (runOp (keyK C t fun ka kc => .n3 (opMapSet C ka kc) (od nl m) (od nl q) (od nl x))) := by
  refine keyK_ind (fun a => EffL C nl o (runOp a)) bad_eff ?_
  intro ti kt et tt kc ht hu0 htt hkc rec X k pt tl h r hk
  obtain ⟨u, hu, hk1⟩ := ev_some (show ev (od nl m) pt tl _ = some r from hk)
  obtain ⟨b, es, clock, rfl, hg, hk2⟩ := mapK_some hk1
  obtain ⟨u', hu', hk3⟩ := ev_some (show ev (od nl q) pt tl _ = some r from hk2)
  obtain ⟨qv, rfl, hk4⟩ := vK_some hk3
  obtain ⟨u'', hu'', hk5⟩ := ev_some (show ev (od nl x) pt tl _ = some r from hk4)
  obtain ⟨xv, rfl, hk6⟩ := vK_some hk5
  obtain ⟨hok, hk7⟩ := ifK_some hk6
  have hexec : ∀ {P : Program} {σ : Sig} {ρ : Rho} {e : Operand → Value}, OpdR ρ σ nl o.op pt tl e → (∃ rr S, ρ b = some (rr, S) ∧ e m = .map (some rr)) ∧ VR ρ σ qv (e q) ∧ VR ρ σ xv (e x) ∧
      ∀ w w', (Instr.mapUpdate t (e m) (e q) (e x)).run P w = .ok () w' → Exec P e o w undef w' := by
    intro P σ ρ e hop
    have hin : m ∈ o.op.operands ∧ q ∈ o.op.operands ∧ x ∈ o.op.operands := by rcases ho with ho | ho <;> simp [ho, Op.operands]
    refine ⟨hop m hin.1 _ hu, AVR.ofV _ _ (hop q hin.2.1 _ hu'), AVR.ofV _ _ (hop x hin.2.2 _ hu''), ?_⟩
    intro w w' hrun
    right
    refine ⟨rfl, ?_⟩
    rcases ho with ho | ho <;> simp [execOp, ho, hrun]
  cases hfind : findK C tt.agg kc qv es 0 with
  | none => rw [hfind] at hk7; cases hk7
  | some res =>
    rw [hfind] at hk7
    cases res with
    | none =>
      refine ⟨.tup [], _, hk7, ?_⟩
      intro P σ ρ e w hc hr hop
      obtain ⟨⟨rr, S, hb, hm⟩, hq, hx, hex⟩ := hexec (P := P) hop
      have h1 := (hc.ty t ti ht).runUnd w
      rw [hu0] at h1
      obtain ⟨ms, hw, hms⟩ := hr.map hb hg
      rcases findKey_run hc hkc htt hq w hms hfind with ⟨_, hf⟩ | ⟨j, e', m', h2, _⟩
      · have hnew : F2 (MER ρ σ) (app es [⟨qv, xv, clock⟩]) (ms ++ [{ key := e q, val := e x, born := clock }]) := by
          rw [app_eq]; exact hms.append (.cons ⟨hq, hx, rfl⟩ .nil)
        obtain ⟨r1, x1⟩ := hr.putMap hb hg (clock' := clock + 1) hnew
        refine ⟨undef, _, ρ, hex w _ ?_, ⟨[], rfl, .nil⟩, r1, x1⟩
        have h3 := keyOk_run hc hkc htt hq hok false w
        have h4 := run_setMap (P := P) (.map (ms ++ [({ key := e q, val := e x, born := clock } : MapEntry)]).toArray (clock + 1)) hw
        simp only [Instr.mapUpdate, Sem.run_bind, h1, Result.andThen_ok, hm, run_getMap (P := P) hw, h3, hf]
        simpa using h4
      · cases h2
    | some p =>
      obtain ⟨j, e0⟩ := p
      refine ⟨.tup [], _, hk7, ?_⟩
      intro P σ ρ e w hc hr hop
      obtain ⟨⟨rr, S, hb, hm⟩, hq, hx, hex⟩ := hexec (P := P) hop
      have h1 := (hc.ty t ti ht).runUnd w
      rw [hu0] at h1
      obtain ⟨ms, hw, hms⟩ := hr.map hb hg
      rcases findKey_run hc hkc htt hq w hms hfind with ⟨h2, _⟩ | ⟨j', e', m', h2, he', hm', hf, heq⟩
      · cases h2
      · cases h2
        obtain ⟨m2, hm2, hmr⟩ := hms.get he'
        rw [hm'] at hm2; cases hm2
        obtain ⟨hkey, hsame⟩ := eqV_true hc heq hq hmr.1
        have hnew : F2 (MER ρ σ) (modNth es j ⟨qv, xv, e0.born⟩) (ms.set j { m' with key := e q, val := e x }) := by
          rw [modNth_eq]; exact hms.set (show MER ρ σ ⟨qv, xv, e0.born⟩ { m' with key := e q, val := e x } from ⟨hq, hx, hmr.2.2⟩) j
        obtain ⟨r1, x1⟩ := hr.putMap hb hg (clock' := clock) hnew
        refine ⟨undef, _, ρ, hex w _ ?_, ⟨[], rfl, .nil⟩, r1, x1⟩
        have h3 := keyOk_run hc hkc htt hq hok false w
        have h4 := run_setMap (P := P) (.map (ms.set j { m' with key := e q, val := e x }).toArray clock) hw
        have h5 := keyStays (P := P) hsame w
        have h6 : ((ms.toArray[j]?).map (·.key)).getD (e q) = e q := by simp [hm', ← hkey]
        simp only [Instr.mapUpdate, Sem.run_bind, h1, Result.andThen_ok, hm, run_getMap (P := P) hw, h3, hf, h6, h5]
        rw [modify_set ms j _ hm']
        simpa using h4
theorem delete_eff {c : Call} {t : TypeId} {ts : List TypeId} {m q : Operand} (ho : o.op = .call c) (hcal : c.callee = .builtin .delete) (hts : c.argTypes.toList = t :: ts) (hxs : c.args.toList = [m, q]) :
    EffL C nl o (runOp (keyK C t fun ka kc => .n2 (opDelete C ka kc) (od nl m) (od nl q))) := by
  refine keyK_ind (fun a => EffL C nl o (runOp a)) bad_eff ?_
  intro ti kt et tt kc ht hu0 htt hkc rec X k pt tl h r hk
  obtain ⟨u, hu, hk1⟩ := ev_some (show ev (od nl m) pt tl _ = some r from hk)
  obtain ⟨u', hu', hk3⟩ := ev_some (show ev (od nl q) pt tl _ = some r from hk1)
  obtain ⟨qv, rfl, hk4⟩ := vK_some hk3
  obtain ⟨hok, hk7⟩ := ifK_some hk4
  have hmem : m ∈ o.op.operands ∧ q ∈ o.op.operands := by simp [ho, Op.operands, Call.operands, hcal, arr2 hxs]
  have hexec : ∀ {P : Program} {e : Operand → Value} {w w' : World}, (Builtin.delete_ c.argTypes o.type #[e m, e q]).run P w = .ok (.tuple #[]) w' → Exec P e o w undef w' := by
    intro P e w w' h
    left
    rw [exec_b ho hcal]
    simp only [builtin, arr2 hxs, Sem.run_bind]
    have : Array.map e #[m, q] = #[e m, e q] := by simp
    rw [this, h]; rfl
  have ht0 := arr0 hts
  split at hk7
  · refine ⟨.tup [], h, hk7, ?_⟩
    intro P σ ρ e w hc hr hop
    have hm : e m = .map none := hop m hmem.1 _ hu
    have hq := AVR.ofV _ _ (hop q hmem.2 _ hu')
    have h1 := (hc.ty t ti ht).runUnd w
    rw [hu0] at h1
    have h3 := keyOk_run hc hkc htt hq hok true w
    exact ⟨undef, w, ρ, hexec (by simp [Builtin.delete_, ht0, h1, hm, h3]), ⟨[], rfl, .nil⟩, hr, Ext.refl ρ h w hr⟩
  · obtain ⟨b, es, clock, rfl, hg, hk8⟩ := mapK_some hk7
    cases hfind : findK C tt.agg kc qv es 0 with
    | none => rw [hfind] at hk8; cases hk8
    | some res =>
      rw [hfind] at hk8
      cases res with
      | none =>
        refine ⟨.tup [], _, hk8, ?_⟩
        intro P σ ρ e w hc hr hop
        obtain ⟨rr, S, hb, hm⟩ := hop m hmem.1 _ hu
        have hq := AVR.ofV _ _ (hop q hmem.2 _ hu')
        have h1 := (hc.ty t ti ht).runUnd w
        rw [hu0] at h1
        obtain ⟨ms, hw, hms⟩ := hr.map hb hg
        rcases findKey_run hc hkc htt hq w hms hfind with ⟨_, hf⟩ | ⟨j, e', m', h2, _⟩
        · obtain ⟨r1, x1⟩ := hr.putMap hb hg (clock' := clock) hms
          refine ⟨undef, _, ρ, hexec ?_, ⟨[], rfl, .nil⟩, r1, x1⟩
          have h3 := fun b => keyOk_run hc hkc htt hq hok b w
          have h4 := run_setMap (P := P) (.map ms.toArray clock) hw
          simp [Builtin.delete_, ht0, h1, hm, run_getMap (P := P) hw, h3, hf, h4]
        · cases h2
      | some p =>
        obtain ⟨j, e0⟩ := p
        refine ⟨.tup [], _, hk8, ?_⟩
        intro P σ ρ e w hc hr hop
        obtain ⟨rr, S, hb, hm⟩ := hop m hmem.1 _ hu
        have hq := AVR.ofV _ _ (hop q hmem.2 _ hu')
        have h1 := (hc.ty t ti ht).runUnd w
        rw [hu0] at h1
        obtain ⟨ms, hw, hms⟩ := hr.map hb hg
        rcases findKey_run hc hkc htt hq w hms hfind with ⟨h2, _⟩ | ⟨j', e', m', h2, he', hm', hf, heq⟩
        · cases h2
        · cases h2
          have hnew : F2 (MER ρ σ) (delNth es j) (ms.eraseIdx j) := by rw [delNth_eq]; exact hms.erase j
          obtain ⟨r1, x1⟩ := hr.putMap hb hg (clock' := clock) hnew
          refine ⟨undef, _, ρ, hexec ?_, ⟨[], rfl, .nil⟩, r1, x1⟩
          have h3 := fun b => keyOk_run hc hkc htt hq hok b w
          have h4 := run_setMap (P := P) (.map (ms.eraseIdx j).toArray clock) hw
          have h5 : ms.toArray.eraseIdxIfInBounds j = (ms.eraseIdx j).toArray := by
            apply Array.ext'; simp [Array.eraseIdxIfInBounds, (List.getElem?_eq_some_iff.1 hm').1]
          simp [Builtin.delete_, ht0, h1, hm, run_getMap (P := P) hw, h3, hf, h4]
end Eng
end
