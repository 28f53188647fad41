/- The engine, part 2: the evaluator's operations on integers, fields, slices and variables are right. No conditions beside those in its theorems. -/
import Derived.Test.YtikjmnimdlcehaaGreatE1
import Derived.Laws.Tables
import Derived.Laws.MakeOwn
set_option linter.unusedVariables false
noncomputable section
namespace Eng
open Go
variable {ρ ρ' : Rho} {σ : Sig} {C : Cfg} {P : Program}

theorem boolRec_ite {α : Type} (b : Bool) (x y : α) : @Bool.rec (fun _ => α) x y b = if b = true then y else x := by cases b <;> rfl
theorem ble_iff {a b : Nat} : Nat.ble a b = true ↔ a ≤ b := ⟨ble_le, le_ble⟩
theorem modu_eq (k : IntKind) : modu k = 2 ^ k.bits := by cases k <;> rfl
theorem modu_pos (k : IntKind) : 0 < modu k := by cases k <;> decide
theorem half_le (k : IntKind) : half k ≤ modu k := by cases k <;> decide
theorem bitsOf_eq (k : IntKind) : bitsOf k = k.bits := by cases k <;> rfl
theorem fromRes_eq (k : IntKind) (r : Nat) (hr : r < modu k) : fromRes k r = if half k ≤ r then (r : Int) - modu k else r := by
  unfold fromRes
  rw [boolRec_ite]
  simp only [ble_iff]
  by_cases h : half k ≤ r
  · rw [if_pos h, if_pos h]
    have e : Nat.pred (Nat.sub (modu k) r) = modu k - r - 1 := rfl
    rw [e, Int.negSucc_eq]
    omega
  · rw [if_neg h, if_neg h]; rfl
theorem resOf_eq (k : IntKind) (n : Int) : (resOf k n : Int) = n % (modu k : Int) := by
  have hp := modu_pos k
  cases n with
  | ofNat m =>
    show ((m % modu k : Nat) : Int) = (m : Int) % _
    simp
  | negSucc m =>
    show ((Nat.pred (modu k) - m % modu k : Nat) : Int) = _
    have h1 := Nat.mod_lt m hp
    rw [Int.negSucc_emod m (by omega)]
    have : Nat.pred (modu k) = modu k - 1 := rfl
    rw [this]
    omega
theorem resOf_lt (k : IntKind) (n : Int) : resOf k n < modu k := by
  have h1 := resOf_eq k n
  have h2 := Int.emod_lt_of_pos n (show (0 : Int) < modu k by have := modu_pos k; omega)
  omega
theorem wrap_res (k : IntKind) (n : Int) : k.wrap n = fromRes k (resOf k n) := by
  rw [fromRes_eq k _ (resOf_lt k n)]
  have h1 := resOf_eq k n
  have h2 := resOf_lt k n
  generalize resOf k n = r at *
  unfold IntKind.wrap
  have e : (2 ^ k.bits : Int) = (modu k : Int) := by rw [modu_eq]; push_cast; rfl
  rw [e, ← h1]
  cases k <;> simp only [IntKind.signed, IntKind.bits, half, modu] at * <;> simp <;> omega
theorem fromRes_small (k : IntKind) (m : Nat) (h : m < half k) : fromRes k m = m := by
  have := half_le k
  rw [fromRes_eq k m (by omega), if_neg (by omega)]
theorem wrapF_eq (k : IntKind) (n : Int) : wrapF k n = k.wrap n := by
  rw [wrap_res]
  cases n with
  | ofNat m =>
    show @Bool.rec _ _ _ _ = _
    rw [boolRec_ite]
    simp only [ble_iff]
    by_cases h : m.succ ≤ half k
    · rw [if_pos h]
      have h2 := half_le k
      have : resOf k (.ofNat m) = m := by show m % modu k = m; exact Nat.mod_eq_of_lt (by omega)
      rw [this, fromRes_small k m (by omega)]; rfl
    · rw [if_neg h]; rfl
  | negSucc m => rfl
theorem iadd_eq (x y : Int) : iadd x y = x + y := by cases x <;> cases y <;> rfl
theorem isub_eq (x y : Int) : isub x y = x - y := by
  cases x with
  | negSucc a => rfl
  | ofNat a => cases y with
    | negSucc b => rfl
    | ofNat b =>
      show @Bool.rec _ _ _ _ = _
      rw [boolRec_ite]
      simp only [ble_iff]
      by_cases h : b ≤ a
      · rw [if_pos h]; show ((a - b : Nat) : Int) = (a : Int) - b; omega
      · rw [if_neg h]
        have e : Nat.pred (Nat.sub b a) = b - a - 1 := rfl
        rw [e, Int.negSucc_eq]; show _ = (a : Int) - b; omega
theorem imul_eq (x y : Int) : imul x y = x * y := by cases x <;> cases y <;> rfl
theorem intEqb_eq (x y : Int) : intEqb x y = (x == y) := by
  cases x with
  | ofNat a => cases y with
    | ofNat b =>
      show Nat.beq a b = _
      by_cases h : a = b
      · subst h; simp
      · have : Nat.beq a b = false := by
          cases hb : Nat.beq a b with
          | false => rfl
          | true => exact absurd (beq_eq hb) h
        rw [this]; symm; simp; omega
    | negSucc b => show false = _; symm; simp
  | negSucc a => cases y with
    | ofNat b => show false = _; symm; simp
    | negSucc b =>
      show Nat.beq a b = _
      by_cases h : a = b
      · subst h; simp
      · have : Nat.beq a b = false := by
          cases hb : Nat.beq a b with
          | false => rfl
          | true => exact absurd (beq_eq hb) h
        rw [this]; symm; simp; omega
theorem ble_decide (a b : Nat) : Nat.ble a b = decide (a ≤ b) := by
  by_cases h : a ≤ b
  · rw [le_ble h]; simp [h]
  · cases hb : Nat.ble a b with
    | false => simp [h]
    | true => exact absurd (ble_le hb) h
theorem iltb_eq (x y : Int) : iltb x y = decide (x < y) := by
  cases x with
  | ofNat a => cases y with
    | ofNat b => show Nat.ble _ _ = _; rw [ble_decide]; apply decide_eq_decide.2; show a + 1 ≤ b ↔ (a : Int) < b; omega
    | negSucc b => show false = _; symm; apply decide_eq_false; rw [Int.negSucc_eq]; show ¬ (a : Int) < _; omega
  | negSucc a => cases y with
    | ofNat b => show true = _; symm; apply decide_eq_true; rw [Int.negSucc_eq]; show _ < (b : Int); omega
    | negSucc b => show Nat.ble _ _ = _; rw [ble_decide]; apply decide_eq_decide.2; rw [Int.negSucc_eq, Int.negSucc_eq]; show b + 1 ≤ a ↔ _; omega
theorem bnot_eq (b : Bool) : bnot b = !b := by cases b <;> rfl
theorem boolEqb_eq (a b : Bool) : boolEqb a b = (a == b) := by cases a <;> cases b <;> rfl
theorem kindNo_inj {k k' : IntKind} (h : Nat.beq (kindNo k) (kindNo k') = true) : k = k' := by
  have := beq_eq h
  cases k <;> cases k' <;> first | rfl | (simp [kindNo] at this)
theorem intCmp_eq {op : BinOp} {f : Int → Int → Bool} (h : intCmp op = some f) (x y : Int) : f x y = cmpDen op x y := by
  cases op <;> simp only [intCmp] at h <;> cases h <;> simp only [cmpDen, bnot_eq, intEqb_eq, iltb_eq]
  · rfl
  · rw [Bool.eq_iff_iff]; simp
  · rw [Bool.eq_iff_iff]; simp
theorem toNat_ofInt (k : IntKind) (x : Int) : (BitVec.ofInt k.bits x).toNat = resOf k x := by
  have h1 := resOf_eq k x
  rw [BitVec.toNat_ofInt]
  have e : ((2 ^ k.bits : Nat) : Int) = (modu k : Int) := by rw [modu_eq]
  rw [e, ← h1]; simp
theorem wrap_nat (k : IntKind) (r : Nat) (h : r < modu k) : k.wrap (r : Int) = fromRes k r := by
  rw [wrap_res]; congr 1
  have := resOf_eq k r
  rw [Int.emod_eq_of_lt (by omega) (by omega)] at this
  omega
theorem intBin_eq {op : BinOp} {k : IntKind} {x y n : Int} (h : intBin op k x y = some n) : n = binDen op k x y ∧ (op = .quo ∨ op = .rem → y ≠ 0) ∧ (op = .shl ∨ op = .shr → 0 ≤ y) ∧ isCmp op = false := by
  have hx := resOf_lt k x
  have hy := resOf_lt k y
  have hm := modu_eq k
  cases op <;> simp only [intBin] at h
  case add => cases h; exact ⟨by rw [wrapF_eq, iadd_eq]; rfl, by simp, by simp, rfl⟩
  case sub => cases h; exact ⟨by rw [wrapF_eq, isub_eq]; rfl, by simp, by simp, rfl⟩
  case mul => cases h; exact ⟨by rw [wrapF_eq, imul_eq]; rfl, by simp, by simp, rfl⟩
  case quo =>
    split at h
    · rename_i a b
      cases hb : Nat.beq b 0 with
      | true => rw [hb] at h; cases h
      | false =>
        rw [hb] at h; cases h
        have := beq_false_ne hb
        refine ⟨?_, fun _ e => this (by have : (b : Int) = 0 := e; omega), by simp, rfl⟩
        rw [wrapF_eq]; show _ = k.wrap (Int.tdiv (a : Int) (b : Int)); rw [Int.tdiv_eq_ediv_of_nonneg (by omega)]; rfl
    · cases h
  case rem =>
    split at h
    · rename_i a b
      cases hb : Nat.beq b 0 with
      | true => rw [hb] at h; cases h
      | false =>
        rw [hb] at h; cases h
        have := beq_false_ne hb
        refine ⟨?_, fun _ e => this (by have : (b : Int) = 0 := e; omega), by simp, rfl⟩
        show _ = Int.tmod (a : Int) (b : Int); rw [Int.tmod_eq_emod_of_nonneg (by omega)]; rfl
    · cases h
  case and =>
    cases h
    refine ⟨?_, by simp, by simp, rfl⟩
    show _ = k.wrap _
    rw [BitVec.toNat_and, toNat_ofInt, toNat_ofInt, wrap_nat]; rfl
    exact Nat.lt_of_le_of_lt Nat.and_le_left hx
  case or =>
    cases h
    refine ⟨?_, by simp, by simp, rfl⟩
    show _ = k.wrap _
    rw [BitVec.toNat_or, toNat_ofInt, toNat_ofInt, wrap_nat]; rfl
    rw [hm]; exact Nat.or_lt_two_pow (hm ▸ hx) (hm ▸ hy)
  case xor =>
    cases h
    refine ⟨?_, by simp, by simp, rfl⟩
    show _ = k.wrap _
    rw [BitVec.toNat_xor, toNat_ofInt, toNat_ofInt, wrap_nat]; rfl
    rw [hm]; exact Nat.xor_lt_two_pow (hm ▸ hx) (hm ▸ hy)
  case andNot =>
    cases h
    refine ⟨?_, by simp, by simp, rfl⟩
    show _ = k.wrap _
    rw [BitVec.toNat_and, BitVec.toNat_not, toNat_ofInt, toNat_ofInt, ← hm, wrap_nat]; rfl
    exact Nat.lt_of_le_of_lt Nat.and_le_left hx
  case shl =>
    split at h
    · rename_i a b
      cases hb : Nat.ble b (bitsOf k) with
      | false => rw [hb] at h; cases h
      | true =>
        rw [hb] at h; cases h
        have hb' := ble_le hb
        rw [bitsOf_eq] at hb'
        refine ⟨?_, by simp, fun _ => by show (0 : Int) ≤ (b : Int); omega, rfl⟩
        rw [wrapF_eq]; show _ = k.wrap ((a : Int) * 2 ^ (min (Int.toNat (b : Int)) k.bits))
        simp only [Int.toNat_natCast, Nat.min_eq_left hb']
        congr 1
    · cases h
  case shr =>
    split at h
    · rename_i a b
      cases hb : Nat.ble b (bitsOf k) with
      | false => rw [hb] at h; cases h
      | true =>
        rw [hb] at h; cases h
        have hb' := ble_le hb
        rw [bitsOf_eq] at hb'
        refine ⟨?_, by simp, fun _ => by show (0 : Int) ≤ (b : Int); omega, rfl⟩
        show _ = Int.fdiv (a : Int) (2 ^ (min (Int.toNat (b : Int)) k.bits))
        simp only [Int.toNat_natCast, Nat.min_eq_left hb']
        rw [Int.fdiv_eq_ediv_of_nonneg _ (Int.le_of_lt (Int.pow_pos (by decide)))]
        show ((a / 2 ^ b : Nat) : Int) = _; push_cast; rfl
    · cases h
  all_goals cases h

theorem eqb_eq : ∀ {a b : E}, a.eqb b = true → a = b := by
  intro a
  induction a with
  | lit n => intro b h; cases b <;> simp only [E.eqb] at h <;> first | (rw [intEqb_eq] at h; simp at h; subst h; rfl) | cases h
  | var i => intro b h; cases b <;> simp only [E.eqb] at h <;> first | (have := beq_eq h; subst this; rfl) | cases h
  | bin o k x y ih1 ih2 =>
    intro b h
    cases b with
    | bin o' k' x' y' =>
      simp only [E.eqb, Bool.and_eq_true] at h
      obtain ⟨⟨⟨h1, h2⟩, h3⟩, h4⟩ := h
      have e1 : o = o' := by have := beq_eq h1; cases o <;> cases o' <;> first | rfl | (simp [binNo] at this)
      rw [e1, kindNo_inj h2, ih1 h3, ih2 h4]
    | _ => cases h
  | conv k x ih =>
    intro b h
    cases b with
    | conv k' x' =>
      simp only [E.eqb, Bool.and_eq_true] at h
      rw [kindNo_inj h.1, ih h.2]
    | _ => cases h
def intRes (op : BinOp) (q : IntKind) (a b : Int) : Value := if isCmp op then .bool (cmpDen op a b) else .int q (binDen op q a b)
theorem run_binOp_int {op : BinOp} {t : TypeId} {q q' : IntKind} {a b : Int} {w : World} (h1 : q = q' ∨ op = .shl ∨ op = .shr) (h2 : op = .quo ∨ op = .rem → b ≠ 0) (h3 : op = .shl ∨ op = .shr → 0 ≤ b) :
    (binOp op t (.int q a) (.int q' b)).run P w = .ok (intRes op q a b) w := by
  cases op
  case shl => have := h3 (.inl rfl); simp [binOp, Op.shift, intRes, isCmp, binDen, Int.not_lt.2 this]
  case shr => have := h3 (.inr rfl); simp [binOp, Op.shift, intRes, isCmp, binDen, Int.not_lt.2 this]
  all_goals
    obtain rfl : q = q' := by rcases h1 with h | h | h <;> first | exact h | cases h
  case quo => have := h2 (.inl rfl); simp [binOp, Op.intDiv, intRes, isCmp, binDen, this]
  case rem => have := h2 (.inr rfl); simp [binOp, Op.intDiv, intRes, isCmp, binDen, this]
  all_goals simp [binOp, Op.intArith, Op.intBits, Op.intCmp, intRes, isCmp, binDen, cmpDen]
theorem run_eqGuard_int {op : BinOp} {t : TypeId} {x y : Operand} {q q' : IntKind} {a b : Int} {w : World} : (eqGuard op t x y (.int q a) (.int q' b)).run P w = .ok () w := by
  unfold eqGuard; cases op <;> simp
/-- an int, literal or not -/
def A.ie : A → Option (IntKind × E)
  | .int q n => some (q, .lit n)
  | .sym q e => some (q, e)
  | _ => none
theorem AR.ie {a : A} {q : IntKind} {e : E} {v : Value} (h : a.ie = some (q, e)) (hv : AR ρ σ a v) : v = .int q (e.den σ) := by
  cases a <;> simp [A.ie] at h
  · obtain ⟨rfl, rfl⟩ := h; exact hv
  · obtain ⟨rfl, rfl⟩ := h; exact hv
theorem binSym_some {op : BinOp} {q : IntKind} {a b : E} {v : A} (h : binSym C op q a b = some v) (hc : CfgOK P C σ) :
    AR ρ σ v (intRes op q (a.den σ) (b.den σ)) ∧ (op = .quo ∨ op = .rem → b.den σ ≠ 0) ∧ (op = .shl ∨ op = .shr → 0 ≤ b.den σ) := by
  unfold binSym at h
  cases hi : isCmp op with
  | true =>
    have hn : ¬ (op = .quo ∨ op = .rem) ∧ ¬ (op = .shl ∨ op = .shr) := by cases op <;> simp [isCmp] at hi <;> simp
    rw [hi] at h
    refine ⟨?_, fun e => absurd e hn.1, fun e => absurd e hn.2⟩
    simp only [intRes, hi, if_true]
    cases hcmp : C.cmp op a b with
    | some r =>
      simp [hcmp] at h; subst h
      rw [hc.cmp op a b r hcmp]; rfl
    | none =>
      simp only [hcmp, cond_true] at h
      cases he : a.eqb b with
      | false => rw [he] at h; cases h
      | true =>
        rw [he] at h
        have := eqb_eq he
        subst this
        cases op <;> simp [isCmp] at hi <;> cases h <;> simp [AR, cmpDen]
  | false =>
    rw [hi] at h
    simp only [cond_false] at h
    cases hs : symOk op b with
    | false => rw [hs] at h; cases h
    | true =>
      rw [hs] at h
      simp only [cond_true] at h
      refine ⟨?_, ?_, ?_⟩
      · cases hq : C.norm (.bin op q a b) with
        | some n =>
          simp only [hq] at h; cases h
          have := hc.norm _ _ hq
          simp only [E.den] at this
          simp [intRes, hi, AR, this]
        | none =>
          simp only [hq] at h; cases h
          simp [intRes, hi, AR, E.den]
      · rintro (rfl | rfl) <;> (cases b <;> simp [symOk, iltb_eq] at hs; simp [E.den]; omega)
      · rintro (rfl | rfl) <;> (cases b <;> simp [symOk, bnot_eq, iltb_eq] at hs; simp [E.den]; omega)
theorem intsK_some {a b : A} {k : IntKind → Int → IntKind → Int → OR} {r : OR} : (∃ q x q' y, a = .int q x ∧ b = .int q' y ∧ intsK a b k r = k q x q' y) ∨ ((¬ ∃ q x q' y, a = .int q x ∧ b = .int q' y) ∧ intsK a b k r = r) := by
  cases a with
  | int q x => cases b with
    | int q' y => exact .inl ⟨_, _, _, _, rfl, rfl, rfl⟩
    | _ => exact .inr ⟨(by rintro ⟨_, _, _, _, _, e⟩; cases e), rfl⟩
  | _ => exact .inr ⟨(by rintro ⟨_, _, _, _, e, _⟩; cases e), rfl⟩
/-- what 'bin2' answers -/
theorem bin2_some {op : BinOp} {a b : A} {k : A → OR} {r : Rs} (h : bin2 C op a b k = some r) : ∃ q q' x y v, a.ie = some (q, x) ∧ b.ie = some (q', y) ∧ (q = q' ∨ op = .shl ∨ op = .shr) ∧
    binSym C op q x y = some v ∧ k v = some r ∧ ∀ k', bin2 C op a b k' = k' v := by
  cases a with
  | int q x => cases b with
    | sym q' y =>
      obtain ⟨h1, h2⟩ := ifK_some h
      obtain ⟨v, h3, h4⟩ := optK_some h2
      exact ⟨q, q', _, _, v, rfl, rfl, .inl (kindNo_inj h1), h3, h4, fun k' => by show ifK _ _ = _; rw [ifK_eq h1, optK_eq h3]⟩
    | _ => cases h
  | sym q x => cases b with
    | sym q' y =>
      obtain ⟨h1, h2⟩ := ifK_some h
      obtain ⟨v, h3, h4⟩ := optK_some h2
      exact ⟨q, q', _, _, v, rfl, rfl, .inl (kindNo_inj h1), h3, h4, fun k' => by show ifK _ _ = _; rw [ifK_eq h1, optK_eq h3]⟩
    | int q' y =>
      by_cases hop : op = .shl ∨ op = .shr
      · have e : ∀ k', bin2 C op (.sym q x) (.int q' y) k' = optK (binSym C op q x (.lit y)) k' := by intro k'; rcases hop with rfl | rfl <;> rfl
        rw [e] at h
        obtain ⟨v, h3, h4⟩ := optK_some h
        exact ⟨q, q', _, _, v, rfl, rfl, .inr hop, h3, h4, fun k' => by rw [e, optK_eq h3]⟩
      · have e : ∀ k', bin2 C op (.sym q x) (.int q' y) k' = ifK (Nat.beq (kindNo q) (kindNo q')) (optK (binSym C op q x (.lit y)) k') := by
          intro k'; cases op <;> first | rfl | (simp at hop)
        rw [e] at h
        obtain ⟨h1, h2⟩ := ifK_some h
        obtain ⟨v, h3, h4⟩ := optK_some h2
        exact ⟨q, q', _, _, v, rfl, rfl, .inl (kindNo_inj h1), h3, h4, fun k' => by rw [e, ifK_eq h1, optK_eq h3]⟩
    | _ => cases h
  | _ => cases h
def BinS (C : Cfg) (op : BinOp) (f : A → A → (A → OR) → OR) : Prop := ∀ a b k r, f a b k = some r → ∃ v, (∀ k', f a b k' = k' v) ∧
  ∀ P σ ρ va vb t x y w, CfgOK P C σ → AR ρ σ a va → AR ρ σ b vb → ∃ v', (binOp op t va vb).run P w = .ok v' w ∧ (eqGuard op t x y va vb).run P w = .ok () w ∧ AR ρ σ v v'
theorem bin2_S {op : BinOp} {a b : A} {k : A → OR} {r : Rs} (h : bin2 C op a b k = some r) : ∃ v, (∀ k', bin2 C op a b k' = k' v) ∧
  ∀ P σ ρ va vb t x y w, CfgOK P C σ → AR ρ σ a va → AR ρ σ b vb → ∃ v', (binOp op t va vb).run P w = .ok v' w ∧ (eqGuard op t x y va vb).run P w = .ok () w ∧ AR ρ σ v v' := by
  obtain ⟨q, q', x, y, v, h1, h2, h3, h4, h5, h6⟩ := bin2_some h
  refine ⟨v, h6, ?_⟩
  intro P σ ρ va vb t ox oy w hc ha hb
  obtain rfl := AR.ie h1 ha
  obtain rfl := AR.ie h2 hb
  obtain ⟨h7, h8, h9⟩ := binSym_some (ρ := ρ) h4 hc
  exact ⟨_, run_binOp_int h3 h8 h9, run_eqGuard_int, h7⟩
theorem binF_cmp {op : BinOp} {f : Int → Int → Bool} (h : intCmp op = some f) : binF C op = binCmp C op f := by unfold binF; rw [h]
theorem binF_sh {op : BinOp} (h : op = .shl ∨ op = .shr) : binF C op = binSh C op (intBin op) := by rcases h with rfl | rfl <;> rfl
theorem binF_ar {op : BinOp} (h : intCmp op = none) (h' : ¬ (op = .shl ∨ op = .shr)) : binF C op = binAr C op (intBin op) := by
  cases op <;> first | rfl | (simp [intCmp] at h; done) | (simp at h'; done)
theorem binF_S (op : BinOp) : BinS C op (binF C op) := by
  intro a b k r h
  cases hi : intCmp op with
  | some f =>
    rw [binF_cmp hi] at h ⊢
    have hcmp : isCmp op = true := by cases op <;> simp [intCmp] at hi <;> rfl
    have hn : ¬ (op = .quo ∨ op = .rem) ∧ ¬ (op = .shl ∨ op = .shr) := by cases op <;> simp [isCmp] at hcmp <;> simp
    rcases intsK_some (a := a) (b := b) (k := fun q x q' y => ifK (Nat.beq (kindNo q) (kindNo q')) (k (.bool (f x y)))) (r := bin2 C op a b k) with ⟨q, x, q', y, rfl, rfl, e⟩ | ⟨hno, e⟩
    · rw [show binCmp C op f _ _ k = _ from e] at h
      obtain ⟨h1, h2⟩ := ifK_some h
      obtain rfl := kindNo_inj h1
      refine ⟨.bool (f x y), fun k' => ifK_eq h1, ?_⟩
      intro P σ ρ va vb t ox oy w hc ha hb
      obtain rfl : va = _ := ha
      obtain rfl : vb = _ := hb
      refine ⟨_, run_binOp_int (.inl rfl) (fun e => absurd e hn.1) (fun e => absurd e hn.2), run_eqGuard_int, ?_⟩
      simp [intRes, hcmp, AR, intCmp_eq hi]
    · rw [show binCmp C op f _ _ k = _ from e] at h
      obtain ⟨v, h1, h2⟩ := bin2_S h
      refine ⟨v, ?_, h2⟩
      intro k'
      rcases intsK_some (a := a) (b := b) (k := fun q x q' y => ifK (Nat.beq (kindNo q) (kindNo q')) (k' (.bool (f x y)))) (r := bin2 C op a b k') with ⟨q, x, q', y, ha, hb, _⟩ | ⟨_, e'⟩
      · exact absurd ⟨q, x, q', y, ha, hb⟩ hno
      · exact e'.trans (h1 k')
  | none =>
    by_cases hop : op = .shl ∨ op = .shr
    · rw [binF_sh hop] at h ⊢
      rcases intsK_some (a := a) (b := b) (k := fun q x _ y => optK (intBin op q x y) fun n => k (.int q n)) (r := bin2 C op a b k) with ⟨q, x, q', y, rfl, rfl, e⟩ | ⟨hno, e⟩
      · rw [show binSh C op (intBin op) _ _ k = _ from e] at h
        obtain ⟨n, h1, h2⟩ := optK_some h
        obtain ⟨h3, h4, h5, h6⟩ := intBin_eq h1
        refine ⟨.int q n, fun k' => optK_eq h1, ?_⟩
        intro P σ ρ va vb t ox oy w hc ha hb
        obtain rfl : va = _ := ha
        obtain rfl : vb = _ := hb
        refine ⟨_, run_binOp_int (.inr hop) h4 h5, run_eqGuard_int, ?_⟩
        simp [intRes, h6, AR, h3]
      · rw [show binSh C op (intBin op) _ _ k = _ from e] at h
        obtain ⟨v, h1, h2⟩ := bin2_S h
        refine ⟨v, ?_, h2⟩
        intro k'
        rcases intsK_some (a := a) (b := b) (k := fun q x _ y => optK (intBin op q x y) fun n => k' (.int q n)) (r := bin2 C op a b k') with ⟨q, x, q', y, ha, hb, _⟩ | ⟨_, e'⟩
        · exact absurd ⟨q, x, q', y, ha, hb⟩ hno
        · exact e'.trans (h1 k')
    · rw [binF_ar hi hop] at h ⊢
      rcases intsK_some (a := a) (b := b) (k := fun q x q' y => ifK (Nat.beq (kindNo q) (kindNo q')) (optK (intBin op q x y) fun n => k (.int q n))) (r := bin2 C op a b k) with ⟨q, x, q', y, rfl, rfl, e⟩ | ⟨hno, e⟩
      · rw [show binAr C op (intBin op) _ _ k = _ from e] at h
        obtain ⟨h0, h9⟩ := ifK_some h
        obtain rfl := kindNo_inj h0
        obtain ⟨n, h1, h2⟩ := optK_some h9
        obtain ⟨h3, h4, h5, h6⟩ := intBin_eq h1
        refine ⟨.int q n, fun k' => (ifK_eq h0).trans (optK_eq h1), ?_⟩
        intro P σ ρ va vb t ox oy w hc ha hb
        obtain rfl : va = _ := ha
        obtain rfl : vb = _ := hb
        refine ⟨_, run_binOp_int (.inl rfl) h4 h5, run_eqGuard_int, ?_⟩
        simp [intRes, h6, AR, h3]
      · rw [show binAr C op (intBin op) _ _ k = _ from e] at h
        obtain ⟨v, h1, h2⟩ := bin2_S h
        refine ⟨v, ?_, h2⟩
        intro k'
        rcases intsK_some (a := a) (b := b) (k := fun q x q' y => ifK (Nat.beq (kindNo q) (kindNo q')) (optK (intBin op q x y) fun n => k' (.int q n))) (r := bin2 C op a b k') with ⟨q, x, q', y, ha, hb, _⟩ | ⟨_, e'⟩
        · exact absurd ⟨q, x, q', y, ha, hb⟩ hno
        · exact e'.trans (h1 k')
theorem bin_pure {nl : Nat} {o : Oper} {op : BinOp} {t yt : TypeId} {x y : Operand} (ho : o.op = .binOp op t x y yt) : PureL C nl o (runOp (.n2 (opBin (binF C op)) (od nl x) (od nl y))) := by
  intro rec X k pt tl h r hk
  obtain ⟨u, hu, hk⟩ := ev_some (show ev (od nl x) pt tl _ = some r from hk)
  obtain ⟨a, rfl, hk⟩ := oneK_some hk
  obtain ⟨u', hu', hk⟩ := ev_some (show ev (od nl y) pt tl _ = some r from hk)
  obtain ⟨b, rfl, hk⟩ := oneK_some hk
  obtain ⟨v, h1, h2⟩ := binF_S op a b _ r hk
  refine ⟨.one v, ?_, ?_⟩
  · intro rec' X' k' h'
    show ev (od nl x) pt tl _ = _
    rw [ev_eq hu]
    show ev (od nl y) pt tl _ = _
    rw [ev_eq hu']
    exact h1 _
  · intro P σ ρ e w hc hop
    obtain ⟨v', h3, h4, h5⟩ := h2 P σ ρ (e x) (e y) t x y w hc (hop x (by simp [ho, Op.operands]) _ hu) (hop y (by simp [ho, Op.operands]) _ hu')
    exact ⟨v', .inl (by simp [execOp, ho, h3, h4]), h5⟩
end Eng
end

noncomputable section
namespace Eng
open Go
variable {ρ ρ' : Rho} {σ : Sig} {C : Cfg} {P : Program} {nl : Nat} {o : Oper}

theorem isT_eq {x : Option Bool} (h : isT x = true) : x = some true := by
  cases x with
  | none => cases h
  | some b => exact congrArg some h
theorem bad_pure : PureL C nl o (runOp (.n0 opBad)) := by intro rec X k pt tl h r hk; cases hk
theorem bad_read : ReadL C nl o (runOp (.n0 opBad)) := bad_pure.read
theorem bad_eff : EffL C nl o (runOp (.n0 opBad)) := bad_read.eff
theorem bad_alloc : AllocL C nl o (runOp (.n0 opBad)) := by intro rec X k pt tl h r hk; cases hk

theorem un_pure {op : UnOp} {t : TypeId} {x : Operand} (ho : o.op = .unOp op t x) : PureL C nl o (runOp (.n1 (opUn op) (od nl x))) := by
  intro rec X k pt tl h r hk
  obtain ⟨u, hu, hk⟩ := ev_some (show ev (od nl x) pt tl _ = some r from hk)
  obtain ⟨a, rfl, hk⟩ := oneK_some hk
  have hx : ∀ {ρ : Rho} {σ : Sig} {e : Operand → Value}, OpdR ρ σ nl o.op pt tl e → AR ρ σ a (e x) := fun hop => hop x (by simp [ho, Op.operands]) _ hu
  have key : ∀ (v : A), (∀ K, unF op a K = K v) → (∀ (ρ : Rho) (σ : Sig) (va : Value), AR ρ σ a va → ∀ (P : Program) w, ∃ v', (Op.unary op va).run P w = .ok v' w ∧ AR ρ σ v v') → ∃ v,
      (∀ rec' X' k' h', runOp (.n1 (opUn op) (od nl x)) rec' X' k' pt tl h' = k' v h') ∧
      ∀ P σ ρ e w, CfgOK P C σ → OpdR ρ σ nl o.op pt tl e → ∃ v', Exec P e o w v' w ∧ AVR ρ σ v v' := by
    intro v h1 h2
    refine ⟨.one v, ?_, ?_⟩
    · intro rec' X' k' h'
      show ev (od nl x) pt tl _ = _
      rw [ev_eq hu]
      exact h1 (fun a => k' (.one a) h')
    · intro P σ ρ e w hc hop
      obtain ⟨v', h3, h4⟩ := h2 ρ σ (e x) (hx hop) P w
      exact ⟨v', .inl (by simp [execOp, ho, h3]), h4⟩
  cases op with
  | not => cases a with
    | bool b =>
      refine key (.bool (bnot b)) (fun _ => rfl) ?_
      rintro ρ σ va rfl P w
      exact ⟨_, rfl, by simp [AR, bnot_eq]⟩
    | _ => cases hk
  | neg => cases a with
    | int q n =>
      refine key (.int q (wrapF q (isub 0 n))) (fun _ => rfl) ?_
      rintro ρ σ va rfl P w
      exact ⟨_, rfl, by simp [AR, wrapF_eq, isub_eq]⟩
    | _ => cases hk
  | xor => cases a <;> cases hk
  | plus => cases a <;> cases hk
theorem conv_pure {src dst : TypeId} {x : Operand} {ts td : TI} {q : IntKind} (ho : o.op = .convert src dst x) (hs : C.ty src = some ts) (hd : C.ty dst = some td) (hq : td.und = .int q) :
    PureL C nl o (runOp (.n1 (opConv q) (od nl x))) := by
  intro rec X k pt tl h r hk
  obtain ⟨u, hu, hk⟩ := ev_some (show ev (od nl x) pt tl _ = some r from hk)
  obtain ⟨a, rfl, hk⟩ := oneK_some hk
  have hx : ∀ {ρ : Rho} {σ : Sig} {e : Operand → Value}, OpdR ρ σ nl o.op pt tl e → AR ρ σ a (e x) := fun hop => hop x (by simp [ho, Op.operands]) _ hu
  have key : ∀ (v : A) (q' : IntKind) (e' : E), a.ie = some (q', e') → (∀ K, convF q a K = K v) → (∀ (ρ : Rho) (σ : Sig), AR ρ σ v (.int q (q.wrap (e'.den σ)))) → ∃ v,
      (∀ rec' X' k' h', runOp (.n1 (opConv q) (od nl x)) rec' X' k' pt tl h' = k' v h') ∧
      ∀ P σ ρ e w, CfgOK P C σ → OpdR ρ σ nl o.op pt tl e → ∃ v', Exec P e o w v' w ∧ AVR ρ σ v v' := by
    intro v q' e' hie h1 h2
    refine ⟨.one v, ?_, ?_⟩
    · intro rec' X' k' h'
      show ev (od nl x) pt tl _ = _
      rw [ev_eq hu]
      exact h1 (fun a => k' (.one a) h')
    · intro P σ ρ e w hc hop
      have he := AR.ie hie (hx hop)
      refine ⟨_, .inl ?_, h2 ρ σ⟩
      have := (hc.ty src ts hs).runUnd w
      have := (hc.ty dst td hd).runUnd w
      simp [execOp, convert, *, Conv.intToInt]
  cases a with
  | int q' n => exact key (.int q (wrapF q n)) q' (.lit n) rfl (fun _ => rfl) (fun ρ σ => by simp [AR, wrapF_eq, E.den])
  | sym q' e' => exact key (.sym q (.conv q e')) q' e' rfl (fun _ => rfl) (fun ρ σ => by simp [AR, E.den])
  | _ => cases hk
theorem fld_pure {s : TypeId} {x : Operand} {f : Nat} (ho : o.op = .fieldAddr s x f) : PureL C nl o (runOp (cFld C s (od nl x) f)) := by
  unfold cFld
  cases hs : C.ty s with
  | none => rw [tyK_none hs]; exact bad_pure
  | some ti =>
    rw [tyK_some hs]
    split
    · rename_i fs hfs
      split
      · rename_i fd hfd
        cases hf : C.ty fd.type with
        | none => rw [tyK_none hf]; exact bad_pure
        | some fi =>
          rw [tyK_some hf]
          cases hz : Nat.beq fi.size 0 with
          | true => exact bad_pure
          | false =>
            intro rec X k pt tl h r hk
            obtain ⟨u, hu, hk⟩ := ev_some (show ev (od nl x) pt tl _ = some r from hk)
            obtain ⟨b, off, rfl, hk⟩ := ptrK_some hk
            refine ⟨.one (.ptr b (Nat.add off fd.offset)), ?_, ?_⟩
            · intro rec' X' k' h'
              show ev (od nl x) pt tl _ = _
              rw [ev_eq hu]; rfl
            · intro P σ ρ e w hc hop
              obtain ⟨rr, S, hb, he⟩ := hop x (by simp [ho, Op.operands]) _ hu
              refine ⟨.pointer (some ⟨rr, off + fd.offset, none⟩), .inl ?_, ⟨rr, S, hb, rfl⟩⟩
              have h1 := (hc.ty s ti hs).runUnd w
              have h2 := (hc.ty _ fi hf).runSize w
              have h3 := beq_false_ne hz
              rw [nth_eq] at hfd
              have h4 : fs[f]? = some fd := by simpa using hfd
              rw [hfs] at h1
              simp [execOp, ho, Instr.fieldAt, h1, h4, Instr.sureAddr, he, fieldPlace, h2, h3, addr_add]
      · exact bad_pure
    · exact bad_pure
theorem run_part {t : TypeId} {ti : TI} (ht : TyR P t ti) {l : List A} {vs : List Value} (hl : F2 (AR ρ σ) l vs) {off : Nat} {k : AV → OR} {r : Rs} (hk : partK l off ti.size ti.agg k = some r) (w : World) :
    ∃ v, k v = some r ∧ (∀ k', partK l off ti.size ti.agg k' = k' v) ∧ ∃ v', (part t vs.toArray off).run P w = .ok v' w ∧ AVR ρ σ v v' := by
  have h1 := ht.runAgg w
  have h2 := ht.runSize w
  unfold partK at hk ⊢
  cases ha : ti.agg with
  | true =>
    rw [ha] at hk h1
    refine ⟨_, hk, fun k' => rfl, _, by simp [part, h1, h2]; rfl, ⟨(vs.drop off).take ti.size, ?_, ?_⟩⟩
    · simp
    · rw [takeL_eq, dropL_eq]; exact (hl.drop off).take _
  | false =>
    rw [ha] at hk h1
    obtain ⟨a, h3, h4⟩ := optK_some hk
    rw [nth_eq] at h3
    obtain ⟨b, h5, h6⟩ := hl.get h3
    refine ⟨.one a, h4, fun k' => by show optK _ _ = _; rw [nth_eq, optK_eq h3], b, ?_, h6⟩
    simp [part, h1, h5]
/-- the same, where the relation is not known yet -/
theorem partK_some {l : List A} {off size : Nat} {agg : Bool} {k : AV → OR} {r : Rs} (hk : partK l off size agg k = some r) : ∃ v, k v = some r ∧ ∀ k', partK l off size agg k' = k' v := by
  unfold partK at hk ⊢
  cases agg with
  | true => exact ⟨_, hk, fun k' => rfl⟩
  | false =>
    obtain ⟨a, h3, h4⟩ := optK_some hk
    exact ⟨.one a, h4, fun k' => by show optK _ _ = _; rw [optK_eq h3]⟩
theorem field_pure {s : TypeId} {x : Operand} {f : Nat} (ho : o.op = .field s x f) : PureL C nl o (runOp (cField C s (od nl x) f)) := by
  unfold cField
  cases hs : C.ty s with
  | none => rw [tyK_none hs]; exact bad_pure
  | some ti =>
    rw [tyK_some hs]
    split
    · rename_i fs hfs
      split
      · rename_i fd hfd
        cases hf : C.ty fd.type with
        | none => rw [tyK_none hf]; exact bad_pure
        | some fi =>
          rw [tyK_some hf]
          intro rec X k pt tl h r hk
          obtain ⟨u, hu, hk⟩ := ev_some (show ev (od nl x) pt tl _ = some r from hk)
          obtain ⟨l, rfl, hk2⟩ := aggK_some hk
          obtain ⟨v, hv, hv'⟩ := partK_some hk2
          refine ⟨v, ?_, ?_⟩
          · intro rec' X' k' h'
            show ev (od nl x) pt tl _ = _
            rw [ev_eq hu]; exact hv' (fun v => k' v h')
          · intro P σ ρ e w hc hop
            obtain ⟨vs, he, hvs⟩ := hop x (by simp [ho, Op.operands]) _ hu
            obtain ⟨v2, h5, h6, v', h7, h8⟩ := run_part (hc.ty _ fi hf) hvs (k := fun v => k v h) hk2 w
            have : v = v2 := by
              have a1 := hv' (fun v => some (.val v h))
              have a2 := h6 (fun v => some (.val v h))
              rw [a1] at a2; exact (by simpa using a2)
            subst this
            refine ⟨v', .inl ?_, h8⟩
            have h1 := (hc.ty s ti hs).runUnd w
            rw [hfs] at h1
            rw [nth_eq] at hfd
            have h4 : fs[f]? = some fd := by simpa using hfd
            simp [execOp, ho, Instr.field, h1, h4, he, asAgg, h7]
      · exact bad_pure
    · exact bad_pure
theorem extract_pure {x : Operand} {i : Nat} (ho : o.op = .extract x i) : PureL C nl o (runOp (.n1 (fun x => opExtract x i) (od nl x))) := by
  intro rec X k pt tl h r hk
  obtain ⟨u, hu, hk⟩ := ev_some (show ev (od nl x) pt tl _ = some r from hk)
  cases u with
  | tup l =>
    obtain ⟨v, h1, h2⟩ := optK_some hk
    refine ⟨v.av, ?_, ?_⟩
    · intro rec' X' k' h'
      show ev (od nl x) pt tl _ = _
      rw [ev_eq hu]; exact optK_eq h1
    · intro P σ ρ e w hc hop
      obtain ⟨vs, he, hvs⟩ := hop x (by simp [ho, Op.operands]) _ hu
      rw [nth_eq] at h1
      obtain ⟨b, h5, h6⟩ := hvs.get h1
      exact ⟨b, .inl (by simp [execOp, ho, Instr.extract, he, h5]), VR.av _ _ h6⟩
  | _ => cases hk
theorem run_asInt {q : IntKind} {n : Int} {w : World} : (asIntOf (.int q n)).run P w = .ok (q, n) w := rfl
theorem idxAddr_pure {t : TypeId} {x i : Operand} (ho : o.op = .indexAddr t x i) : PureL C nl o (runOp (cIdxAddr C t (od nl x) (od nl i))) := by
  unfold cIdxAddr
  cases hs : C.ty t with
  | none => rw [tyK_none hs]; exact bad_pure
  | some ti =>
    rw [tyK_some hs]
    split
    · rename_i ln el hu0
      cases hf : C.ty el with
      | none => rw [tyK_none hf]; exact bad_pure
      | some ei =>
        rw [tyK_some hf]
        intro rec X k pt tl h r hk
        obtain ⟨u, hu, hk⟩ := ev_some (show ev (od nl x) pt tl _ = some r from hk)
        obtain ⟨b, off, rfl, hk⟩ := ptrK_some hk
        obtain ⟨u', hu', hk⟩ := ev_some (show ev (od nl i) pt tl _ = some r from hk)
        obtain ⟨q, n, rfl, hk⟩ := natK_some hk
        obtain ⟨hlt, hk⟩ := ifK_some hk
        refine ⟨.one (.ptr b (Nat.add off (Nat.mul n ei.size))), ?_, ?_⟩
        · intro rec' X' k' h'
          show ev (od nl x) pt tl _ = _
          rw [ev_eq hu]
          show ev (od nl i) pt tl _ = _
          rw [ev_eq hu']
          exact ifK_eq hlt
        · intro P σ ρ e w hc hop
          obtain ⟨rr, S, hb, he⟩ := hop x (by simp [ho, Op.operands]) _ hu
          have hi : e i = _ := hop i (by simp [ho, Op.operands]) _ hu'
          refine ⟨.pointer (some ⟨rr, off + n * ei.size, none⟩), .inl ?_, ⟨rr, S, hb, rfl⟩⟩
          have h1 := (hc.ty t ti hs).runUnd w
          have h2 := (hc.ty _ ei hf).runSize w
          rw [hu0] at h1
          have h3 := ble_le hlt
          have h4 : ¬ ln ≤ n := by have : n + 1 ≤ ln := h3; omega
          simp [execOp, ho, Instr.indexAt, hi, run_asInt, h1, he, Instr.sureAddr, h2, h4, addr_add]
    · rename_i el hu0
      cases hf : C.ty el with
      | none => rw [tyK_none hf]; exact bad_pure
      | some ei =>
        rw [tyK_some hf]
        intro rec X k pt tl h r hk
        obtain ⟨u, hu, hk⟩ := ev_some (show ev (od nl x) pt tl _ = some r from hk)
        obtain ⟨a, rfl, hk2⟩ := oneK_some hk
        clear hk
        have key : ∀ b off ln, (∀ K, sliceK a K = K b off ln) → (∀ K r, wslK a K r = r) → (∀ (ρ : Rho) (σ : Sig) v, AR ρ σ a v → ∃ rr S c, ρ b = some (rr, S) ∧ v = .slice (some ⟨rr, off, none⟩) ln c) → ∃ v,
            (∀ rec' X' k' h', runOp (.n2 (opIdxS C ei.size) (od nl x) (od nl i)) rec' X' k' pt tl h' = k' v h') ∧
            ∀ P σ ρ e w, CfgOK P C σ → OpdR ρ σ nl o.op pt tl e → ∃ v', Exec P e o w v' w ∧ AVR ρ σ v v' := by
          intro b off ln hsl hws har
          rw [hws, hsl] at hk2
          obtain ⟨u', hu', hk⟩ := ev_some (show ev (od nl i) pt tl _ = some r from hk2)
          obtain ⟨q, n, rfl, hk⟩ := natK_some hk
          obtain ⟨hlt, hk⟩ := ifK_some hk
          refine ⟨.one (.ptr b (Nat.add off (Nat.mul n ei.size))), ?_, ?_⟩
          · intro rec' X' k' h'
            show ev (od nl x) pt tl _ = _
            rw [ev_eq hu]
            show wslK a _ (sliceK a _) = _
            rw [hws, hsl]
            show ev (od nl i) pt tl _ = _
            rw [ev_eq hu']
            exact ifK_eq hlt
          · intro P σ ρ e w hc hop
            obtain ⟨rr, S, c, hb, he⟩ := har ρ σ (e x) (hop x (by simp [ho, Op.operands]) _ hu)
            have hi : e i = _ := hop i (by simp [ho, Op.operands]) _ hu'
            refine ⟨.pointer (some ⟨rr, off + n * ei.size, none⟩), .inl ?_, ⟨rr, S, hb, rfl⟩⟩
            have h1 := (hc.ty t ti hs).runUnd w
            have h2 := (hc.ty _ ei hf).runSize w
            rw [hu0] at h1
            have h3 := ble_le hlt
            have h4 : ¬ ln ≤ n := by have : n + 1 ≤ ln := h3; omega
            simp [execOp, ho, Instr.indexAt, hi, run_asInt, h1, he, h2, h4, addr_add]
        cases a with
        | slice b off ln c => exact key b off ln (fun _ => rfl) (fun _ _ => rfl) (fun ρ σ v ⟨rr, S, h1, h2⟩ => ⟨rr, S, c, h1, h2⟩)
        | fsl b off ln es => exact key b off ln (fun _ => rfl) (fun _ _ => rfl) (fun ρ σ v ⟨rr, S, c, h1, h2, _⟩ => ⟨rr, S, c, h1, h2⟩)
        | wsl b es n =>
          obtain ⟨u', hu', hk⟩ := ev_some (show ev (od nl i) pt tl _ = some r from hk2)
          obtain ⟨q, j, rfl, hk⟩ := natK_some hk
          obtain ⟨hlt, hk⟩ := ifK_some hk
          refine ⟨.one (.ptr b (Nat.mul j ei.size)), ?_, ?_⟩
          · intro rec' X' k' h'
            show ev (od nl x) pt tl _ = _
            rw [ev_eq hu]
            show ev (od nl i) pt tl _ = _
            rw [ev_eq hu']
            exact ifK_eq hlt
          · intro P σ ρ e w hc hop
            obtain ⟨rr, S, N, hb, he, hN, _⟩ := hop x (by simp [ho, Op.operands]) _ hu
            have hi : e i = _ := hop i (by simp [ho, Op.operands]) _ hu'
            refine ⟨.pointer (some ⟨rr, 0 + j * ei.size, none⟩), .inl ?_, ⟨rr, S, hb, by rw [Nat.zero_add]; rfl⟩⟩
            have h1 := (hc.ty t ti hs).runUnd w
            have h2 := (hc.ty _ ei hf).runSize w
            rw [hu0] at h1
            simp only [Bool.and_eq_true] at hlt
            have h3 : C.cmp .lss (.lit (.ofNat j)) n = some true := isT_eq hlt.2
            have h4 := hc.cmp _ _ _ _ h3
            have h4' : ((j : Nat) : Int) < n.den σ := of_decide_eq_true h4
            have h5 : ¬ N ≤ j := by rw [← hN] at h4'; omega
            simp [execOp, ho, Instr.indexAt, hi, run_asInt, h1, he, h2, h5, addr_add]
        | _ => cases hk2
    · exact bad_pure
end Eng
end

noncomputable section
namespace Eng
open Go
variable {ρ ρ' : Rho} {σ : Sig} {C : Cfg} {P : Program} {nl : Nat} {o : Oper}

theorem strK_some {a : A} {k : ByteArray → OR} {r : Rs} (h : strK a k = some r) : ∃ s, a = .str s ∧ k s = some r := by
  unfold strK at h
  split at h
  · rename_i s; exact ⟨s, rfl, h⟩
  · cases h
theorem indexStr_pure {t : TypeId} {x i : Operand} (ho : o.op = .index t x i) {ti : TI} (ht : C.ty t = some ti) (hu0 : ti.und = .string) : PureL C nl o (runOp (.n2 opIndexStr (od nl x) (od nl i))) := by
  intro rec X k pt tl h r hk
  obtain ⟨u, hu, hk1⟩ := ev_some (show ev (od nl x) pt tl _ = some r from hk)
  obtain ⟨a, rfl, hk2⟩ := oneK_some hk1
  obtain ⟨s, rfl, hk3⟩ := strK_some hk2
  obtain ⟨u', hu', hk4⟩ := ev_some (show ev (od nl i) pt tl _ = some r from hk3)
  obtain ⟨q, n, rfl, hk5⟩ := natK_some hk4
  obtain ⟨b, hb, _⟩ := optK_some hk5
  refine ⟨.one (.int .u8 (.ofNat b)), ?_, ?_⟩
  · intro rec' X' k' h'
    show ev (od nl x) pt tl _ = _
    rw [ev_eq hu]
    show ev (od nl i) pt tl _ = _
    rw [ev_eq hu']
    show optK (byteAt s n) _ = _
    rw [hb]; rfl
  · intro P σ ρ e w hc hop
    have hx : e x = .string s := hop x (by simp [ho, Op.operands]) _ hu
    have hi : e i = .int q (.ofNat n) := hop i (by simp [ho, Op.operands]) _ hu'
    have h1 := (hc.ty t ti ht).runUnd w
    rw [hu0] at h1
    unfold byteAt at hb
    split at hb
    · rename_i c hc'
      cases hb
      refine ⟨.int .u8 c.toNat, .inl ?_, rfl⟩
      simp [execOp, ho, Instr.index, hx, hi, asIntOf, h1, hc']
    · cases hb
theorem index_pure {t : TypeId} {x i : Operand} (ho : o.op = .index t x i) : PureL C nl o (runOp (cIndex C t (od nl x) (od nl i))) := by
  unfold cIndex
  cases hs : C.ty t with
  | none => rw [tyK_none hs]; exact bad_pure
  | some ti =>
    rw [tyK_some hs]
    split
    · rename_i ln el hu0
      cases hf : C.ty el with
      | none => rw [tyK_none hf]; exact bad_pure
      | some ei =>
        rw [tyK_some hf]
        intro rec X k pt tl h r hk
        obtain ⟨u, hu, hk1⟩ := ev_some (show ev (od nl x) pt tl _ = some r from hk)
        obtain ⟨l, rfl, hk2⟩ := aggK_some hk1
        obtain ⟨u', hu', hk3⟩ := ev_some (show ev (od nl i) pt tl _ = some r from hk2)
        obtain ⟨q, n, rfl, hk4⟩ := natK_some hk3
        obtain ⟨hlt, hk5⟩ := ifK_some hk4
        obtain ⟨v, hv, hv'⟩ := partK_some hk5
        refine ⟨v, ?_, ?_⟩
        · intro rec' X' k' h'
          show ev (od nl x) pt tl _ = _
          rw [ev_eq hu]
          show ev (od nl i) pt tl _ = _
          rw [ev_eq hu']
          show ifK _ _ = _
          rw [ifK_eq hlt]
          exact hv' (fun v => k' v h')
        · intro P σ ρ e w hc hop
          obtain ⟨vs, he, hvs⟩ := hop x (by simp [ho, Op.operands]) _ hu
          have hi : e i = _ := hop i (by simp [ho, Op.operands]) _ hu'
          obtain ⟨v2, h5, h6, v', h7, h8⟩ := run_part (hc.ty _ ei hf) hvs (k := fun v => k v h) hk5 w
          have : v = v2 := by
            have a1 := hv' (fun v => some (.val v h))
            have a2 := h6 (fun v => some (.val v h))
            rw [a1] at a2; exact (by simpa using a2)
          subst this
          refine ⟨v', .inl ?_, h8⟩
          have h1 := (hc.ty t ti hs).runUnd w
          have h2 := (hc.ty _ ei hf).runSize w
          rw [hu0] at h1
          have h4 : ¬ ln ≤ n := by have : n + 1 ≤ ln := ble_le hlt; omega
          have h7' : Sem.run P (part el vs.toArray (n * ei.size)) w = .ok v' w := h7
          simp [execOp, ho, Instr.index, hi, run_asInt, h1, he, h2, Nat.not_le.1 h4, h7']
    · exact indexStr_pure ho hs (by assumption)
    · exact bad_pure

/- slicing -/
def BndR (x : Option Od) (y d n : Nat) (pt : T AV) (tl : TL) : Prop := (x = none ∧ n = d) ∨ ∃ z q, x = some z ∧ z.val pt tl = some (.one (.int q (.ofNat n))) ∧ n ≤ y
theorem bndK_some {x : Option Od} {y d : Nat} {pt : T AV} {tl : TL} {k : Nat → OR} {r : Rs} (h : bndK x y d pt tl k = some r) :
    ∃ n, k n = some r ∧ (∀ k', bndK x y d pt tl k' = k' n) ∧ BndR x y d n pt tl := by
  cases x with
  | none => exact ⟨d, h, fun _ => rfl, .inl ⟨rfl, rfl⟩⟩
  | some z =>
    obtain ⟨u, hu, h1⟩ := ev_some (show ev z pt tl _ = some r from h)
    obtain ⟨q, n, rfl, h2⟩ := natK_some h1
    obtain ⟨h3, h4⟩ := ifK_some h2
    refine ⟨n, h4, ?_, .inr ⟨z, q, rfl, hu, ble_le h3⟩⟩
    intro k'
    show ev z pt tl _ = _
    rw [ev_eq hu]
    exact ifK_eq h3
theorem run_sliceBound {q : IntKind} {n y : Nat} {c : BoundsCode} {w : World} (h : n ≤ y) : (Instr.sliceBound (.int q (.ofNat n)) y c).run P w = .ok n w := by
  simp [Instr.sliceBound, run_asInt, h]
/-- operands as bounds -/
def OptR (e : Operand → Value) (nl : Nat) (x : Option Operand) (pt : T AV) (tl : TL) : Prop := ∀ X, x = some X → ∀ q n, (od nl X).val pt tl = some (.one (.int q n)) → e X = .int q n
theorem bnd_val {x : Option Operand} {y d n : Nat} {pt : T AV} {tl : TL} {e : Operand → Value} (h : BndR (opt nl x) y d n pt tl) (hr : OptR e nl x pt tl) :
    (x = none ∧ n = d) ∨ ∃ X q, x = some X ∧ e X = .int q (.ofNat n) ∧ n ≤ y := by
  cases x with
  | none => rcases h with ⟨_, h⟩ | ⟨z, q, h, _⟩; exact .inl ⟨rfl, h⟩; cases h
  | some X =>
    rcases h with ⟨h, _⟩ | ⟨z, q, h1, h2, h3⟩
    · cases h
    · cases h1; exact .inr ⟨X, q, rfl, hr X rfl q _ h2, h3⟩
theorem run_bounds0 {isS : Bool} {ln cap room l h' : Nat} {lo hi : Option Operand} {pt : T AV} {tl : TL} {e : Operand → Value} {w : World}
    (hh : BndR (opt nl hi) room ln h' pt tl) (hl : BndR (opt nl lo) h' 0 l pt tl) (hrc : room ≤ cap) (rl : OptR e nl lo pt tl) (rh : OptR e nl hi pt tl) :
    (Instr.sliceBounds isS ln cap (lo.map e) (hi.map e) none).run P w = .ok (l, h', cap) w := by
  rcases bnd_val hh rh with ⟨rfl, rfl⟩ | ⟨X, q, rfl, hX, hle⟩ <;> rcases bnd_val hl rl with ⟨rfl, rfl⟩ | ⟨Y, q', rfl, hY, hle'⟩
  · simp [Instr.sliceBounds]
  · simp only [Instr.sliceBounds, Option.map, hY, Sem.run_bind, Sem.run_pure, Result.andThen_ok]
    rw [run_sliceBound hle']; rfl
  · simp only [Instr.sliceBounds, Option.map, hX, Sem.run_bind, Sem.run_pure, Result.andThen_ok]
    rw [run_sliceBound (Nat.le_trans hle hrc)]; rfl
  · simp only [Instr.sliceBounds, Option.map, hX, hY, Sem.run_bind, Sem.run_pure, Result.andThen_ok]
    rw [run_sliceBound (Nat.le_trans hle hrc)]
    simp only [Result.andThen_ok]
    rw [run_sliceBound hle']; rfl
theorem run_bounds1 {isS : Bool} {ln cap room l h' m : Nat} {lo : Option Operand} {hi mx : Operand} {pt : T AV} {tl : TL} {e : Operand → Value} {w : World}
    (hm : BndR (opt nl (some mx)) room 0 m pt tl) (hh : BndR (opt nl (some hi)) m 0 h' pt tl) (hl : BndR (opt nl lo) h' 0 l pt tl) (hrc : room ≤ cap) (rl : OptR e nl lo pt tl) (rh : OptR e nl (some hi) pt tl) (rm : OptR e nl (some mx) pt tl) :
    (Instr.sliceBounds isS ln cap (lo.map e) (some (e hi)) (some (e mx))).run P w = .ok (l, h', m) w := by
  rcases bnd_val hh rh with ⟨h0, _⟩ | ⟨X, q, h1, hX, hle⟩
  · cases h0
  cases h1
  rcases bnd_val hm rm with ⟨h0, _⟩ | ⟨X', q', h1, hX', hle2⟩
  · cases h0
  cases h1
  rcases bnd_val hl rl with ⟨rfl, rfl⟩ | ⟨Y, q'', rfl, hY, hle'⟩
  · simp only [Instr.sliceBounds, Option.map, hX, hX', Sem.run_bind, Sem.run_pure, Result.andThen_ok]
    rw [run_sliceBound (Nat.le_trans hle2 hrc)]
    simp only [Result.andThen_ok]
    rw [run_sliceBound hle]; rfl
  · simp only [Instr.sliceBounds, Option.map, hX, hX', hY, Sem.run_bind, Sem.run_pure]
    rw [run_sliceBound (Nat.le_trans hle2 hrc)]
    simp only [Result.andThen_ok]
    rw [run_sliceBound hle]
    simp only [Result.andThen_ok]
    rw [run_sliceBound hle']; rfl
theorem slBody_none {ex : Bool} {b off ln room size : Nat} {lo hi : Option Od} {pt : T AV} {tl : TL} {k : A → OR} :
    slBody ex b off ln room size lo hi none pt tl k = bndK hi room ln pt tl fun h' => bndK lo h' 0 pt tl fun l => bif ex then slEx b off size l h' room k else slFu b off size l h' room k := rfl
theorem slSlice_nils {size : Nat} {h : H} {lo hi : Option Od} {pt : T AV} {tl : TL} {k : A → OR} :
    slSlice size h .nils lo hi none pt tl k = bndK hi 0 0 pt tl fun _ => bndK lo 0 0 pt tl fun _ => k .nils := rfl
/-- what slicing answers, over a row that begins at (b, off), of 'cap' elements -/
theorem slBody_some {ex : Bool} {b off ln room size : Nat} {lo hi mx : Option Operand} {pt : T AV} {tl : TL} {k : A → OR} {r : Rs}
    (h : slBody ex b off ln room size (opt nl lo) (opt nl hi) (opt nl mx) pt tl k = some r) :
    ∃ v, k v = some r ∧ (∀ k', slBody ex b off ln room size (opt nl lo) (opt nl hi) (opt nl mx) pt tl k' = k' v) ∧
      ∀ (P : Program) (ρ : Rho) (σ : Sig) (e : Operand → Value) (w : World) (isS : Bool) (cap rr S : Nat), ρ b = some (rr, S) → room ≤ cap → (ex = true → cap = room) → (ex = false → off + cap * size = S) →
        OptR e nl lo pt tl → OptR e nl hi pt tl → OptR e nl mx pt tl →
        ∃ l h' m, (Instr.sliceBounds isS ln cap (lo.map e) (hi.map e) (mx.map e)).run P w = .ok (l, h', m) w ∧
          AR ρ σ v (.slice (some (if m = l then ⟨rr, off, none⟩ else (⟨rr, off, none⟩ : Addr).add (l * size))) (h' - l) (m - l)) := by
  have exc : ∀ (l h' m : Nat) (ρ : Rho) (σ : Sig) (rr S : Nat), ρ b = some (rr, S) →
      AR ρ σ (.slice b (bif Nat.beq m l then off else Nat.add off (Nat.mul l size)) (Nat.sub h' l) (Nat.sub m l)) (.slice (some (if m = l then ⟨rr, off, none⟩ else (⟨rr, off, none⟩ : Addr).add (l * size))) (h' - l) (m - l)) := by
    intro l h' m ρ σ rr S hb
    refine ⟨rr, S, hb, ?_⟩
    by_cases e : m = l
    · subst e; simp
    · have : Nat.beq m l = false := by
        cases hq : Nat.beq m l with
        | false => rfl
        | true => exact absurd (beq_eq hq) e
      rw [this, if_neg e, addr_add]; rfl
  cases mx with
  | some MX =>
    cases hi with
    | none => cases h
    | some HI =>
      obtain ⟨m, h1, h2, h3⟩ := bndK_some (show bndK (opt nl (some MX)) room 0 pt tl _ = some r from h)
      obtain ⟨h', h4, h5, h6⟩ := bndK_some (show bndK (opt nl (some HI)) m 0 pt tl _ = some r from h1)
      obtain ⟨l, h7, h8, h9⟩ := bndK_some (show bndK (opt nl lo) h' 0 pt tl _ = some r from h4)
      refine ⟨_, h7, ?_, ?_⟩
      · intro k'
        show bndK (opt nl (some MX)) room 0 pt tl _ = _
        rw [h2, h5, h8]; rfl
      · intro P ρ σ e w isS cap rr S hb hrc _ _ rl rh rm
        exact ⟨l, h', m, run_bounds1 h3 h6 h9 hrc rl rh rm, exc l h' m ρ σ rr S hb⟩
  | none =>
    rw [show opt nl none = none from rfl, slBody_none] at h
    obtain ⟨h', h4, h5, h6⟩ := bndK_some h
    obtain ⟨l, h7, h8, h9⟩ := bndK_some h4
    simp only [show opt nl none = none from rfl, slBody_none]
    cases ex with
    | true =>
      refine ⟨_, h7, ?_, ?_⟩
      · intro k'
        rw [h5, h8]; rfl
      · intro P ρ σ e w isS cap rr S hb hrc he _ rl rh rm
        obtain rfl := he rfl
        exact ⟨l, h', cap, run_bounds0 h6 h9 hrc rl rh, exc l h' cap ρ σ rr S hb⟩
    | false =>
      rcases boolRec_some (show @Bool.rec (fun _ => OR) (ifK (Nat.beq l h') (k .emp)) (k (.fsl b (Nat.add off (Nat.mul l size)) (Nat.sub h' l) size)) (Nat.ble (Nat.succ l) room) = some r from h7) with ⟨hb1, hk⟩ | ⟨hb1, hk⟩
      · obtain ⟨h10, h11⟩ := ifK_some hk
        have := beq_eq h10
        subst this
        refine ⟨.emp, h11, ?_, ?_⟩
        · intro k'
          rw [h5, h8]
          show @Bool.rec (fun _ => OR) (ifK (Nat.beq l l) (k' .emp)) _ (Nat.ble (Nat.succ l) room) = _
          rw [hb1]; exact ifK_eq h10
        · intro P ρ σ e w isS cap rr S hb hrc _ _ rl rh rm
          refine ⟨l, l, cap, run_bounds0 h6 h9 hrc rl rh, ?_⟩
          exact ⟨_, _, by rw [Nat.sub_self]⟩
      · refine ⟨_, hk, ?_, ?_⟩
        · intro k'
          rw [h5, h8]
          show @Bool.rec (fun _ => OR) _ (k' (.fsl b (Nat.add off (Nat.mul l size)) (Nat.sub h' l) size)) (Nat.ble (Nat.succ l) room) = _
          rw [hb1]
        · intro P ρ σ e w isS cap rr S hb hrc _ hS rl rh rm
          have hlt : l + 1 ≤ room := ble_le hb1
          refine ⟨l, h', cap, run_bounds0 h6 h9 hrc rl rh, rr, S, cap - l, hb, ?_, ?_⟩
          · rw [if_neg (by omega), addr_add]; rfl
          · have := hS rfl
            show off + l * size + (cap - l) * size = S
            rw [Nat.sub_mul]
            have : l * size ≤ cap * size := Nat.mul_le_mul_right _ (by omega)
            omega
theorem opt_R {t : TypeId} {x : Operand} {lo hi mx : Option Operand} (ho : o.op = .slice t x lo hi mx) {pt : T AV} {tl : TL} {e : Operand → Value} (hop : OpdR ρ σ nl o.op pt tl e) :
    OptR e nl lo pt tl ∧ OptR e nl hi pt tl ∧ OptR e nl mx pt tl := by
  refine ⟨?_, ?_, ?_⟩ <;> (intro X hX q n hv; subst hX; exact hop X (by simp [ho, Op.operands]) _ hv)
theorem slice_read {t : TypeId} {x : Operand} {lo hi mx : Option Operand} (ho : o.op = .slice t x lo hi mx) : ReadL C nl o (runOp (cSlice C t (od nl x) (opt nl lo) (opt nl hi) (opt nl mx))) := by
  have arr : ∀ (n : Nat) (el : TypeId) (ei : TI), C.ty el = some ei →
      (∀ P σ w (rr off : Nat), CfgOK P C σ → ∀ (l h' m : Nat) (e : Operand → Value), e x = .pointer (some ⟨rr, off, none⟩) → (Instr.sliceBounds false n n (lo.map e) (hi.map e) (mx.map e)).run P w = .ok (l, h', m) w →
        (execOp e o).run P w = .ok (.value (.slice (some (if m = l then ⟨rr, off, none⟩ else (⟨rr, off, none⟩ : Addr).add (l * ei.size))) (h' - l) (m - l))) w) →
      ReadL C nl o (runOp (.n1 (fun x => opSliceA n ei.size x (opt nl lo) (opt nl hi) (opt nl mx)) (od nl x))) := by
    intro n el ei hel hrun rec X k pt tl h r hk
    obtain ⟨u, hu, hk1⟩ := ev_some (show ev (od nl x) pt tl _ = some r from hk)
    obtain ⟨b, off, rfl, hk2⟩ := ptrK_some hk1
    obtain ⟨v, h1, h2, h3⟩ := slBody_some hk2
    refine ⟨.one v, ?_, ?_⟩
    · intro rec' X' k'
      show ev (od nl x) pt tl _ = _
      rw [ev_eq hu]
      exact h2 (fun a => k' (.one a) h)
    · intro P σ ρ e w hc hr hop
      obtain ⟨rr, S, hb, he⟩ := hop x (by simp [ho, Op.operands]) _ hu
      obtain ⟨r1, r2, r3⟩ := opt_R ho hop
      obtain ⟨l, h', m, h4, h5⟩ := h3 P ρ σ e w false n rr S hb (Nat.le_refl _) (fun _ => rfl) (by simp) r1 r2 r3
      exact ⟨_, .inl (hrun P σ w rr off hc l h' m e he h4), h5⟩
  unfold cSlice
  cases hs : C.ty t with
  | none => rw [tyK_none hs]; exact bad_read
  | some ti =>
    rw [tyK_some hs]
    split
    · rename_i n el hu0
      cases hf : C.ty el with
      | none => rw [tyK_none hf]; exact bad_read
      | some ei =>
        rw [tyK_some hf]
        refine arr n el ei hf ?_
        intro P σ w rr off hc l h' m e he hb
        have h1 := (hc.ty t ti hs).runUnd w
        have h2 := (hc.ty _ ei hf).runSize w
        rw [hu0] at h1
        simp [execOp, ho, Instr.sliceAt, h1, he, Instr.sureAddr, hb, h2]
    · rename_i el hu0
      cases hf : C.ty el with
      | none => rw [tyK_none hf]; exact bad_read
      | some ei =>
        rw [tyK_some hf]
        cases hz : Nat.beq ei.size 0 with
        | true => exact bad_read
        | false =>
          have hz' := beq_false_ne hz
          intro rec X k pt tl h r hk
          obtain ⟨u, hu, hk1⟩ := ev_some (show ev (od nl x) pt tl _ = some r from hk)
          obtain ⟨a, rfl, hk2⟩ := oneK_some hk1
          have hrun : ∀ P σ w, CfgOK P C σ → ∀ (e : Operand → Value) (ba : Option Addr) (ln cap l h' m : Nat), e x = .slice ba ln cap → (Instr.sliceBounds true ln cap (lo.map e) (hi.map e) (mx.map e)).run P w = .ok (l, h', m) w →
              (execOp e o).run P w = .ok (.value (.slice (if m = l then ba else ba.map (·.add (l * ei.size))) (h' - l) (m - l))) w := by
            intro P σ w hc e ba ln cap l h' m he hb
            have h1 := (hc.ty t ti hs).runUnd w
            have h2 := (hc.ty _ ei hf).runSize w
            rw [hu0] at h1
            simp [execOp, ho, Instr.sliceAt, Instr.slice, h1, he, hb, h2]
          clear hk hk1
          cases a with
          | slice b off ln cap =>
            obtain ⟨v, h1, h2, h3⟩ := slBody_some hk2
            refine ⟨.one v, ?_, ?_⟩
            · intro rec' X' k'
              show ev (od nl x) pt tl _ = _
              rw [ev_eq hu]
              exact h2 (fun a => k' (.one a) h)
            · intro P σ ρ e w hc hr hop
              obtain ⟨rr, S, hb, he⟩ := hop x (by simp [ho, Op.operands]) _ hu
              obtain ⟨r1, r2, r3⟩ := opt_R ho hop
              obtain ⟨l, h', m, h4, h5⟩ := h3 P ρ σ e w true cap rr S hb (Nat.le_refl _) (fun _ => rfl) (by simp) r1 r2 r3
              refine ⟨_, .inl (hrun P σ w hc e _ ln cap l h' m he h4), ?_⟩
              by_cases hm : m = l
              · rw [if_pos hm] at h5 ⊢; exact h5
              · rw [if_neg hm] at h5 ⊢; exact h5
          | fsl b off ln es =>
            obtain ⟨he0, hk3⟩ := ifK_some hk2
            have hes := beq_eq he0
            subst hes
            obtain ⟨blk, hblk, hk4⟩ := optK_some (show optK (h.get b) _ = some r from hk3)
            obtain ⟨c, n, f, s, rfl, hk5⟩ := cellsK_some hk4
            obtain ⟨v, h1, h2, h3⟩ := slBody_some hk5
            refine ⟨.one v, ?_, ?_⟩
            · intro rec' X' k'
              show ev (od nl x) pt tl _ = _
              rw [ev_eq hu]
              show ifK (Nat.beq ei.size ei.size) _ = _
              rw [ifK_eq he0]
              show optK (h.get b) _ = _
              rw [optK_eq hblk]
              exact h2 (fun a => k' (.one a) h)
            · intro P σ ρ e w hc hr hop
              obtain ⟨rr, S, cap, hb, he, hS⟩ := hop x (by simp [ho, Op.operands]) _ hu
              obtain ⟨r1, r2, r3⟩ := opt_R ho hop
              have hroom : Nat.div (Nat.sub n off) ei.size ≤ cap := by
                obtain ⟨ob, hw, hx⟩ := hr.blk b rr S hb
                obtain ⟨cs, et, _, _, hn, _⟩ := hx _ hblk
                have : Nat.div (Nat.sub n off) ei.size = (n - off) / ei.size := rfl
                rw [this]
                have h7 : (n - off) / ei.size ≤ (cap * ei.size) / ei.size := Nat.div_le_div_right (by omega)
                rwa [Nat.mul_div_cancel _ (by omega)] at h7
              obtain ⟨l, h', m, h4, h5⟩ := h3 P ρ σ e w true cap rr S hb hroom (by simp) (fun _ => hS) r1 r2 r3
              refine ⟨_, .inl (hrun P σ w hc e _ ln cap l h' m he h4), ?_⟩
              by_cases hm : m = l
              · rw [if_pos hm] at h5 ⊢; exact h5
              · rw [if_neg hm] at h5 ⊢; exact h5
          | nils =>
            cases mx with
            | some MX => cases hk2
            | none =>
              rw [show opt nl none = none from rfl, slSlice_nils] at hk2
              obtain ⟨h', h4, h5, h6⟩ := bndK_some hk2
              obtain ⟨l, h7, h8, h9⟩ := bndK_some h4
              refine ⟨.one .nils, ?_, ?_⟩
              · intro rec' X' k'
                show ev (od nl x) pt tl _ = _
                rw [ev_eq hu]
                show slSlice ei.size h .nils (opt nl lo) (opt nl hi) (opt nl none) pt tl (fun a => k' (.one a) h) = k' (.one .nils) h
                rw [show opt nl none = none from rfl, slSlice_nils, h5, h8]
              · intro P σ ρ e w hc hr hop
                have he : e x = _ := hop x (by simp [ho, Op.operands]) _ hu
                obtain ⟨r1, r2, r3⟩ := opt_R ho hop
                have hh0 : h' = 0 := by rcases h6 with ⟨_, h⟩ | ⟨_, _, _, _, h⟩ <;> omega
                have hl0 : l = 0 := by rcases h9 with ⟨_, h⟩ | ⟨_, _, _, _, h⟩ <;> omega
                subst hh0; subst hl0
                have hb := run_bounds0 (P := P) (isS := true) (ln := 0) (w := w) h6 h9 (Nat.le_refl 0) r1 r2
                refine ⟨_, .inl (hrun P σ w hc e none 0 0 0 0 0 he hb), ?_⟩
                simp [AVR, AR]
          | _ => cases hk2
    · rename_i ar hu0
      cases ha : C.ty ar with
      | none => rw [tyK_none ha]; exact bad_read
      | some ai =>
        rw [tyK_some ha]
        split
        · rename_i n el hu1
          cases hf : C.ty el with
          | none => rw [tyK_none hf]; exact bad_read
          | some ei =>
            rw [tyK_some hf]
            refine arr n el ei hf ?_
            intro P σ w rr off hc l h' m e he hb
            have h1 := (hc.ty t ti hs).runUnd w
            have h2 := (hc.ty _ ei hf).runSize w
            have h3 := (hc.ty _ ai ha).runUnd w
            rw [hu0] at h1
            rw [hu1] at h3
            simp [execOp, ho, Instr.sliceAt, Instr.slice, h1, h3, he, asAddr, hb, h2]
        · exact bad_read
    · exact bad_read
end Eng
end

noncomputable section
namespace Eng
open Go
variable {ρ ρ' : Rho} {σ : Sig} {C : Cfg} {P : Program} {nl : Nat} {o : Oper}

theorem cells_one {v : Value} (h : v.oneCell' = true) : v.cells = #[v] := by cases v <;> first | rfl | cases h
theorem AVR.cells {x : AV} {l : List A} {v : Value} (hc : x.cl = some l) (h : AVR ρ σ x v) : ∃ vs : List Value, v.cells = vs.toArray ∧ F2 (AR ρ σ) l vs := by
  cases x with
  | one a =>
    cases hc
    have h' : AR ρ σ a v := h
    exact ⟨[v], cells_one (oneCell_of_AR h'), .cons h' .nil⟩
  | agg l' =>
    cases hc
    obtain ⟨vs, rfl, h2⟩ := h
    exact ⟨vs, rfl, h2⟩
  | tup l => cases hc
theorem F2.cellsR {l : List A} {vs : List Value} (h : F2 (AR ρ σ) l vs) {n : Nat} : CellsR ρ σ (T.ofList l) n vs.toArray := by
  intro i a _ ha
  obtain ⟨v, hv, har⟩ := h.get (T.get_ofList ha)
  exact ⟨v, by simpa using hv, har⟩
theorem F2.blk {l : List A} {vs : List Value} (h : F2 (AR ρ σ) l vs) (e : TypeId) {n : Nat} (hn : l.length = n) : BR ρ σ C (.cells (T.ofList l) n true none) (.cells vs.toArray e (0, 0)) n :=
  ⟨vs.toArray, e, rfl, by simp [← hn, h.length], by simp, fun _ => rfl, h.cellsR⟩
/-- a block of which a part is known -/
theorem F2.blkPart {l l0 : List A} {vs : List Value} (h : F2 (AR ρ σ) l vs) (e : TypeId) {n S : Nat} (hn : l0.length = n) (hS : l.length = S) (hle : n ≤ S) (hpre : ∀ (i : Nat) (a : A), l0[i]? = some a → l[i]? = some a) :
    BR ρ σ C (.cells (T.ofList l0) n false none) (.cells vs.toArray e (0, 0)) S := by
  refine ⟨vs.toArray, e, rfl, by simp [← hS, h.length], hle, (fun h => by cases h), fun i a hi hg => ?_⟩
  obtain ⟨v, hv, har⟩ := h.get (hpre i a (T.get_ofList hg))
  exact ⟨v, by simpa using hv, har⟩
theorem F2.of_get {α β : Type} {R : α → β → Prop} : ∀ {l : List α} {m : List β}, l.length = m.length → (∀ (i : Nat) (a : α) (b : β), l[i]? = some a → m[i]? = some b → R a b) → F2 R l m := by
  intro l
  induction l with
  | nil => intro m hl _; cases m with | nil => exact .nil | cons => simp at hl
  | cons a l ih =>
    intro m hl h
    cases m with
    | nil => simp at hl
    | cons b m => exact .cons (h 0 a b rfl rfl) (ih (by simpa using hl) fun i a b h1 h2 => h (i + 1) a b (by simpa using h1) (by simpa using h2))

theorem makeFunc_pure {f : FuncId} {caps : Array Operand} (ho : o.op = .makeFunc (.func f) #[] caps) : PureL C nl o (runOp (.nl (opMakeFunc f) (ods nl caps.toList))) := by
  intro rec X k pt tl h r hk
  obtain ⟨vs, hvs, hk1⟩ := evAll_some (show evAll (ods nl caps.toList) pt tl _ = some r from hk)
  obtain ⟨cs, hcs, hk2⟩ := optK_some hk1
  refine ⟨.one (.fn f cs), ?_, ?_⟩
  · intro rec' X' k' h'
    show evAll (ods nl caps.toList) pt tl _ = _
    rw [evAll_eq hvs]
    exact optK_eq hcs
  · intro P σ ρ e w hc hop
    refine ⟨.func (.func f) #[] (caps.map e), .inl (by simp [execOp, ho, Instr.makeFunc]), caps.toList.map e, by simp [← Array.toList_map], ?_⟩
    have key : ∀ (l : List Operand) (vs : List AV) (cs : List Nat), (∀ x ∈ l, x ∈ o.op.operands) → vals pt tl (ods nl l) = some vs → mapO capOf vs = some cs → F2 (boxR ρ) cs (l.map e) := by
      intro l
      induction l with
      | nil => intro vs cs _ hv hm; cases hv; cases hm; exact .nil
      | cons x l ih =>
        intro vs cs hmem hv hm
        obtain ⟨v, us, hv1, hus, rfl⟩ : ∃ v us, (od nl x).val pt tl = some v ∧ vals pt tl (ods nl l) = some us ∧ vs = v :: us := by
          have hv' : vals pt tl (od nl x :: ods nl l) = some vs := hv
          simp only [vals] at hv'
          split at hv'
          · rename_i v us h1 h2; exact ⟨v, us, h1, h2, by cases hv'; rfl⟩
          · cases hv'
        obtain ⟨c, ds, hc1, hds, rfl⟩ := consO_some (show consO (capOf v) (mapO capOf us) = some cs from hm)
        refine .cons ?_ (ih us ds (fun y hy => hmem y (List.mem_cons_of_mem _ hy)) hus hds)
        have hx := hop x (hmem x (by simp)) v hv1
        have : v = .one (.ptr c 0) := by
          unfold capOf at hc1
          split at hc1
          · cases hc1; rfl
          · cases hc1
        subst this
        obtain ⟨rr, S, h1, h2⟩ := hx
        exact ⟨rr, S, h1, h2⟩
    exact key caps.toList vs cs (by intro x hx; simp [ho, Op.operands]; first | exact .inr (by simpa using hx) | exact (by simpa using hx)) hvs hcs
theorem alloc_alloc {t : TypeId} (ho : o.op = .alloc t) : AllocL C nl o (runOp (tyK C t (.n0 opBad) fun ti => .n0 (opAlloc (T.ofList ti.zero) (len ti.zero)))) := by
  cases ht : C.ty t with
  | none => rw [tyK_none ht]; exact bad_alloc
  | some ti =>
    rw [tyK_some ht]
    intro rec X k pt tl h r hk
    refine ⟨fun id => .one (.ptr id 0), .cells (T.ofList ti.zero) (len ti.zero) true none, fun _ _ _ _ => rfl, ?_⟩
    intro P σ ρ e w hc hop
    obtain ⟨z, zs, h1, h2, h3, h4, _⟩ := (hc.ty t ti ht).runZero w
    refine ⟨.cells zs.toArray t (0, 0), .pointer (some ⟨w.heap.size, 0, none⟩), len ti.zero, .inl ?_, noFrz_cells, (h3 ρ σ).blk t (by rw [len_eq]), fun ρ' id _ hid => ⟨_, _, hid, rfl⟩⟩
    simp [execOp, ho, Instr.alloc, h1, newVar, newRow, h2, push]
theorem box_alloc {t : TypeId} {x : Operand} (ho : o.op = .box t x) : AllocL C nl o (runOp (.n1 opBox (od nl x))) := by
  intro rec X k pt tl h r hk
  obtain ⟨u, hu, hk1⟩ := ev_some (show ev (od nl x) pt tl _ = some r from hk)
  obtain ⟨l, hl, hk2⟩ := cellsOf_some hk1
  refine ⟨fun id => .one (.ptr id 0), .cells (T.ofList l) (len l) true none, ?_, ?_⟩
  · intro rec' X' k' h'
    show ev (od nl x) pt tl _ = _
    rw [ev_eq hu]
    cases u with
    | one a => cases hl; rfl
    | agg l => cases hl; rfl
    | tup l => cases hl
  · intro P σ ρ e w hc hop
    obtain ⟨vs, h1, h2⟩ := (hop x (by simp [ho, Op.operands]) _ hu).cells hl
    refine ⟨.cells vs.toArray t (0, 0), .pointer (some ⟨w.heap.size, 0, none⟩), len l, .inl ?_, noFrz_cells, h2.blk t (by rw [len_eq]), fun ρ' id _ hid => ⟨_, _, hid, rfl⟩⟩
    simp [execOp, ho, Instr.box, newVar, newRow, h1, push]
theorem makeMap_alloc {t : TypeId} (ho : o.op = .makeMap t none) : AllocL C nl o (runOp (.n0 opMakeMap)) := by
  intro rec X k pt tl h r hk
  refine ⟨fun id => .one (.map id), .map [] 0, fun _ _ _ _ => rfl, ?_⟩
  intro P σ ρ e w hc hop
  refine ⟨.map #[] 0, .map (some w.heap.size), 0, .inl ?_, noFrz_map, ⟨[], rfl, .nil⟩, fun ρ' id _ hid => ⟨_, _, hid, rfl⟩⟩
  simp [execOp, ho, Instr.makeMap, push]
theorem load_read {t : TypeId} {a : Operand} (ho : o.op = .load t a) : ReadL C nl o (runOp (tyK C t (.n0 opBad) fun ti => bif ti.agg then .n1 (opLoadN ti.size) (od nl a) else .n1 opLoad1 (od nl a))) := by
  cases ht : C.ty t with
  | none => rw [tyK_none ht]; exact bad_read
  | some ti =>
    rw [tyK_some ht]
    cases ha : ti.agg with
    | false =>
      intro rec X k pt tl h r hk
      obtain ⟨u, hu, hk1⟩ := ev_some (show ev (od nl a) pt tl _ = some r from hk)
      obtain ⟨b, off, rfl, hk2⟩ := ptrK_some hk1
      obtain ⟨c, n, f, s, x, hg, hlt, hx, hk3⟩ := read1_some hk2
      refine ⟨.one x, ?_, ?_⟩
      · intro rec' X' k'
        show ev (od nl a) pt tl _ = _
        rw [ev_eq hu]
        show H.read1 h b off _ = _
        exact read1_eq hg hlt hx
      · intro P σ ρ e w hc hr hop
        obtain ⟨rr, S, hb, he⟩ := hop a (by simp [ho, Op.operands]) _ hu
        obtain ⟨v, hv, har⟩ := hr.cell hb hg hlt hx
        have h1 := (hc.ty t ti ht).runAgg w
        rw [ha] at h1
        exact ⟨v, .inl (by simp [execOp, ho, Instr.loadAt, he, Instr.sureAddr, loadVar, h1, hv]), har⟩
    | true =>
      intro rec X k pt tl h r hk
      obtain ⟨u, hu, hk1⟩ := ev_some (show ev (od nl a) pt tl _ = some r from hk)
      obtain ⟨b, off, rfl, hk2⟩ := ptrK_some hk1
      obtain ⟨c, n, f, s, l, hg, hle, hx, hk3⟩ := readN_some hk2
      refine ⟨.agg l, ?_, ?_⟩
      · intro rec' X' k'
        show ev (od nl a) pt tl _ = _
        rw [ev_eq hu]
        show H.readN h b off _ _ = _
        exact readN_eq hg hle hx
      · intro P σ ρ e w hc hr hop
        obtain ⟨rr, S, hb, he⟩ := hop a (by simp [ho, Op.operands]) _ hu
        obtain ⟨vs, hf, hlen, hv⟩ := hr.cells hb hg hle hx
        have h1 := (hc.ty t ti ht).runAgg w
        have h2 := (hc.ty t ti ht).runSize w
        rw [ha] at h1
        have h3 := run_loadCells_list (P := P) (w := w) ⟨rr, off, none⟩ vs hv
        rw [hlen] at h3
        exact ⟨.agg vs.toArray, .inl (by simp [execOp, ho, Instr.loadAt, he, Instr.sureAddr, loadVar, h1, h2, h3]), ⟨vs, rfl, hf⟩⟩
theorem store_eff {t : TypeId} {a x : Operand} (ho : o.op = .store t a x) : EffL C nl o (runOp (tyK C t (.n0 opBad) fun ti => .n2 (opStore ti.size) (od nl a) (od nl x))) := by
  cases ht : C.ty t with
  | none => rw [tyK_none ht]; exact bad_eff
  | some ti =>
    rw [tyK_some ht]
    intro rec X k pt tl h r hk
    obtain ⟨u, hu, hk1⟩ := ev_some (show ev (od nl a) pt tl _ = some r from hk)
    obtain ⟨b, off, rfl, hk2⟩ := ptrK_some hk1
    obtain ⟨u', hu', hk3⟩ := ev_some (show ev (od nl x) pt tl _ = some r from hk2)
    obtain ⟨l, hl, hk4⟩ := cellsOf_some hk3
    obtain ⟨hsz, hk5⟩ := ifK_some hk4
    obtain ⟨c, n, f, s, hg, hle, hk6⟩ := write_some hk5
    refine ⟨.tup [], _, hk6, ?_⟩
    intro P σ ρ e w hc hr hop
    obtain ⟨rr, S, hb, he⟩ := hop a (by simp [ho, Op.operands]) _ hu
    obtain ⟨vs, h1, h2⟩ := (hop x (by simp [ho, Op.operands]) _ hu').cells hl
    obtain ⟨w', h3, h4, h5⟩ := hr.write (P := P) hb hg hle h2
    have h6 := (hc.ty t ti ht).runSize w
    have h7 : vs.length = ti.size := by rw [← h2.length, ← len_eq]; exact beq_eq hsz
    refine ⟨undef, w', ρ, .inr ⟨rfl, ?_⟩, ⟨[], rfl, .nil⟩, h4, h5⟩
    have h8 : Sem.run P (storeCells ⟨rr, off, none⟩ vs) w = .ok () w' := h3
    simp [execOp, ho, Instr.storeAt, he, Instr.sureAddr, storeVar, h1, h6, h7, h8]

/- values made of parts -/
theorem F2.set {α β : Type} {R : α → β → Prop} {l : List α} {m : List β} (h : F2 R l m) {a : α} {b : β} (hab : R a b) (i : Nat) : F2 R (l.set i a) (m.set i b) := by
  induction h generalizing i with
  | nil => exact .nil
  | cons h0 h ih => cases i with
    | zero => exact .cons hab h
    | succ i => exact .cons h0 (ih i)
theorem splice_get {α : Type} (l z : List α) (off : Nat) (h : off + l.length ≤ z.length) (i : Nat) : (splice l z off)[i]? = if i < off then z[i]? else if i < off + l.length then l[i - off]? else z[i]? := by
  rw [splice_eq _ _ _ h, List.append_assoc]
  have h1 : (List.take off z).length = off := by simp; omega
  split
  · rename_i e
    rw [List.getElem?_append_left (by omega), List.getElem?_take_of_lt e]
  · rw [List.getElem?_append_right (by omega), h1]
    split
    · rw [List.getElem?_append_left (by omega)]
    · rw [List.getElem?_append_right (by omega), List.getElem?_drop]
      congr 1
      omega
theorem splice_cons {α : Type} (a : α) (l z : List α) (off : Nat) (h : off + (l.length + 1) ≤ z.length) : splice (a :: l) z off = splice l (z.set off a) (off + 1) := by
  apply List.ext_getElem?
  intro i
  rw [splice_get _ _ _ (by simpa using h), splice_get _ _ _ (by simp; omega)]
  simp only [List.length_cons]
  rcases Nat.lt_trichotomy i off with e | e | e
  · rw [if_pos e, if_pos (by omega), List.getElem?_set_ne (by omega)]
  · subst e
    rw [if_neg (by omega), if_pos (by omega), if_pos (by omega), List.getElem?_set_self (by omega)]
    simp
  · obtain ⟨d, rfl⟩ : ∃ d, i = off + 1 + d := ⟨i - (off + 1), by omega⟩
    rw [if_neg (by omega), if_neg (show ¬ off + 1 + d < off + 1 by omega)]
    by_cases e2 : d < l.length
    · rw [if_pos (by omega), if_pos (by omega), show off + 1 + d - off = d + 1 by omega, show off + 1 + d - (off + 1) = d by omega, List.getElem?_cons_succ]
    · rw [if_neg (by omega), if_neg (by omega), List.getElem?_set_ne (by omega)]
theorem fold_set {l : List A} {vs : List Value} (hl : F2 (AR ρ σ) l vs) (off : Nat) : ∀ (i0 : Nat) (z : List A) (cs : Array Value), F2 (AR ρ σ) z cs.toList → off + i0 + l.length ≤ z.length →
    F2 (AR ρ σ) (splice l z (off + i0)) ((vs.zipIdx i0).foldl (fun (a : Array Value) (p : Value × Nat) => a.setIfInBounds (off + p.2) p.1) cs).toList := by
  induction hl with
  | nil =>
    intro i0 z cs hz h
    rw [splice_eq _ _ _ (by simpa using h)]
    simpa using hz
  | cons hab hl ih =>
    intro i0 z cs hz h
    simp only [List.length_cons] at h
    rw [splice_cons _ _ _ _ (by omega), List.zipIdx_cons, List.foldl_cons, show off + i0 + 1 = off + (i0 + 1) by omega]
    exact ih (i0 + 1) _ _ (by simpa using hz.set hab (off + i0)) (by simp; omega)
theorem splice_length {α : Type} (l z : List α) (off : Nat) (h : off + l.length ≤ z.length) : (splice l z off).length = z.length := by
  rw [splice_eq _ _ _ h]; simp; omega
theorem fill_some {place place' : Nat → Option (Nat × Nat)} (hp : ∀ i, place' i = place i) {pt : T AV} {tl : TL} {r : Rs} : ∀ {ps : List (Nat × Operand)} {n : Nat} {L : List (Nat × Nat × Od)} {z : List A} {k : List A → OR},
    putPlaces place nl n ps = some L → fillK L z pt tl k = some r → z.length = n →
    ∃ l, k l = some r ∧ (∀ k', fillK L z pt tl k' = k' l) ∧ l.length = n ∧ ∀ (ρ : Rho) (σ : Sig) (e : Operand → Value) (zs : List Value),
      (∀ p ∈ ps, ∀ u, (od nl p.2).val pt tl = some u → AVR ρ σ u (e p.2)) → F2 (AR ρ σ) z zs →
      ∃ zs' : List Value, Instr.fill place' zs.toArray (ps.map fun p => (p.1, e p.2)) = some zs'.toArray ∧ F2 (AR ρ σ) l zs' := by
  intro ps
  induction ps with
  | nil =>
    intro n L z k hL hk hz
    cases hL
    exact ⟨z, hk, fun _ => rfl, hz, fun ρ σ e zs _ hzs => ⟨zs, rfl, hzs⟩⟩
  | cons p ps ih =>
    intro n L z k hL hk hz
    obtain ⟨q, L', hq, hL', rfl⟩ := consO_some (show consO _ (putPlaces place nl n ps) = some L from hL)
    have hq0 : (match place p.1 with
      | some q => bif Nat.ble (Nat.add q.1 q.2) n then some (q.1, q.2, od nl p.2) else none
      | none => none) = some q := hq
    clear hq
    cases hpl : place p.1 with
    | none => rw [hpl] at hq0; cases hq0
    | some pq =>
      rw [hpl] at hq0
      have hq : (bif Nat.ble (Nat.add pq.1 pq.2) n then some (pq.1, pq.2, od nl p.2) else none) = some q := hq0
      cases hle : Nat.ble (Nat.add pq.1 pq.2) n with
      | false => simp only [hle, cond_false] at hq; cases hq
      | true =>
        simp only [hle, cond_true] at hq
        cases hq
        obtain ⟨u, hu, hk1⟩ := ev_some (show ev (od nl p.2) pt tl _ = some r from hk)
        obtain ⟨l, hl, hk2⟩ := cellsOf_some hk1
        obtain ⟨hsz, hk3⟩ := ifK_some hk2
        have hsz' : l.length = pq.2 := by rw [← len_eq]; exact beq_eq hsz
        have hle' : pq.1 + pq.2 ≤ n := ble_le hle
        have hsl := splice_length l z pq.1 (by omega)
        obtain ⟨lf, h1, h2, h3, h4⟩ := ih hL' (show fillK L' (splice l z pq.1) pt tl k = some r from hk3) (by omega)
        refine ⟨lf, h1, ?_, h3, ?_⟩
        · intro k'
          show ev (od nl p.2) pt tl _ = _
          rw [ev_eq hu]
          have : ∀ K : List A → OR, cellsOf u K = K l := by intro K; cases u <;> cases hl <;> rfl
          rw [this]
          show ifK _ _ = _
          rw [ifK_eq hsz]
          exact h2 k'
        · intro ρ σ e zs hop hzs
          obtain ⟨vs, hv1, hv2⟩ := (hop p (by simp) u hu).cells hl
          have hzl := hzs.length
          have hvl := hv2.length
          have hf := fold_set hv2 pq.1 0 z zs.toArray (by simpa using hzs) (by omega)
          obtain ⟨zs', h5, h6⟩ := h4 ρ σ e _ (fun p' hp' => hop p' (List.mem_cons_of_mem _ hp')) hf
          refine ⟨zs', ?_, h6⟩
          simp only [List.map_cons, Instr.fill, hp, hpl]
          rw [if_neg]
          · rw [hv1]
            have e1 : (vs.toArray.zipIdx.foldl (fun cs (x : Value × Nat) => match x with | (c, j) => cs.setIfInBounds (pq.1 + j) c) zs.toArray) = (vs.zipIdx.foldl (fun (a : Array Value) (p : Value × Nat) => a.setIfInBounds (pq.1 + p.2) p.1) zs.toArray) := by
              simp
            rw [show (vs.toArray.zipIdx.foldl (fun cs (x : Value × Nat) => match x with | (c, j) => cs.setIfInBounds (pq.1 + j) c) zs.toArray) = _ from e1]
            simpa using h5
          · rw [hv1]
            simp
            omega
theorem places_some : ∀ {fs : List Field} {pl : List (Nat × Nat)}, placesOf C fs = some pl → ∀ {P : Program} {σ : Sig}, CfgOK P C σ → fs.mapM (fun f => (P.info? f.type).map fun i => (f.offset, i.size)) = some pl := by
  intro fs
  induction fs with
  | nil => intro pl h P σ hc; cases h; rfl
  | cons f fs ih =>
    intro pl h P σ hc
    obtain ⟨q, qs, h1, h2, rfl⟩ := consO_some (show consO _ (placesOf C fs) = some pl from h)
    have h1' : (match C.ty f.type with | some ti => some (f.offset, ti.size) | none => none) = some q := h1
    clear h1
    cases ht : C.ty f.type with
    | none => rw [ht] at h1'; cases h1'
    | some ti =>
      rw [ht] at h1'
      cases h1'
      obtain ⟨i, h3, h4, _⟩ := (hc.ty _ ti ht).info
      simp [List.mapM_cons, h3, h4, ih h2 hc]
theorem build_pure {t : TypeId} {ps : Array (Nat × Operand)} (ho : o.op = .build t ps) : PureL C nl o (runOp (cBuild C nl t ps.toList)) := by
  have go : ∀ (ti : TI), C.ty t = some ti → ∀ (place place' : Nat → Option (Nat × Nat)) (L : List (Nat × Nat × Od)), (∀ i, place' i = place i) → putPlaces place nl (len ti.zero) ps.toList = some L →
      (∀ P σ (it : TypeInfo) (z : Value) (parts : List (Nat × Value)) (cells : Array Value), CfgOK P C σ → P.info? t = some it → it.zero = some z → Instr.fill place' z.cells parts = some cells → P.built t parts = some cells) →
      PureL C nl o (runOp (.n0 (opBuild ti.zero L))) := by
    intro ti ht place place' L hp hL hb rec X k pt tl h r hk
    obtain ⟨l, h1, h2, h3, h4⟩ := fill_some hp hL (show fillK L ti.zero pt tl _ = some r from hk) (by rw [len_eq])
    refine ⟨.agg l, fun rec' X' k' h' => h2 _, ?_⟩
    intro P σ ρ e w hc hop
    obtain ⟨i, hi, _, _, z, hz, zs, hzc, hzs, _⟩ := (hc.ty t ti ht).info
    obtain ⟨zs', h5, h6⟩ := h4 ρ σ e zs (fun p hp u hu => hop p.2 (by simp [ho, Op.operands]; exact ⟨p.1, by simpa using hp⟩) u hu) (hzs ρ σ)
    refine ⟨.agg zs'.toArray, .inl ?_, ⟨zs', rfl, h6⟩⟩
    have h7 := hb P σ i z (ps.toList.map fun p => (p.1, e p.2)) zs'.toArray hc hi hz (by rw [hzc]; exact h5)
    have h8 := run_build (P := P) w t (ps.map fun (i, x) => (i, e x)) zs'.toArray (by simpa using h7)
    simp [execOp, ho, h8]
  unfold cBuild
  cases hs : C.ty t with
  | none => rw [tyK_none hs]; exact bad_pure
  | some ti =>
    rw [tyK_some hs]
    split
    · rename_i fs hfs
      split
      · rename_i pl hpl
        split
        · rename_i L hL
          refine go ti hs (nth pl) (pl.toArray[·]?) L (fun i => by rw [nth_eq]; simp) hL ?_
          intro P σ it z parts cells hc hit hz hf
          have hu := (hc.ty t ti hs).und
          rw [hfs] at hu
          have := places_some hpl hc
          simp [Program.built, hit, hu, hz, this]
          simpa using hf
        · exact bad_pure
      · exact bad_pure
    · rename_i n el hfs
      cases he : C.ty el with
      | none => rw [tyK_none he]; exact bad_pure
      | some ei =>
        rw [tyK_some he]
        split
        · rename_i L hL
          refine go ti hs (rowPlace ei.size) (fun i => some (i * ei.size, ei.size)) L (fun i => rfl) hL ?_
          intro P σ it z parts cells hc hit hz hf
          have hu := (hc.ty t ti hs).und
          rw [hfs] at hu
          obtain ⟨ie, h1, h2, _⟩ := (hc.ty _ ei he).info
          simp [Program.built, hit, hu, hz, h1, h2]
          exact hf
        · exact bad_pure
    · exact bad_pure
/- rows made of one element -/
theorem repeat_get {α : Type} (z : List α) : ∀ (n i : Nat), i < n * z.length → (repeatL z n)[i]? = z[i % z.length]? := by
  intro n
  induction n with
  | zero => intro i h; omega
  | succ n ih =>
    intro i h
    rw [repeatL_succ]
    rw [Nat.succ_mul] at h
    by_cases e : i < z.length
    · rw [List.getElem?_append_left e, Nat.mod_eq_of_lt e]
    · rw [List.getElem?_append_right (by omega), ih _ (by omega)]
      congr 1
      exact (Nat.mod_eq_sub_mod (by omega)).symm
theorem repeat_F2 {z : List A} {zs : List Value} (hz : F2 (AR ρ σ) z zs) (n m : Nat) (hm : m = n * z.length) : F2 (AR ρ σ) (repeatL z n) ((List.range m).map fun i => zs.toArray[i % zs.toArray.size]!) := by
  have hl := hz.length
  refine F2.of_get (by rw [repeatL_length]; simp [hm]) ?_
  intro i a b ha hb
  have hi : i < n * z.length := by
    have := (List.getElem?_eq_some_iff.1 ha).1
    rwa [repeatL_length] at this
  rw [repeat_get _ _ _ hi] at ha
  obtain ⟨v, hv, har⟩ := hz.get ha
  have : b = v := by
    simp [List.getElem?_map, List.getElem?_range (show i < m by omega)] at hb
    rw [← hl, hv] at hb
    simpa using hb.symm
  rw [this]; exact har
theorem madeCells_eq (z : Array Value) (n : Nat) : madeCells z n = ((List.range n).map fun i => z[i % z.size]!).toArray := by
  unfold madeCells
  apply Array.ext'
  simp
theorem isT_eq9 {x : Option Bool} (h : isT x = true) : x = some true := by
  cases x with
  | none => cases h
  | some b => exact congrArg some h
theorem symE_some {v : AV} {e : E} (h : symE v = some e) : ∃ q, v = .one (.sym q e) := by
  unfold symE at h
  split at h
  · cases h; exact ⟨_, rfl⟩
  · cases h
theorem loK_some {e : E} {k : Nat → OR} {r : Rs} (h : loK C e k = some r) : ∃ m : Nat, C.cmp .geq e (.lit (.ofNat m)) = some true ∧ k m = some r ∧ ∀ k', loK C e k' = k' m := by
  unfold loK at h ⊢
  cases h1 : isT (C.cmp .geq e (.lit 33)) with
  | true => rw [h1] at h; exact ⟨33, isT_eq9 h1, h, fun _ => rfl⟩
  | false =>
    rw [h1] at h
    cases h2 : isT (C.cmp .geq e (.lit 22)) with
    | true => rw [h2] at h; exact ⟨22, isT_eq9 h2, h, fun _ => rfl⟩
    | false =>
      rw [h2] at h
      obtain ⟨h3, h4⟩ := ifK_some h
      exact ⟨11, isT_eq9 h3, h4, fun _ => ifK_eq h3⟩
theorem makeSlice_alloc {t : TypeId} {lo co : Operand} (ho : o.op = .makeSlice t lo co) : AllocL C nl o (runOp (elemK C t fun ei => bif Nat.ble ei.bytes 65536 then .n2 (opMakeSlice C ei.zero ei.size) (od nl lo) (od nl co) else .n0 opBad)) := by
  unfold elemK
  cases ht : C.ty t with
  | none => rw [tyK_none ht]; exact bad_alloc
  | some ti =>
    rw [tyK_some ht]
    split
    · rename_i el hu0
      cases he : C.ty el with
      | none => rw [tyK_none he]; exact bad_alloc
      | some ei =>
        rw [tyK_some he]
        cases hby : Nat.ble ei.bytes 65536 with
        | false => exact bad_alloc
        | true =>
          intro rec X k pt tl h r hk
          obtain ⟨u, hu, hk1⟩ := ev_some (show ev (od nl lo) pt tl _ = some r from hk)
          cases hsy : symE u with
          | some E1 =>
            rw [hsy] at hk1
            obtain ⟨q, hq⟩ := symE_some hsy
            subst hq
            obtain ⟨u', hu', hk3⟩ := ev_some (show ev (od nl co) pt tl _ = some r from hk1)
            obtain ⟨E2, hsy2, hk4⟩ := optK_some hk3
            obtain ⟨q', hq'⟩ := symE_some hsy2
            subst hq'
            obtain ⟨hb, hk5⟩ := ifK_some hk4
            simp only [Bool.and_eq_true] at hb
            have hE := Eng.eqb_eq hb.1
            subst hE
            obtain ⟨m, hm, hk6, hlo⟩ := loK_some hk5
            refine ⟨fun id => .one (.wsl id ei.size E1), .cells (T.ofList (repeatL ei.zero m)) (Nat.mul m ei.size) false none, ?_, ?_⟩
            · intro rec' X' k' h'
              show ev (od nl lo) pt tl _ = _
              rw [ev_eq hu]
              show ev (od nl co) pt tl _ = _
              rw [ev_eq hu']
              show ifK _ _ = _
              rw [ifK_eq (by simp only [Bool.and_eq_true]; exact hb)]
              exact hlo _
            · intro P σ ρ e w hc hop
              have hl : e lo = _ := hop lo (by simp [ho, Op.operands]) _ hu
              have hm2 : e co = _ := hop co (by simp [ho, Op.operands]) _ hu'
              have c1 := hc.cmp _ _ _ _ (isT_eq9 hb.2)
              have c2 := hc.cmp _ _ _ _ hm
              have c1 : E1.den σ ≤ 64 := of_decide_eq_true c1
              have c2 : E1.den σ ≥ (m : Int) := of_decide_eq_true c2
              obtain ⟨N, hN⟩ := Int.eq_ofNat_of_zero_le (show 0 ≤ E1.den σ by omega)
              have hb3 := ble_le hby
              obtain ⟨ie, h1, h2, h3, z, h4, zs, h5, h6, h7, _⟩ := (hc.ty _ ei he).info
              have hut := (hc.ty t ti ht).und
              rw [hu0] at hut
              have hprod : ei.bytes * N ≤ 65536 * 65536 := Nat.mul_le_mul hb3 (by omega)
              have hrun := run_make (P := P) w t el ie z hut h1 h4 q q' (N : Int) (N : Int) (by omega) (by omega) (by rw [h3]; omega) (by omega)
              refine ⟨_, _, Nat.mul N ei.size, .inl ?_, noFrz_cells, (repeat_F2 (h6 ρ σ) N (N * ei.size) (by rw [h7])).blkPart el (by rw [repeatL_length, h7]; rfl) (by rw [repeatL_length, h7]; rfl) ?_ ?_, fun ρ' id _ hid => ⟨w.heap.size, _, N, hid, rfl, hN.symm, rfl⟩⟩
              · rw [hN] at hl hm2
                rw [show Value.int q (N : Int) = e lo from hl.symm, show Value.int q' (N : Int) = e co from hm2.symm] at hrun
                simp only [execOp, ho, Sem.run_bind]
                rw [hrun]
                simp only [Result.andThen_ok, Sem.run_pure, Int.toNat_natCast, madeCells_eq, h5, h2]
                rfl
              · exact Nat.mul_le_mul_right _ (by omega)
              · intro i a hi
                have hlt : i < m * ei.zero.length := by
                  have := (List.getElem?_eq_some_iff.1 hi).1
                  rwa [repeatL_length] at this
                rw [repeat_get _ _ _ hlt] at hi
                rw [repeat_get _ _ _ (Nat.lt_of_lt_of_le hlt (Nat.mul_le_mul_right _ (by omega)))]
                exact hi
          | none =>
          rw [hsy] at hk1
          obtain ⟨q, n, rfl, hk2⟩ := natK_some hk1
          obtain ⟨u', hu', hk3⟩ := ev_some (show ev (od nl co) pt tl _ = some r from hk2)
          obtain ⟨q', m, rfl, hk4⟩ := natK_some hk3
          obtain ⟨hb, hk5⟩ := ifK_some hk4
          refine ⟨fun id => .one (.slice id 0 n m), .cells (T.ofList (repeatL ei.zero m)) (Nat.mul m ei.size) true none, ?_, ?_⟩
          · intro rec' X' k' h'
            show ev (od nl lo) pt tl _ = _
            rw [ev_eq hu]
            show ev (od nl co) pt tl _ = _
            rw [ev_eq hu']
            exact ifK_eq hb
          · intro P σ ρ e w hc hop
            have hl : e lo = _ := hop lo (by simp [ho, Op.operands]) _ hu
            have hm : e co = _ := hop co (by simp [ho, Op.operands]) _ hu'
            simp only [Bool.and_eq_true] at hb
            have hb1 := ble_le hb.1
            have hb2 := ble_le hb.2
            have hb3 := ble_le hby
            obtain ⟨ie, h1, h2, h3, z, h4, zs, h5, h6, h7, _⟩ := (hc.ty _ ei he).info
            have hut := (hc.ty t ti ht).und
            rw [hu0] at hut
            have hprod : ei.bytes * m ≤ 65536 * 65536 := Nat.mul_le_mul hb3 hb2
            have hrun := run_make (P := P) w t el ie z hut h1 h4 q q' (n : Int) (m : Int) (by omega) (by omega) (by rw [h3]; omega) (by omega)
            refine ⟨_, _, Nat.mul m ei.size, .inl ?_, noFrz_cells, (repeat_F2 (h6 ρ σ) m (m * ei.size) (by rw [h7])).blk el (by rw [repeatL_length, h7]; rfl), fun ρ' id _ hid => ⟨w.heap.size, _, hid, rfl⟩⟩
            rw [show Value.int q (n : Int) = e lo from hl.symm, show Value.int q' (m : Int) = e co from hm.symm] at hrun
            simp only [execOp, ho, Sem.run_bind]
            rw [hrun]
            simp only [Result.andThen_ok, Sem.run_pure, Int.toNat_natCast, madeCells_eq, h5, h2]
            rfl
    · exact bad_alloc
theorem buildSlice_alloc {t : TypeId} {ln : Nat} {ps : Array (Nat × Operand)} (ho : o.op = .buildSlice t ln ps) : AllocL C nl o (runOp (cBuildSlice C nl t ln ps.toList)) := by
  unfold cBuildSlice
  cases ht : C.ty t with
  | none => rw [tyK_none ht]; exact bad_alloc
  | some ti =>
    rw [tyK_some ht]
    split
    · rename_i el hu0
      cases he : C.ty el with
      | none => rw [tyK_none he]; exact bad_alloc
      | some ei =>
        rw [tyK_some he]
        cases hby : Nat.ble (Nat.mul ln ei.size) 65536 with
        | false => exact bad_alloc
        | true =>
          simp only [cond_true]
          split
          · rename_i L hL
            intro rec X k pt tl h r hk
            obtain ⟨l, h1, h2, h3, h4⟩ := fill_some (place' := fun i => some (i * ei.size, ei.size)) (fun i => rfl) hL (show fillK L (repeatL ei.zero ln) pt tl _ = some r from hk) (by rw [len_eq])
            refine ⟨fun id => .one (.slice id 0 ln ln), .cells (T.ofList l) (len l) true none, fun rec' X' k' h' => h2 _, ?_⟩
            intro P σ ρ e w hc hop
            obtain ⟨ie, hi, hsz, _, z, hz, zs, hzc, hzs, hzl, _⟩ := (hc.ty _ ei he).info
            have hut := (hc.ty t ti ht).und
            rw [hu0] at hut
            have hb := ble_le hby
            have hb' : ln * ei.size ≤ 65536 := hb
            obtain ⟨zs', h5, h6⟩ := h4 ρ σ e _ (fun p hp u hu => hop p.2 (by simp [ho, Op.operands]; exact ⟨p.1, by simpa using hp⟩) u hu) (repeat_F2 (hzs ρ σ) ln (ln * ei.size) (by rw [hzl]))
            refine ⟨_, _, len l, .inl ?_, noFrz_cells, h6.blk el (by rw [len_eq]), fun ρ' id _ hid => ⟨w.heap.size, _, hid, rfl⟩⟩
            have h7 : ∀ zc : Array Value, (ln * ie.size = 0 ∨ zc = z.cells) → Instr.fill (fun i => some (i * ie.size, ie.size)) ((Array.range (ln * ie.size)).map (zc[· % zc.size]!)) (ps.map fun (i, x) => (i, e x)).toList = some zs'.toArray := by
              intro zc hzc'
              rw [show (ps.map fun (i, x) => (i, e x)).toList = ps.toList.map fun p => (p.1, e p.2) by simp]
              rw [← h5, hsz]
              congr 1
              apply Array.ext'
              rcases hzc' with h0 | rfl
              · rw [hsz] at h0; rw [h0]; simp
              · rw [hzc]; simp
            have h8 : ¬ (ln * ie.size > 2 ^ 24) := by rw [hsz]; omega
            simp only [execOp, ho, Instr.buildSlice, run_underlying hut, Go.sizeOf, typeInfo, hi, Sem.run_bind, Result.andThen_ok, Sem.run_pure, run_program, h8, if_false]
            by_cases h0 : ln * ie.size = 0
            · rw [if_pos h0]
              simp only [Sem.run_bind, Result.andThen_ok, Sem.run_pure, h7 #[] (.inl h0)]
              simp [newRow, push]
            · rw [if_neg h0]
              simp only [zeroValue, typeInfo, hi, hz, Sem.run_bind, Result.andThen_ok, Sem.run_pure, run_program, h7 z.cells (.inr rfl)]
              simp [newRow, push]
          · exact bad_alloc
    · exact bad_alloc
end Eng
end
