/- CarveSame: tables of facts, for each case, and that they are so. No conditions beside those in its theorems. -/
import Derived.Test.YtlpmhafjekiojaaB
open Go Eng Go.Proofs Go.RowKit
namespace carveSameW
open Base
noncomputable def lst (n : Nat) : List SumE := [⟨12, [], .one (.bool true)⟩, ⟨17, [.one (.sym .i64 (.var 0)), .one (.int .i64 70)], .one (.sym .i64 (.var 4))⟩, ⟨17, [.one (.sym .i64 (.var 1)), .one (.int .i64 70)], .one (.int .i64 (Int.ofNat n))⟩,
  ⟨17, [.one (.sym .i64 (.var 2)), .one (.int .i64 70)], .one (.sym .i64 (.var 5))⟩, ⟨17, [.one (.sym .i64 (.var 3)), .one (.int .i64 70)], .one (.sym .i64 (.var 6))⟩]
/-- a + j against b: below it for the first i of them, not so for the next m, of which is said whether they are below b + k; all else by a table -/
noncomputable def cmpS (i m : Nat) (s : Bool) (l : List CF) (op : BinOp) (x y : E) : Option Bool :=
  match op with
  | .geq => match x with
    | .bin .add .i64 (.var a) (.lit (.ofNat j)) => match y with
      | .var b => bif Nat.beq a 4 && Nat.beq b 5 then (bif Nat.blt j i then some false else bif Nat.blt j (Nat.add i m) then some true else none) else none
      | _ => none
    | x => cmpT l .geq x y
  | .lss => match x with
    | .bin .add .i64 (.var a) (.lit (.ofNat j)) => match y with
      | .bin .add .i64 (.var b) (.var c) => bif Nat.beq a 4 && (Nat.beq b 5 && Nat.beq c 6) then (bif Nat.ble i j && Nat.blt j (Nat.add i m) then some s else none) else none
      | _ => none
    | x => cmpT l .lss x y
  | op => cmpT l op x y
noncomputable def cfg (i m : Nat) (s : Bool) (t : List CF) (n : Nat) : Cfg := { ty := Tab.tyT.get, fu := Tab.fuT.get, cmp := cmpS i m s t, ext := extT (lst n) }
noncomputable def run (n i m : Nat) (s : Bool) (t : List CF) : Bool := says true (eval (cfg i m s t n) 300 X0 (.call 6 [.one (.sym .i64 (.var 0)), .one (.sym .i64 (.var 1)), .one (.sym .i64 (.var 2)), .one (.sym .i64 (.var 3))]) ⟨.nil, 0⟩)
def sig (a b c d x y z : Int) : Sig := fun i => match i with | 0 => a | 1 => b | 2 => c | 3 => d | 4 => x | 5 => y | _ => z
noncomputable def okLow (i : Nat) : Bool := isLow i ((70 : Nat) : Int) (eval cfg0 100 X0 (.call 17 [.one (.sym .i64 (.var i)), .one (.int .i64 ((70 : Nat) : Int))]) ⟨.nil, 0⟩)
theorem low0 : okLow 0 = true := by decide +kernel
theorem low1 : okLow 1 = true := by decide +kernel
theorem low2 : okLow 2 = true := by decide +kernel
theorem low3 : okLow 3 = true := by decide +kernel
theorem awake12 : says true (eval cfg0 300 X0 (.call 12 []) ⟨.nil, 0⟩) = true := by decide +kernel
theorem leaf {i m : Nat} {s : Bool} {t : List CF} {a b c d : Int} {X n Y Z : Nat} (hX : low 70 a = Int.ofNat X) (hn : low 70 b = Int.ofNat n) (hY : low 70 c = Int.ofNat Y) (hZ : low 70 d = Int.ofNat Z)
    (hr : run n i m s t = true) (ht : ∀ op x y r, cmpS i m s t op x y = some r → cmpDen op (x.den (sig a b c d X Y Z)) (y.den (sig a b c d X Y Z)) = r) (w : World) :
    Calls Try.prog 6 #[.int .i64 a, .int .i64 b, .int .i64 c, .int .i64 d] w fun e w' => e = .returned (.bool true) ∧ Grown w w' := by
  have hc : CfgOK Try.prog (cfg i m s t n) (sig a b c d X Y Z) := ok _ _ _ _ ht (fun _ _ h => nomatch h)
  have hx : ExtOK (cfg i m s t n) Try.prog (sig a b c d X Y Z) := ExtOK.of (l := lst n) rfl (.cons (summ0 _ rfl _ awake12) (.cons (summLow' _ rfl _ low0 (by omega) (by omega) (fun _ _ h => h) (fun _ _ h => h) (k := Int.ofNat X) hX (fun _ => rfl))
    (.cons (summLow' _ rfl _ low1 (by omega) (by omega) (fun _ _ h => h) (fun _ _ h => h) (k := Int.ofNat n) hn (fun _ => rfl))
    (.cons (summLow' _ rfl _ low2 (by omega) (by omega) (fun _ _ h => h) (fun _ _ h => h) (k := Int.ofNat Y) hY (fun _ => rfl))
    (.cons (summLow' _ rfl _ low3 (by omega) (by omega) (fun _ _ h => h) (fun _ _ h => h) (k := Int.ofNat Z) hZ (fun _ => rfl)) .nil)))))
  have hv : F2 (AVR rho0 (sig a b c d X Y Z)) [.one (.sym .i64 (.var 0)), .one (.sym .i64 (.var 1)), .one (.sym .i64 (.var 2)), .one (.sym .i64 (.var 3))] [.int .i64 a, .int .i64 b, .int .i64 c, .int .i64 d] := .cons rfl (.cons rfl (.cons rfl (.cons rfl .nil)))
  exact calls_true hc hx hr hv w
def bnd (a b c d : Int) : Nat → Int × Int := fun i => match i with | 0 => (a, a) | 1 => (b, b) | 2 => (c, c) | 3 => (d, d) | _ => (0, 69)
theorem hbnd {a b c d : Int} {X Y Z : Nat} (h1 : X < 70) (h2 : Y < 70) (h3 : Z < 70) : ∀ i, (bnd a b c d i).1 ≤ sig a b c d X Y Z i ∧ sig a b c d X Y Z i ≤ (bnd a b c d i).2
  | 0 => ⟨Int.le_refl a, Int.le_refl a⟩
  | 1 => ⟨Int.le_refl b, Int.le_refl b⟩
  | 2 => ⟨Int.le_refl c, Int.le_refl c⟩
  | 3 => ⟨Int.le_refl d, Int.le_refl d⟩
  | 4 => ⟨show (0 : Int) ≤ (X : Int) by omega, show (X : Int) ≤ 69 by omega⟩
  | 5 => ⟨show (0 : Int) ≤ (Y : Int) by omega, show (Y : Int) ≤ 69 by omega⟩
  | _ + 6 => ⟨show (0 : Int) ≤ (Z : Int) by omega, show (Z : Int) ≤ 69 by omega⟩
/-- the numbers below n, from i on -/
def up (i : Nat) : Nat → List Nat
  | 0 => []
  | n + 1 => i :: up (i + 1) n
def eA (i : Nat) : E := .bin .add .i64 (.var 4) (.lit (Int.ofNat i))
def eB : E := .bin .add .i64 (.var 5) (.var 6)
def opt (g : Bool → CF) (o : Option Bool) : List CF := match o with | none => [] | some r => [g r]
/-- facts behind the loop: k over nought; a below b + k; b below a + n; a from b on; a + n to b + k -/
def post (n : Nat) (k ab ba ge le : Option Bool) : List CF :=
  opt (⟨.lss, .var 4, .lit 0, ·⟩) (some false) ++ (opt (⟨.gtr, .var 4, .lit 1048576, ·⟩) (some false) ++ (opt (⟨.lss, .var 5, .lit 0, ·⟩) (some false) ++ (opt (⟨.gtr, .var 5, .lit 1048576, ·⟩) (some false) ++ (opt (⟨.lss, .var 6, .lit 0, ·⟩) (some false) ++ (opt (⟨.gtr, .var 6, .lit 1048576, ·⟩) (some false) ++
   (opt (⟨.gtr, .var 6, .lit 0, ·⟩) k ++ (opt (⟨.lss, .var 4, eB, ·⟩) ab ++ (opt (⟨.lss, .var 5, eA n, ·⟩) ba ++ (opt (⟨.geq, .var 4, .var 5, ·⟩) ge ++ opt (⟨.leq, eA n, eB, ·⟩) le)))))))))
theorem Al.app {α : Type} {p : α → Prop} {l m : List α} (h : Al p l) (h' : Al p m) : Al p (l ++ m) := by
  induction h with
  | nil => exact h'
  | cons h0 _ ih => exact .cons h0 ih
theorem eA_rng {a b c d : Int} {i : Nat} (h : i ≤ 70) : ((eA i).rng (bnd a b c d)).isSome = true := by
  have h1 : (-9223372036854775808 : Int) ≤ 0 + (i : Int) := by omega
  have h2 : (69 : Int) + (i : Int) ≤ 9223372036854775807 := by omega
  show (inK .i64 ((0 : Int) + (i : Int), (69 : Int) + (i : Int))).isSome = true
  simp only [inK, decide_eq_true h1, decide_eq_true h2, Bool.and_true, cond_true, Option.isSome_some]
theorem opt_ok {σ : Sig} {g : Bool → CF} {o : Option Bool} (h : ∀ r, o = some r → CFok σ (g r)) : Al (CFok σ) (opt g o) := by
  cases o with
  | none => exact .nil
  | some r => exact .cons (h r rfl) .nil
theorem bltT {a b : Nat} (h : Nat.blt a b = true) : a < b := by rwa [Nat.blt_eq] at h
theorem bltF {a b : Nat} (h : Nat.blt a b = false) : ¬ a < b := fun e => by
  have h2 : Nat.blt a b = true := by rw [Nat.blt_eq]; exact e
  rw [h2] at h; cases h
theorem cmpS_ok {σ : Sig} {i m n : Nat} {s : Bool} {l : List CF} {X Y Z : Nat} (h4 : σ 4 = (X : Int)) (h5 : σ 5 = (Y : Int)) (h6 : σ 6 = (Z : Int)) (h1 : X < 70) (h2 : Y < 70) (h3 : Z < 70) (hn : n < 70) (hi : i + m ≤ n)
    (hG : ∀ j, j < i → X + j < Y) (hT : 0 < m → Y ≤ X + i) (hS : 0 < m → s = decide (X + i < Y + Z)) (hm : s = true → m = 1) (hl : Al (CFok σ) l) : ∀ op x y r, cmpS i m s l op x y = some r → cmpDen op (x.den σ) (y.den σ) = r := by
  intro op x y r h
  unfold cmpS at h
  split at h
  · split at h
    · rename_i a j
      split at h
      · rename_i b
        cases hab : (Nat.beq a 4 && Nat.beq b 5) with
        | false => rw [hab] at h; cases h
        | true =>
          rw [hab] at h
          simp only [Bool.and_eq_true] at hab
          have e1 := beq_eq hab.1
          have e2 := beq_eq hab.2
          subst e1 e2
          show decide (IntKind.i64.wrap (σ 4 + (j : Int)) ≥ σ 5) = r
          rw [h4, h5]
          cases hj : Nat.blt j i with
          | true =>
            rw [hj] at h; cases h
            have hj := bltT hj
            have := hG j hj
            rw [IntWalk.i64_in _ ⟨by omega, by omega⟩]
            exact decide_eq_false (by omega)
          | false =>
            rw [hj] at h
            have hj : ¬ j < i := bltF hj
            cases hk : Nat.blt j (Nat.add i m) with
            | false => rw [hk] at h; cases h
            | true =>
              rw [hk] at h; cases h
              have hk : j < i + m := bltT hk
              have := hT (by omega)
              rw [IntWalk.i64_in _ ⟨by omega, by omega⟩]
              exact decide_eq_true (by omega)
      · cases h
    · exact cmpT_ok hl _ _ _ _ h
  · split at h
    · rename_i a j
      split at h
      · rename_i b c
        cases hab : (Nat.beq a 4 && (Nat.beq b 5 && Nat.beq c 6)) with
        | false => rw [hab] at h; cases h
        | true =>
          rw [hab] at h
          simp only [Bool.and_eq_true] at hab
          have e1 := beq_eq hab.1
          have e2 := beq_eq hab.2.1
          have e3 := beq_eq hab.2.2
          subst e1 e2 e3
          show decide (IntKind.i64.wrap (σ 4 + (j : Int)) < IntKind.i64.wrap (σ 5 + σ 6)) = r
          rw [h4, h5, h6]
          cases hk : (Nat.ble i j && Nat.blt j (Nat.add i m)) with
          | false => rw [hk] at h; cases h
          | true =>
            rw [hk] at h; cases h
            simp only [Bool.and_eq_true] at hk
            have hk1 := ble_le hk.1
            have hk2 : j < i + m := bltT hk.2
            have hs := hS (by omega)
            rw [IntWalk.i64_in _ ⟨by omega, by omega⟩, IntWalk.i64_in _ ⟨by omega, by omega⟩]
            cases s with
            | true =>
              have h7 := hm rfl
              have h8 := of_decide_eq_true hs.symm
              have h9 : j = i := by omega
              subst h9
              exact decide_eq_true (by omega)
            | false =>
              have : ¬ (X + i < Y + Z) := of_decide_eq_false hs.symm
              have := hT (by omega)
              exact decide_eq_false (by omega)
      · cases h
    · exact cmpT_ok hl _ _ _ _ h
  · exact cmpT_ok hl _ _ _ _ h
theorem tab_ok {a b c d : Int} {X Y Z n i m : Nat} {s : Bool} {k ab ba ge le : Option Bool} (h1 : X < 70) (h2 : Y < 70) (h3 : Z < 70) (hn : n < 70) (hi : i + m ≤ n)
    (hG : ∀ j, j < i → X + j < Y) (hT : 0 < m → Y ≤ X + i) (hS : 0 < m → s = decide (X + i < Y + Z)) (hm : s = true → m = 1)
    (hk : ∀ r, k = some r → r = decide (0 < Z)) (hab : ∀ r, ab = some r → r = decide (X < Y + Z)) (hba : ∀ r, ba = some r → r = decide (Y < X + n)) (hge : ∀ r, ge = some r → r = decide (Y ≤ X)) (hle : ∀ r, le = some r → r = decide (X + n ≤ Y + Z)) :
    ∀ op x y r, cmpS i m s (post n k ab ba ge le) op x y = some r → cmpDen op (x.den (sig a b c d X Y Z)) (y.den (sig a b c d X Y Z)) = r := by
  have hb := hbnd (a := a) (b := b) (c := c) (d := d) h1 h2 h3
  refine cmpS_ok (X := X) (Y := Y) (Z := Z) rfl rfl rfl h1 h2 h3 hn hi hG hT hS hm ?_
  refine Al.app (opt_ok fun r hr => CFok.ex hb rfl rfl ?_) (Al.app (opt_ok fun r hr => CFok.ex hb rfl rfl ?_) (Al.app (opt_ok fun r hr => CFok.ex hb rfl rfl ?_) (Al.app (opt_ok fun r hr => CFok.ex hb rfl rfl ?_) (Al.app (opt_ok fun r hr => CFok.ex hb rfl rfl ?_) (Al.app (opt_ok fun r hr => CFok.ex hb rfl rfl ?_)
      (Al.app (opt_ok fun r hr => CFok.ex hb rfl rfl ?_) (Al.app (opt_ok fun r hr => CFok.ex hb rfl rfl ?_) (Al.app (opt_ok fun r hr => CFok.ex hb rfl (eA_rng (by omega)) ?_) (Al.app (opt_ok fun r hr => CFok.ex hb rfl rfl ?_) (opt_ok fun r hr => CFok.ex hb (eA_rng (by omega)) rfl ?_))))))))))
  · cases hr; show decide ((X : Int) < 0) = false; exact decide_eq_false (by omega)
  · cases hr; show decide ((X : Int) > 1048576) = false; exact decide_eq_false (by omega)
  · cases hr; show decide ((Y : Int) < 0) = false; exact decide_eq_false (by omega)
  · cases hr; show decide ((Y : Int) > 1048576) = false; exact decide_eq_false (by omega)
  · cases hr; show decide ((Z : Int) < 0) = false; exact decide_eq_false (by omega)
  · cases hr; show decide ((Z : Int) > 1048576) = false; exact decide_eq_false (by omega)
  · rw [hk r hr]; show decide ((Z : Int) > 0) = decide (0 < Z); exact decide_eq_decide.2 (by omega)
  · rw [hab r hr]; show decide ((X : Int) < (Y : Int) + (Z : Int)) = decide (X < Y + Z); exact decide_eq_decide.2 (by omega)
  · rw [hba r hr]; show decide ((Y : Int) < (X : Int) + (n : Int)) = decide (Y < X + n); exact decide_eq_decide.2 (by omega)
  · rw [hge r hr]; show decide ((X : Int) ≥ (Y : Int)) = decide (Y ≤ X); exact decide_eq_decide.2 (by omega)
  · rw [hle r hr]; show decide ((X : Int) + (n : Int) ≤ (Y : Int) + (Z : Int)) = decide (X + n ≤ Y + Z); exact decide_eq_decide.2 (by omega)
noncomputable def caseT (n i : Nat) (le : Option Bool) : Bool := run n i 1 true (post n (some true) (some true) (some true) (some (Nat.beq i 0)) le)
noncomputable def caseD (n : Nat) (k : Bool) : Bool := run n n 0 false (post n (some k) (bif Nat.beq n 0 then none else some true) (bif Nat.beq n 0 then none else some false) (bif Nat.beq n 0 then none else some false) none)
noncomputable def case0 (n : Nat) (k : Bool) : Bool := run n 0 n false (post n (some k) (some false) (some true) (some true) (some false))
noncomputable def caseN (n i : Nat) : Bool := run n i (n - i) false (post n (some false) none none (some false) none)
noncomputable def some0 (n : Nat) : Bool := caseD n true && (caseD n false && (Nat.beq n 0 || caseT n 0 (some true) && (caseT n 0 (some false) && (case0 n true && case0 n false))))
noncomputable def rows (n i m : Nat) : Bool := (up i m).all fun i => caseT n i none && caseN n i
end carveSameW
