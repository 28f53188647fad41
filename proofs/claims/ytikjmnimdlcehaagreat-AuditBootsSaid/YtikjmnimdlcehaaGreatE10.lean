/- The engine, part 10: words of a memory, read and written at addresses that are not known. No conditions beside those in its theorems. -/
import Derived.Test.YtikjmnimdlcehaaGreatE9
set_option linter.unusedVariables false
noncomputable section
namespace Eng
open Go Go.RowKit
variable {P : Program} {B C : Cfg} {σ σ0 : Sig} {ρ ρ' : Rho}

/- the words of a memory, read and written at addresses that are not known -/
def allBelow (p : Nat → Bool) (n : Nat) : Bool := @Nat.rec (fun _ => Bool) true (fun k r => @Bool.rec (fun _ => Bool) false r (p k)) n
theorem allBelow_get {p : Nat → Bool} : ∀ {n : Nat}, allBelow p n = true → ∀ i, i < n → p i = true := by
  intro n
  induction n with
  | zero => intro _ i hi; omega
  | succ n ih =>
    intro h i hi
    have h' : @Bool.rec (fun _ => Bool) false (allBelow p n) (p n) = true := h
    cases hp : p n with
    | false => rw [hp] at h'; cases h'
    | true =>
      rw [hp] at h'
      by_cases e : i = n
      · rw [e]; exact hp
      · exact ih h' i (by omega)
def memSym (n : Nat) : List A := (List.range n).map fun i => .sym .u64 (.var i)
theorem memSym_get {n i : Nat} {a : A} (h : (memSym n)[i]? = some a) : i < n ∧ a = .sym .u64 (.var i) := by
  unfold memSym at h
  rw [List.getElem?_map] at h
  cases hr : (List.range n)[i]? with
  | none => rw [hr] at h; cases h
  | some j =>
    rw [hr] at h
    have := List.getElem?_eq_some_iff.1 hr
    obtain ⟨h1, h2⟩ := this
    rw [List.getElem_range] at h2
    subst h2
    cases h
    exact ⟨by simpa using h1, rfl⟩
def memB (F : Nat) : Blk := .cells (T.ofList [.slice 1 0 F F]) 1 true none
def memH (F n : Nat) : H := heapOf [(0, memB F), (1, .cells (T.ofList (memSym n)) n true none)] 2
/-- the call's answer, and the words behind it -/
def memRes (v : AV) (F n : Nat) (ex : Nat → A) (r : OR) : Bool := match r with
  | some (.val v' h') => AV.eqb v' v && (hasBlk h' (0, memB F) && (match h'.get 1 with | some (.cells c m true none) => Nat.beq m n && allBelow (fun j => optA (T.get c j) (some (ex j))) n | _ => false))
  | _ => false
theorem memRes_some {v : AV} {F n : Nat} {ex : Nat → A} {r : OR} (h : memRes v F n ex r = true) : ∃ h' c, r = some (.val v h') ∧ h'.get 0 = some (memB F) ∧ h'.get 1 = some (.cells c n true none) ∧ ∀ j, j < n → T.get c j = some (ex j) := by
  unfold memRes at h
  split at h
  · rename_i v' h'
    simp only [Bool.and_eq_true] at h
    obtain ⟨h1, h2, h3⟩ := h
    split at h3
    · rename_i c m hg
      simp only [Bool.and_eq_true] at h3
      refine ⟨h', c, by rw [AV.eqb_eq h1], hasBlk_eq h2, by rw [hg, beq_eq h3.1], fun j hj => optA_eq (allBelow_get h3.2 j hj)⟩
    · cases h3
  · cases h
theorem get_two {x y z : Blk} {b : Nat} (h : (heapOf [(0, x), (1, y)] 2).get b = some z) : (b = 0 ∧ z = x) ∨ (b = 1 ∧ z = y) := by
  have := heapOf_get h
  simp only [List.mem_cons, Prod.mk.injEq, List.not_mem_nil, or_false] at this
  exact this
theorem F2.plain : ∀ {args : List AV} {vs : List Value}, args.all plainAV = true → F2 (AVR ρ σ) args vs → F2 (AVR ρ' σ) args vs := by
  intro args
  induction args with
  | nil => intro vs _ h; cases h; exact .nil
  | cons a l ih =>
    intro vs hp h
    simp only [List.all_cons, Bool.and_eq_true] at hp
    cases h with
    | cons h1 h2 => exact .cons (plainAV_R hp.1 h1) (ih hp.2 h2)
/-- what a call on a memory does, told of the words themselves -/
theorem memCall {n0 : Nat} {X : Ctx} {F n f : Nat} {args : List AV} {v : AV} {ex : Nat → A} (hk : memRes v F n ex (eval B n0 X (.call f (.one (.ptr 0 0) :: args)) (memH F n)) = true) (hp : args.all plainAV = true) (hpv : plainAV v = true)
    (hc : ∀ σ, CfgOK P B σ) (hx : ∀ σ, ExtOK B P σ) {h : H} {w : World} {mb bm rm Sm : Nat} {cm c : T A} {sp : List (E × A)} (hr : Rel ρ σ C h w) (hρm : ρ mb = some (rm, Sm)) (hm : h.get mb = some (.cells cm 1 true none)) (hcm : T.get cm 0 = some (.slice bm 0 F F)) (hv : h.get bm = some (.vm c n sp)) :
    ∃ cs : Array Value, cs.size = n ∧ (∀ i, i < n → ∃ z, cs[i]? = some (.int .u64 z)) ∧ VmR ρ σ c sp cs ∧
      ∀ σ0 : Sig, (∀ i, i < n → cs[i]? = some (.int .u64 (σ0 i))) → ∀ vs, F2 (AVR rho0 σ0) args vs → ∃ v' w', CallR P f (Value.pointer (some ⟨rm, 0, none⟩) :: vs).toArray w v' w' ∧ AVR rho0 σ0 v v' ∧
        ∀ c2 sp2, (∀ cs' : Array Value, cs'.size = n → (∀ i, i < n → ∃ x, cs'[i]? = some x ∧ AR rho0 σ0 (ex i) x) → (∀ i, i < n → ∃ z, cs'[i]? = some (.int .u64 z)) ∧ VmR ρ σ c2 sp2 cs') → (∀ i, i < n → plainA (ex i) = true) →
          Rel ρ σ C (h.put bm (.vm c2 n sp2)) w' ∧ Ext ρ ρ h (h.put bm (.vm c2 n sp2)) w w' := by
  obtain ⟨hl, cl, k1, k2, k3, k4⟩ := memRes_some hk
  obtain ⟨om, hom, hbm⟩ := hr.blk mb rm Sm hρm
  obtain ⟨csm, em, rfl, h3, h4, h5, h6⟩ := hbm _ hm
  have hSm : 1 = Sm := h5 rfl
  subst hSm
  obtain ⟨v0, hv0, rf, S, hρb, rfl⟩ := h6 0 _ (by decide) hcm
  obtain ⟨of, hof, hbf⟩ := hr.blk bm rf S hρb
  obtain ⟨cs, e, rfl, g1, g2, g3, g4⟩ := hbf _ hv
  subst g2
  have live1 : Live h mb := ⟨_, hm, by simp⟩
  have live2 : Live h bm := ⟨_, hv, by simp⟩
  have onlym : ∀ b S, ρ b = some (rm, S) → Live h b → b = mb := by
    intro b S hb hl
    rcases hr.inj mb b rm 1 S hρm hb live1 hl with e | ⟨c', n', f', e⟩
    · exact e.symm
    · rw [hm] at e; cases e
  have onlyf : ∀ b S, ρ b = some (rf, S) → Live h b → b = bm := by
    intro b S hb hl
    rcases hr.inj bm b rf n S hρb hb live2 hl with e | ⟨c', n', f', e⟩
    · exact e.symm
    · rw [hv] at e; cases e
  have hne : rm ≠ rf := by
    intro e
    subst e
    have := onlym bm n hρb live2
    subst this
    rw [hm] at hv
    cases hv
  have hbm' : mb ≠ bm := by
    intro e
    subst e
    rw [hm] at hv
    cases hv
  refine ⟨cs, g1, g3, g4, ?_⟩
  intro σ0 hσ vs hvs
  obtain ⟨ρ0, hρ0⟩ : ∃ r : Rho, r = fun b => if b = 0 then some (rm, 1) else if b = 1 then some (rf, n) else none := ⟨_, rfl⟩
  have z0 : ρ0 0 = some (rm, 1) := by rw [hρ0]; rfl
  have z1 : ρ0 1 = some (rf, n) := by rw [hρ0]; rfl
  have zz : ∀ b r S, ρ0 b = some (r, S) → (b = 0 ∧ r = rm ∧ S = 1) ∨ (b = 1 ∧ r = rf ∧ S = n) := by
    intro b r S hb
    rw [hρ0] at hb
    by_cases e0 : b = 0
    · subst e0
      have h' : some (rm, 1) = some (r, S) := hb
      cases h'
      exact .inl ⟨rfl, rfl, rfl⟩
    · by_cases e1 : b = 1
      · subst e1
        have h' : some (rf, n) = some (r, S) := hb
        cases h'
        exact .inr ⟨rfl, rfl, rfl⟩
      · simp [e0, e1] at hb
  have hrel : Rel ρ0 σ0 B (memH F n) w := by
    refine ⟨?_, ?_, ?_⟩
    · intro b r S hb
      rcases zz b r S hb with ⟨e, _⟩ | ⟨e, _⟩
      · subst e; show 0 < 2; omega
      · subst e; show 1 < 2; omega
    · intro b r S hb
      rcases zz b r S hb with ⟨rfl, rfl, rfl⟩ | ⟨rfl, rfl, rfl⟩
      · refine ⟨_, hom, fun x hgx => ?_⟩
        rcases get_two hgx with ⟨_, rfl⟩ | ⟨e, _⟩
        · refine ⟨csm, em, rfl, h3, h4, fun _ => rfl, fun i a hi hg => ?_⟩
          have := T.get_ofList hg
          obtain rfl : i = 0 := by omega
          cases this
          exact ⟨_, hv0, rf, n, z1, rfl⟩
        · omega
      · refine ⟨_, hof, fun x hgx => ?_⟩
        rcases get_two hgx with ⟨e, _⟩ | ⟨_, rfl⟩
        · omega
        · refine ⟨cs, e, rfl, g1, Nat.le_refl _, fun _ => rfl, fun i a hi hg => ?_⟩
          obtain ⟨hin, rfl⟩ := memSym_get (T.get_ofList hg)
          exact ⟨_, hσ i hin, rfl⟩
    · intro b b' r S S' hb hb' _ _
      rcases zz b r S hb with ⟨e1, e2, _⟩ | ⟨e1, e2, _⟩ <;> rcases zz b' r S' hb' with ⟨f1, f2, _⟩ | ⟨f1, f2, _⟩
      · exact .inl (e1.trans f1.symm)
      · exact absurd (e2.symm.trans f2) hne
      · exact absurd (f2.symm.trans e2) hne
      · exact .inl (e1.trans f1.symm)
  have hvs0 : F2 (AVR ρ0 σ0) args vs := F2.plain hp hvs
  obtain ⟨v', w', ρl, q1, q2, q3, q4⟩ := (eval_ok (hc σ0) (hx σ0) n0).2.call X f _ (memH F n) v hl k1 ρ0 w _ hrel (.cons (show AVR ρ0 σ0 (.one (.ptr 0 0)) (.pointer (some ⟨rm, 0, none⟩)) from ⟨rm, 1, z0, rfl⟩) hvs0)
  refine ⟨v', w', q1, plainAV_R hpv q2, ?_⟩
  intro c2 sp2 hcs hpl
  have l0 : ρl 0 = some (rm, 1) := by rw [q4.old 0 (show 0 < 2 by omega)]; exact z0
  have l1 : ρl 1 = some (rf, n) := by rw [q4.old 1 (show 1 < 2 by omega)]; exact z1
  obtain ⟨o1, ho1, hx1⟩ := q3.blk 0 rm 1 l0
  obtain ⟨csm', em', rfl, i1, i2, _, i3⟩ := hx1 _ k2
  obtain ⟨v1, hv1, r1, S1, e1, rfl⟩ := i3 0 (.slice 1 0 F F) (by decide) rfl
  rw [l1] at e1
  cases e1
  obtain ⟨o2, ho2, hx2⟩ := q3.blk 1 rf n l1
  obtain ⟨cs', e', rfl, j1, j2, _, j3⟩ := hx2 _ k3
  obtain ⟨u1, u2⟩ := hcs cs' j1 fun i hi => by
    obtain ⟨x, hx1, hx2⟩ := j3 i _ hi (k4 i hi)
    exact ⟨x, hx1, plainA_R (hpl i hi) hx2⟩
  have keep : ∀ r, r < w.heap.size → r ≠ rm → r ≠ rf → w'.heap[r]? = w.heap[r]? := by
    intro r hr' n1 n2
    refine q4.frame r hr' fun b S hb _ => ?_
    rcases zz b r S hb with ⟨_, e, _⟩ | ⟨_, e, _⟩
    · exact n1 e
    · exact n2 e
  have back : ∀ b, Live (h.put bm (.vm c2 n sp2)) b → Live h b := by
    intro b ⟨y, hy, hyd⟩
    rcases H.get_put hy with ⟨e, _⟩ | ⟨_, e⟩
    · subst e; exact live2
    · exact ⟨y, e, hyd⟩
  refine ⟨⟨hr.lt, ?_, ?_⟩, ⟨Nat.le_refl _, fun _ _ => rfl, fun b r S hb he => (by rw [hr.absent hb] at he; cases he), q4.size, fun b _ => back b, ?_, q4.os, q4.tape, q4.output, q4.fz⟩⟩
  · intro b r S hb
    by_cases er : r = rf
    · subst er
      refine ⟨_, ho2, fun x hgx => ?_⟩
      rcases H.get_put hgx with ⟨e, e2⟩ | ⟨e, e2⟩
      · subst e; subst e2
        rw [hρb] at hb
        cases hb
        exact ⟨cs', e', rfl, j1, rfl, u1, u2⟩
      · by_cases hd : x = .dead
        · subst hd; trivial
        · exact absurd (onlyf b S hb ⟨x, e2, hd⟩) e
    · by_cases em2 : r = rm
      · subst em2
        refine ⟨_, ho1, fun x hgx => ?_⟩
        rcases H.get_put hgx with ⟨e, e2⟩ | ⟨e, e2⟩
        · subst e
          rw [hρb] at hb
          cases hb
          exact absurd rfl er
        · by_cases hd : x = .dead
          · subst hd; trivial
          · have := onlym b S hb ⟨x, e2, hd⟩
            subst this
            rw [hm] at e2
            cases e2
            rw [hρm] at hb
            cases hb
            refine ⟨csm', em', rfl, i1, i2, fun _ => rfl, fun i a hi hg => ?_⟩
            obtain rfl : i = 0 := by omega
            rw [hcm] at hg
            cases hg
            exact ⟨_, hv1, rf, n, hρb, rfl⟩
      · obtain ⟨o, ho, hx⟩ := hr.blk b r S hb
        have hlt : r < w.heap.size := (Array.getElem?_eq_some_iff.1 ho).1
        refine ⟨o, by rw [keep r hlt em2 er]; exact ho, fun x hgx => ?_⟩
        rcases H.get_put hgx with ⟨e, _⟩ | ⟨_, e2⟩
        · subst e
          rw [hρb] at hb
          cases hb
          exact absurd rfl er
        · exact hx x e2
  · intro b b' r S S' hb hb' hl hl'
    rcases hr.inj b b' r S S' hb hb' (back b hl) (back b' hl') with e | ⟨c', n', f', e⟩
    · exact .inl e
    · right
      obtain ⟨y, hy, hyd⟩ := hl
      rcases H.get_put hy with ⟨e1, _⟩ | ⟨_, e1⟩
      · subst e1; rw [hv] at e; cases e
      · rw [e1] at e
        cases e
        exact ⟨c', n', f', hy⟩
  · intro r hr' hno
    refine keep r hr' ?_ ?_
    · intro e; subst e; exact hno mb 1 hρm live1
    · intro e; subst e; exact hno bm n hρb live2
end Eng
end

noncomputable section
namespace Eng
open Go Go.RowKit
variable {P : Program} {B C : Cfg} {σ σ0 : Sig} {ρ ρ' : Rho}

structure MemF where
  LOAD : FuncId
  STORE : FuncId
  ZERO : FuncId
  F : Nat
  zs : List Nat
section
variable (norm : E → Option Int) (cmp : BinOp → E → E → Option Bool)
def natOf (o : Option Int) : Option Nat := match o with | some (.ofNat m) => some m | _ => none
def inU64 (e : E) : Bool := match e with
  | .conv k _ => Nat.beq (kindNo k) (kindNo .u64)
  | .bin op k _ _ => Nat.beq (kindNo k) (kindNo .u64) && (match op with | .add => true | .mul => true | .sub => true | _ => false)
  | _ => false
/-- an address: its expression, its frame, its word if it is a number -/
def adr (x : A) : Option (E × Nat × Option Nat) := match x with
  | .int .u64 (.ofNat m) => bif Nat.beq (Nat.mod m 8) 0 then some (.lit (.ofNat m), Nat.div m 64, some (Nat.div m 8)) else none
  | .sym .u64 e => bif inU64 e then (match natOf (norm (.bin .rem .u64 e (.lit 8))), natOf (norm (.bin .quo .u64 e (.lit 64))) with | some 0, some f => some (e, f, none) | _, _ => none) else none
  | _ => none
def frOfE (e : E) : Option Nat := match e with
  | .lit (.ofNat m) => some (Nat.div m 64)
  | .lit _ => none
  | e => natOf (norm (.bin .quo .u64 e (.lit 64)))
def cmpNe (e' e : E) : Bool := match cmp .eql e' e with | some false => true | _ => false
def cmpEq (e' e : E) : Bool := match cmp .eql e' e with | some true => true | _ => false
def apart (e : E) (f : Nat) (e' : E) : Bool := match frOfE norm e' with
  | some f' => bif Nat.beq f f' then cmpNe cmp e' e else true
  | none => cmpNe cmp e' e
def vmFind (e : E) (f : Nat) (sp : List (E × A)) : Option (Option A) :=
  @List.rec (E × A) (fun _ => Option (Option A)) (some none) (fun p _ r => @Bool.rec (fun _ => Option (Option A)) (@Bool.rec (fun _ => Option (Option A)) (@Bool.rec (fun _ => Option (Option A)) none (some (some p.2)) (cmpEq cmp p.1 e)) r (apart norm cmp e f p.1)) (some (some p.2)) (p.1.eqb e)) sp
def isU64 (a : A) : Bool := match a with | .int .u64 _ => true | .sym .u64 _ => true | _ => false
def uniform (c : T A) (f : Nat) : Option A := match T.get c (Nat.mul 8 f) with
  | some a => bif allBelow (fun j => optA (T.get c (Nat.add (Nat.mul 8 f) j)) (some a)) 8 then some a else none
  | none => none
def memOf (F : Nat) (h : H) (mb : Nat) : Option (Nat × T A × List (E × A)) := match h.get mb with
  | some (.cells cm 1 true none) => (match T.get cm 0 with
    | some (.slice bm 0 l k) => bif Nat.beq l F && Nat.beq k F then (match h.get bm with | some (.vm c n sp) => bif Nat.beq n (Nat.mul 8 F) then some (bm, c, sp) else none | _ => none) else none
    | _ => none)
  | _ => none
def wordAt (c : T A) (sp : List (E × A)) (e : E) (f : Nat) (oi : Option Nat) : Option A := match vmFind norm cmp e f sp with
  | some (some a) => some a
  | some none => (match oi with | some i => T.get c i | none => uniform c f)
  | none => none
def zeroSp (f : Nat) (sp : List (E × A)) : Option (List (E × A)) :=
  @List.rec (E × A) (fun _ => Option (List (E × A))) (some []) (fun p _ r => match frOfE norm p.1 with | some f' => bif Nat.beq f f' then r else (match r with | some l => some (p :: l) | none => none) | none => none) sp
def zeroC (c : T A) (f : Nat) : T A := @Nat.rec (fun _ => T A) c (fun j t => T.set t (Nat.add (Nat.mul 8 f) j) (.int .u64 0)) 8
def okE : AV := .one (.int .i64 0)
def mLoad (M : MemF) (h : H) (mb : Nat) (x : A) : Option (AV × H) := match memOf M.F h mb with
  | some (bm, c, sp) => (match adr norm x with
    | some (e, f, oi) => bif Nat.blt f M.F then (match wordAt norm cmp c sp e f oi with | some a => some (.tup [.one a, .one (.int .i64 0)], h.put bm (.vm c (Nat.mul 8 M.F) sp)) | none => none) else none
    | none => none)
  | none => none
def mStore (M : MemF) (h : H) (mb : Nat) (x y : A) : Option (AV × H) := match memOf M.F h mb with
  | some (bm, c, sp) => (match adr norm x with
    | some (e, f, _) => bif Nat.blt f M.F && isU64 y then some (okE, h.put bm (.vm c (Nat.mul 8 M.F) ((e, y) :: sp))) else none
    | none => none)
  | none => none
def mZero (M : MemF) (h : H) (mb : Nat) (f : Nat) : Option (AV × H) := match memOf M.F h mb with
  | some (bm, c, sp) => bif M.zs.any (Nat.beq f) then (match zeroSp norm f sp with | some sp' => some (okE, h.put bm (.vm (zeroC c f) (Nat.mul 8 M.F) sp')) | none => none) else none
  | none => none
def pArgL (args : List AV) : Option (Nat × A) := match args with | [.one (.ptr mb 0), .one x] => some (mb, x) | _ => none
def pArgS (args : List AV) : Option (Nat × A × A) := match args with | [.one (.ptr mb 0), .one x, .one y] => some (mb, x, y) | _ => none
def pArgZ (args : List AV) : Option (Nat × Nat) := match args with | [.one (.ptr mb 0), .one (.int .i64 (.ofNat f)), .one (.int .i64 (.ofNat 1))] => some (mb, f) | _ => none
def tryL (M : MemF) (args : List AV) (h : H) : Option (AV × H) := match pArgL args with | some p => mLoad norm cmp M h p.1 p.2 | none => none
def tryS (M : MemF) (args : List AV) (h : H) : Option (AV × H) := match pArgS args with | some p => mStore norm M h p.1 p.2.1 p.2.2 | none => none
def tryZ (M : MemF) (args : List AV) (h : H) : Option (AV × H) := match pArgZ args with | some p => mZero norm M h p.1 p.2 | none => none
def extM (M : MemF) (ext : FuncId → List AV → H → Option (AV × H)) (g : FuncId) (args : List AV) (h : H) : Option (AV × H) :=
  @Bool.rec (fun _ => Option (AV × H)) (@Bool.rec (fun _ => Option (AV × H)) (@Bool.rec (fun _ => Option (AV × H)) (ext g args h) (tryZ norm M args h) (Nat.beq g M.ZERO)) (tryS norm M args h) (Nat.beq g M.STORE)) (tryL norm cmp M args h) (Nat.beq g M.LOAD)
end
theorem pArgL_some {args : List AV} {mb : Nat} {x : A} (h : pArgL args = some (mb, x)) : args = [.one (.ptr mb 0), .one x] := by
  unfold pArgL at h
  split at h
  · cases h; rfl
  · cases h
theorem pArgS_some {args : List AV} {mb : Nat} {x y : A} (h : pArgS args = some (mb, x, y)) : args = [.one (.ptr mb 0), .one x, .one y] := by
  unfold pArgS at h
  split at h
  · cases h; rfl
  · cases h
theorem pArgZ_some {args : List AV} {mb f : Nat} (h : pArgZ args = some (mb, f)) : args = [.one (.ptr mb 0), .one (.int .i64 (.ofNat f)), .one (.int .i64 (.ofNat 1))] := by
  unfold pArgZ at h
  split at h
  · cases h; rfl
  · cases h
theorem natOf_some {o : Option Int} {m : Nat} (h : natOf o = some m) : o = some (Int.ofNat m) := by
  unfold natOf at h
  split at h
  · cases h; rfl
  · cases h
theorem inU64_ok {e : E} (h : inU64 e = true) (σ : Sig) : 0 ≤ e.den σ ∧ e.den σ < 18446744073709551616 := by
  have hw : ∀ x : Int, 0 ≤ IntKind.u64.wrap x ∧ IntKind.u64.wrap x < 18446744073709551616 := by
    intro x
    simp [IntKind.wrap, IntKind.bits, IntKind.signed]
    omega
  unfold inU64 at h
  split at h
  · rename_i k x
    have := kind_inj h
    subst this
    exact hw _
  · rename_i op k x y
    simp only [Bool.and_eq_true] at h
    have := kind_inj h.1
    subst this
    have h2 := h.2
    cases op <;> first | exact hw _ | (exfalso; cases h2)
  · cases h
theorem quo64 {x : Int} {f : Nat} (h0 : 0 ≤ x) (h1 : x < 18446744073709551616) (h : binDen .quo .u64 x 64 = Int.ofNat f) : x / 64 = f := by
  have h' : IntKind.u64.wrap (x.tdiv 64) = (f : Int) := h
  rw [Int.tdiv_eq_ediv_of_nonneg h0, IntWalk.u64_in _ (by omega)] at h'
  exact h'
theorem adr_ok (hc : CfgOK P C σ) {x : A} {e : E} {f : Nat} {oi : Option Nat} (h : adr C.norm x = some (e, f, oi)) {v : Value} (hr : AR ρ σ x v) : ∃ i : Nat, v = .int .u64 (8 * (i : Int)) ∧ e.den σ = 8 * (i : Int) ∧ i / 8 = f ∧ ∀ i', oi = some i' → i' = i := by
  unfold adr at h
  split at h
  · rename_i m
    cases hb : Nat.beq (Nat.mod m 8) 0 with
    | false => rw [hb] at h; cases h
    | true =>
      rw [hb] at h
      cases h
      have h1 : m % 8 = 0 := beq_eq hb
      refine ⟨m / 8, ?_, ?_, ?_, ?_⟩
      · rw [show v = .int .u64 (Int.ofNat m) from hr]
        congr 1
        simp only [Int.ofNat_eq_natCast]
        omega
      · show Int.ofNat m = _
        simp only [Int.ofNat_eq_natCast]
        omega
      · show m / 8 / 8 = m / 64
        omega
      · intro i' hi
        cases hi
        rfl
  · rename_i e'
    cases hu : inU64 e' with
    | false => rw [hu] at h; cases h
    | true =>
      rw [hu] at h
      have h' : (match natOf (C.norm (.bin .rem .u64 e' (.lit 8))), natOf (C.norm (.bin .quo .u64 e' (.lit 64))) with | some 0, some f => some (e', f, (none : Option Nat)) | _, _ => none) = some (e, f, oi) := h
      split at h'
      · rename_i f' hr1 hq1
        cases h'
        have hr2 := hc.norm _ _ (natOf_some hr1)
        have hq2 := hc.norm _ _ (natOf_some hq1)
        obtain ⟨a1, a2⟩ := inU64_ok hu σ
        have hq3 := quo64 a1 a2 hq2
        have hr3 : (e.den σ).tmod 8 = 0 := hr2
        rw [Int.tmod_eq_emod_of_nonneg a1] at hr3
        obtain ⟨d, hd⟩ := Int.eq_ofNat_of_zero_le (show 0 ≤ e.den σ / 8 by omega)
        refine ⟨d, ?_, ?_, ?_, fun i' hi => by cases hi⟩
        · rw [show v = .int .u64 (e.den σ) from hr]
          congr 1
          omega
        · omega
        · omega
      · cases h'
  · cases h
theorem frOfE_ok (hc : CfgOK P C σ) {e : E} {f : Nat} (h : frOfE C.norm e = some f) {i : Nat} (hi : i < 1152921504606846976) (he : e.den σ = 8 * (i : Int)) : i / 8 = f := by
  unfold frOfE at h
  split at h
  · rename_i m
    cases h
    have : (Int.ofNat m) = 8 * (i : Int) := he
    simp only [Int.ofNat_eq_natCast] at this
    show i / 8 = m / 64
    omega
  · cases h
  · have h2 := hc.norm _ _ (natOf_some h)
    have h3 := quo64 (x := e.den σ) (by omega) (by omega) h2
    omega
theorem apart_ok (hc : CfgOK P C σ) {e : E} {e' : E} {f i : Nat} (h : apart C.norm C.cmp e f e' = true) (hi : i < 1152921504606846976) (he : e.den σ = 8 * (i : Int)) (hf : i / 8 = f) : e'.den σ ≠ 8 * (i : Int) := by
  have hne : cmpNe C.cmp e' e = true → e'.den σ ≠ 8 * (i : Int) := by
    intro hk
    unfold cmpNe at hk
    split at hk
    · rename_i hcm
      have := hc.cmp _ _ _ _ hcm
      have h2 : (e'.den σ == e.den σ) = false := this
      rw [← he]
      exact beq_eq_false_iff_ne.1 h2
    · cases hk
  unfold apart at h
  split at h
  · rename_i f' hf'
    cases hb : Nat.beq f f' with
    | true => rw [hb] at h; exact hne h
    | false =>
      intro he'
      have := frOfE_ok hc hf' hi he'
      have : f = f' := hf.symm.trans this
      rw [this] at hb
      rw [Nat.beq_refl] at hb
      cases hb
  · exact hne h
theorem vmFind_ok (hc : CfgOK P C σ) {e : E} {f i : Nat} (hi : i < 1152921504606846976) (he : e.den σ = 8 * (i : Int)) (hf : i / 8 = f) : ∀ {sp : List (E × A)} {r : Option A}, vmFind C.norm C.cmp e f sp = some r → vmLook σ i sp = r := by
  intro sp
  induction sp with
  | nil => intro r h; cases h; rfl
  | cons p l ih =>
    intro r h
    have h' : @Bool.rec (fun _ => Option (Option A)) (@Bool.rec (fun _ => Option (Option A)) (@Bool.rec (fun _ => Option (Option A)) none (some (some p.2)) (cmpEq C.cmp p.1 e)) (vmFind C.norm C.cmp e f l) (apart C.norm C.cmp e f p.1)) (some (some p.2)) (p.1.eqb e) = some r := h
    unfold vmLook
    cases hb : p.1.eqb e with
    | true =>
      rw [hb] at h'
      cases h'
      rw [if_pos (by rw [Eng.eqb_eq hb]; exact he)]
    | false =>
      rw [hb] at h'
      cases ha : apart C.norm C.cmp e f p.1 with
      | true =>
        rw [ha] at h'
        rw [if_neg (apart_ok hc ha hi he hf)]
        exact ih h'
      | false =>
        rw [ha] at h'
        cases hq : cmpEq C.cmp p.1 e with
        | false => rw [hq] at h'; cases h'
        | true =>
          rw [hq] at h'
          cases h'
          unfold cmpEq at hq
          split at hq
          · rename_i hcm
            have h2 : (p.1.den σ == e.den σ) = true := hc.cmp _ _ _ _ hcm
            rw [if_pos ((beq_iff_eq.1 h2).trans he)]
          · cases hq
theorem uniform_ok {c : T A} {f i : Nat} {a : A} (h : uniform c f = some a) (hi : i / 8 = f) : T.get c i = some a := by
  unfold uniform at h
  split at h
  · rename_i a' _
    cases hb : allBelow (fun j => optA (T.get c (Nat.add (Nat.mul 8 f) j)) (some a')) 8 with
    | false => rw [hb] at h; cases h
    | true =>
      rw [hb] at h
      cases h
      have := optA_eq (allBelow_get hb (i % 8) (Nat.mod_lt _ (by decide)))
      have e : Nat.add (Nat.mul 8 f) (i % 8) = i := by show 8 * f + i % 8 = i; omega
      rw [e] at this
      exact this
  · cases h
theorem wordAt_ok (hc : CfgOK P C σ) {c : T A} {sp : List (E × A)} {e : E} {f i : Nat} {oi : Option Nat} {a : A} (h : wordAt C.norm C.cmp c sp e f oi = some a) (hi : i < 1152921504606846976) (he : e.den σ = 8 * (i : Int)) (hf : i / 8 = f) (ho : ∀ i', oi = some i' → i' = i) : vmAt σ c sp i = some a := by
  unfold wordAt at h
  unfold vmAt
  split at h
  · rename_i hk
    cases h
    rw [vmFind_ok hc hi he hf hk]
  · rename_i hk
    rw [vmFind_ok hc hi he hf hk]
    split at h
    · rename_i i'
      rw [← ho i' rfl]
      exact h
    · exact uniform_ok h hf
  · cases h
theorem zeroSp_ok (hc : CfgOK P C σ) {f i : Nat} (hi : i < 1152921504606846976) : ∀ {sp sp' : List (E × A)}, zeroSp C.norm f sp = some sp' → (i / 8 = f → vmLook σ i sp' = none) ∧ (i / 8 ≠ f → vmLook σ i sp' = vmLook σ i sp) := by
  intro sp
  induction sp with
  | nil => intro sp' h; cases h; exact ⟨fun _ => rfl, fun _ => rfl⟩
  | cons p l ih =>
    intro sp' h
    have h' : (match frOfE C.norm p.1 with | some f' => bif Nat.beq f f' then zeroSp C.norm f l else (match zeroSp C.norm f l with | some l => some (p :: l) | none => none) | none => none) = some sp' := h
    split at h'
    · rename_i f' hf'
      cases hb : Nat.beq f f' with
      | true =>
        rw [hb] at h'
        have := beq_eq hb
        subst this
        obtain ⟨a1, a2⟩ := ih h'
        refine ⟨a1, fun hne => ?_⟩
        rw [a2 hne]
        show _ = (if p.1.den σ = 8 * (i : Int) then some p.2 else vmLook σ i l)
        rw [if_neg (fun he => hne (frOfE_ok hc hf' hi he))]
      | false =>
        rw [hb] at h'
        have h2 : (match zeroSp C.norm f l with | some l => some (p :: l) | none => none) = some sp' := h'
        split at h2
        · rename_i l' hl'
          cases h2
          obtain ⟨a1, a2⟩ := ih hl'
          have hff : f ≠ f' := fun e => by rw [e, Nat.beq_refl] at hb; cases hb
          refine ⟨fun hif => ?_, fun hne => ?_⟩
          · show (if p.1.den σ = 8 * (i : Int) then some p.2 else vmLook σ i l') = none
            rw [if_neg (fun he => hff (hif.symm.trans (frOfE_ok hc hf' hi he)))]
            exact a1 hif
          · show (if p.1.den σ = 8 * (i : Int) then some p.2 else vmLook σ i l') = (if p.1.den σ = 8 * (i : Int) then some p.2 else vmLook σ i l)
            rw [a2 hne]
        · cases h2
    · cases h'
theorem zeroC_get {c : T A} {f i : Nat} {a : A} (h : T.get (zeroC c f) i = some a) : (i / 8 = f ∧ a = .int .u64 0) ∨ (i / 8 ≠ f ∧ T.get c i = some a) ∨ T.get c i = some a := by
  have key : ∀ k, k ≤ 8 → ∀ {a : A}, T.get (@Nat.rec (fun _ => T A) c (fun j t => T.set t (Nat.add (Nat.mul 8 f) j) (.int .u64 0)) k) i = some a → (8 * f ≤ i ∧ i < 8 * f + k ∧ a = .int .u64 0) ∨ (¬ (8 * f ≤ i ∧ i < 8 * f + k) ∧ T.get c i = some a) := by
    intro k
    induction k with
    | zero => intro _ a h; exact .inr ⟨by omega, h⟩
    | succ k ih =>
      intro hk a h
      rcases T.get_set h with ⟨e1, e2⟩ | ⟨e1, e2⟩
      · have e1 : i = 8 * f + k := e1
        exact .inl ⟨by omega, by omega, e2⟩
      · have e1 : i ≠ 8 * f + k := e1
        rcases ih (by omega) e2 with ⟨b1, b2, b3⟩ | ⟨b1, b2⟩
        · exact .inl ⟨b1, by omega, b3⟩
        · exact .inr ⟨by omega, b2⟩
  rcases key 8 (Nat.le_refl _) h with ⟨b1, b2, b3⟩ | ⟨b1, b2⟩
  · exact .inl ⟨by omega, b3⟩
  · exact .inr (.inr b2)
theorem zeroC_in {c : T A} {f i : Nat} {a : A} (h : T.get (zeroC c f) i = some a) (hi : i / 8 = f) : a = .int .u64 0 := by
  have key : ∀ k, k ≤ 8 → ∀ {a : A}, T.get (@Nat.rec (fun _ => T A) c (fun j t => T.set t (Nat.add (Nat.mul 8 f) j) (.int .u64 0)) k) i = some a → (8 * f ≤ i ∧ i < 8 * f + k) → a = .int .u64 0 := by
    intro k
    induction k with
    | zero => intro _ a _ hk; omega
    | succ k ih =>
      intro hk a h hr
      rcases T.get_set h with ⟨_, e2⟩ | ⟨e1, e2⟩
      · exact e2
      · have e1 : i ≠ 8 * f + k := e1
        exact ih (by omega) e2 ⟨hr.1, by omega⟩
  exact key 8 (Nat.le_refl _) h (by omega)
theorem memOf_some {F : Nat} {h : H} {mb bm : Nat} {c : T A} {sp : List (E × A)} (hk : memOf F h mb = some (bm, c, sp)) : ∃ cm, h.get mb = some (.cells cm 1 true none) ∧ T.get cm 0 = some (.slice bm 0 F F) ∧ h.get bm = some (.vm c (Nat.mul 8 F) sp) := by
  unfold memOf at hk
  split at hk
  · rename_i cm hm
    split at hk
    · rename_i bm' l k hcm
      cases hb : (Nat.beq l F && Nat.beq k F) with
      | false => rw [hb] at hk; cases hk
      | true =>
        rw [hb] at hk
        simp only [Bool.and_eq_true] at hb
        have e1 := beq_eq hb.1
        have e2 := beq_eq hb.2
        subst e1; subst e2
        have hk' : (match h.get bm' with | some (.vm c n sp) => bif Nat.beq n (Nat.mul 8 k) then some (bm', c, sp) else none | _ => none) = some (bm, c, sp) := hk
        split at hk'
        · rename_i c' n sp' hv
          cases hn : Nat.beq n (Nat.mul 8 k) with
          | false => rw [hn] at hk'; cases hk'
          | true =>
            rw [hn] at hk'
            have e3 := beq_eq hn
            cases hk'
            exact ⟨cm, hm, hcm, by rw [hv, e3]⟩
        · cases hk'
    · cases hk
  · cases hk
structure MemOK (P : Program) (B : Cfg) (M : MemF) : Prop where
  cfg : ∀ σ, CfgOK P B σ
  ext : ∀ σ, ExtOK B P σ
  small : M.F ≤ 4096
  load : ∀ i, i < Nat.mul 8 M.F → memRes (.tup [.one (.sym .u64 (.var i)), .one (.int .i64 0)]) M.F (Nat.mul 8 M.F) (fun j => .sym .u64 (.var j)) (eval B 300 ⟨0, 0, 0, none⟩ (.call M.LOAD [.one (.ptr 0 0), .one (.int .u64 (Int.ofNat (Nat.mul 8 i)))]) (memH M.F (Nat.mul 8 M.F))) = true
  store : ∀ i, i < Nat.mul 8 M.F → memRes okE M.F (Nat.mul 8 M.F) (fun j => bif Nat.beq j i then .sym .u64 (.var (Nat.mul 8 M.F)) else .sym .u64 (.var j)) (eval B 300 ⟨0, 0, 0, none⟩ (.call M.STORE [.one (.ptr 0 0), .one (.int .u64 (Int.ofNat (Nat.mul 8 i))), .one (.sym .u64 (.var (Nat.mul 8 M.F)))]) (memH M.F (Nat.mul 8 M.F))) = true
  zero : ∀ f, f ∈ M.zs → memRes okE M.F (Nat.mul 8 M.F) (fun j => bif Nat.beq (Nat.div j 8) f then .int .u64 0 else .sym .u64 (.var j)) (eval B 300 ⟨0, 0, 0, none⟩ (.call M.ZERO [.one (.ptr 0 0), .one (.int .i64 (Int.ofNat f)), .one (.int .i64 1)]) (memH M.F (Nat.mul 8 M.F))) = true
theorem u64_val {a : A} (h : isU64 a = true) {v : Value} (hr : AR ρ σ a v) : ∃ z, v = .int .u64 z := by
  unfold isU64 at h
  split at h
  · exact ⟨_, hr⟩
  · exact ⟨_, hr⟩
  · cases h
theorem pick_sig {n : Nat} {cs : Array Value} (h : ∀ i, i < n → ∃ z, cs[i]? = some (.int .u64 z)) (y : Int) : ∃ σ0 : Sig, (∀ i, i < n → cs[i]? = some (.int .u64 (σ0 i))) ∧ σ0 n = y := by
  refine ⟨fun i => if i < n then (match cs[i]? with | some (.int _ z) => z | _ => 0) else y, fun i hi => ?_, by simp⟩
  obtain ⟨z, hz⟩ := h i hi
  simp [hi, hz]
theorem ExtS.mem {M : MemF} (ok : MemOK P B M) (hc : CfgOK P C σ) {ext : FuncId → List AV → H → Option (AV × H)} (h0 : ExtS P σ C ext) : ExtS P σ C (extM C.norm C.cmp M ext) := by
  intro g args h v h' hk ρ w vs hr hvs
  have hF := ok.small
  have hbig : ∀ i, i < Nat.mul 8 M.F → i < 1152921504606846976 := fun i hi => by
    have : i < 8 * M.F := hi
    omega
  unfold extM at hk
  cases hb1 : Nat.beq g M.LOAD with
  | true =>
    rw [hb1] at hk
    have e := beq_eq hb1
    subst e
    have hk1 : tryL C.norm C.cmp M args h = some (v, h') := hk
    unfold tryL at hk1
    split at hk1
    · rename_i p hpa
      obtain ⟨mb, x⟩ := p
      have hargs := pArgL_some hpa
      subst hargs
      unfold mLoad at hk1
      split at hk1
      · rename_i bm c sp hmem
        split at hk1
        · rename_i e f oi hadr
          cases hlt : Nat.blt f M.F with
          | false => rw [hlt] at hk1; cases hk1
          | true =>
            rw [hlt] at hk1
            have hk2 : (match wordAt C.norm C.cmp c sp e f oi with | some a => some (AV.tup [.one a, .one (.int .i64 0)], h.put bm (.vm c (Nat.mul 8 M.F) sp)) | none => none) = some (v, h') := hk1
            split at hk2
            · rename_i a hw
              cases hk2
              obtain ⟨cm, m1, m2, m3⟩ := memOf_some hmem
              cases hvs with
              | cons ha0 hvs =>
              cases hvs with
              | cons ha1 hvs =>
              cases hvs
              obtain ⟨rm, Sm, hρm, rfl⟩ := ha0
              obtain ⟨i, rfl, hd, hif, hoi⟩ := adr_ok hc hadr (show AR ρ σ x _ from ha1)
              have hin : i < Nat.mul 8 M.F := by
                have : f < M.F := by rwa [Nat.blt_eq] at hlt
                show i < 8 * M.F
                omega
              obtain ⟨cs, c1, c2, c3, c4⟩ := memCall (ok.load i hin) rfl rfl ok.cfg ok.ext hr hρm m1 m2 m3
              obtain ⟨σ0, s1, _⟩ := pick_sig c2 0
              obtain ⟨v', w', p1, p2, p3⟩ := c4 σ0 s1 [.int .u64 (8 * (i : Int))] (.cons (show Value.int .u64 (8 * (i : Int)) = .int .u64 (Int.ofNat (8 * i)) by congr 1) .nil)
              obtain ⟨vs2, rfl, hvs2⟩ := p2
              have hat := wordAt_ok hc hw (hbig i hin) hd hif hoi
              obtain ⟨y, hy1, hy2⟩ := c3 i a (by rw [c1]; exact hin) hat
              have p4 := p3 c sp (fun cs' k1 k2 => by
                have same : ∀ j, j < Nat.mul 8 M.F → cs'[j]? = cs[j]? := by
                  intro j hj
                  obtain ⟨u, hu1, hu2⟩ := k2 j hj
                  rw [hu1, s1 j hj]
                  exact congrArg some hu2
                exact ⟨fun j hj => by rw [same j hj]; exact c2 j hj, fun j b hj hb => by
                  rw [k1] at hj
                  rw [same j hj]
                  exact c3 j b (by rw [c1]; exact hj) hb⟩) (fun _ _ => rfl)
              refine ⟨_, w', ρ, p1, ?_, p4.1, p4.2⟩
              cases hvs2 with
              | cons q1 hvs2 =>
              cases hvs2 with
              | cons q2 hvs2 =>
              cases hvs2
              have hs := s1 i hin
              rw [hy1] at hs
              cases hs
              have q1' : _ = Value.int .u64 (σ0 i) := q1
              subst q1'
              exact ⟨_, rfl, .cons hy2 (.cons q2 .nil)⟩
            · cases hk2
        · cases hk1
      · cases hk1
    · cases hk1
  | false =>
  rw [hb1] at hk
  cases hb2 : Nat.beq g M.STORE with
  | true =>
    rw [hb2] at hk
    have e := beq_eq hb2
    subst e
    have hk1 : tryS C.norm M args h = some (v, h') := hk
    unfold tryS at hk1
    split at hk1
    · rename_i p hpa
      obtain ⟨mb, x, y⟩ := p
      have hargs := pArgS_some hpa
      subst hargs
      unfold mStore at hk1
      split at hk1
      · rename_i bm c sp hmem
        split at hk1
        · rename_i e f oi hadr
          cases hlt : (Nat.blt f M.F && isU64 y) with
          | false => rw [hlt] at hk1; cases hk1
          | true =>
            rw [hlt] at hk1
            cases hk1
            simp only [Bool.and_eq_true] at hlt
            obtain ⟨cm, m1, m2, m3⟩ := memOf_some hmem
            cases hvs with
            | cons ha0 hvs =>
            cases hvs with
            | cons ha1 hvs =>
            cases hvs with
            | cons ha2 hvs =>
            cases hvs
            obtain ⟨rm, Sm, hρm, rfl⟩ := ha0
            obtain ⟨i, rfl, hd, hif, hoi⟩ := adr_ok hc hadr (show AR ρ σ x _ from ha1)
            obtain ⟨z, rfl⟩ := u64_val hlt.2 (show AR ρ σ y _ from ha2)
            have hin : i < Nat.mul 8 M.F := by
              have : f < M.F := by have := hlt.1; rwa [Nat.blt_eq] at this
              show i < 8 * M.F
              omega
            obtain ⟨cs, c1, c2, c3, c4⟩ := memCall (ok.store i hin) rfl rfl ok.cfg ok.ext hr hρm m1 m2 m3
            obtain ⟨σ0, s1, s2⟩ := pick_sig c2 z
            obtain ⟨v', w', p1, p2, p3⟩ := c4 σ0 s1 [.int .u64 (8 * (i : Int)), .int .u64 z] (.cons (show Value.int .u64 (8 * (i : Int)) = .int .u64 (Int.ofNat (8 * i)) by congr 1) (.cons (show Value.int .u64 z = .int .u64 (σ0 _) by rw [s2]) .nil))
            have p4 := p3 c ((e, y) :: sp) (fun cs' k1 k2 => by
              have at_i : cs'[i]? = some (.int .u64 z) := by
                obtain ⟨u, hu1, hu2⟩ := k2 i hin
                rw [show (bif Nat.beq i i then A.sym .u64 (.var (Nat.mul 8 M.F)) else .sym .u64 (.var i)) = .sym .u64 (.var (Nat.mul 8 M.F)) by rw [Nat.beq_refl]; rfl] at hu2
                have : u = .int .u64 (σ0 (Nat.mul 8 M.F)) := hu2
                rw [hu1, this, s2]
              have same : ∀ j, j < Nat.mul 8 M.F → j ≠ i → cs'[j]? = cs[j]? := by
                intro j hj hne
                obtain ⟨u, hu1, hu2⟩ := k2 j hj
                rw [show (bif Nat.beq j i then A.sym .u64 (.var (Nat.mul 8 M.F)) else .sym .u64 (.var j)) = .sym .u64 (.var j) by
                  cases hb : Nat.beq j i with
                  | false => rfl
                  | true => exact absurd (beq_eq hb) hne] at hu2
                rw [hu1, s1 j hj]
                exact congrArg some hu2
              refine ⟨fun j hj => ?_, fun j b hj hb => ?_⟩
              · by_cases hji : j = i
                · subst hji; exact ⟨z, at_i⟩
                · rw [same j hj hji]; exact c2 j hj
              · rw [k1] at hj
                have hb' : (match (if e.den σ = 8 * (j : Int) then some y else vmLook σ j sp) with | some a => some a | none => T.get c j) = some b := hb
                by_cases hji : j = i
                · subst hji
                  rw [if_pos hd] at hb'
                  cases hb'
                  exact ⟨_, at_i, ha2⟩
                · rw [if_neg (by omega)] at hb'
                  rw [same j hj hji]
                  exact c3 j b (by rw [c1]; exact hj) hb') (fun j _ => by cases hb : Nat.beq j i <;> rfl)
            exact ⟨v', w', ρ, p1, (show v' = Value.int .i64 0 from p2), p4.1, p4.2⟩
        · cases hk1
      · cases hk1
    · cases hk1
  | false =>
  rw [hb2] at hk
  cases hb3 : Nat.beq g M.ZERO with
  | true =>
    rw [hb3] at hk
    have e := beq_eq hb3
    subst e
    have hk1 : tryZ C.norm M args h = some (v, h') := hk
    unfold tryZ at hk1
    split at hk1
    · rename_i p hpa
      obtain ⟨mb, f⟩ := p
      have hargs := pArgZ_some hpa
      subst hargs
      unfold mZero at hk1
      split at hk1
      · rename_i bm c sp hmem
        cases hz : M.zs.any (Nat.beq f) with
        | false => rw [hz] at hk1; cases hk1
        | true =>
          rw [hz] at hk1
          have hk2 : (match zeroSp C.norm f sp with | some sp' => some (okE, h.put bm (.vm (zeroC c f) (Nat.mul 8 M.F) sp')) | none => none) = some (v, h') := hk1
          split at hk2
          · rename_i sp' hsp
            cases hk2
            obtain ⟨f', hf', hff⟩ := List.any_eq_true.1 hz
            have := beq_eq hff
            subst this
            obtain ⟨cm, m1, m2, m3⟩ := memOf_some hmem
            cases hvs with
            | cons ha0 hvs =>
            cases hvs with
            | cons ha1 hvs =>
            cases hvs with
            | cons ha2 hvs =>
            cases hvs
            obtain ⟨rm, Sm, hρm, rfl⟩ := ha0
            obtain ⟨cs, c1, c2, c3, c4⟩ := memCall (ok.zero f hf') rfl rfl ok.cfg ok.ext hr hρm m1 m2 m3
            obtain ⟨σ0, s1, _⟩ := pick_sig c2 0
            obtain ⟨v', w', p1, p2, p3⟩ := c4 σ0 s1 _ (.cons ha1 (.cons ha2 .nil))
            have p4 := p3 (zeroC c f) sp' (fun cs' k1 k2 => by
              have inn : ∀ j, j < Nat.mul 8 M.F → j / 8 = f → cs'[j]? = some (.int .u64 0) := by
                intro j hj hjf
                obtain ⟨u, hu1, hu2⟩ := k2 j hj
                rw [show (bif Nat.beq (Nat.div j 8) f then A.int .u64 0 else .sym .u64 (.var j)) = .int .u64 0 by rw [show Nat.div j 8 = f from hjf, Nat.beq_refl]; rfl] at hu2
                rw [hu1]
                exact congrArg some hu2
              have out : ∀ j, j < Nat.mul 8 M.F → j / 8 ≠ f → cs'[j]? = cs[j]? := by
                intro j hj hne
                obtain ⟨u, hu1, hu2⟩ := k2 j hj
                rw [show (bif Nat.beq (Nat.div j 8) f then A.int .u64 0 else .sym .u64 (.var j)) = .sym .u64 (.var j) by
                  cases hb : Nat.beq (Nat.div j 8) f with
                  | false => rfl
                  | true => exact absurd (beq_eq hb) hne] at hu2
                rw [hu1, s1 j hj]
                exact congrArg some hu2
              refine ⟨fun j hj => ?_, fun j b hj hb => ?_⟩
              · by_cases hjf : j / 8 = f
                · exact ⟨0, inn j hj hjf⟩
                · rw [out j hj hjf]; exact c2 j hj
              · rw [k1] at hj
                obtain ⟨z1, z2⟩ := zeroSp_ok hc (hbig j hj) hsp
                unfold vmAt at hb
                by_cases hjf : j / 8 = f
                · rw [z1 hjf] at hb
                  have := zeroC_in hb hjf
                  subst this
                  exact ⟨_, inn j hj hjf, rfl⟩
                · rw [z2 hjf] at hb
                  rw [out j hj hjf]
                  refine c3 j b (by rw [c1]; exact hj) ?_
                  unfold vmAt
                  split at hb
                  · rename_i hl; exact hb
                  · rename_i hl
                    rcases zeroC_get hb with ⟨e, _⟩ | ⟨_, e⟩ | e
                    · exact absurd e hjf
                    · exact e
                    · exact e) (fun j _ => by cases hb : Nat.beq (Nat.div j 8) f <;> rfl)
            exact ⟨v', w', ρ, p1, (show v' = Value.int .i64 0 from p2), p4.1, p4.2⟩
          · cases hk2
      · cases hk1
    · cases hk1
  | false =>
    rw [hb3] at hk
    exact h0 g args h v h' hk ρ w vs hr hvs
end Eng
end

noncomputable section
namespace Eng
open Go Go.RowKit
variable {P : Program} {C C' : Cfg} {σ : Sig} {ρ ρ' : Rho}

/- a call with plain arguments whose heap is written down, a memory's words among it -/
structure SumA where
  f : FuncId
  args : List AV
  v : AV
  k : Nat
  bl : List (Nat × Blk)
  next : Nat
/-- a block as it was found, or its words as a memory's -/
def asVm (x y : Blk) : Bool := match y with
  | .vm c n sp => (match x with | .cells c' n' true none => Nat.beq n n' && (List.isEmpty sp && (cellsEqb c' c && allBelow (fun i => match T.get c i with | some a => isU64 a | none => false) n)) | _ => false)
  | y => Blk.eqb x y
theorem asVm_br {x y : Blk} (h : asVm x y = true) {o : Obj} {S : Nat} (hb : BR ρ σ C x o S) : BR ρ σ C y o S := by
  unfold asVm at h
  split at h
  · rename_i c n sp
    split at h
    · rename_i c' n'
      simp only [Bool.and_eq_true] at h
      obtain ⟨h1, h2, h3, h4⟩ := h
      have e1 := beq_eq h1
      have e2 := List.isEmpty_iff.1 h2
      have e3 := cellsEqb_eq h3
      subst e1; subst e2; subst e3
      obtain ⟨cs, e, g1, g2, g3, g4, g5⟩ := hb
      have hn : n = S := g4 rfl
      refine ⟨cs, e, g1, g2, hn, fun i hi => ?_, fun i a hi ha => ?_⟩
      · have hk := allBelow_get h4 i (by omega)
        cases hg : T.get c' i with
        | none => rw [hg] at hk; cases hk
        | some a =>
          rw [hg] at hk
          obtain ⟨v, hv, har⟩ := g5 i a (by omega) hg
          obtain ⟨z, rfl⟩ := u64_val hk har
          exact ⟨z, hv⟩
      · exact g5 i a (by omega) ha
    · cases h
  · rw [← Blk.eqb_eq h]; exact hb
theorem asVm_live {x y : Blk} (h : asVm x y = true) : x ≠ .dead := by
  intro e
  subst e
  unfold asVm at h
  split at h
  · cases h
  · cases y <;> cases h
theorem asVm_sib {c : T A} {n : Nat} {f : Bool} {b : Nat} {y : Blk} (h : asVm (.cells c n f (some b)) y = true) : y = .cells c n f (some b) := by
  unfold asVm at h
  split at h
  · split at h
    · rename_i e; cases e
    · cases h
  · exact (Blk.eqb_eq h).symm
def asBlk (h : H) (p : Nat × Blk) : Bool := match h.get p.1 with | some x => asVm x p.2 | none => false
def allAs (h : H) (l : List (Nat × Blk)) : Bool := @List.rec (Nat × Blk) (fun _ => Bool) true (fun p _ r => @Bool.rec (fun _ => Bool) false r (asBlk h p)) l
theorem allAs_get {h : H} : ∀ {l : List (Nat × Blk)}, allAs h l = true → ∀ p ∈ l, ∃ x, h.get p.1 = some x ∧ asVm x p.2 = true := by
  intro l
  induction l with
  | nil => intro _ p hp; cases hp
  | cons q l ih =>
    intro hk p hp
    have hk' : @Bool.rec (fun _ => Bool) false (allAs h l) (asBlk h q) = true := hk
    cases hb : asBlk h q with
    | false => rw [hb] at hk'; cases hk'
    | true =>
      rw [hb] at hk'
      rcases List.mem_cons.1 hp with e | e
      · subst e
        unfold asBlk at hb
        split at hb
        · rename_i x hx; exact ⟨x, hx, hb⟩
        · cases hb
      · exact ih hk' p e
def snapA (v : AV) (next : Nat) (l : List (Nat × Blk)) (r : OR) : Bool := match r with
  | some (.val v' h) => AV.eqb v' v && (Nat.beq h.next next && allAs h l)
  | _ => false
def SummA (P : Program) (σ : Sig) (C : Cfg) (s : SumA) : Prop := (∀ p ∈ s.bl, s.k ≤ p.1) ∧ ∀ w vs, F2 (AVR rho0 σ) s.args vs → ∃ v' w' ρ' hF, CallR P s.f vs.toArray w v' w' ∧ AVR ρ' σ s.v v' ∧ Rel ρ' σ C hF w' ∧
  Ext (fun _ => none) ρ' ⟨.nil, s.k⟩ hF w w' ∧ hF.next = s.next ∧ ∀ p ∈ s.bl, ∃ x, hF.get p.1 = some x ∧ asVm x p.2 = true
theorem SummA.of (hfu : C.fu = C'.fu) (hc : CfgOK P C σ) (hx : ExtOK C P σ) {n : Nat} {X : Ctx} {s : SumA} (hb : fromK s.k s.bl = true) (hk : snapA s.v s.next s.bl (eval C n X (.call s.f s.args) ⟨.nil, s.k⟩) = true) : SummA P σ C' s := by
  unfold snapA at hk
  split at hk
  · rename_i v0 hF he
    simp only [Bool.and_eq_true] at hk
    obtain ⟨h1, h2, h3⟩ := hk
    have e1 := AV.eqb_eq h1
    subst e1
    refine ⟨fun p hp => ble_le (List.all_eq_true.1 hb p hp), ?_⟩
    intro w vs hvs
    have hr0 : Rel (fun _ => none) σ C ⟨.nil, s.k⟩ w := ⟨fun b r S hb => (by cases hb), fun b r S hb => (by cases hb), fun b b' r S S' hb => (by cases hb)⟩
    obtain ⟨v', w', ρ', g1, g2, g3, g4⟩ := (eval_ok hc hx n).2.call X s.f s.args _ s.v hF he (fun _ => none) w vs hr0 hvs
    exact ⟨v', w', ρ', hF, g1, g2, g3.cfg hfu, g4, beq_eq h2, allAs_get h3⟩
  · cases hk
theorem SummA.run {s : SumA} (hs : SummA P σ C s) {h : H} {w : World} (hr : Rel ρ σ C h w) (hk : h.next ≤ s.k) {vs : List Value} (hvs : F2 (AVR rho0 σ) s.args vs) :
    ∃ v' w' ρ', CallR P s.f vs.toArray w v' w' ∧ AVR ρ' σ s.v v' ∧ Rel ρ' σ C ⟨mergeT (cutT h.1 s.k) s.bl, s.next⟩ w' ∧ Ext ρ ρ' h ⟨mergeT (cutT h.1 s.k) s.bl, s.next⟩ w w' := by
  obtain ⟨hfrom, hs⟩ := hs
  obtain ⟨v', w', ρ', hF, g1, g2, g3, g4, g5, g6⟩ := hs w vs hvs
  have hkn : s.k ≤ s.next := by rw [← g5]; exact g4.next
  have low : ∀ b x, b < h.next → H.get ⟨mergeT (cutT h.1 s.k) s.bl, s.next⟩ b = some x → h.get b = some x := by
    intro b x hb hg
    rcases mergeT_get hg with e | e
    · exact (cutT_get e).2
    · have := hfrom _ e
      simp only at this
      omega
  have hi : ∀ b x, s.k ≤ b → H.get ⟨mergeT (cutT h.1 s.k) s.bl, s.next⟩ b = some x → ∃ y, hF.get b = some y ∧ asVm y x = true := by
    intro b x h1 hg
    rcases mergeT_get hg with e | e
    · have := (cutT_get e).1; omega
    · exact g6 _ e
  have dom : ∀ b r S, ρ' b = some (r, S) → s.k ≤ b ∧ b < s.next := by
    intro b r S hb
    refine ⟨?_, by rw [← g5]; exact g3.lt b r S hb⟩
    rcases Nat.lt_or_ge b s.k with e | e
    · rw [g4.old b e] at hb; cases hb
    · exact e
  have fresh : ∀ b r S, ρ' b = some (r, S) → w.heap.size ≤ r := by
    intro b r S hb
    rcases g4.new b r S (dom b r S hb).1 hb with e | ⟨_, _, e, _⟩
    · exact e
    · cases e
  have isold : ∀ b r S, ρ b = some (r, S) → r < w.heap.size := by
    intro b r S hb
    obtain ⟨o, ho, _⟩ := hr.blk b r S hb
    exact (Array.getElem?_eq_some_iff.1 ho).1
  have same : ∀ r, r < w.heap.size → w'.heap[r]? = w.heap[r]? := fun r hr' => g4.frame r hr' fun b S hb => by cases hb
  obtain ⟨ρ2, hρ2⟩ : ∃ ρ2 : Rho, ρ2 = fun b => if b < h.next then ρ b else ρ' b := ⟨_, rfl⟩
  have at1 : ∀ b, b < h.next → ρ2 b = ρ b := fun b hb => by rw [hρ2]; exact if_pos hb
  have at2 : ∀ b, ¬ b < h.next → ρ2 b = ρ' b := fun b hb => by rw [hρ2]; exact if_neg hb
  have sub1 : Sub ρ ρ2 := fun b x hb => by rw [at1 b (hr.lt b x.1 x.2 hb)]; exact hb
  have sub2 : Sub ρ' ρ2 := fun b x hb => by
    have := (dom b x.1 x.2 hb).1
    rw [at2 b (by omega)]; exact hb
  refine ⟨v', w', ρ2, g1, g2.mono sub2, ⟨?_, ?_, ?_⟩, ⟨?_, at1, ?_, g4.size, ?_, ?_, g4.os, g4.tape, g4.output, g4.fz⟩⟩
  · intro b r S hb
    show b < s.next
    by_cases e : b < h.next
    · omega
    · rw [at2 b e] at hb
      exact (dom b r S hb).2
  · intro b r S hb
    by_cases e : b < h.next
    · rw [at1 b e] at hb
      obtain ⟨o, ho, hx⟩ := hr.blk b r S hb
      exact ⟨o, by rw [same r (isold b r S hb)]; exact ho, fun x hg => (hx x (low b x e hg)).mono sub1⟩
    · rw [at2 b e] at hb
      obtain ⟨o, ho, hx⟩ := g3.blk b r S hb
      have hd := dom b r S hb
      refine ⟨o, ho, fun x hg => ?_⟩
      obtain ⟨y, hy, hya⟩ := hi b x hd.1 hg
      exact (asVm_br hya (hx y hy)).mono sub2
  · intro b b' r S S' hb hb' ⟨y, hy, hyd⟩ ⟨y', hy', hyd'⟩
    by_cases e : b < h.next
    · rw [at1 b e] at hb
      by_cases e' : b' < h.next
      · rw [at1 b' e'] at hb'
        have hy0 := hy
        have hy := low b y e hy
        rcases hr.inj b b' r S S' hb hb' ⟨y, hy, hyd⟩ ⟨y', low b' y' e' hy', hyd'⟩ with q | ⟨c, n, f, q⟩
        · exact .inl q
        · right
          rw [hy] at q
          exact ⟨c, n, f, hy0.trans q⟩
      · rw [at2 b' e'] at hb'
        have := isold b r S hb
        have := fresh b' r S' hb'
        omega
    · rw [at2 b e] at hb
      by_cases e' : b' < h.next
      · rw [at1 b' e'] at hb'
        have := isold b' r S' hb'
        have := fresh b r S hb
        omega
      · rw [at2 b' e'] at hb'
        have hd := dom b r S hb
        have hd' := dom b' r S' hb'
        obtain ⟨z, hz, hza⟩ := hi b y hd.1 hy
        obtain ⟨z', hz', hza'⟩ := hi b' y' hd'.1 hy'
        rcases g3.inj b b' r S S' hb hb' ⟨z, hz, asVm_live hza⟩ ⟨z', hz', asVm_live hza'⟩ with q | ⟨c, n, f, q⟩
        · exact .inl q
        · right
          rw [hz] at q
          cases q
          exact ⟨c, n, f, by rw [← asVm_sib hza]; exact hy⟩
  · show h.next ≤ s.next
    omega
  · intro b r S hb hb2
    rw [at2 b (by omega)] at hb2
    exact .inl (fresh b r S hb2)
  · intro b hb ⟨y, hy, hyd⟩
    exact ⟨y, low b y hb hy, hyd⟩
  · intro r hr' _
    exact same r hr'
def extA (s : SumA) (ext : FuncId → List AV → H → Option (AV × H)) (f : FuncId) (args : List AV) (h : H) : Option (AV × H) :=
  @Bool.rec (fun _ => Option (AV × H)) (ext f args h) (@Bool.rec (fun _ => Option (AV × H)) (ext f args h) (@Bool.rec (fun _ => Option (AV × H)) (ext f args h) (some (s.v, ⟨mergeT (cutT h.1 s.k) s.bl, s.next⟩)) (Nat.ble h.2 s.k)) (argsEqb s.args args)) (Nat.beq s.f f)
theorem ExtS.gapA {s : SumA} (hs : SummA P σ C s) (hp : s.args.all plainAV = true) {ext : FuncId → List AV → H → Option (AV × H)} (h0 : ExtS P σ C ext) : ExtS P σ C (extA s ext) := by
  intro f args h v h' hk ρ w vs hr hvs
  have hk' : @Bool.rec (fun _ => Option (AV × H)) (ext f args h) (@Bool.rec (fun _ => Option (AV × H)) (ext f args h) (@Bool.rec (fun _ => Option (AV × H)) (ext f args h) (some (s.v, ⟨mergeT (cutT h.1 s.k) s.bl, s.next⟩)) (Nat.ble h.2 s.k)) (argsEqb s.args args)) (Nat.beq s.f f) = some (v, h') := hk
  cases h1 : Nat.beq s.f f with
  | false => rw [h1] at hk'; exact h0 f args h v h' hk' ρ w vs hr hvs
  | true =>
  rw [h1] at hk'
  cases h2 : argsEqb s.args args with
  | false => rw [h2] at hk'; exact h0 f args h v h' hk' ρ w vs hr hvs
  | true =>
  rw [h2] at hk'
  cases h3 : Nat.ble h.2 s.k with
  | false => rw [h3] at hk'; exact h0 f args h v h' hk' ρ w vs hr hvs
  | true =>
  rw [h3] at hk'
  cases hk'
  have e1 := beq_eq h1
  subst e1
  have e2 := listEqb_eq (fun _ _ => AV.eqb_eq) h2
  subst e2
  exact hs.run hr (ble_le h3) (F2.plain hp hvs)
end Eng
end
