/- The engine, part 5: regions in any order, code, calls and summaries: what the evaluator answers the program does. No conditions beside those in its theorems. -/
import Derived.Test.YtikjmnimdlcehaaGreatE4
import Derived.Orders
import Derived.RangeFuncNested
import Derived.KernelRfl
import Derived.RowKit3
set_option linter.unusedVariables false
noncomputable section
namespace Eng
open Go

theorem listEqb_eq {α : Type} {f : α → α → Bool} (hf : ∀ a b, f a b = true → a = b) : ∀ {l m : List α}, listEqb f l m = true → l = m := by
  intro l
  induction l with
  | nil => intro m h; cases m with | nil => rfl | cons => cases h
  | cons a l ih =>
    intro m h
    cases m with
    | nil => cases h
    | cons b m =>
      have h' : @Bool.rec (fun _ => Bool) false (listEqb f l m) (f a b) = true := h
      cases hb : f a b with
      | false => rw [hb] at h'; cases h'
      | true => rw [hb] at h'; rw [hf a b hb, ih h']
theorem A.eqb_eq {a b : A} (h : a.eqb b = true) : a = b := by
  cases a <;> cases b <;> simp only [A.eqb, Bool.and_eq_true] at h <;> first
    | rfl
    | cases h; done
    | (rw [boolEqb_eq] at h; rw [eq_of_beq h])
    | (rw [kindNo_inj h.1]; have := h.2; rw [intEqb_eq] at this; rw [eq_of_beq this])
    | (rw [kindNo_inj h.1, Eng.eqb_eq h.2])
    | (rw [beq_eq h.1.1.1, beq_eq h.1.1.2, beq_eq h.1.2, beq_eq h.2])
    | (rw [beq_eq h.1.1, beq_eq h.1.2, Eng.eqb_eq h.2])
    | (rw [beq_eq h.1, beq_eq h.2])
    | (rw [beq_eq h])
    | (rw [beq_eq h.1, listEqb_eq (fun _ _ => beq_eq) h.2])
theorem V.eqb_eq {a b : V} (h : a.eqb b = true) : a = b := by
  cases a <;> cases b <;> first
    | (cases h; done)
    | (rw [A.eqb_eq h])
    | (rw [listEqb_eq (fun _ _ => A.eqb_eq) h])
theorem AV.eqb_eq {a b : AV} (h : a.eqb b = true) : a = b := by
  cases a <;> cases b <;> first
    | (cases h; done)
    | (rw [A.eqb_eq h])
    | (rw [listEqb_eq (fun _ _ => A.eqb_eq) h])
    | (rw [listEqb_eq (fun _ _ => V.eqb_eq) h])
end Eng
end

noncomputable section
namespace Eng
open Go
variable {C : Cfg} {nl : Nat} {o : Oper}

theorem cls_p (h : clsOp o.op = .p) : PureL C nl o (runOp (cOp C nl o.op)) := by
  cases ho : o.op <;> rw [ho] at h <;> first | (cases h; done) | skip
  case move x => exact mov_pure (.inl ho)
  case assign x => exact mov_pure (.inr ho)
  case pick c a b => exact pick_pure ho
  case build t ps => exact build_pure ho
  case nilCheck x => exact nil_pure ho
  case unOp op t x => exact un_pure ho
  case convert src dst x =>
    show PureL C nl o (runOp (tyK C src (.n0 opBad) _))
    cases hs : C.ty src with
    | none => rw [tyK_none hs]; exact bad_pure
    | some ts =>
      rw [tyK_some hs]
      cases hd : C.ty dst with
      | none => rw [tyK_none hd]; exact bad_pure
      | some td =>
        rw [tyK_some hd]
        split
        · exact conv_pure ho hs hd (by assumption)
        · exact bad_pure
  case makeFunc fn first caps =>
    cases fn with
    | func f =>
      obtain ⟨l⟩ := first
      cases l with
      | nil => exact makeFunc_pure ho
      | cons y l => exact bad_pure
    | _ => exact bad_pure
  case fieldAddr s x f => exact fld_pure ho
  case field s x f => exact field_pure ho
  case indexAddr t x i => exact idxAddr_pure ho
  case index t x i => exact index_pure ho
  case extract x i => exact extract_pure ho
theorem cls_r (h : clsOp o.op = .r) : ReadL C nl o (runOp (cOp C nl o.op)) := by
  cases ho : o.op <;> rw [ho] at h <;> first | (cases h; done) | skip
  case binOp op t x y t' => exact bin_ok ho
  case load t a => exact load_read ho
  case lookup t x q ok => exact lookup_read ho
  case slice t x lo hi mx => exact slice_read ho
  case entry it => exact entry_read ho
theorem cls_a (h : clsOp o.op = .a) : AllocL C nl o (runOp (cOp C nl o.op)) := by
  cases ho : o.op <;> rw [ho] at h <;> first | (cases h; done) | skip
  case alloc t => exact alloc_alloc ho
  case box t x => exact box_alloc ho
  case buildSlice t ln ps => exact buildSlice_alloc ho
  case makeSlice t l c => exact makeSlice_alloc ho
end Eng
end

noncomputable section
namespace Eng
open Go
variable {ρ ρ' : Rho} {σ : Sig} {C : Cfg} {P : Program} {nl nt : Nat}

/- heap lemmas: reserved numbers -/
theorem Rel.addNone {h : H} {w : World} (hr : Rel ρ σ C h w) {id : Nat} (hid : ρ id = none) (x : Blk) : Rel ρ σ C (h.put id x) w where
  lt := hr.lt
  blk := by
    intro b r S hb
    obtain ⟨o, ho, hx⟩ := hr.blk b r S hb
    refine ⟨o, ho, ?_⟩
    intro y hy
    rcases H.get_put hy with ⟨e, _⟩ | ⟨_, e⟩
    · subst e; rw [hid] at hb; cases hb
    · exact hx y e
  inj := by
    intro b b' r S1 S2 hb hb' ⟨y, hy, hyd⟩ ⟨y', hy', hyd'⟩
    have n1 : b ≠ id := by intro e; subst e; rw [hid] at hb; cases hb
    have n2 : b' ≠ id := by intro e; subst e; rw [hid] at hb'; cases hb'
    have gy : h.get b = some y := by rcases H.get_put hy with ⟨e, _⟩ | ⟨_, e⟩; exact absurd e n1; exact e
    have gy' : h.get b' = some y' := by rcases H.get_put hy' with ⟨e, _⟩ | ⟨_, e⟩; exact absurd e n2; exact e
    rcases hr.inj b b' r S1 S2 hb hb' ⟨y, gy, hyd⟩ ⟨y', gy', hyd'⟩ with h1 | ⟨c, n, f, h1⟩
    · exact .inl h1
    · right
      rw [gy] at h1
      exact ⟨c, n, f, hy.trans h1⟩
theorem Rel.addOne {h : H} {w : World} (hr : Rel ρ σ C h w) {id r S : Nat} {x : Blk} {o : Obj} (hid : ρ id = some (r, S)) (ho : w.heap[r]? = some o) (hx : BR ρ σ C x o S)
    (hone : ∀ b S', ρ b = some (r, S') → b = id) : Rel ρ σ C (h.put id x) w where
  lt := hr.lt
  blk := by
    intro b r' S' hb
    obtain ⟨o', ho', hx'⟩ := hr.blk b r' S' hb
    by_cases e : b = id
    · subst e
      rw [hid] at hb; cases hb
      refine ⟨o, ho, ?_⟩
      intro y hy
      rcases H.get_put hy with ⟨_, e2⟩ | ⟨e2, _⟩
      · subst e2; exact hx
      · exact absurd rfl e2
    · refine ⟨o', ho', ?_⟩
      intro y hy
      rcases H.get_put hy with ⟨e2, _⟩ | ⟨_, e2⟩
      · exact absurd e2 e
      · exact hx' y e2
  inj := by
    intro b b' r' S1 S2 hb hb' ⟨y, hy, hyd⟩ ⟨y', hy', hyd'⟩
    by_cases n1 : b = id
    · subst n1
      rw [hid] at hb; cases hb
      exact .inl (hone b' S2 hb').symm
    · by_cases n2 : b' = id
      · subst n2
        rw [hid] at hb'; cases hb'
        exact .inl (hone b S1 hb)
      · have gy : h.get b = some y := by rcases H.get_put hy with ⟨e, _⟩ | ⟨_, e⟩; exact absurd e n1; exact e
        have gy' : h.get b' = some y' := by rcases H.get_put hy' with ⟨e, _⟩ | ⟨_, e⟩; exact absurd e n2; exact e
        rcases hr.inj b b' r' S1 S2 hb hb' ⟨y, gy, hyd⟩ ⟨y', gy', hyd'⟩ with h1 | ⟨c, n, f, h1⟩
        · exact .inl h1
        · right
          rw [gy] at h1
          exact ⟨c, n, f, hy.trans h1⟩
theorem Ext.put_new {ρ0 : Rho} {h0 h : H} {w0 w : World} (e : Ext ρ0 ρ h0 h w0 w) {id : Nat} (hid : h0.next ≤ id) (x : Blk) : Ext ρ0 ρ h0 (h.put id x) w0 w where
  next := e.next
  old := e.old
  new := e.new
  size := e.size
  live := by
    intro b hb ⟨y, hy, hyd⟩
    rcases H.get_put hy with ⟨e2, _⟩ | ⟨_, e2⟩
    · omega
    · exact e.live b hb ⟨y, e2, hyd⟩
  frame := e.frame
  os := e.os
  tape := e.tape
  output := e.output
  fz := e.fz
/-- an object was made; all others are as they were -/
structure Pushed (w w' : World) (r : Nat) (o : Obj) : Prop where
  ge : w.heap.size ≤ r
  get : w'.heap[r]? = some o
  same : ∀ x, x < w.heap.size → w'.heap[x]? = w.heap[x]?
  size : w.heap.size ≤ w'.heap.size
  os : w'.os = w.os
  tape : w'.tape = w.tape
  output : w'.output = w.output
  fz : ∀ a, w'.frozen? a = w.frozen? a
theorem Pushed.push (w : World) {o : Obj} (hz : noFrz o) : Pushed w (Eng.push w o) w.heap.size o where
  ge := Nat.le_refl _
  get := push_get_new w o
  same := fun _ hx => push_get_lt w o hx
  size := by show _ ≤ (w.heap.push o).size; simp
  os := rfl
  tape := rfl
  output := rfl
  fz := frozen_push w hz
/-- an object is made early: its number is mapped, its block may not stand yet -/
theorem Rel.reserve {h : H} {w w' : World} (hr : Rel ρ σ C h w) {id S r0 : Nat} {o : Obj} (hp : Pushed w w' r0 o) (hid : ρ id = none) (hlt : id < h.next) (hx : ∀ x, h.get id = some x → BR (upd ρ id (r0, S)) σ C x o S) :
    Rel (upd ρ id (r0, S)) σ C h w' := by
  have hsub : Sub ρ (upd ρ id (r0, S)) := by
    intro b y hb
    rw [upd_ne ρ _ (by intro e; subst e; rw [hid] at hb; cases hb)]
    exact hb
  have hge := hp.ge
  refine ⟨?_, ?_, ?_⟩
  · intro b r S' hb
    by_cases e : b = id
    · subst e; exact hlt
    · rw [upd_ne ρ _ e] at hb; exact hr.lt b r S' hb
  · intro b r S' hb
    by_cases e : b = id
    · subst e
      rw [upd_self] at hb
      cases hb
      exact ⟨o, hp.get, hx⟩
    · rw [upd_ne ρ _ e] at hb
      obtain ⟨o', ho, hy⟩ := hr.blk b r S' hb
      exact ⟨o', by rw [hp.same _ (hr.lt_size hb)]; exact ho, fun y hg => (hy y hg).mono hsub⟩
  · intro b b' r S1 S2 hb hb' hl hl'
    by_cases e : b = id
    · by_cases e' : b' = id
      · exact .inl (e.trans e'.symm)
      · subst e
        rw [upd_self] at hb; rw [upd_ne ρ _ e'] at hb'
        cases hb
        have := hr.lt_size hb'
        omega
    · by_cases e' : b' = id
      · subst e'
        rw [upd_self] at hb'; rw [upd_ne ρ _ e] at hb
        cases hb'
        have := hr.lt_size hb
        omega
      · rw [upd_ne ρ _ e] at hb; rw [upd_ne ρ _ e'] at hb'
        exact hr.inj b b' r S1 S2 hb hb' hl hl'
theorem sub_reserve {id : Nat} (hid : ρ id = none) (x : Nat × Nat) : Sub ρ (upd ρ id x) := by
  intro b y hb
  rw [upd_ne ρ _ (by intro e; subst e; rw [hid] at hb; cases hb)]
  exact hb
theorem Ext.reserve {ρ0 : Rho} {h0 h : H} {w0 w w' : World} (e : Ext ρ0 ρ h0 h w0 w) {id S r0 : Nat} {o : Obj} (hid : h0.next ≤ id) (hp : Pushed w w' r0 o) :
    Ext ρ0 (upd ρ id (r0, S)) h0 h w0 w' where
  next := e.next
  old := fun b hb => by rw [upd_ne ρ _ (by omega)]; exact e.old b hb
  new := by
    intro b r S' hb he
    by_cases e2 : b = id
    · subst e2; rw [upd_self] at he; cases he; exact .inl (Nat.le_trans e.size hp.ge)
    · rw [upd_ne ρ _ e2] at he; exact e.new b r S' hb he
  size := Nat.le_trans e.size hp.size
  live := e.live
  frame := fun r hr hn => by rw [hp.same _ (Nat.lt_of_lt_of_le hr e.size)]; exact e.frame r hr hn
  os := hp.os.trans e.os
  tape := hp.tape.trans e.tape
  output := hp.output.trans e.output
  fz := fun a => (hp.fz a).trans (e.fz a)

/- the plan of a drawn region -/
inductive Kd where
  | r
  | a (id : Nat) (blk : Blk)
  | e
structure Row where
  pt : T AV
  tl : TL
  h : H
  v : AV
  k : Kd
def Row.look (nl : Nat) (R : Row) (t : Nat) : Option AV := (odTmp nl t).val R.pt R.tl
def TmpR (ρ : Rho) (σ : Sig) (a : Act) (t : Nat) (u : AV) : Prop := ∃ v', a.tmps[t]? = some v' ∧ AVR ρ σ u v'
def DstAt (ops : Array Oper) (i t : Nat) : Prop := ∃ o, ops[i]? = some o ∧ o.dst = some t
def Looks (ops : Array Oper) (i t : Nat) : Prop := ∃ o, ops[i]? = some o ∧ t ∈ o.looksAt ops
def Env (ops : Array Oper) (ρ : Rho) (σ : Sig) (nt nl : Nat) (j : Nat) (R : Row) (a : Act) : Prop :=
  nt ≤ a.tmps.size ∧ ∀ t, Looks ops j t → ∀ u, R.look nl t = some u → TmpR ρ σ a t u
def StepsOp (P : Program) (ops : Array Oper) (j : Nat) (b : Frame) (a : Act) (w : World) (v : Value) (w' : World) : Prop :=
  ∀ rest k cs, Steps P (lone (b.atR a (.inRegion ops (j :: rest) :: k)) cs w) (lone (b.atR (a.put ((ops[j]?).bind (·.dst)) v) (.inRegion ops rest :: k)) cs w')
section
variable (C : Cfg) (P : Program) (σ : Sig) (nt nl : Nat) (ops : Array Oper)
def RFact (j : Nat) (R : Row) (h : H) : Prop :=
  ∀ ρ w a b, Rel ρ σ C h w → Env ops ρ σ nt nl j R a → ∃ v', StepsOp P ops j b a w v' w ∧ AVR ρ σ R.v v'
def AFact (j : Nat) (R : Row) (id : Nat) (blk : Blk) : Prop :=
  ∀ ρ w a b h, Rel ρ σ C h w → ρ id = none → Env ops ρ σ nt nl j R a → ∃ w' r obj v' S, StepsOp P ops j b a w v' w' ∧ Pushed w w' r obj ∧ BR (upd ρ id (r, S)) σ C blk obj S ∧ AVR (upd ρ id (r, S)) σ R.v v'
def EFact (j : Nat) (R : Row) (h' : H) : Prop :=
  ∀ ρ w a b, Rel ρ σ C R.h w → Env ops ρ σ nt nl j R a → ∃ v' w' ρ', StepsOp P ops j b a w v' w' ∧ AVR ρ' σ R.v v' ∧ Rel ρ' σ C h' w' ∧ Ext ρ ρ' R.h h' w w'
structure Plan (row : Nat → Row) (bef : Nat → Nat → Prop) (base : Nat) : Prop where
  fwd : ∀ j o, ops[j]? = some o → ∀ e ∈ o.after, Region.binds .any e = true → e.on < j
  clo : ∀ j i, bef j i → ∃ o, ops[j]? = some o ∧ ∃ e ∈ o.after, Region.binds .any e = true ∧ (e.on = i ∨ bef e.on i)
  dstlt : ∀ j t, DstAt ops j t → t < nt
  nam : ∀ i j t, i < j → j < ops.size → (DstAt ops i t ∧ (DstAt ops j t ∨ Looks ops j t)) → bef j i
  nam' : ∀ i j t, i < j → j < ops.size → DstAt ops j t → Looks ops i t → bef j i
  put : ∀ j, j < ops.size → ∀ t u, (row (j + 1)).look nl t = some u → (DstAt ops j t ∧ u = (row j).v) ∨ (¬ DstAt ops j t ∧ (row j).look nl t = some u)
  chain : ∀ i j, i < j → j < ops.size → (row i).k = .e → (row j).k = .e → bef j i
  alloc : ∀ i j, i < j → j < ops.size → ∀ id blk, (row i).k = .a id blk → (row j).k = .e → bef j i
  kindR : ∀ j, j < ops.size → (row j).k = .r → (row (j + 1)).h = (row j).h ∧
    ∀ p, p ≤ ops.size → (p = ops.size ∨ (row p).k = .e) → (∀ i, i < ops.size → (row i).k = .e → bef j i → i < p) → (∀ i, i < p → (row i).k = .e → ¬ bef i j) → RFact C P σ nt nl ops j (row j) (row p).h
  kindA : ∀ j, j < ops.size → ∀ id blk, (row j).k = .a id blk → (row (j + 1)).h = (row j).h.put id blk ∧ base ≤ id ∧ id < (row 0).h.next ∧ AFact C P σ nt nl ops j (row j) id blk
  kindE : ∀ j, j < ops.size → (row j).k = .e → EFact C P σ nt nl ops j (row j) (row (j + 1)).h
  ids : ∀ i j, i < j → j < ops.size → ∀ id blk id' blk', (row i).k = .a id blk → (row j).k = .a id' blk' → id ≠ id'
  dead0 : ∀ id, base ≤ id → id < (row 0).h.next → ¬ Live (row 0).h id
end
section
variable {ops : Array Oper} {row : Nat → Row} {bef : Nat → Nat → Prop} {base : Nat} {ρ0 : Rho} {h0 : H} {w0 : World} {a0 : Act} {D : Nat → Prop} {p : Nat} {a : Act} {w : World}
/-- the heap's part of the invariant, at place i of the plan -/
structure HI (C : Cfg) (σ : Sig) (n : Nat) (row : Nat → Row) (ρ0 : Rho) (h0 : H) (w0 : World) (D : Nat → Prop) (i : Nat) (ρ : Rho) (w : World) : Prop where
  rel : Rel ρ σ C (row i).h w
  ext : Ext ρ0 ρ h0 (row i).h w0 w
  al0 : ∀ j, j < n → ∀ id blk, (row j).k = .a id blk → ¬ D j → ρ id = none
  al1 : ∀ j, j < n → i ≤ j → ∀ id blk, (row j).k = .a id blk → D j → ∃ r S obj, ρ id = some (r, S) ∧ w.heap[r]? = some obj ∧ BR ρ σ C blk obj S ∧ ∀ b S', ρ b = some (r, S') → b = id
  al2 : ∀ j, j < n → i ≤ j → ∀ id blk, (row j).k = .a id blk → ¬ Live (row i).h id
  al3 : (row 0).h.next ≤ (row i).h.next
theorem HI.next (pl : Plan C P σ nt nl ops row bef base) (hb : h0.next ≤ base) {i : Nat} (hi : i < ops.size) (hk : (row i).k ≠ .e) (x : HI C σ ops.size row ρ0 h0 w0 D i ρ w) : HI C σ ops.size row ρ0 h0 w0 D (i + 1) ρ w := by
  cases hk0 : (row i).k with
  | e => exact absurd hk0 hk
  | r =>
    have e := (pl.kindR i hi hk0).1
    exact ⟨by rw [e]; exact x.rel, by rw [e]; exact x.ext, x.al0, fun j hj hle => x.al1 j hj (by omega), fun j hj hle id blk h => by rw [e]; exact x.al2 j hj (by omega) id blk h, by rw [e]; exact x.al3⟩
  | a id blk =>
    obtain ⟨e, h1, h2, _⟩ := pl.kindA i hi id blk hk0
    refine ⟨?_, ?_, x.al0, fun j hj hle => x.al1 j hj (by omega), ?_, ?_⟩
    · rw [e]
      by_cases hd : D i
      · obtain ⟨r, S, obj, g1, g2, g3, g4⟩ := x.al1 i hi (Nat.le_refl _) id blk hk0 hd
        exact x.rel.addOne g1 g2 g3 g4
      · exact x.rel.addNone (x.al0 i hi id blk hk0 hd) blk
    · rw [e]; exact x.ext.put_new (Nat.le_trans hb h1) blk
    · intro j hj hle id' blk' h ⟨y, hy, hyd⟩
      rw [e] at hy
      rcases H.get_put hy with ⟨e2, _⟩ | ⟨_, e2⟩
      · exact pl.ids i j (by omega) hj id blk id' blk' hk0 h e2.symm
      · exact x.al2 j hj (by omega) id' blk' h ⟨y, e2, hyd⟩
    · rw [e]; exact x.al3
theorem HI.adv (pl : Plan C P σ nt nl ops row bef base) (hb : h0.next ≤ base) {i : Nat} (x : HI C σ ops.size row ρ0 h0 w0 D i ρ w) : ∀ q, i ≤ q → q ≤ ops.size → (∀ m, i ≤ m → m < q → (row m).k ≠ .e) → HI C σ ops.size row ρ0 h0 w0 D q ρ w := by
  intro q
  induction q with
  | zero => intro h1 _ _; have : i = 0 := by omega
            subst this; exact x
  | succ q ih =>
    intro h1 h2 h3
    rcases Nat.lt_or_ge i (q + 1) with h4 | h4
    · exact HI.next pl hb (by omega) (h3 q (by omega) (by omega)) (ih (by omega) (by omega) fun m m1 m2 => h3 m m1 (by omega))
    · have : i = q + 1 := by omega
      subst this; exact x
theorem next_stage (row : Nat → Row) (n : Nat) : ∀ d i, i + d = n → ∃ q, i ≤ q ∧ q ≤ n ∧ (q = n ∨ (row q).k = .e) ∧ ∀ m, i ≤ m → m < q → (row m).k ≠ .e := by
  intro d
  induction d with
  | zero => intro i h; exact ⟨i, Nat.le_refl _, by omega, .inl (by omega), fun m _ _ => by omega⟩
  | succ d ih =>
    intro i h
    by_cases he : (row i).k = .e
    · exact ⟨i, Nat.le_refl _, by omega, .inr he, fun m _ _ => by omega⟩
    · obtain ⟨q, h1, h2, h3, h4⟩ := ih (i + 1) (by omega)
      refine ⟨q, by omega, h2, h3, ?_⟩
      intro m m1 m2
      by_cases e : m = i
      · subst e; exact he
      · exact h4 m (by omega) m2
/-- the temporaries' part -/
structure TmpI (ops : Array Oper) (nt nl : Nat) (row : Nat → Row) (ρ : Rho) (σ : Sig) (D : Nat → Prop) (a : Act) : Prop where
  size : nt ≤ a.tmps.size
  tmp0 : ∀ t u, (∀ i, D i → ¬ DstAt ops i t) → (row 0).look nl t = some u → TmpR ρ σ a t u
  tmp1 : ∀ i t, D i → DstAt ops i t → (∀ k, D k → i < k → ¬ DstAt ops k t) → TmpR ρ σ a t (row i).v
theorem TmpR.mono (hs : Sub ρ ρ') {t : Nat} {u : AV} (h : TmpR ρ σ a t u) : TmpR ρ' σ a t u := by
  obtain ⟨v, h1, h2⟩ := h; exact ⟨v, h1, h2.mono hs⟩
theorem TmpI.look (pl : Plan C P σ nt nl ops row bef base) (x : TmpI ops nt nl row ρ σ D a) {t : Nat} : ∀ q, q ≤ ops.size → (∀ i, i < q → DstAt ops i t → D i) → (∀ k, D k → q ≤ k → ¬ DstAt ops k t) → ∀ u, (row q).look nl t = some u → TmpR ρ σ a t u := by
  intro q
  induction q with
  | zero => intro _ _ h2 u hu; exact x.tmp0 t u (fun i hi => h2 i hi (Nat.zero_le _)) hu
  | succ q ih =>
    intro hq h1 h2 u hu
    rcases pl.put q (by omega) t u hu with ⟨e1, e2⟩ | ⟨e1, e2⟩
    · subst e2
      exact x.tmp1 q t (h1 q (by omega) e1) e1 fun k hk hlt => h2 k hk hlt
    · refine ih (by omega) (fun i hi => h1 i (by omega)) ?_ u e2
      intro k hk hle
      by_cases e : k = q
      · subst e; exact e1
      · exact h2 k hk (by omega)
theorem put_get {d : Option Tmp} {v : Value} {t : Nat} {a : Act} : (d = some t → t < a.tmps.size → (a.put d v).tmps[t]? = some v) ∧ (d ≠ some t → (a.put d v).tmps[t]? = a.tmps[t]?) := by
  cases d with
  | none => exact ⟨(fun h => nomatch h), fun _ => rfl⟩
  | some d =>
    refine ⟨?_, ?_⟩
    · intro e hlt; cases e; simp [Act.put, hlt]
    · intro e
      have : d ≠ t := fun h => e (by rw [h])
      simp only [Act.put]
      rw [Array.getElem?_setIfInBounds_ne this]
theorem put_size (d : Option Tmp) (v : Value) : (a.put d v).tmps.size = a.tmps.size := by cases d <;> simp [Act.put]
theorem put_defers (d : Option Tmp) (v : Value) : (a.put d v).defers = a.defers := by cases d <;> rfl
theorem dst_bind {j t : Nat} : (ops[j]?).bind (·.dst) = some t ↔ DstAt ops j t := by
  unfold DstAt
  cases ops[j]? with
  | none => simp
  | some o => simp
theorem TmpI.next (pl : Plan C P σ nt nl ops row bef base) (x : TmpI ops nt nl row ρ σ D a) (hcl : ∀ i k, D i → bef i k → D k) (hlt : ∀ i, D i → i < ops.size) {j : Nat} (hj : j < ops.size) (hbef : ∀ k, bef j k → D k) (hnj : ¬ D j) (hs : Sub ρ ρ') {v : Value} (hv : AVR ρ' σ (row j).v v) :
    TmpI ops nt nl row ρ' σ (fun i => i = j ∨ D i) (a.put ((ops[j]?).bind (·.dst)) v) := by
  refine ⟨by rw [put_size]; exact x.size, ?_, ?_⟩
  · intro t u hn hu
    obtain ⟨v', h1, h2⟩ := x.tmp0 t u (fun i hi => hn i (.inr hi)) hu
    have : (ops[j]?).bind (·.dst) ≠ some t := fun e => hn j (.inl rfl) (dst_bind.1 e)
    exact ⟨v', by rw [put_get.2 this]; exact h1, h2.mono hs⟩
  · intro i t hi hd hlast
    rcases hi with e | hi
    · subst e
      have hlt := pl.dstlt i t hd
      exact ⟨v, put_get.1 (dst_bind.2 hd) (Nat.lt_of_lt_of_le hlt x.size), hv⟩
    · have hne : i ≠ j := fun e => hnj (e ▸ hi)
      have hjt : ¬ DstAt ops j t := by
        intro hjt
        rcases Nat.lt_or_ge i j with h1 | h1
        · exact hlast j (.inl rfl) h1 hjt
        · exact hnj (hcl i j hi (pl.nam j i t (by omega) (hlt i hi) ⟨hjt, .inl hd⟩))
      obtain ⟨v', h1, h2⟩ := x.tmp1 i t hi hd fun k hk hik => hlast k (.inr hk) hik
      exact ⟨v', by rw [put_get.2 (fun e => hjt (dst_bind.1 e))]; exact h1, h2.mono hs⟩
/-- all of it -/
structure DInv (C : Cfg) (σ : Sig) (nt nl : Nat) (ops : Array Oper) (row : Nat → Row) (bef : Nat → Nat → Prop) (ρ0 : Rho) (h0 : H) (w0 : World) (a0 : Act) (D : Nat → Prop) (p : Nat) (ρ : Rho) (a : Act) (w : World) : Prop where
  ple : p ≤ ops.size
  stage : p = ops.size ∨ (row p).k = .e
  done : ∀ i, i < ops.size → (row i).k = .e → (D i ↔ i < p)
  lt : ∀ i, D i → i < ops.size
  closed : ∀ i k, D i → bef i k → D k
  defers : a.defers = a0.defers
  hi : HI C σ ops.size row ρ0 h0 w0 D p ρ w
  ti : TmpI ops nt nl row ρ σ D a
theorem DInv.env (pl : Plan C P σ nt nl ops row bef base) (x : DInv C σ nt nl ops row bef ρ0 h0 w0 a0 D p ρ a w) {j : Nat} (hj : j < ops.size) (hnj : ¬ D j) (hbef : ∀ k, bef j k → D k) : Env ops ρ σ nt nl j (row j) a := by
  refine ⟨x.ti.size, ?_⟩
  intro t ht u hu
  refine x.ti.look pl j (by omega) ?_ ?_ u hu
  · intro i hi hd; exact hbef i (pl.nam i j t hi hj ⟨hd, .inr ht⟩)
  · intro k hk hle hd
    have hne : k ≠ j := fun e => hnj (e ▸ hk)
    exact hnj (x.closed k j hk (pl.nam' j k t (by omega) (x.lt k hk) hd ht))
/-- blocks that were put since stay -/
theorem Plan.stays (pl : Plan C P σ nt nl ops row bef base) {j : Nat} (hj : j < ops.size) {id : Nat} {blk : Blk} (hk : (row j).k = .a id blk) : ∀ q, j < q → q ≤ ops.size → (∀ m, j < m → m < q → (row m).k ≠ .e) → ∀ x, (row q).h.get id = some x → x = blk := by
  intro q
  induction q with
  | zero => intro h; omega
  | succ q ih =>
    intro h1 h2 h3 x hx
    by_cases e : j = q
    · subst e
      rw [(pl.kindA j hj id blk hk).1] at hx
      rcases H.get_put hx with ⟨_, e2⟩ | ⟨e2, _⟩
      · exact e2
      · exact absurd rfl e2
    · have ih' := ih (by omega) (by omega) (fun m m1 m2 => h3 m m1 (by omega))
      cases hq : (row q).k with
      | e => exact absurd hq (h3 q (by omega) (by omega))
      | r => rw [(pl.kindR q (by omega) hq).1] at hx; exact ih' x hx
      | a id' blk' =>
        rw [(pl.kindA q (by omega) id' blk' hq).1] at hx
        rcases H.get_put hx with ⟨e2, _⟩ | ⟨_, e2⟩
        · exact absurd e2 (pl.ids j q (by omega) (by omega) id blk id' blk' hk hq)
        · exact ih' x e2
theorem DInv.step (pl : Plan C P σ nt nl ops row bef base) (hb : h0.next ≤ base) (hr0 : Rel ρ0 σ C h0 w0) (x : DInv C σ nt nl ops row bef ρ0 h0 w0 a0 D p ρ a w) {j : Nat} (hj : j < ops.size) (hnj : ¬ D j) (hbef : ∀ k, bef j k → D k) (b : Frame) :
    ∃ p' ρ' v' w', StepsOp P ops j b a w v' w' ∧ DInv C σ nt nl ops row bef ρ0 h0 w0 a0 (fun i => i = j ∨ D i) p' ρ' (a.put ((ops[j]?).bind (·.dst)) v') w' := by
  have henv := x.env pl hj hnj hbef
  have hcl : ∀ i k, (i = j ∨ D i) → bef i k → (k = j ∨ D k) := by
    intro i k hi hk
    rcases hi with e | hi
    · subst e; exact .inr (hbef k hk)
    · exact .inr (x.closed i k hi hk)
  have hlt : ∀ i, (i = j ∨ D i) → i < ops.size := by
    intro i hi
    rcases hi with e | hi
    · subst e; exact hj
    · exact x.lt i hi
  cases hk : (row j).k with
  | r =>
    obtain ⟨_, hf⟩ := pl.kindR j hj hk
    have hfact := hf p x.ple x.stage (fun i hi he hbi => (x.done i hi he).1 (hbef i hbi))
      (fun i hi he hbi => hnj (x.closed i j ((x.done i (by have := x.ple; omega) he).2 hi) hbi))
    obtain ⟨v', hs, hv⟩ := hfact ρ w a b x.hi.rel henv
    refine ⟨p, ρ, v', w, hs, x.ple, x.stage, ?_, hlt, hcl, by rw [put_defers]; exact x.defers, ?_, x.ti.next pl x.closed x.lt hj hbef hnj (Sub.refl ρ) hv⟩
    · intro i hi he
      constructor
      · rintro (e | hd)
        · subst e; rw [hk] at he; cases he
        · exact (x.done i hi he).1 hd
      · intro h; exact .inr ((x.done i hi he).2 h)
    · refine ⟨x.hi.rel, x.hi.ext, fun i hi id blk h hn => x.hi.al0 i hi id blk h (fun hd => hn (.inr hd)), ?_, x.hi.al2, x.hi.al3⟩
      intro i hi hle id blk h hd
      rcases hd with e | hd
      · subst e; rw [hk] at h; cases h
      · exact x.hi.al1 i hi hle id blk h hd
  | a id blk =>
    obtain ⟨_, h1, h2, hfact⟩ := pl.kindA j hj id blk hk
    have hid := x.hi.al0 j hj id blk hk hnj
    obtain ⟨w', r0, obj, v', S, hs, hpu, hbr, hv⟩ := hfact ρ w a b _ x.hi.rel hid henv
    have hge := hpu.ge
    have hsub := sub_reserve hid (r0, S)
    have hself := upd_self ρ id (r0, S)
    have hnoE : j < p → ∀ m, j < m → m < p → (row m).k ≠ .e := by
      intro _ m m1 m2 he
      have hmn : m < ops.size := by have := x.ple; omega
      exact hnj (x.closed m j ((x.done m hmn he).2 m2) (pl.alloc j m m1 hmn id blk hk he))
    have hblk : ∀ y, (row p).h.get id = some y → BR (upd ρ id (r0, S)) σ C y obj S := by
      intro y hy
      rcases Nat.lt_or_ge j p with h3 | h3
      · rw [pl.stays hj hk p h3 x.ple (hnoE h3) y hy]; exact hbr
      · by_cases hd : y = .dead
        · subst hd; trivial
        · exact absurd ⟨y, hy, hd⟩ (x.hi.al2 j hj h3 id blk hk)
    refine ⟨p, upd ρ id (r0, S), v', w', hs, x.ple, x.stage, ?_, hlt, hcl, by rw [put_defers]; exact x.defers, ?_, x.ti.next pl x.closed x.lt hj hbef hnj hsub hv⟩
    · intro i hi he
      constructor
      · rintro (e | hd)
        · subst e; rw [hk] at he; cases he
        · exact (x.done i hi he).1 hd
      · intro h; exact .inr ((x.done i hi he).2 h)
    · refine ⟨x.hi.rel.reserve hpu hid (Nat.lt_of_lt_of_le h2 x.hi.al3) hblk, x.hi.ext.reserve (Nat.le_trans hb h1) hpu, ?_, ?_, x.hi.al2, x.hi.al3⟩
      · intro i hi id' blk' h hn
        have hne : id' ≠ id := by
          intro e
          have hij : i ≠ j := fun e2 => hn (.inl e2)
          rcases Nat.lt_or_ge i j with h3 | h3
          · exact pl.ids i j h3 hj id' blk' id blk h hk e
          · exact pl.ids j i (by omega) hi id blk id' blk' hk h e.symm
        rw [upd_ne ρ _ hne]
        exact x.hi.al0 i hi id' blk' h (fun hd => hn (.inr hd))
      · intro i hi hle id' blk' h hd
        by_cases e : i = j
        · subst e
          rw [hk] at h; cases h
          refine ⟨r0, S, obj, hself, hpu.get, hbr, ?_⟩
          intro b' S' hb'
          by_cases e2 : b' = id
          · exact e2
          · rw [upd_ne ρ _ e2] at hb'
            have := x.hi.rel.lt_size hb'
            omega
        · have hd' : D i := by rcases hd with e2 | hd; exact absurd e2 e; exact hd
          obtain ⟨r, S', ob, g1, g2, g3, g4⟩ := x.hi.al1 i hi hle id' blk' h hd'
          have hr := x.hi.rel.lt_size g1
          refine ⟨r, S', ob, hsub _ _ g1, by rw [hpu.same _ hr]; exact g2, g3.mono hsub, ?_⟩
          intro b' S'' hb'
          by_cases e2 : b' = id
          · subst e2
            rw [upd_self] at hb'
            cases hb'
            omega
          · rw [upd_ne ρ _ e2] at hb'
            exact g4 b' S'' hb'
  | e =>
    have hpj : p ≤ j := by
      rcases Nat.lt_or_ge j p with h | h
      · exact absurd ((x.done j hj hk).2 h) hnj
      · exact h
    have hj' : p = j := by
      rcases x.stage with e | he
      · omega
      · by_cases e : p = j
        · exact e
        · have hd := hbef p (pl.chain p j (by omega) hj he hk)
          have := (x.done p (by omega) he).1 hd
          omega
    subst hj'
    obtain ⟨v', w', ρ', hs, hv, hr', he'⟩ := pl.kindE p hj hk ρ w a b x.hi.rel henv
    have hsub := he'.sub x.hi.rel
    -- behind the effect
    have base1 : HI C σ ops.size row ρ0 h0 w0 (fun i => i = p ∨ D i) (p + 1) ρ' w' := by
      refine ⟨hr', x.hi.ext.trans hr0 x.hi.rel he', ?_, ?_, ?_, Nat.le_trans x.hi.al3 he'.next⟩
      · intro i hi id blk h hn
        have h1 := (pl.kindA i hi id blk h).2.2.1
        rw [he'.old id (Nat.lt_of_lt_of_le h1 x.hi.al3)]
        exact x.hi.al0 i hi id blk h (fun hd => hn (.inr hd))
      · intro i hi hle id blk h hd
        have hd' : D i := by rcases hd with e2 | hd; omega; exact hd
        obtain ⟨r, S, ob, g1, g2, g3, g4⟩ := x.hi.al1 i hi (by omega) id blk h hd'
        have hdead := x.hi.al2 i hi (by omega) id blk h
        have hrlt := x.hi.rel.lt_size g1
        refine ⟨r, S, ob, hsub _ _ g1, ?_, g3.mono hsub, ?_⟩
        · rw [he'.frame r hrlt ?_]
          · exact g2
          · intro b' S' hb' hl
            have := g4 b' S' hb'
            subst this
            exact hdead hl
        · intro b' S' hb'
          by_cases hlt' : b' < (row p).h.next
          · rw [he'.old b' hlt'] at hb'; exact g4 b' S' hb'
          · rcases he'.new b' r S' (by omega) hb' with h1 | ⟨b0, S0, h1, h2⟩
            · omega
            · have := g4 b0 S0 h1
              subst this
              exact absurd h2 hdead
      · intro i hi hle id blk h hl
        have h1 := (pl.kindA i hi id blk h).2.2.1
        exact x.hi.al2 i hi (by omega) id blk h (he'.live id (Nat.lt_of_lt_of_le h1 x.hi.al3) hl)
    obtain ⟨q, q1, q2, q3, q4⟩ := next_stage row ops.size (ops.size - (p + 1)) (p + 1) (by omega)
    refine ⟨q, ρ', v', w', hs, q2, q3, ?_, hlt, hcl, by rw [put_defers]; exact x.defers, base1.adv pl hb q q1 q2 q4, x.ti.next pl x.closed x.lt hj hbef hnj hsub hv⟩
    intro i hi he
    constructor
    · rintro (e | hd)
      · subst e; omega
      · have := (x.done i hi he).1 hd; omega
    · intro hlt'
      by_cases e : i = p
      · exact .inl e
      · rcases Nat.lt_or_ge i p with h1 | h1
        · exact .inr ((x.done i hi he).2 h1)
        · exact absurd he (q4 i (by omega) hlt')
end
end Eng
end

noncomputable section
namespace Eng
open Go
variable {ρ ρ' : Rho} {σ : Sig} {C : Cfg} {P : Program} {nl nt : Nat}
variable {ops : Array Oper} {row : Nat → Row} {bef : Nat → Nat → Prop} {base : Nat} {ρ0 : Rho} {h0 : H} {w0 : World} {a0 : Act} {D : Nat → Prop} {p : Nat} {a : Act} {w : World}

/-- what stands behind a drawn region -/
structure Fin (C : Cfg) (σ : Sig) (nt nl : Nat) (ops : Array Oper) (R : Row) (ρ0 : Rho) (h0 : H) (w0 : World) (a0 : Act) (ρ : Rho) (a : Act) (w : World) : Prop where
  size : nt ≤ a.tmps.size
  defers : a.defers = a0.defers
  tmp : ∀ t u, R.look nl t = some u → TmpR ρ σ a t u
  rel : Rel ρ σ C R.h w
  ext : Ext ρ0 ρ h0 R.h w0 w
theorem DInv.fin (pl : Plan C P σ nt nl ops row bef base) (x : DInv C σ nt nl ops row bef ρ0 h0 w0 a0 D p ρ a w) (hall : ∀ i, i < ops.size → D i) : Fin C σ nt nl ops (row ops.size) ρ0 h0 w0 a0 ρ a w := by
  have hp : p = ops.size := by
    rcases x.stage with e | he
    · exact e
    · rcases Nat.lt_or_ge p ops.size with h | h
      · have := (x.done p h he).1 (hall p h); omega
      · have := x.ple; omega
  subst hp
  exact ⟨x.ti.size, x.defers, fun t u hu => x.ti.look pl ops.size (Nat.le_refl _) (fun i hi _ => hall i hi) (fun k hk hle _ => by have := x.lt k hk; omega) u hu, x.hi.rel, x.hi.ext⟩
theorem ready_all (pl : Plan C P σ nt nl ops row bef base) {listed : Array Bool} (hsz : listed.size = ops.size) (hr : Region.ready .any ops listed = []) : ∀ i, i < ops.size → listed.getD i false = true := by
  intro i
  induction i using Nat.strongRecOn with
  | _ i ih =>
    intro hi
    by_cases hd : listed.getD i true = false
    · exfalso
      have : i ∈ Region.ready .any ops listed := by
        rw [mem_ready]
        refine ⟨hd, ops[i], Array.getElem?_eq_getElem hi, ?_⟩
        intro e he hb
        have := pl.fwd i _ (Array.getElem?_eq_getElem hi) e he hb
        exact ih e.on this (by omega)
      rw [hr] at this
      cases this
    · have hi' : i < listed.size := by omega
      simp [hi'] at hd ⊢
      exact hd
def unl (n : Nat) (listed : Array Bool) : Nat := ((List.range n).filter fun i => !listed.getD i true).length
theorem unl_set {n : Nat} {listed : Array Bool} {j : Nat} (hj : j < n) (hsz : listed.size = n) (hu : listed.getD j true = false) : unl n (listed.setIfInBounds j true) + 1 ≤ unl n listed := by
  unfold unl
  have h1 : (List.range n).filter (fun i => !(listed.setIfInBounds j true).getD i true) = ((List.range n).filter fun i => !listed.getD i true).filter (fun i => i != j) := by
    rw [List.filter_filter]
    refine List.filter_congr ?_
    intro i hi
    by_cases e : j = i
    · subst e
      have : j < listed.size := by omega
      simp [this]
    · rw [getD_set_ne true e]
      have e2 : i ≠ j := fun h => e h.symm
      simp [e2]
  rw [h1]
  have h2 : j ∈ (List.range n).filter fun i => !listed.getD i true := by
    rw [List.mem_filter, List.mem_range]; exact ⟨hj, by rw [hu]; rfl⟩
  have : ((((List.range n).filter fun i => !listed.getD i true).filter (fun i => i != j))).length < ((List.range n).filter fun i => !listed.getD i true).length := by
    rw [List.length_filter_lt_length_iff_exists]
    exact ⟨j, h2, by simp⟩
  omega
theorem unl_zero {n : Nat} {listed : Array Bool} (hsz : listed.size = n) (h : unl n listed = 0) : ∀ i, i < n → listed.getD i false = true := by
  intro i hi
  unfold unl at h
  have h0 := List.eq_nil_of_length_eq_zero h
  have : ∀ x ∈ List.range n, ¬ ((!listed.getD x true) = true) := List.filter_eq_nil_iff.1 h0
  have := this i (List.mem_range.2 hi)
  have hi' : i < listed.size := by omega
  simpa [hi'] using this
theorem DInv.congr {D' : Nat → Prop} (h : ∀ i, D i ↔ D' i) (x : DInv C σ nt nl ops row bef ρ0 h0 w0 a0 D p ρ a w) : DInv C σ nt nl ops row bef ρ0 h0 w0 a0 D' p ρ a w := by
  have : D = D' := funext fun i => propext (h i)
  rw [← this]; exact x
theorem draw_go (pl : Plan C P σ nt nl ops row bef base) (hb : h0.next ≤ base) (hr0 : Rel ρ0 σ C h0 w0) (b : Frame) : ∀ (fuel t : Nat) (listed : Array Bool) (p : Nat) (ρ : Rho) (a : Act) (w : World), listed.size = ops.size → unl ops.size listed ≤ fuel →
    DInv C σ nt nl ops row bef ρ0 h0 w0 a0 (fun i => listed.getD i false = true) p ρ a w →
    ∃ ρ' a' w', Fin C σ nt nl ops (row ops.size) ρ0 h0 w0 a0 ρ' a' w' ∧ ∀ k cs, Steps P (lone (b.atR a (.inRegion ops (Region.linearise.go .any ops fuel t listed []) :: k)) cs w) (lone (b.atR a' k) cs w') := by
  intro fuel
  induction fuel with
  | zero =>
    intro t listed p ρ a w hsz hu x
    exact ⟨ρ, a, w, x.fin pl (unl_zero hsz (by omega)), fun k cs => by simp only [Region.linearise.go, List.reverse_nil]; exact .one stepR_region_end⟩
  | succ fuel ih =>
    intro t listed p ρ a w hsz hu x
    simp only [Region.linearise.go]
    change ∃ ρ' a' w', Fin C σ nt nl ops (row ops.size) ρ0 h0 w0 a0 ρ' a' w' ∧ ∀ k cs, Steps P (lone (b.atR a (.inRegion ops (match (Region.ready .any ops listed)[t % (Region.ready .any ops listed).length]? with
      | some i => Region.linearise.go .any ops fuel (t / (Region.ready .any ops listed).length) (listed.setIfInBounds i true) [i]
      | none => [].reverse) :: k)) cs w) (lone (b.atR a' k) cs w')
    cases hi : (Region.ready .any ops listed)[t % (Region.ready .any ops listed).length]? with
    | none =>
      have hnil : Region.ready .any ops listed = [] := by
        cases hr : Region.ready .any ops listed with
        | nil => rfl
        | cons x xs =>
          rw [hr] at hi
          have hlt : t % (x :: xs).length < (x :: xs).length := Nat.mod_lt _ (by simp)
          simp at hi
          simp at hlt
          omega
      exact ⟨ρ, a, w, x.fin pl (ready_all pl hsz hnil), fun k cs => .one stepR_region_end⟩
    | some j =>
      simp only []
      rw [linearise_go_acc, List.reverse_singleton, List.singleton_append]
      obtain ⟨hun, o, ho, hall⟩ := mem_ready.1 (List.mem_of_getElem? hi)
      have hj : j < ops.size := (Array.getElem?_eq_some_iff.1 ho).1
      have hjl : j < listed.size := by omega
      have hnj : ¬ (listed.getD j false = true) := by simpa [hjl] using hun
      have hbef : ∀ k, bef j k → listed.getD k false = true := by
        intro k hk
        obtain ⟨o', ho', e, he, hbi, h⟩ := pl.clo j k hk
        rw [ho] at ho'; cases ho'
        have hd := hall e he hbi
        rcases h with h | h
        · subst h; exact hd
        · exact x.closed e.on k hd h
      obtain ⟨p', ρ', v', w', hs, x'⟩ := x.step pl hb hr0 hj hnj hbef b
      obtain ⟨ρ'', a'', w'', hf, hss⟩ := ih (t / (Region.ready .any ops listed).length) (listed.setIfInBounds j true) p' ρ' _ w' (by simp [hsz]) (by have := unl_set hj hsz hun; omega) (x'.congr (by
        intro i
        by_cases e : j = i
        · subst e; simp [hjl]
        · rw [getD_set_ne false e]
          constructor
          · rintro (h | h); exact absurd h.symm e; exact h
          · exact .inr))
      exact ⟨ρ'', a'', w'', hf, fun k cs => (hs _ k cs).trans (hss k cs)⟩
theorem draw_run (pl : Plan C P σ nt nl ops row bef base) (hb : h0.next ≤ base) (hr0 : Rel ρ0 σ C h0 w0) (hrow : Rel ρ0 σ C (row 0).h w0) (hext : Ext ρ0 ρ0 h0 (row 0).h w0 w0) (hsz : nt ≤ a0.tmps.size)
    (htmp : ∀ t u, (row 0).look nl t = some u → TmpR ρ0 σ a0 t u) (b : Frame) (t : Nat) :
    ∃ ρ' a' w', Fin C σ nt nl ops (row ops.size) ρ0 h0 w0 a0 ρ' a' w' ∧ ∀ k cs, Steps P (lone (b.atR a0 (.inRegion ops (Region.linearise .any ops t) :: k)) cs w0) (lone (b.atR a' k) cs w') := by
  have hnone : ∀ id, base ≤ id → ρ0 id = none := fun id h => hr0.absent (by omega)
  have hi0 : HI C σ ops.size row ρ0 h0 w0 (fun _ => False) 0 ρ0 w0 :=
    ⟨hrow, hext, fun j hj id blk h _ => hnone id (pl.kindA j hj id blk h).2.1, fun _ _ _ _ _ _ h => h.elim, fun j hj _ id blk h => pl.dead0 id (pl.kindA j hj id blk h).2.1 (pl.kindA j hj id blk h).2.2.1, Nat.le_refl _⟩
  obtain ⟨q, q1, q2, q3, q4⟩ := next_stage row ops.size ops.size 0 (by omega)
  have hrep : ∀ i, (Array.replicate ops.size false).getD i false = false := by
    intro i
    by_cases h : i < ops.size
    · simp [h]
    · simp [h]
  refine draw_go pl hb hr0 b ops.size t (Array.replicate ops.size false) q ρ0 a0 w0 (by simp) ?_ ?_
  · unfold unl
    have := List.length_filter_le (fun i => !(Array.replicate ops.size false).getD i true) (List.range ops.size)
    simpa using this
  · refine DInv.congr (D := fun _ => False) (fun i => by rw [hrep]; simp) ⟨q2, q3, ?_, fun _ h => h.elim, fun _ _ h => h.elim, rfl, hi0.adv pl hb q q1 q2 q4, ⟨hsz, fun t u _ hu => htmp t u hu, fun _ _ h => h.elim⟩⟩
    intro i hi he
    constructor
    · intro h; exact h.elim
    · intro h; exact absurd he (q4 i (Nat.zero_le _) h)
end Eng
end

noncomputable section
namespace Eng
open Go
variable {ρ ρ' : Rho} {σ : Sig} {C : Cfg} {P : Program} {nl nt : Nat}
variable {ops : Array Oper} {row : Nat → Row}

/- bits -/
theorem hasBit_eq (m i : Nat) : hasBit m i = m.testBit i := by
  have h1 : hasBit m i = Nat.beq (m >>> i % 2) 1 := rfl
  rw [h1, Nat.testBit, Nat.one_and_eq_mod_two]
  have : m >>> i % 2 = 0 ∨ m >>> i % 2 = 1 := Nat.mod_two_eq_zero_or_one _
  rcases this with h | h <;> rw [h] <;> rfl
theorem hasBit_lor (m n i : Nat) : hasBit (Nat.lor m n) i = (hasBit m i || hasBit n i) := by
  rw [hasBit_eq, hasBit_eq, hasBit_eq]; exact Nat.testBit_or m n i
theorem hasBit_land (m n i : Nat) : hasBit (Nat.land m n) i = (hasBit m i && hasBit n i) := by
  rw [hasBit_eq, hasBit_eq, hasBit_eq]; exact Nat.testBit_and m n i
theorem hasBit_bit (j i : Nat) : hasBit (bit j) i = true ↔ i = j := by
  rw [hasBit_eq]
  have h1 : bit j = 2 ^ j := by show 1 <<< j = _; rw [Nat.one_shiftLeft]
  rw [h1, Nat.testBit_two_pow]
  simp [eq_comm]
theorem hasBit_zero (i : Nat) : hasBit 0 i = false := by rw [hasBit_eq]; exact Nat.zero_testBit i
theorem within_bit {a b : Nat} (h : within a b = true) {i : Nat} (hi : hasBit a i = true) : hasBit b i = true := by
  have h1 : Nat.land a b = a := beq_eq h
  rw [← h1, hasBit_land] at hi
  simp only [Bool.and_eq_true] at hi
  exact hi.2
theorem apart_bit {a b : Nat} (h : apartB a b = true) {i : Nat} (ha : hasBit a i = true) (hb : hasBit b i = true) : False := by
  have h1 : Nat.land a b = 0 := beq_eq h
  have h2 := hasBit_land a b i
  rw [h1, ha, hb, hasBit_zero] at h2
  cases h2

/-- what must run ahead -/
inductive Bef (ops : Array Oper) : Nat → Nat → Prop
  | edge {j o e} : ops[j]? = some o → e ∈ o.after → Region.binds .any e = true → Bef ops j e.on
  | trans {j o e i} : ops[j]? = some o → e ∈ o.after → Region.binds .any e = true → Bef ops e.on i → Bef ops j i
theorem bindsA_eq (e : Edge) : bindsA e = Region.binds .any e := by
  unfold bindsA Region.binds
  cases e.ground <;> rfl
def MsOK (ops : Array Oper) (ms : T Nat) : Prop := ∀ i m, T.get ms i = some m → ∀ k, hasBit m k = true → Bef ops i k
theorem opMask_ok {ms : T Nat} (hm : MsOK ops ms) {j : Nat} {o : Oper} (ho : ops[j]? = some o) {k : Nat} (hk : hasBit (opMask ms o) k = true) : Bef ops j k := by
  have key : ∀ l : List Edge, (∀ e ∈ l, e ∈ o.after) → hasBit (@List.rec Edge (fun _ => Nat) 0 (fun e _ r => @Bool.rec (fun _ => Nat) r (Nat.lor (Nat.lor r (bit e.on)) (orD (T.get ms e.on))) (bindsA e)) l) k = true → Bef ops j k := by
    intro l
    induction l with
    | nil =>
      intro _ h
      have h' : hasBit 0 k = true := h
      rw [hasBit_zero] at h'; cases h'
    | cons e l ih =>
      intro hl h
      have ih' := ih fun e he => hl e (List.mem_cons_of_mem _ he)
      cases hb : bindsA e with
      | false =>
        simp only [hb] at h
        exact ih' h
      | true =>
        simp only [hb] at h
        rw [hasBit_lor, hasBit_lor] at h
        have hbe : Region.binds .any e = true := by rw [← bindsA_eq]; exact hb
        have hmem := hl e (by simp)
        simp only [Bool.or_eq_true] at h
        rcases h with (h | h) | h
        · exact ih' h
        · rw [(hasBit_bit _ _).1 h]; exact .edge ho hmem hbe
        · cases hg : T.get ms e.on with
          | none => rw [hg] at h; rw [show hasBit (orD none) k = hasBit 0 k from rfl, hasBit_zero] at h; cases h
          | some m => rw [hg] at h; exact .trans ho hmem hbe (hm e.on m hg k h)
  exact key o.after.toList (fun e he => by simpa using he) hk
theorem MsOK.set {ms : T Nat} (hm : MsOK ops ms) {j : Nat} {o : Oper} (ho : ops[j]? = some o) : MsOK ops (ms.set j (opMask ms o)) := by
  intro i m hg k hk
  rcases T.get_set hg with ⟨e1, e2⟩ | ⟨_, e2⟩
  · subst e1; subst e2; exact opMask_ok hm ho hk
  · exact hm i m e2 k hk
theorem MsOK.nil : MsOK ops .nil := fun i m h => by cases h
theorem Bef.clo {j i : Nat} (h : Bef ops j i) : ∃ o, ops[j]? = some o ∧ ∃ e ∈ o.after, Region.binds .any e = true ∧ (e.on = i ∨ Bef ops e.on i) := by
  cases h with
  | edge ho he hb => exact ⟨_, ho, _, he, hb, .inl rfl⟩
  | trans ho he hb h => exact ⟨_, ho, _, he, hb, .inr h⟩

/- the static check -/
def ClsAt (C : Cfg) (ops : Array Oper) (j : Nat) (c : Cl) : Prop := ∃ o, ops[j]? = some o ∧ clsC C o.op = c
structure Static (C : Cfg) (ops : Array Oper) (j : Nat) : Prop where
  fwd : ∀ k o, ops[k]? = some o → j ≤ k → ∀ e ∈ o.after, Region.binds .any e = true → e.on < k
  nam : ∀ i k t, i < k → j ≤ k → k < ops.size → (DstAt ops i t ∧ (DstAt ops k t ∨ Looks ops k t)) → Bef ops k i
  nam' : ∀ i k t, i < k → j ≤ k → k < ops.size → DstAt ops k t → Looks ops i t → Bef ops k i
  chain : ∀ i k, i < k → j ≤ k → ClsAt C ops i .e → ClsAt C ops k .e → Bef ops k i
  alloc : ∀ i k, i < k → j ≤ k → ClsAt C ops i .a → ClsAt C ops k .e → Bef ops k i
theorem dstBit_ok {j : Nat} {o : Oper} (ho : ops[j]? = some o) {t : Nat} (h : DstAt ops j t) : hasBit (dstBit o) t = true := by
  obtain ⟨o', ho', hd⟩ := h
  rw [ho] at ho'; cases ho'
  unfold dstBit
  rw [hd]
  exact (hasBit_bit t t).2 rfl
theorem orL_ok : ∀ {l : List Nat} {m t : Nat}, m ∈ l → hasBit m t = true → hasBit (orL l) t = true := by
  intro l
  induction l with
  | nil => intro m t h; cases h
  | cons x l ih =>
    intro m t h hm
    rw [show orL (x :: l) = Nat.lor x (orL l) from rfl, hasBit_lor]
    rcases List.mem_cons.1 h with e | e
    · subst e; rw [hm]; rfl
    · rw [ih e hm]; simp
theorem lookBits_ok {j : Nat} {o : Oper} (ho : ops[j]? = some o) {t : Nat} (h : Looks ops j t) : hasBit (lookBits ops.toList o) t = true := by
  obtain ⟨o', ho', hd⟩ := h
  rw [ho] at ho'; cases ho'
  unfold lookBits
  rw [hasBit_lor]
  unfold Oper.looksAt at hd
  rcases List.mem_append.1 hd with h | h
  · obtain ⟨x, hx, hxt⟩ := List.mem_filterMap.1 h
    cases x with
    | tmp t' =>
      simp only [Option.some.injEq] at hxt
      subst hxt
      rw [orL_ok (m := bit t') (List.mem_map.2 ⟨.tmp t', hx, rfl⟩) ((hasBit_bit _ _).2 rfl)]
      simp
    | _ => cases hxt
  · have : hasBit (grdBit ops.toList o) t = true := by
      unfold grdBit
      cases hg : o.guard with
      | none => rw [hg] at h; cases h
      | some jw =>
        obtain ⟨g, w⟩ := jw
        rw [hg] at h
        simp only [Option.mem_toList] at h
        cases hgo : ops[g]? with
        | none => rw [hgo] at h; cases h
        | some go =>
          rw [hgo] at h
          have h2 : go.dst = some t := h
          have : nth ops.toList g = some go := by rw [nth_eq]; simpa using hgo
          show hasBit (match nth ops.toList g with | some g => dstBit g | none => 0) t = true
          rw [this]
          exact dstBit_ok hgo ⟨go, hgo, h2⟩
    rw [this]; rfl
theorem pairsL_ok {m w n : Nat} : ∀ {prev : List (Nat × Nat × Nat)}, pairsL m w n prev = true → ∀ x ∈ prev, hasBit m x.1 = true ∨ (apartB x.2.1 (Nat.lor n w) = true ∧ apartB w x.2.2 = true) := by
  intro prev
  induction prev with
  | nil => intro _ x hx; cases hx
  | cons y prev ih =>
    intro h x hx
    have h' : @Bool.rec (fun _ => Bool) (@Bool.rec (fun _ => Bool) false (pairsL m w n prev) (hasBit m y.1)) (pairsL m w n prev) (apartB y.2.1 (Nat.lor n w) && apartB w y.2.2) = true := h
    cases ha : (apartB y.2.1 (Nat.lor n w) && apartB w y.2.2) with
    | true =>
      rw [ha] at h'
      rcases List.mem_cons.1 hx with e | e
      · subst e; simp only [Bool.and_eq_true] at ha; exact .inr ha
      · exact ih h' x e
    | false =>
      rw [ha] at h'
      cases hb : hasBit m y.1 with
      | false => rw [hb] at h'; cases h'
      | true =>
        rw [hb] at h'
        rcases List.mem_cons.1 hx with e | e
        · subst e; exact .inl hb
        · exact ih h' x e
theorem fwdL_ok {j : Nat} : ∀ {l : List Edge}, fwdL j l = true → ∀ e ∈ l, Region.binds .any e = true → e.on < j := by
  intro l
  induction l with
  | nil => intro _ e he; cases he
  | cons x l ih =>
    intro h e he hb
    have h' : @Bool.rec (fun _ => Bool) (fwdL j l) (@Bool.rec (fun _ => Bool) false (fwdL j l) (Nat.blt x.on j)) (bindsA x) = true := h
    rcases List.mem_cons.1 he with e1 | e1
    · subst e1
      rw [bindsA_eq, hb] at h'
      cases hlt : Nat.blt e.on j with
      | false => rw [hlt] at h'; cases h'
      | true => exact Nat.le_of_ble_eq_true hlt
    · refine ih ?_ e e1 hb
      cases hx : bindsA x with
      | false => rw [hx] at h'; exact h'
      | true =>
        rw [hx] at h'
        cases hlt : Nat.blt x.on j with
        | false => rw [hlt] at h'; cases h'
        | true => rw [hlt] at h'; exact h'
/-- what the lists of the check hold at place j -/
structure ChkI (C : Cfg) (ops : Array Oper) (j : Nat) (ms : T Nat) (em am : Nat) (prev : List (Nat × Nat × Nat)) : Prop where
  ms : MsOK ops ms
  em : ∀ i, i < j → ClsAt C ops i .e → hasBit em i = true
  am : ∀ i, i < j → ClsAt C ops i .a → hasBit am i = true
  prev : ∀ i o, i < j → ops[i]? = some o → (i, dstBit o, lookBits ops.toList o) ∈ prev
theorem dChk_ok : ∀ (l : List Oper) (j : Nat), ops.toList.drop j = l → ∀ {ms : T Nat} {em am : Nat} {prev : List (Nat × Nat × Nat)}, ChkI C ops j ms em am prev → dChk C ops.toList l j ms em am prev = true → Static C ops j := by
  intro l
  induction l with
  | nil =>
    intro j hl ms em am prev _ _
    have hsz : ops.size ≤ j := by
      have := congrArg List.length hl
      simp at this
      omega
    refine ⟨?_, ?_, ?_, ?_, ?_⟩
    · intro k o ho hk
      have := (Array.getElem?_eq_some_iff.1 ho).1; omega
    · intro i k t _ _ _; omega
    · intro i k t _ _ _; omega
    · rintro i k _ _ _ ⟨o, ho, _⟩
      have := (Array.getElem?_eq_some_iff.1 ho).1; omega
    · rintro i k _ _ _ ⟨o, ho, _⟩
      have := (Array.getElem?_eq_some_iff.1 ho).1; omega
  | cons o l ih =>
    intro j hl ms em am prev x h
    have hlt : j < ops.size := by
      rcases Nat.lt_or_ge j ops.size with h1 | h1
      · exact h1
      · rw [List.drop_eq_nil_of_le (by simpa using h1)] at hl; cases hl
    have hoj : ops[j]? = some o := by
      have : (ops.toList.drop j)[0]? = some o := by rw [hl]; rfl
      simpa using this
    have hl' : ops.toList.drop (j + 1) = l := by
      have := congrArg (List.drop 1) hl
      simpa [List.drop_drop] using this
    have h' : (fwdL j o.after.toList && (inE (clsC C o.op) em am (opMask ms o) && (pairsL (opMask ms o) (dstBit o) (lookBits ops.toList o) prev &&
      dChk C ops.toList l (j + 1) (ms.set j (opMask ms o)) (addE (clsC C o.op) em j) (addA (clsC C o.op) am j) ((j, dstBit o, lookBits ops.toList o) :: prev)))) = true := h
    simp only [Bool.and_eq_true] at h'
    obtain ⟨h1, h2, h3, h4⟩ := h'
    have hcls : ∀ c, ClsAt C ops j c ↔ clsC C o.op = c := by
      intro c
      constructor
      · rintro ⟨o', ho', hc⟩; rw [hoj] at ho'; cases ho'; exact hc
      · intro hc; exact ⟨o, hoj, hc⟩
    have s := ih (j + 1) hl' ⟨x.ms.set hoj, ?_, ?_, ?_⟩ h4
    · refine ⟨?_, ?_, ?_, ?_, ?_⟩
      · intro k o' ho' hk e he hb
        by_cases ek : k = j
        · subst ek
          rw [hoj] at ho'; cases ho'
          exact fwdL_ok h1 e (by simpa using he) hb
        · exact s.fwd k o' ho' (by omega) e he hb
      · intro i k t hik hk hks ht
        by_cases ek : k = j
        · subst ek
          have hi := (Array.getElem?_eq_getElem (xs := ops) (i := i) (by omega))
          rcases pairsL_ok h3 _ (x.prev i _ hik hi) with h5 | ⟨h5, h6⟩
          · exact opMask_ok x.ms hoj h5
          · exfalso
            have e1 := dstBit_ok hi ht.1
            rcases ht.2 with h7 | h7
            · exact apart_bit h5 e1 (by rw [hasBit_lor, dstBit_ok hoj h7]; simp)
            · exact apart_bit h5 e1 (by rw [hasBit_lor, lookBits_ok hoj h7]; rfl)
        · exact s.nam i k t hik (by omega) hks ht
      · intro i k t hik hk hks hd ht
        by_cases ek : k = j
        · subst ek
          have hi := (Array.getElem?_eq_getElem (xs := ops) (i := i) (by omega))
          rcases pairsL_ok h3 _ (x.prev i _ hik hi) with h5 | ⟨h5, h6⟩
          · exact opMask_ok x.ms hoj h5
          · exact (apart_bit h6 (dstBit_ok hoj hd) (lookBits_ok hi ht)).elim
        · exact s.nam' i k t hik (by omega) hks hd ht
      · intro i k hik hk hi hk'
        by_cases ek : k = j
        · subst ek
          have hc := (hcls _).1 hk'
          rw [hc] at h2
          have h2' : (within em (opMask ms o) && within am (opMask ms o)) = true := h2
          simp only [Bool.and_eq_true] at h2'
          exact opMask_ok x.ms hoj (within_bit h2'.1 (x.em i hik hi))
        · exact s.chain i k hik (by omega) hi hk'
      · intro i k hik hk hi hk'
        by_cases ek : k = j
        · subst ek
          have hc := (hcls _).1 hk'
          rw [hc] at h2
          have h2' : (within em (opMask ms o) && within am (opMask ms o)) = true := h2
          simp only [Bool.and_eq_true] at h2'
          exact opMask_ok x.ms hoj (within_bit h2'.2 (x.am i hik hi))
        · exact s.alloc i k hik (by omega) hi hk'
    · intro i hi hci
      by_cases ei : i = j
      · subst ei
        rw [(hcls _).1 hci]
        show hasBit (Nat.lor em (bit i)) i = true
        rw [hasBit_lor, (hasBit_bit i i).2 rfl]; simp
      · have h0 := x.em i (by omega) hci
        cases clsC C o.op with
        | e => show hasBit (Nat.lor em (bit j)) i = true
               rw [hasBit_lor, h0]; rfl
        | _ => exact h0
    · intro i hi hci
      by_cases ei : i = j
      · subst ei
        rw [(hcls _).1 hci]
        show hasBit (Nat.lor am (bit i)) i = true
        rw [hasBit_lor, (hasBit_bit i i).2 rfl]; simp
      · have h0 := x.am i (by omega) hci
        cases clsC C o.op with
        | a => show hasBit (Nat.lor am (bit j)) i = true
               rw [hasBit_lor, h0]; rfl
        | _ => exact h0
    · intro i o' hi ho'
      by_cases ei : i = j
      · subst ei; rw [hoj] at ho'; cases ho'; simp
      · exact List.mem_cons_of_mem _ (x.prev i o' (by omega) ho')
end Eng
end

noncomputable section
namespace Eng
open Go
variable {ρ ρ' : Rho} {σ : Sig} {C : Cfg} {P : Program} {nl nt : Nat} {rec : Rec} {X : Ctx}
variable {ops : Array Oper} {row : Nat → Row}

theorem dstK_look {d : Option Tmp} {go : PK} {pt : T AV} {tl : TL} {v : AV} {h : H} {r : Rs} (hk : dstK (cDst nt nl d) go pt tl v h = some r) :
    ∃ pt' tl', go pt' tl' h = some r ∧ (∀ t, d = some t → t < nt) ∧ ∀ t u, (odTmp nl t).val pt' tl' = some u → (d = some t ∧ u = v) ∨ (d ≠ some t ∧ (odTmp nl t).val pt tl = some u) := by
  cases d with
  | none => exact ⟨pt, tl, hk, (fun _ h => nomatch h), fun t u hu => .inr ⟨(fun h => nomatch h), hu⟩⟩
  | some d =>
    cases hb : Nat.blt d nt with
    | false =>
      have : cDst nt nl (some d) = .bad := by show (bif Nat.blt d nt then _ else _) = _; rw [hb]; rfl
      rw [this] at hk; cases hk
    | true =>
      have hdt : Nat.succ d ≤ nt := Nat.le_of_ble_eq_true hb
      refine (?_ : ∃ pt' tl', go pt' tl' h = some r ∧ ∀ t u, (odTmp nl t).val pt' tl' = some u → (some d = some t ∧ u = v) ∨ (some d ≠ some t ∧ (odTmp nl t).val pt tl = some u)).elim fun pt' ⟨tl', g1, g2⟩ => ⟨pt', tl', g1, (fun t ht => by cases ht; exact hdt), g2⟩
      cases hl : Nat.blt d nl with
      | true =>
        have : cDst nt nl (some d) = .lo d := by show (bif Nat.blt d nt then (bif Nat.blt d nl then Dst.lo d else .tm d) else .bad) = _; rw [hb, hl]; rfl
        rw [this] at hk
        refine ⟨T.set pt d v, tl, hk, ?_⟩
        intro t u hu
        unfold odTmp at hu ⊢
        cases ht : Nat.blt t nl with
        | true =>
          rw [ht] at hu
          rcases T.get_set (show T.get (T.set pt d v) t = some u from hu) with ⟨e1, e2⟩ | ⟨e1, e2⟩
          · exact .inl ⟨by rw [e1], e2⟩
          · exact .inr ⟨fun e => e1 (by cases e; rfl), e2⟩
        | false =>
          rw [ht] at hu
          refine .inr ⟨?_, hu⟩
          intro e; cases e; rw [hl] at ht; cases ht
      | false =>
        have : cDst nt nl (some d) = .tm d := by show (bif Nat.blt d nt then (bif Nat.blt d nl then Dst.lo d else .tm d) else .bad) = _; rw [hb, hl]; rfl
        rw [this] at hk
        refine ⟨pt, .cons d v tl, hk, ?_⟩
        intro t u hu
        unfold odTmp at hu ⊢
        cases ht : Nat.blt t nl with
        | true =>
          rw [ht] at hu
          refine .inr ⟨?_, hu⟩
          intro e; cases e; rw [hl] at ht; cases ht
        | false =>
          rw [ht] at hu
          have hu' : (TL.cons d v tl).find t = some u := hu
          by_cases e : d = t
          · subst e
            simp [TL.find] at hu'
            exact .inl ⟨rfl, hu'.symm⟩
          · simp [TL.find, e] at hu'
            exact .inr ⟨fun e2 => e (by cases e2; rfl), hu'⟩
theorem Env.opd {j : Nat} {o : Oper} (ho : ops[j]? = some o) {R : Row} {a : Act} (x : Env ops ρ σ nt nl j R a) : OpdR ρ σ nl o.op R.pt R.tl a.eval := by
  intro y hy u hu
  cases y with
  | tmp t =>
    obtain ⟨v, h1, h2⟩ := x.2 t ⟨o, ho, List.mem_append.2 (.inl (List.mem_filterMap.2 ⟨.tmp t, by simpa using hy, rfl⟩))⟩ u hu
    have : a.eval (.tmp t) = v := by
      show a.tmps.getD t undef = v
      rw [Array.getD_eq_getD_getElem?, h1]; rfl
    rw [this]; exact h2
  | const v =>
    have h' : (match valueOf v with | some v => Od.c v | none => .bad).val R.pt R.tl = some u := hu
    split at h'
    · rename_i w hw
      cases h'
      exact value_AVR hw
    · cases h'
  | func f => cases hu; exact ⟨[], rfl, .nil⟩
  | global g => cases hu
theorem grd_ok {j : Nat} {o : Oper} (ho : ops[j]? = some o) {g : Option Gd} {d : Dst} {op : AOp} (h : cOpr C nt nl ops.toList o = .mk g d op) : d = cDst nt nl o.dst ∧ op = cOp C nl o.op ∧
    ∀ {pt : T AV} {tl : TL} {yes no : OR} {r : Rs}, grdK g pt tl yes no = some r →
      (yes = some r ∧ ∀ (ρ : Rho) (σ : Sig) (R : Row) (a : Act), R.pt = pt → R.tl = tl → Env ops ρ σ nt nl j R a → Region.wanted o (yielded ops a.tmps) = true) ∨
      (no = some r ∧ ∀ (ρ : Rho) (σ : Sig) (R : Row) (a : Act), R.pt = pt → R.tl = tl → Env ops ρ σ nt nl j R a → Region.wanted o (yielded ops a.tmps) = false) := by
  cases hg : o.guard with
  | none =>
    have : cOpr C nt nl ops.toList o = .mk none (cDst nt nl o.dst) (cOp C nl o.op) := by unfold cOpr; rw [hg]
    rw [this] at h
    cases h
    refine ⟨rfl, rfl, ?_⟩
    intro pt tl yes no r hk
    exact .inl ⟨hk, fun ρ σ R a _ _ _ => by simp [Region.wanted, hg]⟩
  | some jw =>
    obtain ⟨gj, want⟩ := jw
    have hcop : cOpr C nt nl ops.toList o = (match nth ops.toList gj with
      | some g => match g.dst with
        | some d => .mk (some ⟨odTmp nl d, want⟩) (cDst nt nl o.dst) (cOp C nl o.op)
        | none => .bad
      | none => .bad) := by unfold cOpr; rw [hg]; rfl
    rw [hcop] at h
    split at h
    · rename_i go hgj
      split at h
      · rename_i dd hgd
        cases h
        refine ⟨rfl, rfl, ?_⟩
        rw [nth_eq] at hgj
        have hgj' : ops[gj]? = some go := by simpa using hgj
        intro pt tl yes no r hk
        obtain ⟨u, hu, hk2⟩ := ev_some (show ev (odTmp nl dd) pt tl _ = some r from hk)
        have hyl : ∀ (ρ : Rho) (σ : Sig) (R : Row) (a : Act), R.pt = pt → R.tl = tl → Env ops ρ σ nt nl j R a → ∃ va, AVR ρ σ u va ∧ (yielded ops a.tmps gj = some want ↔ va = .bool want) := by
          intro ρ σ R a e1 e2 x
          have hlook : Looks ops j dd := ⟨o, ho, List.mem_append.2 (.inr (by rw [hg]; simp [hgj', hgd]))⟩
          obtain ⟨va, h1, h2⟩ := x.2 dd hlook u (by unfold Row.look; rw [e1, e2]; exact hu)
          refine ⟨va, h2, ?_⟩
          simp only [yielded, hgj', Option.bind_some, hgd, h1]
          cases va <;> simp
        rcases boolRec_some hk2 with ⟨hb, hk3⟩ | ⟨hb, hk3⟩
        · refine .inr ⟨hk3, ?_⟩
          intro ρ σ R a e1 e2 x
          obtain ⟨va, h2, h3⟩ := hyl ρ σ R a e1 e2 x
          have hne := wantedB_ne h2 hb
          have : yielded ops a.tmps gj ≠ some want := fun e => hne (h3.1 e)
          simp [Region.wanted, hg, this]
        · refine .inl ⟨hk3, ?_⟩
          intro ρ σ R a e1 e2 x
          obtain ⟨va, h2, h3⟩ := hyl ρ σ R a e1 e2 x
          have he := wantedB_eq h2 hb
          simp [Region.wanted, hg, h3.2 he]
      · cases h
    · cases h
theorem steps_exec {j : Nat} {o : Oper} (ho : ops[j]? = some o) {b : Frame} {a : Act} {w w' : World} {v : Value} (hd : Does P o b a w v w') (hw : Region.wanted o (yielded ops a.tmps) = true) : StepsOp P ops j b a w v w' := by
  intro rest k cs
  have := hd ops j rest k cs ho hw
  rw [ho]; exact this
theorem steps_skip {j : Nat} {o : Oper} (ho : ops[j]? = some o) {b : Frame} {a : Act} {w : World} (hw : Region.wanted o (yielded ops a.tmps) = false) : StepsOp P ops j b a w undef w := by
  intro rest k cs
  exact .one (stepR_op_skip (by simp [ho, hw]))
/-- a check that passed -/
def Sam (rec : Rec) (X : Ctx) (q : Pn) (h : H) : Prop := ∃ k r, samK rec X q h k = some r
theorem noDefer_of {o : Oper} {c : Cl} (h : clsOp o.op = c) (hc : c ≠ .e) : ∀ x, o.op ≠ .defer x := by
  intro x e; rw [e] at h; exact hc h.symm
theorem sam_fact (hc : CfgOK P C σ) {j : Nat} {o : Oper} (ho : ops[j]? = some o) (hcl : clsOp o.op = .r) {R : Row} {h : H}
    (hw : ∀ (ρ : Rho) (a : Act), Env ops ρ σ nt nl j R a → Region.wanted o (yielded ops a.tmps) = true)
    (hs : Sam rec X ⟨j, cOp C nl o.op, R.pt, R.tl, R.v⟩ h) : RFact C P σ nt nl ops j R h := by
  obtain ⟨k, r, hk⟩ := hs
  obtain ⟨v, h1, h2⟩ := cls_r (C := C) (nl := nl) hcl rec X (fun v _ => ifK (AV.eqb R.v v) k) R.pt R.tl h r hk
  have hk' : runOp (cOp C nl o.op) rec X (fun v _ => ifK (AV.eqb R.v v) k) R.pt R.tl h = some r := hk
  rw [h1] at hk'
  have he := AV.eqb_eq (ifK_some hk').1
  intro ρ w a b hr henv
  obtain ⟨v', h3, h4⟩ := h2 P σ ρ a.eval w hc hr (henv.opd ho)
  exact ⟨v', steps_exec ho (does_of_exec (noDefer_of hcl (by simp)) h3) (hw ρ a henv), by rw [he]; exact h4⟩
theorem off_fact {j : Nat} {o : Oper} (ho : ops[j]? = some o) {R : Row} {h : H}
    (hw : ∀ (ρ : Rho) (a : Act), Env ops ρ σ nt nl j R a → Region.wanted o (yielded ops a.tmps) = false) (hv : R.v = .tup []) : RFact C P σ nt nl ops j R h := by
  intro ρ w a b hr henv
  exact ⟨undef, steps_skip ho (hw ρ a henv), by rw [hv]; exact ⟨[], rfl, .nil⟩⟩
def Kd.isE : Kd → Bool
  | .e => true
  | _ => false
def pastOf (row : Nat → Row) : Nat → List (Nat × H)
  | 0 => []
  | j + 1 => match (row j).k with
    | .e => (j, (row j).h) :: pastOf row j
    | _ => pastOf row j
theorem pastOf_congr {row row' : Nat → Row} : ∀ j, (∀ i, i < j → row i = row' i) → pastOf row j = pastOf row' j := by
  intro j
  induction j with
  | zero => intro _; rfl
  | succ j ih =>
    intro h
    simp only [pastOf]
    rw [h j (by omega), ih fun i hi => h i (by omega)]
theorem sam_next {q : Pn} {o : Oper} (hR : ReadL C nl o (runOp q.op)) {h : H} {k : OR} {r : Rs} (hk : samK rec X q h k = some r) : Sam rec X q h ∧ k = some r := by
  refine ⟨⟨k, r, hk⟩, ?_⟩
  have hk' : runOp q.op rec X (fun v _ => ifK (AV.eqb q.v v) k) q.pt q.tl h = some r := hk
  obtain ⟨v, h1, _⟩ := hR rec X _ q.pt q.tl h r hk'
  rw [h1] at hk'
  exact (ifK_some hk').2
theorem back_ok {m : Nat} {q : Pn} {o : Oper} (hR : ReadL C nl o (runOp q.op)) {k : OR} {r : Rs} : ∀ j, backK rec X m (pastOf row j) q k = some r →
    k = some r ∧ ∀ p, p < j → (row p).k = .e → (∀ i, p ≤ i → i < j → (row i).k = .e → hasBit m i = false) → Sam rec X q (row p).h := by
  intro j
  induction j with
  | zero => intro h; exact ⟨h, fun p hp => by omega⟩
  | succ j ih =>
    intro h
    simp only [pastOf] at h
    split at h
    · rename_i he
      have h' : @Bool.rec (fun _ => OR) (samK rec X q (row j).h (backK rec X m (pastOf row j) q k)) k (hasBit m j) = some r := h
      rcases boolRec_some h' with ⟨hb, h1⟩ | ⟨hb, h1⟩
      · obtain ⟨hs, h2⟩ := sam_next hR h1
        obtain ⟨h3, h4⟩ := ih h2
        refine ⟨h3, ?_⟩
        intro p hp hpe hno
        by_cases e : p = j
        · subst e; exact hs
        · exact h4 p (by omega) hpe fun i h5 h6 => hno i h5 (by omega)
      · refine ⟨h1, ?_⟩
        intro p hp hpe hno
        have := hno j (by omega) (by omega) he
        rw [hb] at this; cases this
    · rename_i he
      obtain ⟨h1, h2⟩ := ih h
      refine ⟨h1, ?_⟩
      intro p hp hpe hno
      by_cases e : p = j
      · subst e; exact absurd hpe he
      · exact h2 p (by omega) hpe fun i h3 h4 => hno i h3 (by omega)
def ReadQ (C : Cfg) (nl : Nat) (q : Pn) : Prop := ∃ o, ReadL C nl o (runOp q.op)
theorem pend_ok {h : H} {k : OR} {r : Rs} : ∀ {l : List Pn}, (∀ q ∈ l, ReadQ C nl q) → pendK rec X l h k = some r → k = some r ∧ ∀ q ∈ l, Sam rec X q h := by
  intro l
  induction l with
  | nil => intro _ hk; exact ⟨hk, fun q hq => by cases hq⟩
  | cons q l ih =>
    intro hq hk
    obtain ⟨o, hR⟩ := hq q (by simp)
    obtain ⟨h1, h2⟩ := sam_next hR (show samK rec X q h (pendK rec X l h k) = some r from hk)
    obtain ⟨h3, h4⟩ := ih (fun q' h' => hq q' (List.mem_cons_of_mem _ h')) h2
    refine ⟨h3, ?_⟩
    intro q' h'
    rcases List.mem_cons.1 h' with e | e
    · subst e; exact h1
    · exact h4 q' e
theorem dropP_mem {m : Nat} {q : Pn} : ∀ {l : List Pn}, (q ∈ dropP m l → q ∈ l) ∧ (q ∈ l → hasBit m q.j = false → q ∈ dropP m l) := by
  intro l
  induction l with
  | nil => exact ⟨id, fun h _ => h⟩
  | cons y l ih =>
    have e : dropP m (y :: l) = @Bool.rec (fun _ => List Pn) (y :: dropP m l) (dropP m l) (hasBit m y.j) := rfl
    rw [e]
    cases hb : hasBit m y.j with
    | true =>
      refine ⟨fun h => List.mem_cons_of_mem _ (ih.1 h), ?_⟩
      intro h hq
      rcases List.mem_cons.1 h with e | h
      · subst e; rw [hb] at hq; cases hq
      · exact ih.2 h hq
    | false =>
      refine ⟨?_, ?_⟩
      · intro h
        rcases List.mem_cons.1 h with e | h
        · subst e; simp
        · exact List.mem_cons_of_mem _ (ih.1 h)
      · intro h hq
        rcases List.mem_cons.1 h with e | h
        · subst e; simp
        · exact List.mem_cons_of_mem _ (ih.2 h hq)
/-- what a place of the plan must be -/
structure Good (C : Cfg) (P : Program) (σ : Sig) (nt nl : Nat) (ops : Array Oper) (row : Nat → Row) (i : Nat) : Prop where
  cE : (row i).k = .e → ClsAt C ops i .e
  cA : ∀ id blk, (row i).k = .a id blk → ClsAt C ops i .a
  dst : ∀ t, DstAt ops i t → t < nt
  put : ∀ t u, (row (i + 1)).look nl t = some u → (DstAt ops i t ∧ u = (row i).v) ∨ (¬ DstAt ops i t ∧ (row i).look nl t = some u)
  kR : (row i).k = .r → (row (i + 1)).h = (row i).h ∧
    ∀ p, p ≤ ops.size → (p = ops.size ∨ (row p).k = .e) → (∀ i', i' < ops.size → (row i').k = .e → Bef ops i i' → i' < p) → (∀ i', i' < p → (row i').k = .e → ¬ Bef ops i' i) → RFact C P σ nt nl ops i (row i) (row p).h
  kA : ∀ id blk, (row i).k = .a id blk → (row (i + 1)).h = (row i).h.put id blk ∧ AFact C P σ nt nl ops i (row i) id blk
  kE : (row i).k = .e → EFact C P σ nt nl ops i (row i) (row (i + 1)).h
/-- what the rest of a pass shows -/
structure Rest (C : Cfg) (P : Program) (σ : Sig) (nt nl : Nat) (ops : Array Oper) (rec : Rec) (X : Ctx) (marks : List Nat) (lim : Nat) (row : Nat → Row) (j : Nat) (pend : List Pn) (nid : Nat) (pt : T AV) (tl : TL) (h : H) (r : Rs) : Prop where
  here : (row j).pt = pt ∧ (row j).tl = tl ∧ (row j).h = h
  res : r = .code .norm ⟨(row ops.size).pt, (row ops.size).tl, marks⟩ (row ops.size).h
  good : ∀ i, j ≤ i → i < ops.size → Good C P σ nt nl ops row i
  ids : ∀ i, j ≤ i → i < ops.size → ∀ id blk, (row i).k = .a id blk → nid ≤ id ∧ id < lim ∧ ∀ i', i < i' → i' < ops.size → ∀ id' blk', (row i').k = .a id' blk' → id < id'
  pend : ∀ q ∈ pend, ∀ p, j ≤ p → p ≤ ops.size → (p = ops.size ∨ (row p).k = .e) → (∀ i, j ≤ i → i < p → (row i).k = .e → ¬ Bef ops i q.j) → Sam rec X q (row p).h
def setRow (row : Nat → Row) (j : Nat) (R : Row) : Nat → Row := fun i => if i = j then R else row i
theorem dstAt_iff {j : Nat} {o : Oper} (ho : ops[j]? = some o) {t : Nat} : DstAt ops j t ↔ o.dst = some t := by
  constructor
  · rintro ⟨o', ho', h⟩; rw [ho] at ho'; cases ho'; exact h
  · intro h; exact ⟨o, ho, h⟩
/-- the map without numbers from n on -/
def trn (ρ : Rho) (n : Nat) : Rho := fun b => if b < n then ρ b else none
theorem trn_some {n b : Nat} {y : Nat × Nat} (h : trn ρ n b = some y) : b < n ∧ ρ b = some y := by
  unfold trn at h
  split at h
  · exact ⟨by assumption, h⟩
  · cases h
theorem trn_lt {n b : Nat} (h : b < n) : trn ρ n b = ρ b := by unfold trn; rw [if_pos h]
theorem Rel.trn {h : H} {w : World} (hr : Rel ρ σ C h w) (n : Nat) : Rel (trn ρ n) σ C ⟨.nil, n⟩ w where
  lt := fun b r S hb => (trn_some hb).1
  blk := by
    intro b r S hb
    obtain ⟨o, ho, _⟩ := hr.blk b r S (trn_some hb).2
    exact ⟨o, ho, fun x hx => nomatch (show (none : Option Blk) = some x from hx)⟩
  inj := by
    intro b b' r S1 S2 _ _ ⟨y, hy, _⟩
    exact nomatch (show (none : Option Blk) = some y from hy)
theorem okC_R {n : Nat} {a : A} {x : Value} (hk : okC n a = true) (h : AR ρ σ a x) : AR (trn ρ n) σ a x := by
  cases a with
  | ptr b o =>
    obtain ⟨r, S, h1, h2⟩ := h
    exact ⟨r, S, by rw [trn_lt (Nat.le_of_ble_eq_true hk)]; exact h1, h2⟩
  | fn f l =>
    cases l with
    | nil =>
      obtain ⟨vs, h1, h2⟩ := h
      cases h2
      exact ⟨[], h1, .nil⟩
    | cons y l => cases hk
  | bool b => exact h
  | int k n => exact h
  | sym k e => exact h
  | nilp => exact h
  | _ => cases hk
theorem okA_R {n : Nat} {v : AV} {x : Value} (hk : okA n v = true) (h : AVR ρ σ v x) : AVR (trn ρ n) σ v x := by
  cases v with
  | agg l => cases hk
  | tup l => cases hk
  | one a => exact okC_R hk h
theorem okCs_get {id : Nat} {c : T A} : ∀ {n : Nat}, okCs id c n = true → ∀ i a, i < n → T.get c i = some a → okC id a = true := by
  intro n
  induction n with
  | zero => intro _ i a hi; omega
  | succ n ih =>
    intro h i a hi hg
    have h' : @Bool.rec (fun _ => Bool) false (okCs id c n) (@Option.rec A (fun _ => Bool) true (fun a => okC id a) (T.get c n)) = true := h
    cases hp : (@Option.rec A (fun _ => Bool) true (fun a => okC id a) (T.get c n)) with
    | false => rw [hp] at h'; cases h'
    | true =>
      rw [hp] at h'
      by_cases e : i = n
      · subst e; rw [hg] at hp; exact hp
      · exact ih h' i a (by omega) hg
theorem okB_R {id : Nat} {b : Blk} {o : Obj} {S : Nat} (hk : okB id b = true) (h : BR ρ σ C b o S) : BR (trn ρ id) σ C b o S := by
  cases b with
  | cells c n f s =>
    cases s with
    | none =>
      obtain ⟨cs, e, h1, h2, h3, h4, h5⟩ := h
      refine ⟨cs, e, h1, h2, h3, h4, ?_⟩
      intro i a hi hg
      obtain ⟨v, h6, h7⟩ := h5 i a hi hg
      exact ⟨v, h6, okC_R (okCs_get hk i a hi hg) h7⟩
    | some x => cases hk
  | _ => cases hk
theorem okAll_mem {n : Nat} : ∀ {l : List AV}, okAll n l = true → ∀ v ∈ l, okA n v = true := by
  intro l
  induction l with
  | nil => intro _ v hv; cases hv
  | cons a l ih =>
    intro h v hv
    have h' : @Bool.rec (fun _ => Bool) false (okAll n l) (okA n a) = true := h
    cases ha : okA n a with
    | false => rw [ha] at h'; cases h'
    | true =>
      rw [ha] at h'
      rcases List.mem_cons.1 hv with e | e
      · subst e; exact ha
      · exact ih h' v e
theorem vals_mem {pt : T AV} {tl : TL} : ∀ {l : List Od} {us : List AV}, vals pt tl l = some us → ∀ x ∈ l, ∃ u, x.val pt tl = some u ∧ u ∈ us := by
  intro l
  induction l with
  | nil => intro us _ x hx; cases hx
  | cons y l ih =>
    intro us h x hx
    simp only [vals] at h
    split at h
    · rename_i v vs hv hvs
      cases h
      rcases List.mem_cons.1 hx with e | e
      · subst e; exact ⟨v, hv, by simp⟩
      · obtain ⟨u, h1, h2⟩ := ih hvs x e
        exact ⟨u, h1, List.mem_cons_of_mem _ h2⟩
    · cases h
theorem ods_map : ∀ l : List Operand, ods nl l = l.map (od nl)
  | [] => rfl
  | x :: l => by rw [List.map_cons, ← ods_map l]; rfl
theorem opdR_trn {o : Op} {pt : T AV} {tl : TL} {us : List AV} {n : Nat} {e : Operand → Value} (hus : vals pt tl (ods nl o.operands.toList) = some us) (hok : okAll n us = true) (h : OpdR ρ σ nl o pt tl e) : OpdR (trn ρ n) σ nl o pt tl e := by
  intro x hx u hu
  obtain ⟨u', h1, h2⟩ := vals_mem hus (od nl x) (by rw [ods_map]; exact List.mem_map.2 ⟨x, by simpa using hx, rfl⟩)
  rw [hu] at h1
  cases h1
  exact okA_R (okAll_mem hok u h2) (h x hx u hu)
theorem b_fact {j : Nat} {b : Frame} {a : Act} {nid : Nat} {v : AV} {v' : Value} {h' : H} {blk : Blk} {w w' : World} (hnone : ρ nid = none) (hns : isNs nid v = true) (hok : okB (Nat.succ nid) blk = true) (hblk : T.get h'.1 nid = some blk)
    (hs : StepsOp P ops j b a w v' w') (hv : AVR ρ' σ v v') (hr : Rel ρ' σ C h' w') (he : Ext (trn ρ nid) ρ' ⟨.nil, nid⟩ h' w w') :
    ∃ w' r obj v' S, StepsOp P ops j b a w v' w' ∧ Pushed w w' r obj ∧ BR (upd ρ nid (r, S)) σ C blk obj S ∧ AVR (upd ρ nid (r, S)) σ v v' := by
  have hnl : ∀ b0, ¬ Live ⟨.nil, nid⟩ b0 := fun b0 ⟨y, hy, _⟩ => nomatch (show (none : Option Blk) = some y from hy)
  have hm : ∃ r S, ρ' nid = some (r, S) := by
    cases v with
    | agg l => cases hns
    | tup l => cases hns
    | one a =>
      cases a with
      | slice b o l c =>
        obtain ⟨r, S, h1, _⟩ := hv
        rw [beq_eq (show Nat.beq b nid = true from hns)] at h1
        exact ⟨r, S, h1⟩
      | _ => cases hns
  obtain ⟨r, S, hm⟩ := hm
  obtain ⟨obj, h1, h2⟩ := hr.blk nid r S hm
  have hge : w.heap.size ≤ r := by
    rcases he.new nid r S (Nat.le_refl _) hm with h | ⟨b0, S0, _, hl⟩
    · exact h
    · exact absurd hl (hnl b0)
  have hsub : Sub (trn ρ' (nid + 1)) (upd ρ nid (r, S)) := by
    intro c y hc
    obtain ⟨h3, hq⟩ := trn_some hc
    clear hc
    by_cases e : c = nid
    · rw [e] at hq ⊢; rw [hm] at hq; cases hq; exact upd_self _ _ _
    · have h4 : c < nid := by omega
      have h5 := he.old c h4
      rw [trn_lt h4] at h5
      rw [upd_ne ρ _ e, ← h5]
      exact hq
  have hv2 : AVR (trn ρ' (nid + 1)) σ v v' := by
    cases v with
    | agg l => cases hns
    | tup l => cases hns
    | one a =>
      cases a with
      | slice b o l c =>
        obtain ⟨r, S, h1, h2⟩ := hv
        have hb := beq_eq (show Nat.beq b nid = true from hns)
        exact ⟨r, S, by rw [trn_lt (by omega)]; exact h1, h2⟩
      | _ => cases hns
  exact ⟨w', r, obj, v', S, hs, ⟨hge, h1, fun x hx => he.frame x hx fun b0 S0 _ => hnl b0, he.size, he.os, he.tape, he.output, he.fz⟩, (okB_R hok (h2 blk hblk)).mono hsub, hv2.mono hsub⟩
theorem pass_plan {marks : List Nat} {lim : Nat} (hX : X.nt = nt ∧ X.nl = nl) (hc : CfgOK P C σ) (hcy : CY C P σ rec) : ∀ (l : List Oper) (j : Nat), ops.toList.drop j = l → j ≤ ops.size → ∀ (row0 : Nat → Row) {ms : T Nat} {pend : List Pn} {nid : Nat} {pt : T AV} {tl : TL} {h : H} {r : Rs},
    MsOK ops ms → (∀ q ∈ pend, ReadQ C nl q) →
    opsD rec X marks lim (dOps C nt nl ops.toList l j ms) (pastOf row0 j) pend nid pt tl h = some r →
    ∃ row, (∀ i, i < j → row i = row0 i) ∧ Rest C P σ nt nl ops rec X marks lim row j pend nid pt tl h r := by
  intro l
  induction l with
  | nil =>
    intro j hl hjs row0 ms pend nid pt tl h r _ hq hk
    have hj : j = ops.size := by
      have := congrArg List.length hl
      simp at this
      omega
    obtain ⟨h1, h2⟩ := pend_ok hq (show pendK rec X pend h (some (.code .norm ⟨pt, tl, marks⟩ h)) = some r from hk)
    have hR : setRow row0 j ⟨pt, tl, h, .tup [], .r⟩ j = ⟨pt, tl, h, .tup [], .r⟩ := by simp [setRow]
    refine ⟨setRow row0 j ⟨pt, tl, h, .tup [], .r⟩, fun i hi => by simp [setRow, show i ≠ j by omega], ⟨by rw [hR]; exact ⟨rfl, rfl, rfl⟩, ?_, fun i h3 h4 => by omega, fun i h3 h4 => by omega, ?_⟩⟩
    · rw [← hj, hR]; cases h1; rfl
    · intro q hq p h3 h4 _ _
      have : p = j := by omega
      subst this
      rw [hR]; exact h2 q hq
  | cons o l ih =>
    intro j hl hjs row0 ms pend nid pt tl h r hms hq hk
    have hlt : j < ops.size := by
      rcases Nat.lt_or_ge j ops.size with h1 | h1
      · exact h1
      · rw [List.drop_eq_nil_of_le (by simpa using h1)] at hl; cases hl
    have hoj : ops[j]? = some o := by
      have : (ops.toList.drop j)[0]? = some o := by rw [hl]; rfl
      simpa using this
    have hl' : ops.toList.drop (j + 1) = l := by
      have := congrArg (List.drop 1) hl
      simpa [List.drop_drop] using this
    -- what is alike for all classes
    have fin : ∀ (R : Row) (pend' : List Pn) (nid' : Nat) (pt' : T AV) (tl' : TL) (h' : H), R.pt = pt → R.tl = tl → R.h = h →
        opsD rec X marks lim (dOps C nt nl ops.toList l (j + 1) (ms.set j (opMask ms o))) (pastOf (setRow row0 j R) (j + 1)) pend' nid' pt' tl' h' = some r →
        (∀ q ∈ pend', ReadQ C nl q) →
        (∀ row, row j = R → (∀ i, i < j → row i = row0 i) → Rest C P σ nt nl ops rec X marks lim row (j + 1) pend' nid' pt' tl' h' r → Good C P σ nt nl ops row j) →
        ((R.k ≠ .e ∧ ∀ q ∈ pend, q ∈ pend') ∨ (R.k = .e ∧ ∀ q ∈ pend, Sam rec X q h ∧ (¬ Bef ops j q.j → q ∈ pend'))) →
        nid ≤ nid' → (∀ id blk, R.k = .a id blk → id = nid ∧ nid < nid' ∧ nid < lim) →
        ∃ row, (∀ i, i < j → row i = row0 i) ∧ Rest C P σ nt nl ops rec X marks lim row j pend nid pt tl h r := by
      intro R pend' nid' pt' tl' h' e1 e2 e3 hk' hq' hgood hpend hnid hid
      obtain ⟨row, hrow, rs⟩ := ih (j + 1) hl' hlt (setRow row0 j R) (hms.set hoj) hq' hk'
      have hRj : row j = R := by rw [hrow j (by omega)]; simp [setRow]
      have hlow : ∀ i, i < j → row i = row0 i := by
        intro i hi
        rw [hrow i (by omega)]
        simp [setRow, show i ≠ j by omega]
      refine ⟨row, hlow, ⟨by rw [hRj]; exact ⟨e1, e2, e3⟩, rs.res, ?_, ?_, ?_⟩⟩
      · intro i h1 h2
        by_cases e : i = j
        · subst e; exact hgood row hRj hlow rs
        · exact rs.good i (by omega) h2
      · intro i h1 h2 id blk hka
        by_cases e : i = j
        · subst e
          rw [hRj] at hka
          obtain ⟨g1, g2, g3⟩ := hid id blk hka
          refine ⟨by omega, by omega, ?_⟩
          intro i' h3 h4 id' blk' hka'
          have := (rs.ids i' (by omega) h4 id' blk' hka').1
          omega
        · obtain ⟨g1, g2, g3⟩ := rs.ids i (by omega) h2 id blk hka
          exact ⟨by omega, g2, g3⟩
      · intro q hqm p h1 h2 h3 h4
        rcases hpend with ⟨hne, hp⟩ | ⟨he, hp⟩
        · have hpj : p ≠ j := by
            intro e
            subst e
            rcases h3 with h3 | h3
            · omega
            · rw [hRj] at h3; exact hne h3
          exact rs.pend q (hp q hqm) p (by omega) h2 h3 fun i h5 h6 => h4 i (by omega) h6
        · obtain ⟨g1, g2⟩ := hp q hqm
          by_cases e : p = j
          · subst e; rw [hRj, e3]; exact g1
          · exact rs.pend q (g2 (h4 j (by omega) (by omega) (by rw [hRj]; exact he))) p (by omega) h2 h3 fun i h5 h6 => h4 i (by omega) h6
    have hdo : dOps C nt nl ops.toList (o :: l) j ms = dOpr C nt nl ops.toList j (opMask ms o) o :: dOps C nt nl ops.toList l (j + 1) (ms.set j (opMask ms o)) := rfl
    rw [hdo] at hk
    have hk1 : stepD rec X lim (dOpr C nt nl ops.toList j (opMask ms o) o) (opsD rec X marks lim (dOps C nt nl ops.toList l (j + 1) (ms.set j (opMask ms o)))) (pastOf row0 j) pend nid pt tl h = some r := hk
    clear hk
    generalize hgo : opsD rec X marks lim (dOps C nt nl ops.toList l (j + 1) (ms.set j (opMask ms o))) = go at hk1 fin
    unfold dOpr at hk1
    cases hop : cOpr C nt nl ops.toList o with
    | bad => rw [hop] at hk1; cases hk1
    | mk g d op =>
      rw [hop] at hk1
      obtain ⟨rfl, rfl, hgrd⟩ := grd_ok hoj hop
      have past0 : ∀ R : Row, R.k ≠ .e → pastOf (setRow row0 j R) (j + 1) = pastOf row0 j := by
        intro R hne
        have e1 : setRow row0 j R j = R := by simp [setRow]
        simp only [pastOf]
        rw [e1, pastOf_congr (row := setRow row0 j R) (row' := row0) j fun i hi => by simp [setRow, show i ≠ j by omega]]
        split
        · rename_i he; exact absurd he hne
        · rfl
      have past1 : ∀ R : Row, R.k = .e → pastOf (setRow row0 j R) (j + 1) = (j, R.h) :: pastOf row0 j := by
        intro R hke
        have e1 : setRow row0 j R j = R := by simp [setRow]
        simp only [pastOf]
        rw [e1, hke, pastOf_congr (row := setRow row0 j R) (row' := row0) j fun i hi => by simp [setRow, show i ≠ j by omega]]
      have putOf : ∀ {row : Nat → Row} {v : AV} {pt' : T AV} {tl' : TL}, (row j).pt = pt → (row j).tl = tl → (row j).v = v → (row (j + 1)).pt = pt' → (row (j + 1)).tl = tl' →
          (∀ t u, (odTmp nl t).val pt' tl' = some u → (o.dst = some t ∧ u = v) ∨ (o.dst ≠ some t ∧ (odTmp nl t).val pt tl = some u)) →
          ∀ t u, (row (j + 1)).look nl t = some u → (DstAt ops j t ∧ u = (row j).v) ∨ (¬ DstAt ops j t ∧ (row j).look nl t = some u) := by
        intro row v pt' tl' e1 e2 e3 e4 e5 hput t u hu
        unfold Row.look at hu ⊢
        rw [e4, e5] at hu
        rw [e1, e2, e3, dstAt_iff hoj]
        exact hput t u hu
      -- the guard is off, and no effect
      have off : dstK (cDst nt nl o.dst) (go (pastOf row0 j) pend nid) pt tl (.tup []) h = some r →
          (∀ (ρ : Rho) (σ : Sig) (R : Row) (a : Act), R.pt = pt → R.tl = tl → Env ops ρ σ nt nl j R a → Region.wanted o (yielded ops a.tmps) = false) →
          ∃ row, (∀ i, i < j → row i = row0 i) ∧ Rest C P σ nt nl ops rec X marks lim row j pend nid pt tl h r := by
        intro hk2 hw
        obtain ⟨pt', tl', hk3, hd, hput⟩ := dstK_look hk2
        refine fin ⟨pt, tl, h, .tup [], .r⟩ pend nid pt' tl' h rfl rfl rfl (by rw [past0 _ (by simp)]; exact hk3) hq ?_ (.inl ⟨by simp, fun q hq => hq⟩) (Nat.le_refl _) (fun id blk h => nomatch h)
        intro row hRj _ rs
        refine ⟨by rw [hRj]; exact (fun h => nomatch h), by rw [hRj]; exact (fun _ _ h => nomatch h), fun t ht => hd t ((dstAt_iff hoj).1 ht), putOf (by rw [hRj]) (by rw [hRj]) (by rw [hRj]) rs.here.1 rs.here.2.1 hput, ?_, by rw [hRj]; exact (fun _ _ h => nomatch h), by rw [hRj]; exact (fun h => nomatch h)⟩
        intro _
        refine ⟨by rw [hRj]; exact rs.here.2.2, ?_⟩
        intro p _ _ _ _
        exact off_fact hoj (fun ρ a henv => hw ρ σ (row j) a (by rw [hRj]) (by rw [hRj]) henv) (by rw [hRj])
      cases hpa : isPa C o.op with
      | true =>
        have hcC : clsC C o.op = .a := by unfold clsC; rw [hpa]; rfl
        have hdc : dcOf C nl o.op j (opMask ms o) = .b (ods nl o.op.operands.toList) := by unfold dcOf; rw [hpa]; rfl
        rw [hdc] at hk1
        rcases hgrd (show grdK g pt tl _ _ = some r from hk1) with ⟨hk2, hw⟩ | ⟨hk2, hw⟩
        · obtain ⟨hlim, hk3⟩ := ifK_some hk2
          obtain ⟨us, hus, hk4⟩ := evAll_some hk3
          obtain ⟨hok, hk5⟩ := ifK_some hk4
          obtain ⟨v, h', hk6, h2⟩ := op_ok (C := C) (nl := nl) o rec X _ pt tl ⟨.nil, nid⟩ r hk5
          obtain ⟨hns, hk7⟩ := ifK_some hk6
          obtain ⟨hnx, hk8⟩ := ifK_some hk7
          obtain ⟨blk, hblk, hk8b⟩ := optK_some hk8
          obtain ⟨hokb, hk9⟩ := ifK_some hk8b
          obtain ⟨pt', tl', hk10, hd, hput⟩ := dstK_look hk9
          refine fin ⟨pt, tl, h, v, .a nid blk⟩ pend (nid + 1) pt' tl' (h.put nid blk) rfl rfl rfl (by rw [past0 _ (by simp)]; exact hk10) hq ?_ (.inl ⟨by simp, fun q hq => hq⟩) (by omega) ?_
          · intro row hRj _ rs
            refine ⟨by rw [hRj]; exact (fun h => nomatch h), (fun _ _ _ => ⟨o, hoj, hcC⟩), fun t ht => hd t ((dstAt_iff hoj).1 ht), putOf (by rw [hRj]) (by rw [hRj]) (by rw [hRj]) rs.here.1 rs.here.2.1 hput, by rw [hRj]; exact (fun h => nomatch h), ?_, by rw [hRj]; exact (fun h => nomatch h)⟩
            intro id blk' hka
            rw [hRj] at hka
            cases hka
            refine ⟨by rw [hRj]; exact rs.here.2.2, ?_⟩
            intro ρ w a b hh hrel hnone henv
            have ho := henv.opd hoj
            rw [hRj] at ho ⊢
            obtain ⟨v', w', ρ', h3, h4, h5, h6⟩ := h2 P σ (trn ρ nid) w a b hc hcy (hrel.trn nid) (opdR_trn hus hok ho)
            exact b_fact hnone hns hokb hblk (steps_exec hoj h3 (hw ρ σ (row j) a (by rw [hRj]) (by rw [hRj]) henv)) h4 h5 h6
          · intro id blk' hka
            cases hka
            exact ⟨rfl, by omega, Nat.le_of_ble_eq_true hlim⟩
        · exact off hk2 hw
      | false =>
      have hcC : clsC C o.op = clsOp o.op := by unfold clsC; rw [hpa]; rfl
      cases hcl : clsOp o.op with
      | p =>
        have hdc : dcOf C nl o.op j (opMask ms o) = .p := by unfold dcOf; rw [hpa, hcl]; rfl
        rw [hdc] at hk1
        rcases hgrd (show grdK g pt tl _ _ = some r from hk1) with ⟨hk2, hw⟩ | ⟨hk2, hw⟩
        · obtain ⟨v, h1, h2⟩ := cls_p (C := C) (nl := nl) hcl rec X _ pt tl h r hk2
          rw [h1] at hk2
          obtain ⟨pt', tl', hk3, hd, hput⟩ := dstK_look hk2
          refine fin ⟨pt, tl, h, v, .r⟩ pend nid pt' tl' h rfl rfl rfl (by rw [past0 _ (by simp)]; exact hk3) hq ?_ (.inl ⟨by simp, fun q hq => hq⟩) (Nat.le_refl _) (fun id blk h => nomatch h)
          intro row hRj _ rs
          refine ⟨by rw [hRj]; exact (fun h => nomatch h), by rw [hRj]; exact (fun _ _ h => nomatch h), fun t ht => hd t ((dstAt_iff hoj).1 ht), putOf (by rw [hRj]) (by rw [hRj]) (by rw [hRj]) rs.here.1 rs.here.2.1 hput, ?_, by rw [hRj]; exact (fun _ _ h => nomatch h), by rw [hRj]; exact (fun h => nomatch h)⟩
          intro _
          refine ⟨by rw [hRj]; exact rs.here.2.2, ?_⟩
          intro p _ _ _ _ ρ w a b hr henv
          have ho := henv.opd hoj
          rw [hRj] at ho ⊢
          obtain ⟨v', h3, h4⟩ := h2 P σ ρ a.eval w hc ho
          exact ⟨v', steps_exec hoj (does_of_exec (noDefer_of hcl (by simp)) h3) (hw ρ σ (row j) a (by rw [hRj]) (by rw [hRj]) henv), h4⟩
        · exact off hk2 hw
      | r =>
        have hdc : dcOf C nl o.op j (opMask ms o) = .r j (opMask ms o) := by unfold dcOf; rw [hpa, hcl]; rfl
        rw [hdc] at hk1
        rcases hgrd (show grdK g pt tl _ _ = some r from hk1) with ⟨hk2, hw⟩ | ⟨hk2, hw⟩
        · have hR := cls_r (C := C) (nl := nl) hcl
          obtain ⟨v, h1, h2⟩ := hR rec X _ pt tl h r hk2
          rw [h1] at hk2
          obtain ⟨hk3, hback⟩ := back_ok hR j hk2
          obtain ⟨pt', tl', hk4, hd, hput⟩ := dstK_look hk3
          refine fin ⟨pt, tl, h, v, .r⟩ (⟨j, cOp C nl o.op, pt, tl, v⟩ :: pend) nid pt' tl' h rfl rfl rfl (by rw [past0 _ (by simp)]; exact hk4) ?_ ?_ (.inl ⟨by simp, fun q hq => List.mem_cons_of_mem _ hq⟩) (Nat.le_refl _) (fun id blk h => nomatch h)
          · intro q hqm
            rcases List.mem_cons.1 hqm with e | e
            · subst e; exact ⟨o, hR⟩
            · exact hq q e
          intro row hRj hlow rs
          refine ⟨by rw [hRj]; exact (fun h => nomatch h), by rw [hRj]; exact (fun _ _ h => nomatch h), fun t ht => hd t ((dstAt_iff hoj).1 ht), putOf (by rw [hRj]) (by rw [hRj]) (by rw [hRj]) rs.here.1 rs.here.2.1 hput, ?_, by rw [hRj]; exact (fun _ _ h => nomatch h), by rw [hRj]; exact (fun h => nomatch h)⟩
          intro _
          refine ⟨by rw [hRj]; exact rs.here.2.2, ?_⟩
          intro p hp hst hb1 hb2
          refine sam_fact (rec := rec) (X := X) hc hoj hcl (fun ρ a henv => hw ρ σ (row j) a (by rw [hRj]) (by rw [hRj]) henv) ?_
          rw [hRj]
          rcases Nat.lt_or_ge j p with hjp | hjp
          · exact rs.pend _ (by simp) p hjp hp hst fun i h3 h4 h5 => hb2 i h4 h5
          · have hpj : p < j := by
              rcases Nat.lt_or_ge p j with h3 | h3
              · exact h3
              · have : p = j := by omega
                subst this
                rcases hst with h4 | h4
                · omega
                · rw [hRj] at h4; cases h4
            have hpe : (row p).k = .e := by
              rcases hst with h4 | h4
              · omega
              · exact h4
            rw [hlow p hpj] at hpe ⊢
            refine hback p hpj hpe ?_
            intro i h3 h4 h5
            cases hbit : hasBit (opMask ms o) i with
            | false => rfl
            | true =>
              have hbf := opMask_ok hms hoj hbit
              have := hb1 i (by omega) (by rw [hlow i h4]; exact h5) hbf
              omega
        · exact off hk2 hw
      | a =>
        have hdc : dcOf C nl o.op j (opMask ms o) = .a := by unfold dcOf; rw [hpa, hcl]; rfl
        rw [hdc] at hk1
        rcases hgrd (show grdK g pt tl _ _ = some r from hk1) with ⟨hk2, hw⟩ | ⟨hk2, hw⟩
        · obtain ⟨hlim, hk3⟩ := ifK_some hk2
          obtain ⟨mk, blk, h1, h2⟩ := cls_a (C := C) (nl := nl) hcl rec X _ pt tl ⟨h.1, nid⟩ r hk3
          rw [h1] at hk3
          have hk4 : dstK (cDst nt nl o.dst) (go (pastOf row0 j) pend (nid + 1)) pt tl (mk nid) (h.put nid blk) = some r := hk3
          obtain ⟨pt', tl', hk5, hd, hput⟩ := dstK_look hk4
          refine fin ⟨pt, tl, h, mk nid, .a nid blk⟩ pend (nid + 1) pt' tl' (h.put nid blk) rfl rfl rfl (by rw [past0 _ (by simp)]; exact hk5) hq ?_ (.inl ⟨by simp, fun q hq => hq⟩) (by omega) ?_
          · intro row hRj _ rs
            refine ⟨by rw [hRj]; exact (fun h => nomatch h), (fun _ _ _ => ⟨o, hoj, hcC.trans hcl⟩), fun t ht => hd t ((dstAt_iff hoj).1 ht), putOf (by rw [hRj]) (by rw [hRj]) (by rw [hRj]) rs.here.1 rs.here.2.1 hput, by rw [hRj]; exact (fun h => nomatch h), ?_, by rw [hRj]; exact (fun h => nomatch h)⟩
            intro id blk' hka
            rw [hRj] at hka
            cases hka
            refine ⟨by rw [hRj]; exact rs.here.2.2, ?_⟩
            intro ρ w a b hh hrel hnone henv
            have ho := henv.opd hoj
            rw [hRj] at ho ⊢
            obtain ⟨obj, v', S, h3, hz, h4, h5⟩ := h2 P σ ρ a.eval w hc ho
            have hsub := sub_reserve hnone (w.heap.size, S)
            exact ⟨_, _, obj, v', S, steps_exec hoj (does_of_exec (noDefer_of hcl (by simp)) h3) (hw ρ σ (row j) a (by rw [hRj]) (by rw [hRj]) henv), Pushed.push w hz, h4.mono hsub, h5 _ nid hsub (upd_self _ _ _)⟩
          · intro id blk' hka
            cases hka
            exact ⟨rfl, by omega, Nat.le_of_ble_eq_true hlim⟩
        · exact off hk2 hw
      | e =>
        have hdc : dcOf C nl o.op j (opMask ms o) = .e j (opMask ms o) := by unfold dcOf; rw [hpa, hcl]; rfl
        rw [hdc] at hk1
        obtain ⟨hk2, hpd⟩ := pend_ok hq (show pendK rec X pend h _ = some r from hk1)
        have hdrop : ∀ q ∈ pend, Sam rec X q h ∧ (¬ Bef ops j q.j → q ∈ dropP (opMask ms o) pend) := by
          intro q hqm
          refine ⟨hpd q hqm, ?_⟩
          intro hn
          refine dropP_mem.2 hqm ?_
          cases hbit : hasBit (opMask ms o) q.j with
          | false => rfl
          | true => exact absurd (opMask_ok hms hoj hbit) hn
        rcases hgrd hk2 with ⟨hk3, hw⟩ | ⟨hk3, hw⟩
        · obtain ⟨v, h', h1, h2⟩ := op_ok (C := C) (nl := nl) o rec X _ pt tl h r hk3
          obtain ⟨pt', tl', hk4, hd, hput⟩ := dstK_look h1
          refine fin ⟨pt, tl, h, v, .e⟩ (dropP (opMask ms o) pend) nid pt' tl' h' rfl rfl rfl (by rw [past1 _ rfl]; exact hk4) (fun q hqm => hq q (dropP_mem.1 hqm)) ?_ (.inr ⟨rfl, hdrop⟩) (Nat.le_refl _) (fun id blk h => nomatch h)
          intro row hRj _ rs
          refine ⟨(fun _ => ⟨o, hoj, hcC.trans hcl⟩), by rw [hRj]; exact (fun _ _ h => nomatch h), fun t ht => hd t ((dstAt_iff hoj).1 ht), putOf (by rw [hRj]) (by rw [hRj]) (by rw [hRj]) rs.here.1 rs.here.2.1 hput, by rw [hRj]; exact (fun h => nomatch h), by rw [hRj]; exact (fun _ _ h => nomatch h), ?_⟩
          intro _ ρ w a b hr henv
          have ho := henv.opd hoj
          rw [hRj] at ho hr ⊢
          rw [rs.here.2.2]
          obtain ⟨v', w', ρ', h3, h4⟩ := h2 P σ ρ w a b hc hcy hr ho
          exact ⟨v', w', ρ', steps_exec hoj h3 (hw ρ σ (row j) a (by rw [hRj]) (by rw [hRj]) henv), h4⟩
        · obtain ⟨pt', tl', hk4, hd, hput⟩ := dstK_look hk3
          refine fin ⟨pt, tl, h, .tup [], .e⟩ (dropP (opMask ms o) pend) nid pt' tl' h rfl rfl rfl (by rw [past1 _ rfl]; exact hk4) (fun q hqm => hq q (dropP_mem.1 hqm)) ?_ (.inr ⟨rfl, hdrop⟩) (Nat.le_refl _) (fun id blk h => nomatch h)
          intro row hRj _ rs
          refine ⟨(fun _ => ⟨o, hoj, hcC.trans hcl⟩), by rw [hRj]; exact (fun _ _ h => nomatch h), fun t ht => hd t ((dstAt_iff hoj).1 ht), putOf (by rw [hRj]) (by rw [hRj]) (by rw [hRj]) rs.here.1 rs.here.2.1 hput, by rw [hRj]; exact (fun h => nomatch h), by rw [hRj]; exact (fun _ _ h => nomatch h), ?_⟩
          intro _ ρ w a b hr henv
          rw [rs.here.2.2]
          rw [hRj] at hr ⊢
          exact ⟨undef, w, ρ, steps_skip hoj (hw ρ σ (row j) a (by rw [hRj]) (by rw [hRj]) henv), ⟨[], rfl, .nil⟩, hr, Ext.refl ρ h w hr⟩
/-- the blocks that a region may make are not there yet -/
theorem absent_ok {h : H} {k : OR} {r : Rs} : ∀ {n id : Nat}, absentK h n id k = some r → k = some r ∧ ∀ i, id ≤ i → i < id + n → h.get i = none := by
  intro n
  induction n with
  | zero => intro id hk; exact ⟨hk, fun i h1 h2 => by omega⟩
  | succ n ih =>
    intro id hk
    have hk' : @Option.rec Blk (fun _ => OR) (absentK h n (id + 1) k) (fun _ => none) (h.get id) = some r := hk
    cases hg : h.get id with
    | some x => rw [hg] at hk'; cases hk'
    | none =>
      rw [hg] at hk'
      obtain ⟨h1, h2⟩ := ih hk'
      refine ⟨h1, ?_⟩
      intro i h3 h4
      by_cases e : i = id
      · subst e; exact hg
      · exact h2 i (by omega) (by omega)
/-- a drawn region, in whatever order -/
theorem draw_s (hc : CfgOK P C σ) (hcy : CY C P σ rec) {fr fr' : FR} {h h' : H} {o : Out} (hk : stDraw C rec X ops.toList fr h = some (.code o fr' h')) :
    o = .norm ∧ ∀ ρ w (a : Act) (b : Frame) t, Rel ρ σ C h w → FrR ρ σ X.nt X.nl fr a →
      ∃ a' w' ρ', (∀ k cs, Steps P (lone (b.atR a (.inRegion ops (Region.linearise .any ops t) :: k)) cs w) (lone (b.atR a' k) cs w')) ∧ FrR ρ' σ X.nt X.nl fr' a' ∧ Rel ρ' σ C h' w' ∧ Ext ρ ρ' h h' w w' := by
  obtain ⟨hchk, hk1⟩ := ifK_some hk
  obtain ⟨hk2, habs⟩ := absent_ok hk1
  have st : Static C ops 0 := dChk_ok ops.toList 0 rfl ⟨MsOK.nil, fun i hi => by omega, fun i hi => by omega, fun i o hi => by omega⟩ hchk
  let R0 : Row := ⟨.nil, .nil, h, .tup [], .r⟩
  obtain ⟨row, _, rs⟩ := pass_plan (ops := ops) (nt := X.nt) (nl := X.nl) ⟨rfl, rfl⟩ hc hcy ops.toList 0 rfl (Nat.zero_le _) (fun _ => R0) MsOK.nil (fun q hq => by cases hq) hk2
  have hres := rs.res
  cases hres
  refine ⟨rfl, ?_⟩
  have hn0 : (row 0).h.next = h.next + countA C ops.toList := by rw [rs.here.2.2]; rfl
  have pl : Plan C P σ X.nt X.nl ops row (Bef ops) h.next := by
    refine ⟨fun j o ho => st.fwd j o ho (Nat.zero_le _), fun j i hb => hb.clo, ?_, fun i j t h1 h2 => st.nam i j t h1 (Nat.zero_le _) h2, fun i j t h1 h2 => st.nam' i j t h1 (Nat.zero_le _) h2,
      fun j hj => (rs.good j (Nat.zero_le _) hj).put, ?_, ?_, fun j hj hkr => (rs.good j (Nat.zero_le _) hj).kR hkr, ?_, fun j hj => (rs.good j (Nat.zero_le _) hj).kE, ?_, ?_⟩
    · intro j t hd
      obtain ⟨o, ho, _⟩ := id hd
      exact (rs.good j (Nat.zero_le _) (Array.getElem?_eq_some_iff.1 ho).1).dst t hd
    · intro i j h1 h2 h3 h4
      exact st.chain i j h1 (Nat.zero_le _) ((rs.good i (Nat.zero_le _) (by omega)).cE h3) ((rs.good j (Nat.zero_le _) h2).cE h4)
    · intro i j h1 h2 id blk h3 h4
      exact st.alloc i j h1 (Nat.zero_le _) ((rs.good i (Nat.zero_le _) (by omega)).cA id blk h3) ((rs.good j (Nat.zero_le _) h2).cE h4)
    · intro j hj id blk hka
      obtain ⟨g1, g2, _⟩ := rs.ids j (Nat.zero_le _) hj id blk hka
      obtain ⟨g3, g4⟩ := (rs.good j (Nat.zero_le _) hj).kA id blk hka
      exact ⟨g3, g1, by rw [hn0]; exact g2, g4⟩
    · intro i j h1 h2 id blk id' blk' h3 h4
      have := (rs.ids i (Nat.zero_le _) (by omega) id blk h3).2.2 j h1 h2 id' blk' h4
      omega
    · intro id h1 h2 ⟨x, hx, _⟩
      rw [rs.here.2.2] at hx
      have h3 : h.get id = some x := hx
      rw [habs id h1 (by rw [hn0] at h2; exact h2)] at h3
      cases h3
  intro ρ w a b t hr hf
  have hrow : Rel ρ σ C (row 0).h w := by
    rw [rs.here.2.2]
    exact ⟨fun b r S hb => by have := hr.lt b r S hb; show b < h.next + countA C ops.toList; omega, hr.blk, hr.inj⟩
  have hext : Ext ρ ρ h (row 0).h w w := by
    rw [rs.here.2.2]
    exact ⟨by show h.next ≤ h.next + countA C ops.toList; omega, fun _ _ => rfl, fun b r S hb he => by rw [hr.absent hb] at he; simp at he, Nat.le_refl _, fun _ _ h => h, fun _ _ _ => rfl, rfl, rfl, rfl, fun _ => rfl⟩
  obtain ⟨ρ', a', w', hfin, hsteps⟩ := draw_run pl (Nat.le_refl _) hr hrow hext hf.size (fun u x hu => by
    unfold Row.look at hu
    rw [rs.here.1, rs.here.2.1] at hu
    exact odTmp_get hf.pt (fun t v _ hv => by cases hv) hu) b t
  refine ⟨a', w', ρ', hsteps, ⟨hfin.size, ?_, ?_, ?_⟩, hfin.rel, hfin.ext⟩
  · intro u x hu hx
    refine hfin.tmp u x ?_
    unfold Row.look odTmp
    rw [show Nat.blt u X.nl = true from le_ble hu]
    exact hx
  · intro u x hu hx
    refine hfin.tmp u x ?_
    unfold Row.look odTmp
    cases hb : Nat.blt u X.nl with
    | true => have : u < X.nl := Nat.le_of_ble_eq_true hb; omega
    | false => exact hx
  · rw [hfin.defers]
    exact (hf.mono (hfin.ext.sub hr)).marks
end Eng
end

noncomputable section
namespace Eng
open Go
variable {ρ ρ' : Rho} {σ : Sig} {C : Cfg} {P : Program} {o : Oper}

/-- where code begins: a loop also behind its own body -/
inductive Starts : Code → List Item → List Item → Prop
  | code {c k} : Starts c (.code c :: k) k
  | loop {b k} : Starts (.loop b) (.inLoop b :: k) k
def ArrR (P : Program) (m : Machine) (b : Frame) (k : List Item) (cs : List Frame) (o : Out) (a : Act) (w : World) : Prop :=
  match o with
  | .norm => Steps P m (lone (b.atR a k) cs w)
  | .exit id => ∃ k0, exitTo id k0 = exitTo id k ∧ Steps P m (lone (b.atR a (.code (.exit id) :: k0)) cs w)
  | .ret => ∃ k0, Steps P m (lone (b.atR a (.code .ret :: k0)) cs w)
theorem ArrR.of_steps {m m1 : Machine} {b : Frame} {k : List Item} {cs : List Frame} {o : Out} {a : Act} {w : World} (h : Steps P m m1) (h' : ArrR P m1 b k cs o a w) : ArrR P m b k cs o a w := by
  cases o with
  | norm => exact h.trans h'
  | exit id => obtain ⟨k0, h1, h2⟩ := h'; exact ⟨k0, h1, h.trans h2⟩
  | ret => obtain ⟨k0, h2⟩ := h'; exact ⟨k0, h.trans h2⟩
def CodeR (P : Program) (c : Code) (b : Frame) (a : Act) (w : World) (o : Out) (a' : Act) (w' : World) : Prop :=
  ∀ todo k cs, Starts c todo k → ArrR P (lone (b.atR a todo) cs w) b k cs o a' w'
def CodeS (C : Cfg) (P : Program) (σ : Sig) (rec : Rec) : Prop := ∀ X c fr h o fr' h', rec X (.code c fr) h = some (.code o fr' h') →
  ∀ ρ w a b, CtxR C ρ X b → Rel ρ σ C h w → FrR ρ σ X.nt X.nl fr a →
    ∃ a' w' ρ', CodeR P c b a w o a' w' ∧ FrR ρ' σ X.nt X.nl fr' a' ∧ Rel ρ' σ C h' w' ∧ Ext ρ ρ' h h' w w'
/-- the same for the result of one evaluation -/
def CodeSt (C : Cfg) (P : Program) (σ : Sig) (X : Ctx) (c : Code) (fr : FR) (h : H) (o : Out) (fr' : FR) (h' : H) : Prop :=
  ∀ ρ w a b, CtxR C ρ X b → Rel ρ σ C h w → FrR ρ σ X.nt X.nl fr a →
    ∃ a' w' ρ', CodeR P c b a w o a' w' ∧ FrR ρ' σ X.nt X.nl fr' a' ∧ Rel ρ' σ C h' w' ∧ Ext ρ ρ' h h' w w'
theorem codeK_some {x : OR} {k : Out → FR → H → OR} {r : Rs} (h : codeK x k = some r) : ∃ o fr hh, x = some (.code o fr hh) ∧ k o fr hh = some r := by
  cases x with
  | none => cases h
  | some y => cases y with
    | code o fr hh => exact ⟨o, fr, hh, rfl, h⟩
    | val v hh => cases h
theorem codeR_code {c : Code} (hc : ∀ b, c ≠ .loop b) {b : Frame} {a : Act} {w : World} {o : Out} {a' : Act} {w' : World}
    (h : ∀ k cs, ArrR P (lone (b.atR a (.code c :: k)) cs w) b k cs o a' w') : CodeR P c b a w o a' w' := by
  intro todo k cs hs
  cases hs with
  | code => exact h k cs
  | loop => exact absurd rfl (hc _)
theorem stay {X : Ctx} {c : Code} {fr : FR} {h : H} {o : Out} (hc : ∀ b, c ≠ .loop b) (hs : ∀ (b : Frame) a w k cs, ArrR P (lone (b.atR a (.code c :: k)) cs w) b k cs o a w) : CodeSt C P σ X c fr h o fr h := by
  intro ρ w a b _ hr hf
  exact ⟨a, w, ρ, codeR_code hc (hs b a w), hf, hr, Ext.refl ρ h w hr⟩
/-- one after another -/
theorem seq_st {rec : Rec} (hrec : CodeS C P σ rec) {X : Ctx} {c1 c2 c : Code} {fr : FR} {h : H} {o : Out} {fr' : FR} {h' : H}
    (hk : stSeq (rec X (.code c1 fr) h) (fun fr h => rec X (.code c2 fr) h) = some (.code o fr' h'))
    (hst : ∀ (b : Frame) a todo k cs, Starts c todo k → ∃ todo2, Starts c2 todo2 k ∧ (∀ id, exitTo id todo2 = exitTo id k) ∧ ∀ w, Steps P (lone (b.atR a todo) cs w) (lone (b.atR a (.code c1 :: todo2)) cs w)) :
    CodeSt C P σ X c fr h o fr' h' := by
  obtain ⟨o1, fr1, h1, he1, hk1⟩ := codeK_some hk
  intro ρ w a b hx hr hf
  obtain ⟨a1, w1, ρ1, hc1, hf1, hr1, hx1⟩ := hrec X c1 fr h o1 fr1 h1 he1 ρ w a b hx hr hf
  cases o1 with
  | norm =>
    obtain ⟨a2, w2, ρ2, hc2, hf2, hr2, hx2⟩ := hrec X c2 fr1 h1 o fr' h' hk1 ρ1 w1 a1 b (hx.mono (hx1.sub hr)) hr1 hf1
    refine ⟨a2, w2, ρ2, ?_, hf2, hr2, hx1.trans hr hr1 hx2⟩
    intro todo k cs hs
    obtain ⟨todo2, s1, s2, s3⟩ := hst b a todo k cs hs
    exact .of_steps ((s3 w).trans (hc1 _ todo2 cs .code)) (hc2 todo2 k cs s1)
  | exit id =>
    cases hk1
    refine ⟨a1, w1, ρ1, ?_, hf1, hr1, hx1⟩
    intro todo k cs hs
    obtain ⟨todo2, s1, s2, s3⟩ := hst b a todo k cs hs
    obtain ⟨k0, g1, g2⟩ := hc1 _ todo2 cs .code
    exact ⟨k0, g1.trans (s2 id), (s3 w).trans g2⟩
  | ret =>
    cases hk1
    refine ⟨a1, w1, ρ1, ?_, hf1, hr1, hx1⟩
    intro todo k cs hs
    obtain ⟨todo2, s1, s2, s3⟩ := hst b a todo k cs hs
    obtain ⟨k0, g2⟩ := hc1 _ todo2 cs .code
    exact ⟨k0, (s3 w).trans g2⟩
theorem block_st {rec : Rec} (hrec : CodeS C P σ rec) {X : Ctx} {id : Nat} {c1 : Code} {fr : FR} {h : H} {o : Out} {fr' : FR} {h' : H} (hk : stBlock id (rec X (.code c1 fr) h) = some (.code o fr' h')) :
    CodeSt C P σ X (.block id c1) fr h o fr' h' := by
  obtain ⟨o1, fr1, h1, he1, hk1⟩ := codeK_some hk
  intro ρ w a b hx hr hf
  obtain ⟨a1, w1, ρ1, hc1, hf1, hr1, hx1⟩ := hrec X c1 fr h o1 fr1 h1 he1 ρ w a b hx hr hf
  cases o1 with
  | norm =>
    cases hk1
    exact ⟨a1, w1, ρ1, codeR_code (by simp) fun k cs => .head stepR_block ((hc1 _ (.inBlock id :: k) cs .code).trans (.one stepR_inBlock)), hf1, hr1, hx1⟩
  | exit id' =>
    have hk2 : @Bool.rec (fun _ => OR) (some (.code (.exit id') fr1 h1)) (some (.code .norm fr1 h1)) (Nat.beq id id') = some (.code o fr' h') := hk1
    cases hb : Nat.beq id id' with
    | true =>
      rw [hb] at hk2
      cases hk2
      have := beq_eq hb
      subst this
      refine ⟨a1, w1, ρ1, codeR_code (by simp) fun k cs => ?_, hf1, hr1, hx1⟩
      obtain ⟨k0, g1, g2⟩ := hc1 _ (.inBlock id :: k) cs .code
      exact .head stepR_block (g2.trans (.one (stepR_exit (g1.trans (by simp [exitTo])))))
    | false =>
      rw [hb] at hk2
      cases hk2
      refine ⟨a1, w1, ρ1, codeR_code (by simp) fun k cs => ?_, hf1, hr1, hx1⟩
      obtain ⟨k0, g1, g2⟩ := hc1 _ (.inBlock id :: k) cs .code
      refine ⟨k0, g1.trans ?_, .head stepR_block g2⟩
      have := beq_false_ne hb
      simp [exitTo, this]
  | ret =>
    cases hk1
    refine ⟨a1, w1, ρ1, codeR_code (by simp) fun k cs => ?_, hf1, hr1, hx1⟩
    obtain ⟨k0, g2⟩ := hc1 _ (.inBlock id :: k) cs .code
    exact ⟨k0, .head stepR_block g2⟩
theorem stepR_scope {c : Code} {b : Frame} {a : Act} {k : List Item} {cs : List Frame} {w : World} : step P (lone (b.atR a (.code (.scope c) :: k)) cs w) = .next (lone (b.atR a (.code c :: .inScope c :: k)) cs w) :=
  step_lone_go (by simp [stepG, stepG.exec, Frame.atR])
theorem stepR_inScope {c : Code} {b : Frame} {a : Act} {k : List Item} {cs : List Frame} {w : World} : step P (lone (b.atR a (.inScope c :: k)) cs w) = .next (lone (b.atR a k) cs w) :=
  step_lone_go (by simp [stepG, stepG.exec, Frame.atR])
theorem scope_st {rec : Rec} (hrec : CodeS C P σ rec) {X : Ctx} {c1 : Code} {fr : FR} {h : H} {o : Out} {fr' : FR} {h' : H} (hk : rec X (.code c1 fr) h = some (.code o fr' h')) :
    CodeSt C P σ X (.scope c1) fr h o fr' h' := by
  intro ρ w a b hx hr hf
  obtain ⟨a1, w1, ρ1, hc1, hf1, hr1, hx1⟩ := hrec X c1 fr h o fr' h' hk ρ w a b hx hr hf
  refine ⟨a1, w1, ρ1, codeR_code (by simp) fun k cs => ?_, hf1, hr1, hx1⟩
  have h1 := hc1 _ (.inScope c1 :: k) cs .code
  cases o with
  | norm => exact .head stepR_scope (Steps.trans h1 (.one stepR_inScope))
  | exit id => obtain ⟨k0, g1, g2⟩ := h1; exact ⟨k0, g1, .head stepR_scope g2⟩
  | ret => obtain ⟨k0, g2⟩ := h1; exact ⟨k0, .head stepR_scope g2⟩
theorem cond_st {rec : Rec} (hrec : CodeS C P σ rec) {X : Ctx} {c : Operand} {c1 c2 : Code} {fr : FR} {h : H} {o : Out} {fr' : FR} {h' : H}
    (hk : ev (od X.nl c) fr.pt fr.tl (stCond rec X c1 c2 fr h) = some (.code o fr' h')) : CodeSt C P σ X (.cond c c1 c2) fr h o fr' h' := by
  obtain ⟨u, hu, hk1⟩ := ev_some hk
  obtain ⟨t, rfl, hk2⟩ := boolK_some hk1
  intro ρ w a b hx hr hf
  have ht : a.eval c = .bool t := od_val hf.pt hf.tl hu
  cases t with
  | true =>
    obtain ⟨a1, w1, ρ1, hc1, hrest⟩ := hrec X c1 fr h o fr' h' hk2 ρ w a b hx hr hf
    exact ⟨a1, w1, ρ1, codeR_code (by simp) fun k cs => .of_steps (.one (by have := stepR_cond (P := P) (b := b) (k := k) (cs := cs) (w := w) (x := c1) (y := c2) ht; simpa using this)) (hc1 _ k cs .code), hrest⟩
  | false =>
    obtain ⟨a1, w1, ρ1, hc1, hrest⟩ := hrec X c2 fr h o fr' h' hk2 ρ w a b hx hr hf
    exact ⟨a1, w1, ρ1, codeR_code (by simp) fun k cs => .of_steps (.one (by have := stepR_cond (P := P) (b := b) (k := k) (cs := cs) (w := w) (x := c1) (y := c2) ht; simpa using this)) (hc1 _ k cs .code), hrest⟩
theorem region_st (hc : CfgOK P C σ) {rec : Rec} (hcy : CY C P σ rec) {X : Ctx} {id : Nat} {ops : Array Oper} {fr : FR} {h : H} {o : Out} {fr' : FR} {h' : H}
    (hk : opsL rec X fr.marks (cOps C X.nt X.nl ops.toList ops.toList) fr.pt .nil h = some (.code o fr' h')) : CodeSt C P σ X (.region id ops false) fr h o fr' h' := by
  obtain ⟨fr1, h1, he, hall⟩ := ops_seq ops.toList 0 rfl hk
  cases he
  intro ρ w a b hx hr hf
  obtain ⟨a', w', ρ', hs, hf', hr', he'⟩ := hall P σ ρ w a b hc hcy hr ⟨hf.size, hf.pt, (fun t v _ hv => by cases hv), hf.marks⟩
  refine ⟨a', w', ρ', codeR_code (by simp) fun k cs => .head stepR_region ?_, hf', hr', he'⟩
  have := hs k cs
  rw [List.range_eq_range']
  exact this
theorem draw_st (hc : CfgOK P C σ) {rec : Rec} (hcy : CY C P σ rec) {X : Ctx} {id : Nat} {ops : Array Oper} {fr : FR} {h : H} {o : Out} {fr' : FR} {h' : H}
    (hk : stDraw C rec X ops.toList fr h = some (.code o fr' h')) : CodeSt C P σ X (.region id ops true) fr h o fr' h' := by
  obtain ⟨rfl, hall⟩ := draw_s hc hcy hk
  intro ρ w a b hx hr hf
  obtain ⟨a', w', ρ', hs, hf', hr', he'⟩ := hall ρ { w with drawn := w.drawn + 1 } a b (w.tape w.drawn (.order b.fn id)) (hr.drew _) hf
  refine ⟨a', w', ρ', codeR_code (by simp) fun k cs => .head stepR_region_draw ?_, hf', hr', (Ext.drew hr _).trans hr (hr.drew _) he'⟩
  have := hs k cs
  rw [hc.mixed]
  exact this
end Eng
end

noncomputable section
namespace Eng
open Go
variable {ρ ρ' : Rho} {σ : Sig} {C : Cfg} {P : Program} {o : Oper}

theorem loopK_some {h : H} {l : Nat} {k : LoopA → OR} {r : Rs} (hk : loopK h l k = some r) : ∃ x, h.get l = some (.loop x) ∧ k x = some r := by
  obtain ⟨b, hb, hk1⟩ := optK_some (o := h.get l) hk
  cases b with
  | loop x => exact ⟨x, hb, hk1⟩
  | _ => cases hk1
theorem Rel.loop {h : H} {w : World} (hr : Rel ρ σ C h w) {l r S : Nat} (hl : ρ l = some (r, S)) {x : LoopA} (hg : h.get l = some (.loop x)) : ∃ L, w.heap[r]? = some (.loop L) ∧ LoopR ρ σ C x L := by
  obtain ⟨ob, hw, hx⟩ := hr.blk l r S hl
  obtain ⟨L, rfl, hL⟩ := hx _ hg
  exact ⟨L, hw, hL⟩
theorem Rel.putLoop {h : H} {w : World} (hr : Rel ρ σ C h w) {l r S : Nat} (hl : ρ l = some (r, S)) {x y : LoopA} {L : Loop} (hg : h.get l = some (.loop x)) (hy : LoopR ρ σ C y L) :
    Rel ρ σ C (h.put l (.loop y)) (w.putObj r (.loop L)) ∧ Ext ρ ρ h (h.put l (.loop y)) w (w.putObj r (.loop L)) :=
  hr.put hl ⟨_, hg, by simp⟩ (hr.one hl hg (by simp) (by simp)) _ _ ⟨L, rfl, hy⟩
theorem LoopR.st {x : LoopA} {L : Loop} (h : LoopR ρ σ C x L) (s : LoopState) : LoopR ρ σ C { x with st := s } { L with state := s } := by
  obtain ⟨_, h2⟩ := h
  exact ⟨rfl, h2⟩
theorem LoopR.pend {x : LoopA} {L : Loop} (h : LoopR ρ σ C x L) (s : LoopState) {j : Option Jp} {c : Option Code} (hj : jpR j c) : LoopR ρ σ C { x with st := s, pend := j } { L with state := s, pending := c } := by
  obtain ⟨_, _, h2⟩ := h
  exact ⟨rfl, hj, h2⟩

theorem stepR_rangeFunc {b : Frame} {a : Act} {k : List Item} {cs : List Frame} {w w1 : World} {f : Operand} {params : Array Tmp} {assign body : Code} {l : Nat} {mark : List Deferred} {g : FuncId} {caps : Array Value}
    (hent : (Instr.enterLoop b.fn a.tmps params assign body b.roundOf).run P w = .ok (l, mark) w1) (hf : a.eval f = .func (.func g) #[] caps) (hg : Enters P g) :
    step P (lone (b.atR a (.code (.rangeFunc f params assign body) :: k)) cs w) =
      .next (lone (Frame.enter P g (#[.func (.yield l) #[] #[]] ++ caps) .normal) (b.atR ⟨a.tmps, mark ++ a.defers⟩ (.inRangeFunc l :: k) :: cs) w1) := by
  have he := Frame.eval_atR b ⟨a.tmps, mark ++ a.defers⟩ (.inRangeFunc l :: k)
  have he' : (⟨a.tmps, mark ++ a.defers⟩ : Act).eval = a.eval := by funext x; cases x <;> rfl
  rw [he'] at he
  simp only [Frame.atR] at he
  have hx : (do let d ← resolve a.eval { callee := .value f, args := #[.const (.func (.yield l) #[] #[])], argTypes := #[] } 0; invoke d.target d.args : Sem Next).run P w1 = .ok (.enter g (#[.func (.yield l) #[] #[]] ++ caps)) w1 := by
    have := hg (#[.func (.yield l) #[] #[]] ++ caps) w1
    simp only [resolve, hf, Deferred.ofValue, Sem.run_bind, Sem.run_pure, Result.andThen_ok, invoke, Array.empty_append]
    rw [← this]
    simp [Act.eval]
  refine step_lone_go ?_
  simp [stepG, stepG.exec, Frame.atR, Sem.runT_eq, hent, GStep.bare_after, stepG.apply, he, hx]
theorem stepR_endRangeFunc {b : Frame} {a : Act} {k : List Item} {cs : List Frame} {w w1 : World} {l : Nat} {j : Option Code} (he : (Instr.endLoop l).run P w = .ok j w1) :
    step P (lone (b.atR a (.endRangeFunc l :: k)) cs w) = .next (lone (b.atR a ((j.map Item.code).toList ++ k)) cs w1) :=
  step_lone_go (by simp [stepG, stepG.exec, Frame.atR, Sem.runT_eq, he, GStep.bare_after])

/-- behind the iterator -/
theorem range2 {rec : Rec} (hcy : CY C P σ rec) {X : Ctx} {f : Operand} {params : Array Tmp} {assign body : Code} {fr fr2 : FR} {h0 h : H} {g : FuncId} {caps : List Nat} {d : Nat} {o : Out} {fr' : FR} {h' : H}
    (hk : stRange2 rec X fr2 params.toList assign body g caps d h = some (.code o fr' h')) (hpt : fr2.pt = fr.pt) (htl : fr2.tl = .nil)
    {ρ0 ρ : Rho} {w0 w : World} {a : Act} {b : Frame} {wd S : Nat} {mark : List Deferred} (hx : CtxR C ρ X b) (hr0 : Rel ρ0 σ C h0 w0) (hr : Rel ρ σ C h w) (he0 : Ext ρ0 ρ h0 h w0 w) (hf : FrR ρ σ X.nt X.nl fr a)
    (hm : F2 (markR ρ) fr2.marks (mark ++ a.defers)) (hd : ρ d = some (wd, S))
    (hent : (Instr.enterLoop b.fn a.tmps params assign body b.roundOf).run P w0 = .ok (w.heap.size, mark) (push w (.loop { state := .ready, pending := none, fn := b.fn, tmps := a.tmps, params, assign, body, defers := wd })))
    (hv : ∃ cvs : List Value, a.eval f = .func (.func g) #[] cvs.toArray ∧ F2 (boxR ρ) caps cvs) :
    ∃ a' w' ρ', CodeR P (.rangeFunc f params assign body) b a w0 o a' w' ∧ FrR ρ' σ X.nt X.nl fr' a' ∧ Rel ρ' σ C h' w' ∧ Ext ρ0 ρ' h0 h' w0 w' := by
  obtain ⟨vv, h1, hcall, hk1⟩ := valK_some hk
  obtain ⟨r, hrg, hk2⟩ := loopK_some hk1
  have hs1 := hr.sub_upd (w.heap.size, 0)
  obtain ⟨fi, hfi1, hfi2, hfi3⟩ := hx.fi
  have hL : LoopR (upd ρ h.next (w.heap.size, 0)) σ C { st := .ready, pend := none, fn := X.fn, tmps := fr2.pt, params := params.toList, assign, body, defs := d }
      { state := .ready, pending := none, fn := b.fn, tmps := a.tmps, params, assign, body, defers := wd } :=
    ⟨rfl, rfl, hx.fn, rfl, rfl, rfl, ⟨fi, hfi1, by rw [hfi2]; exact hf.size, by rw [hfi3, hpt]; exact hf.pt.mono hs1⟩, ⟨S, hs1 _ _ hd⟩⟩
  obtain ⟨hr1, he1⟩ := hr.new (.loop { st := .ready, pend := none, fn := X.fn, tmps := fr2.pt, params := params.toList, assign, body, defs := d }) _ 0 ⟨_, rfl, hL⟩
  obtain ⟨cvs, hev, hcaps⟩ := hv
  have hyl : AVR (upd ρ h.next (w.heap.size, 0)) σ (.one (.yld h.next)) (.func (.yield w.heap.size) #[] #[]) := ⟨_, _, upd_self _ _ _, rfl⟩
  have hcv : F2 (AVR (upd ρ h.next (w.heap.size, 0)) σ) (capsAV caps) cvs := by
    clear hcall hk hev
    induction hcaps with
    | nil => exact .nil
    | cons hb _ ih => obtain ⟨r, S, h2, h3⟩ := hb; exact .cons ⟨r, S, hs1 _ _ h2, h3⟩ ih
  obtain ⟨v', w2, ρ2, hC, _, hr2, he2⟩ := hcy.call X g _ _ vv h1 hcall _ _ _ hr1 (.cons hyl hcv)
  have hs2 := he2.sub hr1
  have hl2 : ρ2 h.next = some (w.heap.size, 0) := hs2 _ _ (upd_self _ _ _)
  obtain ⟨L, hLw, hLr⟩ := hr2.loop hl2 hrg
  unfold endLoopA at hk2
  have hnb : r.st ≠ .busy ∧ pendOut r.pend fr2 (h1.put h.next (.loop { r with st := .exhausted })) = some (.code o fr' h') := by
    split at hk2
    · cases hk2
    · rename_i hb; exact ⟨hb, hk2⟩
  obtain ⟨hb1, hk3⟩ := hnb
  have hend := run_endLoop (P := P) hLw (by rw [hLr.1]; exact hb1)
  obtain ⟨hr3, he3⟩ := hr2.putLoop hl2 hrg (hLr.st .exhausted)
  have hs3 := he3.sub hr2
  have hsub : Sub ρ ρ2 := fun b x hb => hs2 _ _ (hs1 b x hb)
  have hext : Ext ρ0 ρ2 h0 _ w0 _ := (he0.trans hr0 hr he1).trans hr0 hr1 (he2.trans hr1 hr2 he3)
  have hfr : FrR ρ2 σ X.nt X.nl fr2 ⟨a.tmps, mark ++ a.defers⟩ :=
    ⟨hf.size, by rw [hpt]; exact hf.pt.mono hsub, (by rw [htl]; intro t v _ hv; exact nomatch hv), hm.mono fun _ _ ⟨r, S, g1, g2⟩ => ⟨r, S, hsub _ _ g1, g2⟩⟩
  have hsteps : ∀ k cs, Steps P (lone (b.atR a (.code (.rangeFunc f params assign body) :: k)) cs w0)
      (lone (b.atR ⟨a.tmps, mark ++ a.defers⟩ ((L.pending.map Item.code).toList ++ k)) cs (w2.putObj w.heap.size (.loop { L with state := .exhausted }))) := by
    intro k cs
    obtain ⟨frx, s1, _, s2⟩ := hC.2 (b.atR ⟨a.tmps, mark ++ a.defers⟩ (.inRangeFunc w.heap.size :: k) :: cs)
    have s3 : step P (lone frx (b.atR ⟨a.tmps, mark ++ a.defers⟩ (.inRangeFunc w.heap.size :: k) :: cs) w2) = .next (lone (b.atR ⟨a.tmps, mark ++ a.defers⟩ (.endRangeFunc w.heap.size :: k)) cs w2) := step_leave_returned s2
    refine .head (stepR_rangeFunc hent hev hC.1) (Steps.trans ?_ (.head s3 (.one (stepR_endRangeFunc hend))))
    have : (#[.func (.yield w.heap.size) #[] #[]] ++ cvs.toArray : Array Value) = (Value.func (.yield w.heap.size) #[] #[] :: cvs).toArray := by simp
    rw [this]
    exact s1
  have hpend := hLr.2.1
  unfold pendOut at hk3
  split at hk3
  · rename_i hp
    cases hk3
    have hp' : L.pending = none := by rw [hp] at hpend; exact hpend
    refine ⟨_, _, ρ2, codeR_code (by simp) fun k cs => ?_, hfr, hr3, hext⟩
    have := hsteps k cs
    rw [hp'] at this ⊢
    exact this
  · rename_i hp
    cases hk3
    have hp' : L.pending = some .ret := by rw [hp] at hpend; exact hpend
    refine ⟨_, _, ρ2, codeR_code (by simp) fun k cs => ⟨k, ?_⟩, hfr, hr3, hext⟩
    have := hsteps k cs
    rw [hp'] at this ⊢
    exact this
  · rename_i id hp
    cases hk3
    have hp' : L.pending = some (.exit id) := by rw [hp] at hpend; exact hpend
    refine ⟨_, _, ρ2, codeR_code (by simp) fun k cs => ⟨k, rfl, ?_⟩, hfr, hr3, hext⟩
    have := hsteps k cs
    rw [hp'] at this ⊢
    exact this
theorem range_st {rec : Rec} (hcy : CY C P σ rec) {X : Ctx} {f : Operand} {params : Array Tmp} {assign body : Code} {fr : FR} {h : H} {o : Out} {fr' : FR} {h' : H}
    (hk : ev (od X.nl f) fr.pt fr.tl (fun f => oneK f (stRange rec X fr h params.toList assign body)) = some (.code o fr' h')) : CodeSt C P σ X (.rangeFunc f params assign body) fr h o fr' h' := by
  obtain ⟨u, hu, hk1⟩ := ev_some hk
  obtain ⟨fa, rfl, hk2⟩ := oneK_some hk1
  clear hk hk1
  cases fa with
  | fn g caps =>
    intro ρ w a b hx hr hf
    obtain ⟨cvs, hev, hcaps⟩ := od_val hf.pt hf.tl hu
    have hround := hx.round
    unfold stRange at hk2
    simp only at hk2
    split at hk2
    · rename_i hrd
      rw [hrd] at hround
      simp only at hround
      have hs1 := hr.sub_upd (w.heap.size, 0)
      obtain ⟨hr1, he1⟩ := hr.new (.defs true) (.deferred (some [])) 0 rfl
      refine range2 (fr := fr) hcy hk2 rfl rfl (hx.mono hs1) hr hr1 he1 (hf.mono hs1) (mark := [{ target := .collected w.heap.size, args := #[] }]) (wd := w.heap.size) (S := 0) ?_ (upd_self _ _ _) ?_ ⟨cvs, hev, ?_⟩
      · exact .cons ⟨_, _, upd_self _ _ _, rfl⟩ (hf.mono hs1).marks
      · rw [hround]
        have := run_enterLoop_outer (P := P) (w := w) b.fn a.tmps params assign body
        rw [this]
        simp only [World.alloc, push, Array.size_push]
      · exact hcaps.mono fun _ _ ⟨r, S, h1, h2⟩ => ⟨r, S, hs1 _ _ h1, h2⟩
    · rename_i rr hrd
      rw [hrd] at hround
      obtain ⟨wr, S, hwr, hbr⟩ := hround
      obtain ⟨l, hl, hk3⟩ := loopK_some hk2
      obtain ⟨L, hLw, hLr⟩ := hr.loop hwr hl
      obtain ⟨S', hdefs⟩ := hLr.2.2.2.2.2.2.2
      refine range2 (fr := fr) hcy hk3 rfl rfl hx hr hr (Ext.refl ρ h w hr) hf (mark := []) (wd := L.defers) (S := S') hf.marks hdefs ?_ ⟨cvs, hev, hcaps⟩
      rw [hbr]
      have := run_enterLoop_inner (P := P) hLw b.fn a.tmps params assign body
      rw [this]
      rfl
  | _ => cases hk2
end Eng
end

noncomputable section
namespace Eng
open Go
variable {ρ ρ' : Rho} {σ : Sig} {C : Cfg} {P : Program} {o : Oper}

theorem allLt_mem {n : Nat} : ∀ {l : List Nat}, allLt l n = true → ∀ t ∈ l, t < n := by
  intro l
  induction l with
  | nil => intro _ t ht; cases ht
  | cons x l ih =>
    intro h t ht
    have h' : @Bool.rec (fun _ => Bool) false (allLt l n) (Nat.blt x n) = true := h
    cases hb : Nat.blt x n with
    | false => rw [hb] at h'; cases h'
    | true =>
      rw [hb] at h'
      rcases List.mem_cons.1 ht with e | e
      · rw [e]; exact Nat.le_of_ble_eq_true hb
      · exact ih h' t e
theorem setParams_R {nl : Nat} : ∀ {ps : List Tmp} {args : List AV} {vs : List Value} {pt : T AV} {tmps : Array Value}, F2 (AVR ρ σ) args vs → (∀ t ∈ ps, t < tmps.size) → PtR ρ σ nl pt tmps →
    PtR ρ σ nl (setParams pt ps args) ((ps.zip vs).foldl (fun tmps (x : Tmp × Value) => tmps.setIfInBounds x.1 x.2) tmps) := by
  intro ps
  induction ps with
  | nil => intro args vs pt tmps _ _ hp; exact hp
  | cons t ps ih =>
    intro args vs pt tmps ha hlt hp
    cases ha with
    | nil => exact hp
    | cons hv ha =>
      rename_i v va args vs
      show PtR ρ σ nl (setParams (pt.set t v) ps args) _
      rw [List.zip_cons_cons, List.foldl_cons]
      refine ih ha (fun u hu => by simpa using hlt u (List.mem_cons_of_mem _ hu)) ?_
      intro u x hu hx
      rcases T.get_set hx with ⟨e1, e2⟩ | ⟨e1, e2⟩
      · subst e1; subst e2
        exact ⟨va, by rw [Array.getElem?_setIfInBounds_self_of_lt (hlt u (by simp))], hv⟩
      · rw [Array.getElem?_setIfInBounds_ne (fun e => e1 e.symm)]
        exact hp u x hu e2
theorem foldl_size : ∀ (l : List (Tmp × Value)) (tmps : Array Value), (l.foldl (fun tmps (x : Tmp × Value) => tmps.setIfInBounds x.1 x.2) tmps).size = tmps.size := by
  intro l
  induction l with
  | nil => intro _; rfl
  | cons x l ih => intro tmps; rw [List.foldl_cons, ih]; simp
theorem stSeq_val {x : OR} {k : FR → H → OR} {v : AV} {h' : H} (h : stSeq x k = some (.val v h')) : ∃ fr hh, x = some (.code .norm fr hh) ∧ k fr hh = some (.val v h') := by
  obtain ⟨o, fr, hh, hx, hk⟩ := codeK_some h
  cases o with
  | norm => exact ⟨fr, hh, hx, hk⟩
  | exit id => cases hk
  | ret => cases hk

theorem yld_s {rec : Rec} (hrec : CodeS C P σ rec) {l : Nat} {args : List AV} {h : H} {v : AV} {h' : H} (hk : stYld C rec l args h = some (.val v h')) {ρ : Rho} {w : World} {vs : List Value} {r S : Nat}
    (hl : ρ l = some (r, S)) (hr : Rel ρ σ C h w) (ha : F2 (AVR ρ σ) args vs) : ∃ v' w' ρ', YieldR P r vs.toArray w v' w' ∧ AVR ρ' σ v v' ∧ Rel ρ' σ C h' w' ∧ Ext ρ ρ' h h' w w' := by
  obtain ⟨x, hg, hk1⟩ := loopK_some hk
  obtain ⟨fi, hfi, hk2⟩ := optK_some hk1
  obtain ⟨hlen, hk3⟩ := ifK_some hk2
  obtain ⟨hlt, hk4⟩ := ifK_some hk3
  obtain ⟨fr1, h1, hassign, hk5⟩ := stSeq_val hk4
  obtain ⟨x2, hg2, hk6⟩ := loopK_some hk5
  obtain ⟨L, hLw, hLr⟩ := hr.loop hl hg
  obtain ⟨e1, e2, e3, e4, e5, e6, ⟨fi', hfi', e7, e8⟩, e9⟩ := hLr
  rw [hfi] at hfi'; cases hfi'
  have hsz : args.length = x.params.length := by rw [← len_eq, ← len_eq]; exact beq_eq hlen
  have hps : vs.toArray.size = L.params.size := by
    have h1 : L.params.size = x.params.length := by rw [← e4]; simp
    have h2 := ha.length
    simp
    omega
  have hy := run_yield (P := P) (args := vs.toArray) hLw hps
  -- the frame of the round
  let b : Frame := { (default : Frame) with fn := L.fn, kind := .normal, roundOf := some r }
  let tm : Array Value := (L.params.zip vs.toArray).foldl (fun tmps (t, a) => tmps.setIfInBounds t a) L.tmps
  have htm : tm = (x.params.zip vs).foldl (fun tmps (x : Tmp × Value) => tmps.setIfInBounds x.1 x.2) L.tmps := by
    show (L.params.zip vs.toArray).foldl _ _ = _
    rw [← Array.foldl_toList, Array.toList_zip, e4]
  have hfr : Frame.round r L.fn tm L.assign L.body .normal = b.atR ⟨tm, []⟩ [.code L.assign, .beginRound, .code L.body] := rfl
  have hctx : ∀ {ρ2 : Rho}, Sub ρ ρ2 → CtxR C ρ2 ⟨x.fn, fi.nt, fi.nl, some l⟩ b := fun hs => ⟨⟨fi, hfi, rfl, rfl⟩, e3, rfl, ⟨r, S, hs _ _ hl, rfl⟩⟩
  have hF : FrR ρ σ fi.nt fi.nl ⟨setParams x.tmps x.params args, .nil, []⟩ ⟨tm, []⟩ := by
    refine ⟨?_, ?_, (fun t v _ hv => nomatch hv), .nil⟩
    · show fi.nt ≤ tm.size; rw [htm, foldl_size]; exact e7
    · show PtR ρ σ fi.nl _ tm
      rw [htm]
      exact setParams_R ha (fun t ht => Nat.lt_of_lt_of_le (allLt_mem hlt t ht) e7) e8
  obtain ⟨a1, w1, ρ1, c1, f1, r1, x1⟩ := hrec _ _ _ _ _ _ _ hassign ρ w ⟨tm, []⟩ b (hctx (Sub.refl ρ)) hr hF
  have hs1 := x1.sub hr
  have hl1 := hs1 _ _ hl
  obtain ⟨L2, hLw2, hLr2⟩ := r1.loop hl1 hg2
  unfold begRound at hk6
  split at hk6
  · rename_i hready
    have hbeg := run_beginRound (P := P) hLw2 (by rw [hLr2.1]; exact hready)
    obtain ⟨r2, x2'⟩ := r1.putLoop hl1 hg2 (hLr2.st .busy)
    obtain ⟨o, fr3, h3, hbody, hk7⟩ := codeK_some hk6
    obtain ⟨x3, hg3, hk8⟩ := loopK_some hk7
    obtain ⟨a3, w3, ρ3, c3, f3, r3, x3'⟩ := hrec _ _ _ _ _ _ _ hbody ρ1 _ a1 b (hctx hs1) r2 f1
    have hs3 := x3'.sub r2
    have hl3 := hs3 _ _ hl1
    obtain ⟨L3, hLw3, hLr3⟩ := r3.loop hl3 hg3
    have x13 := (x1.trans hr r1 x2').trans hr r2 x3'
    have start : ∀ c cs, Steps P (lone (Frame.round r L.fn tm L.assign L.body .normal) (c :: cs) w) (lone (b.atR a1 [.code L.body]) (c :: cs) (w1.putObj r (.loop { L2 with state := .busy }))) := by
      intro c cs
      rw [hfr]
      have h1 := c1 _ [.beginRound, .code L.body] (c :: cs) (by rw [← e5]; exact .code)
      exact Steps.trans h1 (.one (stepR_beginRound rfl hbeg))
    have c3' : ∀ cs, ArrR P (lone (b.atR a1 [.code L.body]) cs (w1.putObj r (.loop { L2 with state := .busy }))) b [] cs o a3 w3 := fun cs => c3 _ [] cs (by rw [← e6]; exact .code)
    cases o with
    | norm =>
      cases hk8
      have hend := run_endRound (P := P) none hLw3
      obtain ⟨r4, x4⟩ := r3.putLoop hl3 hg3 (hLr3.pend .ready (j := none) (c := none) rfl)
      exact ⟨_, _, ρ3, ⟨tm, L.assign, L.body, L.fn, hy, fun c cs => (start c cs).trans (Steps.trans (c3' (c :: cs)) (.one (stepR_round_end rfl rfl hend)))⟩, rfl, r4, x13.trans hr r3 x4⟩
    | ret =>
      cases hk8
      have hend := run_endRound (P := P) (some .ret) hLw3
      obtain ⟨r4, x4⟩ := r3.putLoop hl3 hg3 (hLr3.pend .done (j := some .ret) (c := some .ret) rfl)
      refine ⟨_, _, ρ3, ⟨tm, L.assign, L.body, L.fn, hy, fun c cs => ?_⟩, rfl, r4, x13.trans hr r3 x4⟩
      obtain ⟨k0, g⟩ := c3' (c :: cs)
      exact (start c cs).trans (g.trans (.one (stepR_round_ret rfl rfl hend)))
    | exit id =>
      cases hk8
      have hend := run_endRound (P := P) (some (.exit id)) hLw3
      obtain ⟨r4, x4⟩ := r3.putLoop hl3 hg3 (hLr3.pend .done (j := some (.exit id)) (c := some (.exit id)) rfl)
      refine ⟨_, _, ρ3, ⟨tm, L.assign, L.body, L.fn, hy, fun c cs => ?_⟩, rfl, r4, x13.trans hr r3 x4⟩
      obtain ⟨k0, g0, g⟩ := c3' (c :: cs)
      exact (start c cs).trans (g.trans (.one (stepR_round_exit rfl rfl (g0.trans rfl) hend)))
  · cases hk6

/- leaving -/
theorem marks_s {nl nt : Nat} : ∀ {l : List Nat} {h : H} {k : H → OR} {r : Rs}, takeMarks l h k = some r → ∃ h', k h' = some r ∧ ∀ P σ ρ w (ds : List Deferred), Rel ρ σ C h w → F2 (markR ρ) l ds →
    ∃ w', Rel ρ σ C h' w' ∧ Ext ρ ρ h h' w w' ∧ ∀ (fr : Frame) cs, fr.mode = .returning → fr.defers = ds → Steps P (lone fr cs w) (lone { fr with defers := [] } cs w') := by
  intro l
  induction l with
  | nil =>
    intro h k r hk
    refine ⟨h, hk, ?_⟩
    intro P σ ρ w ds hr hd
    cases hd
    refine ⟨w, hr, Ext.refl ρ h w hr, ?_⟩
    intro fr cs hm hd
    have : ({ fr with defers := [] } : Frame) = fr := by cases fr; simp at hd; subst hd; rfl
    rw [this]
    exact .refl P _
  | cons m l ih =>
    intro h k r hk
    have hk' : markStep h m (fun h => takeMarks l h k) = some r := hk
    unfold markStep at hk'
    split at hk'
    · rename_i hg
      obtain ⟨h', h1, h2⟩ := ih hk'
      refine ⟨h', h1, ?_⟩
      intro P σ ρ w ds hr hd
      cases hd with
      | cons hm hds =>
        rename_i d ds
        obtain ⟨rr, S, hb, rfl⟩ := hm
        obtain ⟨ob, hw, hx⟩ := hr.blk m rr S hb
        have hob : ob = .deferred (some []) := hx _ hg
        subst hob
        have htake := run_takeDeferred (P := P) hw
        obtain ⟨r1, e1⟩ := hr.put hb ⟨_, hg, by simp⟩ (hr.one hb hg (by simp) (by simp)) (.defs false) (.deferred none) rfl
        obtain ⟨w', r2, e2, hs⟩ := h2 P σ ρ _ ds r1 hds
        refine ⟨w', r2, e1.trans hr r1 e2, ?_⟩
        intro fr cs hm hd
        have hstep := step_collected (P := P) (cs := cs) (by rw [hm]; simp) hd rfl htake
        exact .head hstep (hs { fr with defers := ds } cs hm rfl)
    · cases hk'
def resM (tmps : Array Value) : ResultVar → Sem Value
  | .tmp t => pure (tmps.getD t undef)
  | .cell a t => do loadVar t (← asAddr (tmps.getD a undef))
theorem result_s {nl : Nat} {fr : FR} {h : H} {rv : ResultVar} {k : AV → OR} {r : Rs} (hk : resultK C nl fr h rv k = some r) : ∃ v, k v = some r ∧ ∀ P σ ρ w (tmps : Array Value), CfgOK P C σ → Rel ρ σ C h w → PtR ρ σ nl fr.pt tmps → TlR ρ σ nl fr.tl tmps →
    ∃ v', (resM tmps rv).run P w = .ok v' w ∧ AVR ρ σ v v' := by
  cases rv with
  | tmp t =>
    obtain ⟨u, hu, hk1⟩ := ev_some (show ev (odTmp nl t) fr.pt fr.tl k = some r from hk)
    exact ⟨u, hk1, fun P σ ρ w tmps _ _ hp ht => ⟨_, rfl, odTmp_val hp ht hu⟩⟩
  | cell a t =>
    obtain ⟨u, hu, hk1⟩ := ev_some (show ev (odTmp nl a) fr.pt fr.tl _ = some r from hk)
    obtain ⟨b, off, rfl, hk2⟩ := ptrK_some hk1
    cases ht : C.ty t with
    | none => rw [tyK_none ht] at hk2; cases hk2
    | some ti =>
      rw [tyK_some ht] at hk2
      cases ha : ti.agg with
      | false =>
        rw [ha] at hk2
        obtain ⟨c, n, f, s, x, hg, hlt, hx, hk3⟩ := read1_some hk2
        refine ⟨.one x, hk3, ?_⟩
        intro P σ ρ w tmps hc hr hp htl
        obtain ⟨rr, S, hb, he⟩ := odTmp_val hp htl hu
        obtain ⟨v, hv, har⟩ := hr.cell hb hg hlt hx
        have h1 := (hc.ty t ti ht).runAgg w
        rw [ha] at h1
        exact ⟨v, by simp [resM, he, asAddr, loadVar, h1, hv], har⟩
      | true =>
        rw [ha] at hk2
        obtain ⟨c, n, f, s, l, hg, hle, hx, hk3⟩ := readN_some hk2
        refine ⟨.agg l, hk3, ?_⟩
        intro P σ ρ w tmps hc hr hp htl
        obtain ⟨rr, S, hb, he⟩ := odTmp_val hp htl hu
        obtain ⟨vs, hf, hlen, hv⟩ := hr.cells hb hg hle hx
        have h1 := (hc.ty t ti ht).runAgg w
        have h2 := (hc.ty t ti ht).runSize w
        rw [ha] at h1
        have h3 := run_loadCells_list (P := P) (w := w) ⟨rr, off, none⟩ vs hv
        rw [hlen] at h3
        exact ⟨.agg vs.toArray, by simp [resM, he, asAddr, loadVar, h1, h2, h3], vs, rfl, hf⟩
theorem results_s {nl : Nat} {fr : FR} {h : H} : ∀ {l : List ResultVar} {k : List V → OR} {r : Rs}, resultsK C nl fr h l k = some r → ∃ vs, k vs = some r ∧ ∀ P σ ρ w (tmps : Array Value), CfgOK P C σ → Rel ρ σ C h w → PtR ρ σ nl fr.pt tmps → TlR ρ σ nl fr.tl tmps →
    ∃ us, (l.mapM (resM tmps)).run P w = .ok us w ∧ F2 (VR ρ σ) vs us := by
  intro l
  induction l with
  | nil => intro k r hk; exact ⟨[], hk, fun P σ ρ w tmps _ _ _ _ => ⟨[], rfl, .nil⟩⟩
  | cons rv l ih =>
    intro k r hk
    obtain ⟨v, hk1, h1⟩ := result_s (show resultK C nl fr h rv (fun v => vK v fun v => resultsK C nl fr h l fun vs => k (v :: vs)) = some r from hk)
    obtain ⟨x, rfl, hk2⟩ := vK_some hk1
    obtain ⟨vs, hk3, h2⟩ := ih hk2
    refine ⟨x :: vs, hk3, ?_⟩
    intro P σ ρ w tmps hc hr hp ht
    obtain ⟨u, g1, g2⟩ := h1 P σ ρ w tmps hc hr hp ht
    obtain ⟨us, g3, g4⟩ := h2 P σ ρ w tmps hc hr hp ht
    exact ⟨u :: us, by simp [List.mapM_cons, g1, g3], .cons (AVR.ofV _ _ g2) g4⟩
theorem run_results {fn : Func} {tmps : Array Value} {us : List Value} {vs : List V} {w : World} (h : (fn.results.toList.mapM (resM tmps)).run P w = .ok us w) (hv : F2 (VR ρ σ) vs us) :
    ∃ v', (results fn tmps).run P w = .ok v' w ∧ AVR ρ σ (retV vs) v' := by
  have h1 : (results fn tmps).run P w = .ok (if h : us.toArray.size = 1 then us.toArray[0] else .tuple us.toArray) w := by
    have h0 : results fn tmps = (do let vs ← fn.results.mapM (resM tmps); pure (if h : vs.size = 1 then vs[0] else .tuple vs)) := rfl
    rw [h0, Array.mapM_eq_mapM_toList]
    simp [h]
  rw [h1]
  refine ⟨_, rfl, ?_⟩
  cases hv with
  | nil => exact ⟨[], rfl, .nil⟩
  | cons h0 hv =>
    cases hv with
    | nil => exact VR.av _ _ h0
    | cons h2 hv => exact ⟨_, by simp, .cons h0 (.cons h2 hv)⟩

theorem call_s (hc : CfgOK P C σ) {rec : Rec} (hrec : CodeS C P σ rec) {f : FuncId} {args : List AV} {h : H} {v : AV} {h' : H} {fi : FI} (hfi : C.fu f = some fi) (hk : stCall2 C rec f args h fi = some (.val v h')) {ρ : Rho} {w : World} {vs : List Value}
    (hr : Rel ρ σ C h w) (ha : F2 (AVR ρ σ) args vs) : ∃ v' w' ρ', CallR P f vs.toArray w v' w' ∧ AVR ρ' σ v v' ∧ Rel ρ' σ C h' w' ∧ Ext ρ ρ' h h' w w' := by
  obtain ⟨fn, hfn, hbody, hnt, hres, hname⟩ := (hc.fu f fi hfi).ex
  obtain ⟨o, fr1, h1, hcode, hk1⟩ := codeK_some hk
  let b : Frame := { (default : Frame) with fn := f, kind := .normal }
  let a0 : Act := ⟨vs.toArray ++ Array.replicate (fi.nt - vs.toArray.size) undef, []⟩
  have henter : Frame.enter P f vs.toArray .normal = b.atR a0 [.code fi.body] := by
    simp only [Frame.enter, hfn, hbody, Option.map_some, Option.getD_some, Option.bind_some, hnt]
    rfl
  have hF : FrR ρ σ fi.nt fi.nl ⟨T.ofList args, .nil, []⟩ a0 := by
    refine ⟨?_, ?_, (fun t v _ hv => nomatch hv), .nil⟩
    · show fi.nt ≤ (vs.toArray ++ Array.replicate (fi.nt - vs.toArray.size) undef).size
      simp; omega
    · intro t u _ hu
      obtain ⟨v', h2, h3⟩ := ha.get (T.get_ofList hu)
      refine ⟨v', ?_, h3⟩
      show (vs.toArray ++ Array.replicate (fi.nt - vs.toArray.size) undef)[t]? = _
      have hlt : t < vs.toArray.size := by have := (List.getElem?_eq_some_iff.1 h2).1; simpa using this
      rw [Array.getElem?_append_left hlt]
      simpa using h2
  obtain ⟨a1, w1, ρ1, c1, f1, r1, x1⟩ := hrec _ _ _ _ _ _ _ hcode ρ w a0 b ⟨⟨fi, hfi, rfl, rfl⟩, rfl, rfl, rfl⟩ hr hF
  have hmarks : ∃ hh, takeMarks fr1.marks h1 (fun h => resultsK C fi.nl fr1 h fi.results fun vs => some (.val (retV vs) h)) = some (.val v h') ∧ (hh = o ∧ ∀ id, o ≠ .exit id) := by
    unfold stRet at hk1
    split at hk1
    · cases hk1
    · rename_i hne; exact ⟨o, hk1, rfl, hne⟩
  obtain ⟨_, hk2, _, hne⟩ := hmarks
  obtain ⟨h2, hk3, hm⟩ := marks_s (nl := 0) (nt := 0) hk2
  obtain ⟨xs, hk4, hresults⟩ := results_s hk3
  cases hk4
  obtain ⟨w2, r2, x2, hsteps⟩ := hm P σ ρ1 w1 a1.defers r1 f1.marks
  obtain ⟨us, g1, g2⟩ := hresults P σ ρ1 w2 a1.tmps hc r2 f1.pt f1.tl
  rw [← hres] at g1
  obtain ⟨v', g3, g4⟩ := run_results g1 g2
  refine ⟨v', w2, ρ1, ⟨fun args w => (by simp [callFunc, hfn, hname, hbody]), ?_⟩, g4, r2, x1.trans hr r1 x2⟩
  intro cs
  have hret : ∃ todo, Steps P (lone (Frame.enter P f vs.toArray .normal) cs w) (lone { b.atR a1 todo with mode := .returning } cs w1) := by
    rw [henter]
    have := c1 _ [] cs .code
    cases o with
    | norm => exact ⟨[], Steps.trans this (.one (stepR_end rfl))⟩
    | ret => obtain ⟨k0, g⟩ := this; exact ⟨_, g.trans (.one (stepR_ret rfl))⟩
    | exit id => exact absurd rfl (hne id)
  obtain ⟨todo, hret⟩ := hret
  refine ⟨_, hret.trans (hsteps _ cs rfl rfl), rfl, rfl, rfl, rfl, fn, hfn, ?_⟩
  exact g3
/-- summaries -/
def ExtOK (C : Cfg) (P : Program) (σ : Sig) : Prop := ∀ f args h v h', C.ext f args h = some (v, h') → ∀ ρ w vs, Rel ρ σ C h w → F2 (AVR ρ σ) args vs →
  ∃ v' w' ρ', CallR P f vs.toArray w v' w' ∧ AVR ρ' σ v v' ∧ Rel ρ' σ C h' w' ∧ Ext ρ ρ' h h' w w'
theorem eval_ok (hc : CfgOK P C σ) (hx : ExtOK C P σ) : ∀ n, CodeS C P σ (eval C n) ∧ CY C P σ (eval C n) := by
  intro n
  induction n with
  | zero => exact ⟨fun X c fr h o fr' h' hk => (nomatch hk), ⟨fun X f args h v h' hk => (nomatch hk), fun X l args h v h' hk => (nomatch hk)⟩⟩
  | succ n ih =>
    obtain ⟨hcode, hcy⟩ := ih
    refine ⟨?_, ⟨?_, ?_⟩⟩
    · intro X c fr h o fr' h' hk
      have hk' : stCode C (eval C n) X c fr h = some (.code o fr' h') := hk
      show CodeSt C P σ X c fr h o fr' h'
      unfold stCode at hk'
      split at hk'
      · cases hk'; exact stay (by simp) fun b a w k cs => .one stepR_skip
      · cases hk'; exact stay (by simp) fun b a w k cs => .one stepR_label
      · rename_i draw
        cases draw with
        | true => exact draw_st hc hcy hk'
        | false => exact region_st hc hcy hk'
      · exact seq_st hcode hk' fun b a todo k cs hs => by
          cases hs
          exact ⟨_, .code, fun id => rfl, fun w => .one stepR_seq⟩
      · exact cond_st hcode hk'
      · exact block_st hcode hk'
      · exact seq_st hcode hk' fun b a todo k cs hs => by
          cases hs with
          | code => exact ⟨_, .loop, fun id => rfl, fun w => .one stepR_loop⟩
          | loop => exact ⟨_, .loop, fun id => rfl, fun w => .one stepR_inLoop⟩
      · exact scope_st hcode hk'
      · cases hk'; exact stay (by simp) fun b a w k cs => ⟨k, rfl, .refl P _⟩
      · cases hk'; exact stay (by simp) fun b a w k cs => ⟨k, .refl P _⟩
      · exact range_st hcy hk'
      · cases hk'
    · intro X f args h v h' hk ρ w vs hr ha
      have hk' : @Option.rec (AV × H) (fun _ => OR) (@Option.rec FI (fun _ => OR) none (stCall2 C (eval C n) f args h) (C.fu f)) (fun r => some (.val r.1 r.2)) (C.ext f args h) = some (.val v h') := hk
      cases he : C.ext f args h with
      | some r =>
        rw [he] at hk'
        cases hk'
        exact hx f args h r.1 r.2 he ρ w vs hr ha
      | none =>
        rw [he] at hk'
        cases hfi : C.fu f with
        | none => rw [hfi] at hk'; cases hk'
        | some fi =>
          rw [hfi] at hk'
          exact call_s hc hcode hfi hk' hr ha
    · intro X l args h v h' hk ρ w vs r S hl hr ha
      exact yld_s hcode hk hl hr ha
end Eng
end

noncomputable section
namespace Eng
open Go
variable {ρ : Rho} {σ : Sig} {C : Cfg} {P : Program}

/-- the empty heap lies in every world -/
def rho0 : Rho := fun _ => none
theorem rel0 (w : World) : Rel rho0 σ C ⟨.nil, 0⟩ w := ⟨(fun _ _ _ h => nomatch h), (fun _ _ _ h => nomatch h), (fun _ _ _ _ _ h => nomatch h)⟩
/-- a call that is evaluated from the empty heap -/
theorem calls_eval (hc : CfgOK P C σ) (hx : ExtOK C P σ) {n : Nat} {X : Ctx} {f : FuncId} {args : List AV} {vs : List Value} {v : AV} {h' : H} (hk : eval C n X (.call f args) ⟨.nil, 0⟩ = some (.val v h')) (ha : F2 (AVR rho0 σ) args vs) (w : World) :
    Calls P f vs.toArray w fun e w' => ∃ v', e = .returned v' ∧ (∃ ρ, AVR ρ σ v v') ∧ w.heap.size ≤ w'.heap.size ∧ (∀ r, r < w.heap.size → w'.heap[r]? = w.heap[r]?) ∧ w'.os = w.os ∧ w'.tape = w.tape ∧ w'.output = w.output ∧ ∀ a, w'.frozen? a = w.frozen? a := by
  obtain ⟨v', w', ρ', h1, h2, h3, h4⟩ := (eval_ok hc hx n).2.call X f args _ v h' hk rho0 w vs (rel0 w) ha
  intro cs
  obtain ⟨fr, s1, s2, s3⟩ := h1.2 cs
  exact ⟨.returned v', w', fr, ⟨v', rfl, ⟨ρ', h2⟩, h4.size, fun r hr => h4.frame r hr fun b S hb => (nomatch hb), h4.os, h4.tape, h4.output, h4.fz⟩, s1, s2, s3⟩
/-- a summary: what a call answers, seen from the empty heap, it answers from any -/
def plainA : A → Bool
  | .bool _ | .int .. | .sym .. | .str _ | .nilp | .nils | .nilm | .nilf => true
  | _ => false
def plainV : V → Bool
  | .one a => plainA a
  | .agg l => l.all plainA
def plainAV : AV → Bool
  | .one a => plainA a
  | .agg l => l.all plainA
  | .tup l => l.all plainV
theorem plainA_R {ρ ρ' : Rho} {a : A} {v : Value} (hp : plainA a = true) (h : AR ρ σ a v) : AR ρ' σ a v := by
  cases a <;> first | (cases hp; done) | exact h
theorem plainL_R {ρ ρ' : Rho} : ∀ {l : List A} {vs : List Value}, l.all plainA = true → F2 (AR ρ σ) l vs → F2 (AR ρ' σ) l vs := by
  intro l
  induction l with
  | nil => intro vs _ h; cases h; exact .nil
  | cons a l ih =>
    intro vs hp h
    simp only [List.all_cons, Bool.and_eq_true] at hp
    cases h with
    | cons h1 h2 => exact .cons (plainA_R hp.1 h1) (ih hp.2 h2)
theorem plainV_R {ρ ρ' : Rho} {a : V} {v : Value} (hp : plainV a = true) (h : VR ρ σ a v) : VR ρ' σ a v := by
  cases a with
  | one a => exact plainA_R (ρ := ρ) hp h
  | agg l => obtain ⟨vs, h1, h2⟩ := h; exact ⟨vs, h1, plainL_R hp h2⟩
theorem plainVL_R {ρ ρ' : Rho} : ∀ {l : List V} {vs : List Value}, l.all plainV = true → F2 (VR ρ σ) l vs → F2 (VR ρ' σ) l vs := by
  intro l
  induction l with
  | nil => intro vs _ h; cases h; exact .nil
  | cons a l ih =>
    intro vs hp h
    simp only [List.all_cons, Bool.and_eq_true] at hp
    cases h with
    | cons h1 h2 => exact .cons (plainV_R hp.1 h1) (ih hp.2 h2)
theorem plainAV_R {ρ ρ' : Rho} {a : AV} {v : Value} (hp : plainAV a = true) (h : AVR ρ σ a v) : AVR ρ' σ a v := by
  cases a with
  | one a => exact plainA_R (ρ := ρ) hp h
  | agg l => obtain ⟨vs, h1, h2⟩ := h; exact ⟨vs, h1, plainL_R hp h2⟩
  | tup l => obtain ⟨vs, h1, h2⟩ := h; exact ⟨vs, h1, plainVL_R hp h2⟩
theorem Rel.below {ρ : Rho} {h : H} {w w' : World} (hr : Rel ρ σ C h w) (hs : w.heap.size ≤ w'.heap.size) (hk : ∀ r, r < w.heap.size → w'.heap[r]? = w.heap[r]?) : Rel ρ σ C h w' where
  lt := hr.lt
  blk := fun b r S hb => by
    obtain ⟨o, ho, hx⟩ := hr.blk b r S hb
    exact ⟨o, by rw [hk r (hr.lt_size hb)]; exact ho, hx⟩
  inj := hr.inj
theorem summary (hc : CfgOK P C σ) (hx : ExtOK C P σ) {n : Nat} {X : Ctx} {f : FuncId} {args : List AV} {v : AV} {h' : H} (hk : eval C n X (.call f args) ⟨.nil, 0⟩ = some (.val v h')) (hp : plainAV v = true) (ha : args.all plainAV = true)
    {ρ : Rho} {h : H} {w : World} {vs : List Value} (hr : Rel ρ σ C h w) (hvs : F2 (AVR ρ σ) args vs) : ∃ v' w' ρ', CallR P f vs.toArray w v' w' ∧ AVR ρ' σ v v' ∧ Rel ρ' σ C h w' ∧ Ext ρ ρ' h h w w' := by
  have hvs0 : F2 (AVR rho0 σ) args vs := by
    clear hk
    induction hvs with
    | nil => exact .nil
    | cons h1 _ ih =>
      simp only [List.all_cons, Bool.and_eq_true] at ha
      exact .cons (plainAV_R ha.1 h1) (ih ha.2)
  obtain ⟨v', w', ρ', h1, h2, h3, h4⟩ := (eval_ok hc hx n).2.call X f args _ v h' hk rho0 w vs (rel0 w) hvs0
  have hk0 : ∀ r, r < w.heap.size → w'.heap[r]? = w.heap[r]? := fun r hr => h4.frame r hr fun b S hb => (nomatch hb)
  exact ⟨v', w', ρ, h1, plainAV_R hp h2, hr.below h4.size hk0, Nat.le_refl _, fun _ _ => rfl, fun b r S hb he => (by rw [hr.absent hb] at he; simp at he), h4.size, fun _ _ h => h, fun r hr _ => hk0 r hr, h4.os, h4.tape, h4.output, h4.fz⟩
end Eng
end

noncomputable section
namespace Eng
open Go
variable {P : Program}

/-- cells that are the same in every world -/
def A.lit : A → Value
  | .bool b => .bool b
  | .int k n => .int k n
  | .str s => .string s
  | .nilp => .pointer none
  | .nils => .slice none 0 0
  | .nilm => .map none
  | .nilf => .nilFunc
  | _ => undef
def A.isLit : A → Bool
  | .bool _ | .int .. | .str _ | .nilp | .nils | .nilm | .nilf => true
  | _ => false
theorem lits_F2 (ρ : Rho) (σ : Sig) : ∀ {l : List A}, l.all A.isLit = true → F2 (AR ρ σ) l (l.map A.lit) := by
  intro l
  induction l with
  | nil => intro _; exact .nil
  | cons a l ih =>
    intro h
    simp only [List.all_cons, Bool.and_eq_true] at h
    refine .cons ?_ (ih h.2)
    cases a <;> first | rfl | cases h.1
def TI.zeroVal (ti : TI) : Value := bif ti.agg then .agg (ti.zero.map A.lit).toArray else (ti.zero.map A.lit).headD undef
theorem TyR.of {t : TypeId} {ti : TI} (hu : P.underlying t = some ti.und) (hi : (P.info? t).map (fun i => (i.size, i.bytes, i.zero)) = some (ti.size, ti.bytes, some ti.zeroVal)) (hl : ti.zero.all A.isLit = true) (hn : Nat.beq ti.zero.length ti.size = true)
    (h1 : (ti.agg || Nat.beq ti.zero.length 1) = true) (ha : ti.agg = (match ti.und with | .struct _ | .array _ _ => true | _ => false)) (hp : ti.plain = true → P.stoodInHeld t = false) : TyR P t ti := by
  refine ⟨hu, ?_, ha, hp⟩
  cases hinfo : P.info? t with
  | none => rw [hinfo] at hi; cases hi
  | some i =>
    rw [hinfo] at hi
    simp only [Option.map_some, Option.some.injEq, Prod.mk.injEq] at hi
    refine ⟨i, rfl, hi.1, hi.2.1, ti.zeroVal, hi.2.2, ti.zero.map A.lit, ?_, fun ρ σ => lits_F2 ρ σ hl, beq_eq hn, ?_, ?_⟩
    · unfold TI.zeroVal
      cases hag : ti.agg with
      | true => rfl
      | false =>
        rw [hag] at h1
        have h2 : ti.zero.length = 1 := beq_eq (by simpa using h1)
        cases hz : ti.zero with
        | nil => rw [hz] at h2; cases h2
        | cons a l => cases l with
          | nil =>
            rw [hz] at hl
            simp only [List.all_cons, List.all_nil, Bool.and_true] at hl
            cases a <;> first | rfl | cases hl
          | cons b l => rw [hz] at h2; simp at h2
    · intro hag; unfold TI.zeroVal; rw [hag]; rfl
    · intro hag
      unfold TI.zeroVal
      rw [hag] at h1 ⊢
      have h2 : ti.zero.length = 1 := beq_eq (by simpa using h1)
      cases hz : ti.zero with
      | nil => rw [hz] at h2; cases h2
      | cons a l => cases l with
        | nil => rfl
        | cons b l => rw [hz] at h2; simp at h2
/-- a table from a list -/
def tableOf {α : Type} : List (Nat × α) → T α
  | [] => .nil
  | (n, x) :: l => (tableOf l).set n x
theorem tableOf_mem {α : Type} : ∀ {l : List (Nat × α)} {n : Nat} {x : α}, (tableOf l).get n = some x → (n, x) ∈ l := by
  intro l
  induction l with
  | nil => intro n x h; cases h
  | cons p l ih =>
    intro n x h
    rcases T.get_set h with ⟨e1, e2⟩ | ⟨_, e2⟩
    · subst e1; subst e2; simp
    · exact List.mem_cons_of_mem _ (ih e2)
inductive Al {α : Type} (p : α → Prop) : List α → Prop
  | nil : Al p []
  | cons {a l} : p a → Al p l → Al p (a :: l)
theorem Al.mem {α : Type} {p : α → Prop} : ∀ {l : List α}, Al p l → ∀ x ∈ l, p x := by
  intro l h
  induction h with
  | nil => intro x hx; cases hx
  | cons h0 _ ih =>
    intro x hx
    rcases List.mem_cons.1 hx with e | e
    · exact e ▸ h0
    · exact ih x e
theorem CfgOK.of {C : Cfg} {σ : Sig} {tyL : List (Nat × TI)} {fuL : List (Nat × FI)} (h1 : C.ty = (tableOf tyL).get) (h2 : C.fu = (tableOf fuL).get) (ht : Al (fun p => TyR P p.1 p.2) tyL) (hf : Al (fun p => FuR P p.1 p.2) fuL)
    (hc : ∀ op x y r, C.cmp op x y = some r → cmpDen op (x.den σ) (y.den σ) = r) (hm : P.follows .mixedOrders = true)
    (hn : ∀ e n, C.norm e = some n → e.den σ = n := by intro _ _ h; exact nomatch h) : CfgOK P C σ :=
  ⟨fun t ti h => ht.mem (t, ti) (tableOf_mem (by rw [← h1]; exact h)), fun f fi h => hf.mem (f, fi) (tableOf_mem (by rw [← h2]; exact h)), hc, hn, hm⟩
end Eng
end

noncomputable section
namespace Eng
open Go Go.RowKit
variable {P : Program} {C : Cfg} {σ : Sig}

def says (v : Bool) (r : OR) : Bool := match r with | some (.val (.one (.bool b)) _) => b == v | _ => false
theorem says_some {v : Bool} {r : OR} (h : says v r = true) : ∃ h', r = some (.val (.one (.bool v)) h') := by
  unfold says at h
  split at h
  · rename_i b h'; exact ⟨h', by rw [eq_of_beq h]⟩
  · cases h
theorem calls_true (hc : CfgOK P C σ) (hx : ExtOK C P σ) {n : Nat} {X : Ctx} {f : FuncId} {args : List AV} {vs : List Value} (hk : says true (eval C n X (.call f args) ⟨.nil, 0⟩) = true) (ha : F2 (AVR rho0 σ) args vs) (w : World) :
    Calls P f vs.toArray w fun e w' => e = .returned (.bool true) ∧ Grown w w' := by
  obtain ⟨h', hk'⟩ := says_some hk
  refine (calls_eval hc hx hk' ha w).mono ?_
  rintro e w' ⟨v', rfl, ⟨ρ, hv⟩, h1, h2, h3, h4, h5, h6⟩
  refine ⟨congrArg _ hv, ⟨h3, h5, ?_⟩, h6, h1⟩
  intro i hi
  rw [h2 i hi]
  exact (World.keptBut_refl w (fun _ => False)).2.2 i hi
end Eng
end

noncomputable section
namespace Eng
open Go Go.RowKit
variable {P : Program} {C C' : Cfg} {σ : Sig} {ρ : Rho}

/- relations of two tables that have the same functions -/
theorem BR.cfg (h : C.fu = C'.fu) {x : Blk} {o : Obj} {S : Nat} (hx : BR ρ σ C x o S) : BR ρ σ C' x o S := by
  cases x with
  | loop l =>
    obtain ⟨L, h1, a, b, c, d, e, f, ⟨fi, g1, g2, g3⟩, g⟩ := hx
    exact ⟨L, h1, a, b, c, d, e, f, ⟨fi, by rw [← h]; exact g1, g2, g3⟩, g⟩
  | cells c n f s => exact hx
  | map es clock => exact hx
  | iter m since seen last => exact hx
  | defs opn => exact hx
  | vm c n sp => exact hx
  | dead => trivial
theorem Rel.cfg (h : C.fu = C'.fu) {hh : H} {w : World} (hr : Rel ρ σ C hh w) : Rel ρ σ C' hh w where
  lt := hr.lt
  blk := fun b r S hb => by
    obtain ⟨o, ho, hx⟩ := hr.blk b r S hb
    exact ⟨o, ho, fun x hg => (hx x hg).cfg h⟩
  inj := hr.inj
/-- what a call answers, wherever it is made -/
structure SumE where
  f : FuncId
  args : List AV
  v : AV
def Summ (P : Program) (σ : Sig) (C : Cfg) (s : SumE) : Prop := ∀ ρ h w vs, Rel ρ σ C h w → F2 (AVR ρ σ) s.args vs →
  ∃ v' w' ρ', CallR P s.f vs.toArray w v' w' ∧ AVR ρ' σ s.v v' ∧ Rel ρ' σ C h w' ∧ Ext ρ ρ' h h w w'
theorem Summ.of (hfu : C.fu = C'.fu) (hc : CfgOK P C σ) (hx : ExtOK C P σ) {n : Nat} {X : Ctx} {s : SumE} {h' : H} (hk : eval C n X (.call s.f s.args) ⟨.nil, 0⟩ = some (.val s.v h')) (hp : plainAV s.v = true) (ha : s.args.all plainAV = true) : Summ P σ C' s := by
  intro ρ h w vs hr hvs
  obtain ⟨v', w', ρ', h1, h2, h3, h4⟩ := summary hc hx hk hp ha (hr.cfg hfu.symm) hvs
  exact ⟨v', w', ρ', h1, h2, h3.cfg hfu, h4⟩
def argsEqb (a b : List AV) : Bool := listEqb AV.eqb a b
def extT (l : List SumE) (f : FuncId) (args : List AV) (h : H) : Option (AV × H) :=
  @List.rec SumE (fun _ => Option (AV × H)) none (fun s _ r => @Bool.rec (fun _ => Option (AV × H)) r (@Bool.rec (fun _ => Option (AV × H)) r (some (s.v, h)) (argsEqb s.args args)) (Nat.beq s.f f)) l
theorem extT_ok {l : List SumE} (h : Al (Summ P σ C) l) : ∀ f args hh v h', extT l f args hh = some (v, h') → h' = hh ∧ Summ P σ C ⟨f, args, v⟩ := by
  induction h with
  | nil => intro f args hh v h' hk; cases hk
  | cons h0 _ ih =>
    rename_i s l _
    intro f args hh v h' hk
    have hk' : @Bool.rec (fun _ => Option (AV × H)) (extT l f args hh) (@Bool.rec (fun _ => Option (AV × H)) (extT l f args hh) (some (s.v, hh)) (argsEqb s.args args)) (Nat.beq s.f f) = some (v, h') := hk
    cases h1 : Nat.beq s.f f with
    | false => rw [h1] at hk'; exact ih f args hh v h' hk'
    | true =>
      rw [h1] at hk'
      cases h2 : argsEqb s.args args with
      | false => rw [h2] at hk'; exact ih f args hh v h' hk'
      | true =>
        rw [h2] at hk'
        cases hk'
        have e1 := beq_eq h1
        have e2 := listEqb_eq (fun _ _ => AV.eqb_eq) h2
        refine ⟨rfl, ?_⟩
        rw [← e1, ← e2]; exact h0
theorem ExtOK.of {l : List SumE} (he : C.ext = extT l) (h : Al (Summ P σ C) l) : ExtOK C P σ := by
  intro f args hh v h' hk ρ w vs hr hvs
  rw [he] at hk
  obtain ⟨rfl, hs⟩ := extT_ok h f args hh v h' hk
  exact hs ρ h' w vs hr hvs
end Eng
end
