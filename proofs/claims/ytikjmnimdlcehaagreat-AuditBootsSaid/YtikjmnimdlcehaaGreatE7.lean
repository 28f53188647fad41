/- The engine, part 7: the sorted keys of a map, whatever order they come in; heaps written down; facts of numbers that are not known. No conditions beside those in its theorems. -/
import Derived.Test.YtikjmnimdlcehaaGreatE6
import Derived.IntWalk
set_option linter.unusedVariables false
noncomputable section
namespace Eng
open Go
variable {P : Program} {C C' : Cfg} {σ σ' : Sig} {ρ ρ' : Rho}

/- symbols below n -/
def E.under (n : Nat) : E → Bool
  | .lit _ => true
  | .var i => Nat.blt i n
  | .bin _ _ a b => a.under n && b.under n
  | .conv _ a => a.under n
theorem E.den_sig {n : Nat} (hs : ∀ i, i < n → σ i = σ' i) : ∀ {e : E}, e.under n = true → e.den σ = e.den σ' := by
  intro e
  induction e with
  | lit m => intro _; rfl
  | var i => intro h; exact hs i (Nat.le_of_ble_eq_true h)
  | bin op k a b iha ihb =>
    intro h
    simp only [E.under, Bool.and_eq_true] at h
    simp only [E.den, iha h.1, ihb h.2]
  | conv k a ih =>
    intro h
    simp only [E.den, ih h]
def A.under (n : Nat) : A → Bool
  | .sym _ e => e.under n
  | .wsl _ _ e => e.under n
  | _ => true
theorem AR.sig {n : Nat} (hs : ∀ i, i < n → σ i = σ' i) {a : A} {v : Value} (hb : a.under n = true) (h : AR ρ σ a v) : AR ρ σ' a v := by
  cases a with
  | sym k e =>
    show v = .int k (e.den σ')
    rw [← E.den_sig hs hb]; exact h
  | wsl b es e =>
    obtain ⟨r, S, N, h1, h2, h3, h4⟩ := h
    exact ⟨r, S, N, h1, h2, by rw [← E.den_sig hs hb]; exact h3, h4⟩
  | _ => exact h
theorem F2.imp {α β : Type} {R R' : α → β → Prop} {l : List α} {m : List β} (h : F2 R l m) : (∀ a ∈ l, ∀ b, R a b → R' a b) → F2 R' l m := by
  induction h with
  | nil => intro _; exact .nil
  | cons h0 _ ih => intro hi; exact .cons (hi _ (by simp) _ h0) (ih fun a ha => hi a (List.mem_cons_of_mem _ ha))
def V.under (n : Nat) : V → Bool
  | .one a => a.under n
  | .agg l => l.all (A.under n)
def AV.under (n : Nat) : AV → Bool
  | .one a => a.under n
  | .agg l => l.all (A.under n)
  | .tup l => l.all (V.under n)
theorem VR.sig {n : Nat} (hs : ∀ i, i < n → σ i = σ' i) {a : V} {v : Value} (hb : a.under n = true) (h : VR ρ σ a v) : VR ρ σ' a v := by
  cases a with
  | one a => exact AR.sig hs (a := a) hb h
  | agg l => obtain ⟨vs, h1, h2⟩ := h; exact ⟨vs, h1, h2.imp fun a ha _ hr => hr.sig hs (List.all_eq_true.1 hb a ha)⟩
theorem AVR.sig {n : Nat} (hs : ∀ i, i < n → σ i = σ' i) {a : AV} {v : Value} (hb : a.under n = true) (h : AVR ρ σ a v) : AVR ρ σ' a v := by
  cases a with
  | one a => exact AR.sig hs (a := a) hb h
  | agg l => obtain ⟨vs, h1, h2⟩ := h; exact ⟨vs, h1, h2.imp fun a ha _ hr => hr.sig hs (List.all_eq_true.1 hb a ha)⟩
  | tup l => obtain ⟨vs, h1, h2⟩ := h; exact ⟨vs, h1, h2.imp fun a ha _ hr => hr.sig hs (List.all_eq_true.1 hb a ha)⟩
def T.allB {α : Type} (p : α → Bool) (t : T α) : Bool := @T.rec α (fun _ => Bool) true (fun v _ _ a b => @Option.rec α (fun _ => Bool) true p v && (a && b)) t
theorem T.allB_get {α : Type} {p : α → Bool} : ∀ {t : T α} {n : Nat} {x : α}, t.allB p = true → T.get t n = some x → p x = true := by
  intro t
  induction t with
  | nil => intro n x _ h; cases h
  | node v l r ihl ihr =>
    intro n x h hg
    have h' : (@Option.rec α (fun _ => Bool) true p v && (T.allB p l && T.allB p r)) = true := h
    simp only [Bool.and_eq_true] at h'
    cases n with
    | zero =>
      have hv : v = some x := hg
      subst hv
      exact h'.1
    | succ m =>
      have hg' : @Bool.rec (fun _ => Option α) (T.get r (Nat.div m 2)) (T.get l (Nat.div m 2)) (Nat.beq (Nat.mod m 2) 0) = some x := hg
      cases hb : Nat.beq (Nat.mod m 2) 0 with
      | true => rw [hb] at hg'; exact ihl h'.2.1 hg'
      | false => rw [hb] at hg'; exact ihr h'.2.2 hg'
def Blk.under (n : Nat) : Blk → Bool
  | .cells c _ _ _ => c.allB (A.under n)
  | .map es _ => es.all fun e => e.key.under n && e.val.under n
  | .loop l => l.tmps.allB (AV.under n)
  | .vm _ _ _ => false
  | _ => true
def H.under (n : Nat) (h : H) : Bool := h.1.allB (Blk.under n)
theorem PtR.sig {n nl : Nat} (hs : ∀ i, i < n → σ i = σ' i) {t : T AV} {tmps : Array Value} (hb : t.allB (AV.under n) = true) (h : PtR ρ σ nl t tmps) : PtR ρ σ' nl t tmps := by
  intro i v hi hg
  obtain ⟨v', h1, h2⟩ := h i v hi hg
  exact ⟨v', h1, h2.sig hs (T.allB_get hb hg)⟩
theorem BR.sig {n : Nat} (hs : ∀ i, i < n → σ i = σ' i) {x : Blk} {o : Obj} {S : Nat} (hb : x.under n = true) (h : BR ρ σ C x o S) : BR ρ σ' C x o S := by
  cases x with
  | cells c m f s =>
    obtain ⟨cs, e, h1, h2, h3, h4, h5⟩ := h
    refine ⟨cs, e, h1, h2, h3, h4, ?_⟩
    intro i a hi hg
    obtain ⟨v, g1, g2⟩ := h5 i a hi hg
    exact ⟨v, g1, g2.sig hs (T.allB_get (show c.allB (A.under n) = true from hb) hg)⟩
  | map es clock =>
    obtain ⟨ms, h1, h2⟩ := h
    refine ⟨ms, h1, h2.imp ?_⟩
    intro e he m ⟨a1, a2, a3⟩
    have hb' := List.all_eq_true.1 (show es.all (fun e => e.key.under n && e.val.under n) = true from hb) e he
    simp only [Bool.and_eq_true] at hb'
    exact ⟨a1.sig hs hb'.1, a2.sig hs hb'.2, a3⟩
  | loop l =>
    obtain ⟨L, g1, a, b, c, d, e, f, ⟨fi, g2, g3, g4⟩, g⟩ := h
    exact ⟨L, g1, a, b, c, d, e, f, ⟨fi, g2, g3, g4.sig hs hb⟩, g⟩
  | iter m since seen last => exact h
  | defs opn => exact h
  | vm c n sp => cases hb
  | dead => trivial
theorem Rel.sig {n : Nat} (hs : ∀ i, i < n → σ i = σ' i) {h : H} {w : World} (hb : h.under n = true) (hr : Rel ρ σ C h w) : Rel ρ σ' C h w where
  lt := hr.lt
  blk := fun b r S e => by
    obtain ⟨o, ho, hx⟩ := hr.blk b r S e
    exact ⟨o, ho, fun x hg => (hx x hg).sig hs (T.allB_get hb hg)⟩
  inj := hr.inj
theorem FrR.sig {n nt nl : Nat} (hs : ∀ i, i < n → σ i = σ' i) {fr : FR} {a : Act} (hb : fr.pt.allB (AV.under n) = true) (ht : fr.tl = .nil) (h : FrR ρ σ nt nl fr a) : FrR ρ σ' nt nl fr a :=
  ⟨h.size, h.pt.sig hs hb, (by rw [ht]; intro t v _ hv; exact nomatch hv), h.marks⟩
/-- runs one after another; their symbols may have other numbers -/
theorem Ext.comp {ρ1 ρ2 : Rho} {h h1 h2 : H} {w w1 w2 : World} (e : Ext ρ ρ1 h h1 w w1) (f : Ext ρ1 ρ2 h1 h2 w1 w2) : Ext ρ ρ2 h h2 w w2 where
  next := Nat.le_trans e.next f.next
  old := fun b hb => by rw [f.old b (Nat.lt_of_lt_of_le hb e.next), e.old b hb]
  new := by
    intro b r S hb hb2
    by_cases h1 : b < h1.next
    · rw [f.old b h1] at hb2
      exact e.new b r S hb hb2
    · rcases f.new b r S (by omega) hb2 with h3 | ⟨b0, S0, h3, h4⟩
      · exact .inl (Nat.le_trans e.size h3)
      · by_cases h5 : b0 < h.next
        · rw [e.old b0 h5] at h3
          exact .inr ⟨b0, S0, h3, e.live b0 h5 h4⟩
        · exact e.new b0 r S0 (by omega) h3
  size := Nat.le_trans e.size f.size
  live := fun b hb hl => e.live b hb (f.live b (Nat.lt_of_lt_of_le hb e.next) hl)
  frame := by
    intro r hr' hn
    rw [f.frame r (Nat.lt_of_lt_of_le hr' e.size), e.frame r hr' hn]
    intro b S hb hl
    by_cases h5 : b < h.next
    · rw [e.old b h5] at hb
      exact hn b S hb (e.live b h5 hl)
    · rcases e.new b r S (by omega) hb with h3 | ⟨b0, S0, h3, h4⟩
      · omega
      · exact hn b0 S0 h3 h4
  os := f.os.trans e.os
  tape := f.tape.trans e.tape
  output := f.output.trans e.output
  fz := fun a => (f.fz a).trans (e.fz a)
/-- an object that is none of ours -/
def Free (ρ : Rho) (h : H) (r : Nat) : Prop := ∀ b S, ρ b = some (r, S) → ¬ Live h b
theorem Ext.free {h h' : H} {w w' : World} (e : Ext ρ ρ' h h' w w') {r : Nat} (hr : r < w.heap.size) (hf : Free ρ h r) : Free ρ' h' r := by
  intro b S hb hl
  by_cases h1 : b < h.next
  · rw [e.old b h1] at hb; exact hf b S hb (e.live b h1 hl)
  · rcases e.new b r S (by omega) hb with h2 | ⟨b0, S0, h2, h3⟩
    · omega
    · exact hf b0 S0 h2 h3
/-- an object of none of ours is turned, or made -/
theorem Rel.touch {h : H} {w w' : World} (hr : Rel ρ σ C h w) (hk : ∀ r, r < w.heap.size → w'.heap[r]? = w.heap[r]? ∨ (Free ρ h r ∧ (w'.heap[r]?).isSome = true)) : Rel ρ σ C h w' where
  lt := hr.lt
  blk := fun b r S e => by
    obtain ⟨o, ho, hx⟩ := hr.blk b r S e
    rcases hk r (hr.lt_size e) with h1 | ⟨h1, h2⟩
    · exact ⟨o, by rw [h1]; exact ho, hx⟩
    · obtain ⟨o', ho'⟩ := Option.isSome_iff_exists.1 h2
      refine ⟨o', ho', fun x hg => ?_⟩
      have hn := h1 b S e
      cases x with
      | dead => trivial
      | _ => exact absurd ⟨_, hg, by simp⟩ hn
  inj := hr.inj
end Eng
end

noncomputable section
namespace Eng
open Go

/- code that is told of the world itself -/
inductive RunOps (P : Program) (ops : Array Oper) (b : Frame) : Nat → Act → World → Act → World → Prop
  | nil {a : Act} {w : World} : RunOps P ops b ops.size a w a w
  | cons {i : Nat} {o : Oper} {a : Act} {w : World} {v : Value} {w1 : World} {a' : Act} {w' : World} (ho : ops[i]? = some o) (hg : o.guard = none) (hd : Does P o b a w v w1) (h : RunOps P ops b (i + 1) (a.put o.dst v) w1 a' w') : RunOps P ops b i a w a' w'
variable {P : Program} {b : Frame} {a a1 a' : Act} {w w1 w' : World}
theorem RunOps.steps {ops : Array Oper} {i : Nat} (h : RunOps P ops b i a w a' w') : ∀ k cs, Steps P (lone (b.atR a (.inRegion ops (List.range' i (ops.size - i)) :: k)) cs w) (lone (b.atR a' k) cs w') := by
  induction h with
  | nil => intro k cs; rw [Nat.sub_self]; exact .one stepR_region_end
  | cons ho hg hd _ ih =>
    rename_i i o a w v w1 a' w' _
    intro k cs
    have hlt : i < ops.size := (Array.getElem?_eq_some_iff.1 ho).1
    have e : List.range' i (ops.size - i) = i :: List.range' (i + 1) (ops.size - (i + 1)) := by
      rw [show ops.size - i = (ops.size - (i + 1)) + 1 by omega, List.range'_succ]
    rw [e]
    exact (hd ops i _ k cs ho (by simp [Region.wanted, hg])).trans (ih k cs)
theorem regionR {id : Nat} {ops : Array Oper} (h : RunOps P ops b 0 a w a' w') : CodeR P (.region id ops false) b a w .norm a' w' :=
  codeR_code (by simp) fun k cs => .head stepR_region (by have := h.steps k cs; rw [Nat.sub_zero, ← List.range_eq_range'] at this; exact this)
theorem seqR {c1 c2 : Code} {o : Out} (h1 : CodeR P c1 b a w .norm a1 w1) (h2 : CodeR P c2 b a1 w1 o a' w') : CodeR P (.seq c1 c2) b a w o a' w' :=
  codeR_code (by simp) fun k cs => .of_steps (.head stepR_seq (h1 _ (.code c2 :: k) cs .code)) (h2 _ k cs .code)
theorem seqR_exit {c1 c2 : Code} {id : Nat} (h1 : CodeR P c1 b a w (.exit id) a' w') : CodeR P (.seq c1 c2) b a w (.exit id) a' w' :=
  codeR_code (by simp) fun k cs => by
    obtain ⟨k0, g1, g2⟩ := h1 _ (.code c2 :: k) cs .code
    exact ⟨k0, g1.trans (by simp [exitTo]), .head stepR_seq g2⟩
theorem retR : CodeR P .ret b a w .ret a w := codeR_code (by simp) fun k _ => ⟨k, .refl P _⟩
theorem exitR {id : Nat} : CodeR P (.exit id) b a w (.exit id) a w := codeR_code (by simp) fun k _ => ⟨k, rfl, .refl P _⟩
theorem skipR : CodeR P .skip b a w .norm a w := codeR_code (by simp) fun _ _ => .one stepR_skip
theorem condR {c : Operand} {x y : Code} {t : Bool} {o : Out} (hc : a.eval c = .bool t) (h : CodeR P (if t then x else y) b a w o a' w') : CodeR P (.cond c x y) b a w o a' w' :=
  codeR_code (by simp) fun k cs => .of_steps (.one (stepR_cond hc)) (h _ k cs .code)
theorem blockR {id : Nat} {c : Code} (h : CodeR P c b a w .norm a' w') : CodeR P (.block id c) b a w .norm a' w' :=
  codeR_code (by simp) fun k cs => .head stepR_block ((h _ (.inBlock id :: k) cs .code).trans (.one stepR_inBlock))
theorem blockR_exit {id : Nat} {c : Code} (h : CodeR P c b a w (.exit id) a' w') : CodeR P (.block id c) b a w .norm a' w' :=
  codeR_code (by simp) fun k cs => by
    obtain ⟨k0, g1, g2⟩ := h _ (.inBlock id :: k) cs .code
    exact .head stepR_block (g2.trans (.one (stepR_exit (g1.trans (by simp [exitTo])))))
theorem loopR {c : Code} {o : Out} (h1 : CodeR P c b a w .norm a1 w1) (h2 : CodeR P (.loop c) b a1 w1 o a' w') : CodeR P (.loop c) b a w o a' w' := by
  intro todo k cs hs
  cases hs with
  | code => exact .of_steps (.head stepR_loop (h1 _ (.inLoop c :: k) cs .code)) (h2 _ k cs .loop)
  | loop => exact .of_steps (.head stepR_inLoop (h1 _ (.inLoop c :: k) cs .code)) (h2 _ k cs .loop)
theorem loopR_exit {c : Code} {id : Nat} (h : CodeR P c b a w (.exit id) a' w') : CodeR P (.loop c) b a w (.exit id) a' w' := by
  intro todo k cs hs
  cases hs with
  | code =>
    obtain ⟨k0, g1, g2⟩ := h _ (.inLoop c :: k) cs .code
    exact ⟨k0, g1.trans (by simp [exitTo]), .head stepR_loop g2⟩
  | loop =>
    obtain ⟨k0, g1, g2⟩ := h _ (.inLoop c :: k) cs .code
    exact ⟨k0, g1.trans (by simp [exitTo]), .head stepR_inLoop g2⟩
/- operations -/
theorem does_move {o : Oper} {x : Operand} (ho : o.op = .move x) : Does P o b a w (a.eval x) w :=
  does_of_exec (by intro c h; rw [ho] at h; cases h) (.inl (by simp [execOp, ho]))
theorem does_assign {o : Oper} {x : Operand} (ho : o.op = .assign x) : Does P o b a w (a.eval x) w :=
  does_of_exec (by intro c h; rw [ho] at h; cases h) (.inl (by simp [execOp, ho]))
theorem does_call {o : Oper} {c : Call} {f : FuncId} {v : Value} {vs : List Value} (ho : o.op = .call c) (hcal : c.callee = .value (.func f)) (hvs : c.args.toList.map a.eval = vs) (h : CallR P f vs.toArray w v w') : Does P o b a w v w' := by
  subst hvs
  refine does_of_enter (args := (c.args.toList.map a.eval).toArray) (by intro c'; rw [ho]; simp) ?_ h
  have := h.1 (c.args.map a.eval) w
  simp only [execOp, ho, resolve, hcal, Act.eval, Deferred.ofValue, Sem.run_bind, Sem.run_pure, Result.andThen_ok, invoke, Array.append_empty, Array.empty_append]
  rw [this]
  simp [← Array.toList_map]
theorem does_extract {o : Oper} {x : Operand} {i : Nat} {vs : Array Value} {v : Value} (ho : o.op = .extract x i) (hx : a.eval x = .tuple vs) (hv : vs[i]? = some v) : Does P o b a w v w :=
  does_of_exec (by intro c h; rw [ho] at h; cases h) (.inl (by simp [execOp, ho, Instr.extract, hx, hv]))
theorem does_load {C : Cfg} {σ : Sig} (hc : CfgOK P C σ) {o : Oper} {t : TypeId} {x : Operand} {ti : TI} {r off : Nat} {v : Value} (ho : o.op = .load t x) (ht : C.ty t = some ti) (hag : ti.agg = false) (hx : a.eval x = .pointer (some ⟨r, off, none⟩)) (hv : w.cell? ⟨r, off, none⟩ = some v) : Does P o b a w v w := by
  have h1 := (hc.ty t ti ht).runAgg w
  rw [hag] at h1
  refine does_of_exec (by intro c h; rw [ho] at h; cases h) (.inl ?_)
  simp [execOp, ho, Instr.loadAt, hx, Instr.sureAddr, loadVar, h1, hv]
/- a call -/
theorem results1 {fn : Func} {t : Tmp} {tmps : Array Value} (h : fn.results.toList = [.tmp t]) : (results fn tmps).run P w = .ok (tmps.getD t undef) w := by
  have h0 : results fn tmps = (do let vs ← fn.results.mapM (resM tmps); pure (if h : vs.size = 1 then vs[0] else .tuple vs)) := rfl
  rw [h0, Array.mapM_eq_mapM_toList, h]
  simp [resM]
theorem results0 {fn : Func} {tmps : Array Value} (h : fn.results.toList = []) : (results fn tmps).run P w = .ok (.tuple #[]) w := by
  have h0 : results fn tmps = (do let vs ← fn.results.mapM (resM tmps); pure (if h : vs.size = 1 then vs[0] else .tuple vs)) := rfl
  rw [h0, Array.mapM_eq_mapM_toList, h]
  simp
def callee (f : FuncId) : Frame := { (default : Frame) with fn := f, kind := .normal }
def entry0 (fi : FI) (vs : List Value) : Act := ⟨vs.toArray ++ Array.replicate (fi.nt - vs.toArray.size) undef, []⟩
theorem entry0_get {fi : FI} {vs : List Value} {i : Nat} {v : Value} (h : vs[i]? = some v) : (entry0 fi vs).tmps[i]? = some v := by
  show (vs.toArray ++ Array.replicate (fi.nt - vs.toArray.size) undef)[i]? = _
  have hlt : i < vs.toArray.size := by have := (List.getElem?_eq_some_iff.1 h).1; simpa using this
  rw [Array.getElem?_append_left hlt]
  simpa using h
theorem entry0_size {fi : FI} {vs : List Value} (h : vs.length ≤ fi.nt) : (entry0 fi vs).tmps.size = fi.nt := by
  show (vs.toArray ++ Array.replicate (fi.nt - vs.toArray.size) undef).size = _
  simp; omega
theorem callR_of {f : FuncId} {fi : FI} (hf : FuR P f fi) {vs : List Value} {o : Out} (ho : ∀ id, o ≠ .exit id) (hb : CodeR P fi.body (callee f) (entry0 fi vs) w o a1 w') (hd : a1.defers = []) {v : Value}
    (hv : ∀ fn : Func, fn.results.toList = fi.results → (results fn a1.tmps).run P w' = .ok v w') : CallR P f vs.toArray w v w' := by
  obtain ⟨fn, hfn, hbody, hnt, hres, hname⟩ := hf.ex
  refine ⟨fun args w => (by simp [callFunc, hfn, hname, hbody]), ?_⟩
  have henter : Frame.enter P f vs.toArray .normal = (callee f).atR (entry0 fi vs) [.code fi.body] := by
    simp only [Frame.enter, hfn, hbody, Option.map_some, Option.getD_some, Option.bind_some, hnt]
    rfl
  intro cs
  have hret : ∃ todo, Steps P (lone (Frame.enter P f vs.toArray .normal) cs w) (lone { (callee f).atR a1 todo with mode := .returning } cs w') := by
    rw [henter]
    have := hb _ [] cs .code
    cases o with
    | norm => exact ⟨[], Steps.trans this (.one (stepR_end rfl))⟩
    | ret => obtain ⟨k0, g⟩ := this; exact ⟨_, g.trans (.one (stepR_ret rfl))⟩
    | exit id => exact absurd rfl (ho id)
  obtain ⟨todo, hret⟩ := hret
  exact ⟨_, hret, rfl, rfl, hd, rfl, fn, hfn, hv fn hres⟩
end Eng
end

noncomputable section
namespace Eng
open Go
variable {P : Program} {C : Cfg}

/- the keys of a map, in whatever order they come -/
inductive KBody (C : Cfg) : Code → Code → Prop
  | mk {i0 i1 i2 b0 b1 : Nat} {tm kt et : TypeId} {ti : TI} {oL oR oN oX oE oT oA : Oper} {c3 : Code}
      (hL : oL.op = .load tm (.tmp 1)) (dL : oL.dst = some 4) (gL : oL.guard = none)
      (hR : oR.op = .range tm (.tmp 4)) (dR : oR.dst = some 5) (gR : oR.guard = none)
      (hN : oN.op = .next (.tmp 5) false) (dN : oN.dst = some 6) (gN : oN.guard = none)
      (hX : oX.op = .extract (.tmp 6) 0) (dX : oX.dst = some 7) (gX : oX.guard = none)
      (hE : oE.op = .entry (.tmp 5)) (dE : oE.dst = some 8) (gE : oE.guard = none)
      (hT : oT.op = .extract (.tmp 8) 0) (dT : oT.dst = some 9) (gT : oT.guard = none)
      (hA : oA.op = .assign (.tmp 9)) (dA : oA.dst = some 3) (gA : oA.guard = none)
      (ht : C.ty tm = some ti) (hag : ti.agg = false) (hu : ti.und = .map kt et) :
      KBody C (.seq (.region i0 #[oL, oR] false) (.block b0 (.loop (.seq (.region i1 #[oN, oX] false) (.seq (.cond (.tmp 7) .skip (.exit b0)) (.block b1 (.seq (.region i2 #[oE, oT, oA] false) c3))))))) c3
theorem run_next_none {W : World} {ri rm clock : Nat} {ms : List MapEntry} {seen : List Nat} {ty : TypeId} (hi : W.heap[ri]? = some (.mapIter (some rm) clock seen.toArray clock)) (hm : W.heap[rm]? = some (.map ms.toArray clock))
    (hb : ∀ m ∈ ms, m.born < clock) (hl : ∀ m ∈ ms, m.born ∈ seen) : (Instr.next (.pointer (some ⟨ri, 0, none⟩)) false ty).run P W = .ok (.tuple #[.bool false]) W := by
  have hnil : ms.filter (fun e => !seen.toArray.contains e.born) = [] := by
    rw [List.filter_eq_nil_iff]
    intro m hm
    simp [hl m hm]
  have hfil : ms.toArray.filter (fun e => !seen.toArray.contains e.born) = #[] := by
    apply Array.ext'
    rw [Array.toList_filter]
    exact hnil
  have hbad : (!seen.toArray.isEmpty && !ms.toArray.isEmpty && ms.toArray.all (·.born ≥ clock)) = false := by
    cases ms with
    | nil => simp
    | cons m l =>
      have := hb m (by simp)
      have h2 : (m :: l).toArray.all (·.born ≥ clock) = false := by
        simp only [List.all_toArray, List.all_cons]
        have : decide (m.born ≥ clock) = false := by simp; omega
        rw [this]; rfl
      rw [h2, Bool.and_false]
  simp only [Instr.next, Sem.run_bind, run_getIter (P := P) hi, run_getMap (P := P) hm, Result.andThen_ok, hbad, hfil]
  simp [Question.forced]
theorem run_next_some {W : World} {ri rm clock : Nat} {ms : List MapEntry} {seen : List Nat} {ty : TypeId} (hi : W.heap[ri]? = some (.mapIter (some rm) clock seen.toArray clock)) (hm : W.heap[rm]? = some (.map ms.toArray clock))
    (hb : ∀ m ∈ ms, m.born < clock) (hl : ∃ m ∈ ms, m.born ∉ seen) : ∃ m ∈ ms, m.born ∉ seen ∧ ∃ d, (Instr.next (.pointer (some ⟨ri, 0, none⟩)) false ty).run P W = .ok (.tuple #[.bool true, m.key, m.val]) (putObj { W with drawn := d } ri (.mapIter (some rm) clock (seen ++ [m.born]).toArray clock)) := by
  obtain ⟨L, hL⟩ : ∃ L, ms.filter (fun e => !seen.toArray.contains e.born) = L := ⟨_, rfl⟩
  have hmem : ∀ m ∈ L, m ∈ ms ∧ m.born ∉ seen := by
    intro m hm
    rw [← hL, List.mem_filter] at hm
    exact ⟨hm.1, by simpa using hm.2⟩
  have hne : L ≠ [] := by
    obtain ⟨m, h1, h2⟩ := hl
    intro e
    have : m ∈ L := by rw [← hL, List.mem_filter]; exact ⟨h1, by simpa using h2⟩
    rw [e] at this; cases this
  have hpos : 0 < L.length := List.length_pos_iff.2 hne
  have hfil : ms.toArray.filter (fun e => !seen.toArray.contains e.born) = L.toArray := by
    apply Array.ext'
    rw [Array.toList_filter]
    exact hL
  have h8 : L.toArray.filter (·.born < clock) = L.toArray := by
    apply Array.ext'
    rw [Array.toList_filter]
    exact List.filter_eq_self.2 fun m hm => by simpa using hb m (hmem m hm).1
  have h9 : L.toArray.filter (·.born ≥ clock) = #[] := by
    apply Array.ext'
    rw [Array.toList_filter]
    exact List.filter_eq_nil_iff.2 fun m hm => by have := hb m (hmem m hm).1; simp; omega
  have hbad : (!seen.toArray.isEmpty && !ms.toArray.isEmpty && ms.toArray.all (·.born ≥ clock)) = false := by
    obtain ⟨m, h1, _⟩ := hl
    have h2 : ms.toArray.all (·.born ≥ clock) = false := by
      cases hall : ms.toArray.all (·.born ≥ clock) with
      | false => rfl
      | true =>
        simp only [List.all_toArray, List.all_eq_true] at hall
        have h3 := hall m h1
        simp only [ge_iff_le, decide_eq_true_eq] at h3
        have := hb m h1
        omega
    rw [h2, Bool.and_false]
  have hch : ∃ i d, i < L.length ∧ (choose (.mapNext L.length)).run P W = .ok i { W with drawn := d } := by
    by_cases h1 : L.length ≤ 1
    · exact ⟨0, W.drawn, hpos, by simp [choose, Sem.run, Question.forced, h1]⟩
    · refine ⟨W.tape W.drawn (.mapNext L.length) % L.length, W.drawn + 1, Nat.mod_lt _ hpos, ?_⟩
      have hf : (Question.mapNext L.length).forced = false := by simp [Question.forced]; omega
      simp only [choose, Sem.run, hf, Question.cut]
      rfl
  obtain ⟨i, d, hid, hrun⟩ := hch
  obtain ⟨m, hm0⟩ : ∃ m, L[i]? = some m := ⟨_, List.getElem?_eq_getElem hid⟩
  refine ⟨m, (hmem m (List.mem_of_getElem? hm0)).1, (hmem m (List.mem_of_getElem? hm0)).2, d, ?_⟩
  have hset := run_setIter (P := P) (w := { W with drawn := d }) (.mapIter (some rm) clock (seen ++ [m.born]).toArray clock) hi
  have hcand : ((if L.toArray.isEmpty = true then #[none] else #[]) ++ Array.map some (L.toArray ++ #[]) : Array (Option MapEntry)) = (L.map some).toArray := by
    cases L with
    | nil => exact absurd rfl hne
    | cons x l => simp
  have hsz : (L.map some).toArray.size = L.length := by simp
  have hget : (L.map some).toArray[i]? = some (some m) := by simp [hm0]
  have h10 : seen.toArray.push m.born = (seen ++ [m.born]).toArray := by simp
  simp only [Instr.next, Sem.run_bind, run_getIter (P := P) hi, run_getMap (P := P) hm, Result.andThen_ok, hbad, hfil, h8, h9, hcand, hsz]
  simp only [Bool.false_eq_true, ↓reduceIte, Sem.run_bind, Sem.run_pure, Result.andThen_ok, hrun, hget, h10, hset]
theorem find_born {ms : List MapEntry} {m : MapEntry} (hm : m ∈ ms) (hnd : (ms.map (·.born)).Nodup) : ms.find? (·.born == m.born) = some m := by
  induction ms with
  | nil => cases hm
  | cons x l ih =>
    simp only [List.map_cons, List.nodup_cons] at hnd
    rcases List.mem_cons.1 hm with e | e
    · subst e; simp
    · have : x.born ≠ m.born := fun e2 => hnd.1 (by rw [e2]; exact List.mem_map_of_mem e)
      rw [List.find?_cons]
      have hb : (x.born == m.born) = false := by simpa using this
      rw [hb]
      exact ih e hnd.2
theorem run_entry {W : World} {ri rm clock since : Nat} {ms : List MapEntry} {seen : List Nat} {m : MapEntry} (hi : W.heap[ri]? = some (.mapIter (some rm) since (seen ++ [m.born]).toArray clock)) (hm : W.heap[rm]? = some (.map ms.toArray clock))
    (hmem : m ∈ ms) (hnd : (ms.map (·.born)).Nodup) : (Instr.entry (.pointer (some ⟨ri, 0, none⟩))).run P W = .ok (.tuple #[m.key, m.val]) W := by
  have h1 : (seen ++ [m.born]).toArray.back? = some m.born := by simp
  have h2 : ms.toArray.find? (·.born == m.born) = some m := by rw [List.find?_toArray]; exact find_born hmem hnd
  simp only [Instr.entry, Sem.run_bind, run_getIter (P := P) hi, run_getMap (P := P) hm, Result.andThen_ok, h1, h2]
  simp
def keyI (m : MapEntry) : Int := match m.key with | .int _ x => x | _ => 0
def sg (π : List Int) : Sig := fun i => π.getD i 0
theorem sg_below {π : List Int} {x : Int} : ∀ i, i < π.length → sg π i = sg (π ++ [x]) i := by
  intro i hi
  simp [sg, List.getD_eq_getElem?_getD, List.getElem?_append_left hi]
/-- the frame of the keys' function when a key is handed on -/
def frK (l q j : Nat) : FR := ⟨T.set (T.set (T.set .nil 0 (.one (.yld l))) 3 (.one (.sym .i64 (.var j)))) 5 (.one (.ptr q 0)), .nil, []⟩
structure KFacts (C : Cfg) (K : FuncId) (fi : FI) (c3 : Code) (l q n F : Nat) (Hs : Nat → H) : Prop where
  hfi : C.fu K = some fi
  body : KBody C fi.body c3
  res : fi.results = []
  nt : 10 ≤ fi.nt
  round : ∀ j, j < n → ∃ fr', eval C F ⟨K, fi.nt, fi.nl, none⟩ (.code c3 (frK l q j)) (Hs j) = some (.code .norm fr' (Hs (j + 1))) ∧ T.get fr'.pt 0 = some (.one (.yld l)) ∧ T.get fr'.pt 5 = some (.one (.ptr q 0)) ∧ fr'.marks = []
  nl : 6 ≤ fi.nl
  below : ∀ j, j ≤ n → (Hs j).under j = true
theorem getD_set_ne {t : Array Value} {i j : Nat} {v : Value} (h : i ≠ j) : (t.setIfInBounds i v)[j]? = t[j]? := Array.getElem?_setIfInBounds_ne h
theorem get_set_self {t : Array Value} {i : Nat} {v : Value} (h : i < t.size) : (t.setIfInBounds i v)[i]? = some v := Array.getElem?_setIfInBounds_self_of_lt h
theorem eval_tmp {a : Act} {t : Tmp} {v : Value} (h : a.tmps[t]? = some v) : a.eval (.tmp t) = v := by
  show a.tmps.getD t undef = v
  rw [Array.getD_eq_getD_getElem?, h]; rfl
theorem frozen_putIter {W : World} {r : Nat} {o o' : Obj} (h0 : W.heap[r]? = some o) (hz : noFrz o) (hz' : noFrz o') (a : Addr) : (putObj W r o').frozen? a = W.frozen? a := by
  have hlt : r < W.heap.size := (Array.getElem?_eq_some_iff.1 h0).1
  unfold World.frozen?
  by_cases e : a.block = r
  · rw [e, putObj_self W o' hlt, h0]
    exact (noFrz_none hz' a).trans (noFrz_none hz a).symm
  · rw [putObj_ne W o' e]
end Eng
end

noncomputable section
namespace Eng
open Go
variable {P : Program} {C : Cfg}

theorem nodup_sub : ∀ {l m : List Nat}, l.Nodup → (∀ x ∈ l, x ∈ m) → l.length ≤ m.length ∧ (l.length = m.length → l.Perm m) := by
  intro l
  induction l with
  | nil =>
    intro m _ _
    refine ⟨Nat.zero_le _, fun h => ?_⟩
    cases m with
    | nil => exact .nil
    | cons x l => cases h
  | cons x l ih =>
    intro m hnd hs
    simp only [List.nodup_cons] at hnd
    have hx : x ∈ m := hs x (by simp)
    have hp := List.perm_cons_erase hx
    obtain ⟨h1, h2⟩ := ih (m := m.erase x) hnd.2 fun y hy => (List.mem_erase_of_ne (fun e => hnd.1 (by rw [← e]; exact hy))).2 (hs y (List.mem_cons_of_mem _ hy))
    have hlen := List.length_erase_of_mem hx
    have hpos : 0 < m.length := List.length_pos_of_mem hx
    simp only [List.length_cons]
    refine ⟨by omega, fun h => ?_⟩
    exact ((h2 (by omega)).cons x).trans hp.symm
theorem Ext.touch {ρ ρ' : Rho} {h h' : H} {w w1 w2 : World} (e : Ext ρ ρ' h h' w w1) (hs : w2.heap.size = w1.heap.size) (hk : ∀ r, r < w.heap.size → w2.heap[r]? = w1.heap[r]?) (h1 : w2.os = w1.os) (h2 : w2.tape = w1.tape) (h3 : w2.output = w1.output) (h4 : ∀ a, w2.frozen? a = w1.frozen? a) : Ext ρ ρ' h h' w w2 where
  next := e.next
  old := e.old
  new := e.new
  size := by rw [hs]; exact e.size
  live := e.live
  frame := fun r hr hn => by rw [hk r hr]; exact e.frame r hr hn
  os := h1.trans e.os
  tape := h2.trans e.tape
  output := h3.trans e.output
  fz := fun a => (h4 a).trans (e.fz a)
theorem keysRun {K : FuncId} {fi : FI} {c3 : Code} {l q n F : Nat} {Hs : Nat → H} (hc : ∀ σ, CfgOK P C σ) (hx : ∀ σ, ExtOK C P σ) (k : KFacts C K fi c3 l q n F Hs) {ρ1 : Rho} {W1 : World} {h1 : H} {rl Sl : Nat} (hH0 : Hs 0 = h1.new .dead) (hq : q = h1.next)
    (hl : ρ1 l = some (rl, Sl)) {σ0 : Sig} (hr : Rel ρ1 σ0 C h1 W1) {rc rm clock : Nat} {ms : List MapEntry} (hcell : W1.cell? ⟨rc, 0, none⟩ = some (.map (some rm))) (hm : W1.heap[rm]? = some (.map ms.toArray clock))
    (hkeys : ∀ m ∈ ms, m.key = .int .i64 (keyI m)) (hborn : ∀ m ∈ ms, m.born < clock) (hnd : (ms.map (·.born)).Nodup) (hn : ms.length = n) (hfm : Free ρ1 h1 rm) :
    ∃ all : List MapEntry, (all.map (·.born)).Nodup ∧ (∀ m ∈ all, m ∈ ms) ∧ all.length = n ∧ ∃ W' ρ', CallR P K [.func (.yield rl) #[] #[], .pointer (some ⟨rc, 0, none⟩)].toArray W1 (.tuple #[]) W' ∧ Rel ρ' (sg (all.map keyI)) C (Hs n) W' ∧ Ext ρ1 ρ' h1 (Hs n) W1 W' := by
  have hfu := (hc σ0).fu K fi k.hfi
  have hrm : rm < W1.heap.size := (Array.getElem?_eq_some_iff.1 hm).1
  obtain ⟨ri, hri⟩ : ∃ ri, W1.heap.size = ri := ⟨_, rfl⟩
  obtain ⟨hrq, heq⟩ := hr.new .dead (.mapIter (some rm) clock #[] clock) 0 trivial
  rw [← hH0] at hrq heq
  rw [hri] at hrq heq
  have hq1 : upd ρ1 h1.next (ri, 0) q = some (ri, 0) := by rw [hq]; exact upd_self _ _ _
  have hl1 : upd ρ1 h1.next (ri, 0) l = some (rl, Sl) := heq.sub hr _ _ hl
  generalize hρq : upd ρ1 h1.next (ri, 0) = ρq at hrq heq hq1 hl1
  have hfri : Free ρq (Hs 0) ri := by
    intro b S hb hlive
    by_cases e : b = h1.next
    · subst e
      obtain ⟨x, hx1, hx2⟩ := hlive
      rw [hH0] at hx1
      rcases H.get_new hx1 with ⟨_, e⟩ | ⟨e, _⟩
      · exact hx2 e
      · exact e rfl
    · rw [← hρq, upd_ne _ _ e] at hb
      have := hr.lt_size hb
      omega
  have hb0 := k.body
  generalize hbd : fi.body = body at hb0
  cases hb0 with
  | mk hL dL gL hR dR gR hN dN gN hX dX gX hE dE gE hT dT gT hA dA gA ht hag hu =>
  rename_i i0 i1 i2 b0 b1 tm kt et ti oL oR oN oX oE oT oA
  have loop : ∀ (kk : Nat) (pre : List MapEntry) (a : Act) (W : World) (ρ' : Rho), pre.length + kk = n → (pre.map (·.born)).Nodup → (∀ m ∈ pre, m ∈ ms) → fi.nt ≤ a.tmps.size → a.tmps[0]? = some (.func (.yield rl) #[] #[]) →
      a.tmps[5]? = some (.pointer (some ⟨ri, 0, none⟩)) → a.defers = [] → Rel ρ' (sg (pre.map keyI)) C (Hs pre.length) W → Ext ρ1 ρ' h1 (Hs pre.length) W1 W → W.heap[ri]? = some (.mapIter (some rm) clock (pre.map (·.born)).toArray clock) →
      Free ρ' (Hs pre.length) ri → ρ' l = some (rl, Sl) → ρ' q = some (ri, 0) →
      ∃ all : List MapEntry, (all.map (·.born)).Nodup ∧ (∀ m ∈ all, m ∈ ms) ∧ all.length = n ∧ ∃ a' W' ρ'', CodeR P (.loop (.seq (.region i1 #[oN, oX] false) (.seq (.cond (.tmp 7) .skip (.exit b0)) (.block b1 (.seq (.region i2 #[oE, oT, oA] false) c3))))) (callee K) a W (.exit b0) a' W' ∧
        a'.defers = [] ∧ Rel ρ'' (sg (all.map keyI)) C (Hs n) W' ∧ Ext ρ1 ρ'' h1 (Hs n) W1 W' := by
    intro kk
    induction kk with
    | zero =>
      intro pre a W ρ' hk hpn hps hsz h0 h5 hd hrel hext hit hfree hl' hq'
      have hmW : W.heap[rm]? = some (.map ms.toArray clock) := by rw [hext.frame rm hrm hfm]; exact hm
      have hp : (pre.map (·.born)).Perm (ms.map (·.born)) := (nodup_sub hpn (by
        intro x hx
        obtain ⟨m, h1, h2⟩ := List.mem_map.1 hx
        exact List.mem_map.2 ⟨m, hps m h1, h2⟩)).2 (by simp; omega)
      have hseen : ∀ m ∈ ms, m.born ∈ pre.map (·.born) := fun m hm => hp.symm.subset (List.mem_map_of_mem hm)
      have hnext := run_next_none (P := P) (ty := oN.type) hit hmW hborn hseen
      have hdo1 : Does P oN (callee K) a W (.tuple #[.bool false]) W := does_of_exec (by intro c h; rw [hN] at h; cases h) (.inl (by simp [execOp, hN, eval_tmp h5, hnext]))
      have h7 : ((a.put oN.dst (.tuple #[.bool false])).put oX.dst (.bool false)).eval (.tmp 7) = .bool false := by
        apply eval_tmp
        rw [dN, dX]
        exact get_set_self (by simp [Act.put]; have := k.nt; omega)
      have h6 : (a.put oN.dst (.tuple #[.bool false])).eval (.tmp 6) = .tuple #[.bool false] := by
        apply eval_tmp
        rw [dN]
        exact get_set_self (by have := k.nt; omega)
      have hreg : CodeR P (.region i1 #[oN, oX] false) (callee K) a W .norm ((a.put oN.dst (.tuple #[.bool false])).put oX.dst (.bool false)) W :=
        regionR (RunOps.cons (o := oN) rfl gN hdo1 (RunOps.cons (o := oX) rfl gX (does_extract (v := .bool false) hX h6 rfl) .nil))
      refine ⟨pre, hpn, hps, by omega, _, W, ρ', loopR_exit (seqR hreg (seqR_exit (condR h7 exitR))), ?_, ?_, ?_⟩
      · rw [dN, dX]; exact hd
      · have : pre.length = n := by omega
        rw [this] at hrel; exact hrel
      · have : pre.length = n := by omega
        rw [this] at hext; exact hext
    | succ kk ih =>
      intro pre a W ρ' hk hpn hps hsz h0 h5 hd hrel hext hit hfree hl' hq'
      have hmW : W.heap[rm]? = some (.map ms.toArray clock) := by rw [hext.frame rm hrm hfm]; exact hm
      have hriW : ri < W.heap.size := (Array.getElem?_eq_some_iff.1 hit).1
      have hleft : ∃ m ∈ ms, m.born ∉ pre.map (·.born) := by
        refine Classical.byContradiction fun hno => ?_
        have h1 : ∀ x ∈ ms.map (·.born), x ∈ pre.map (·.born) := by
          intro x hx
          obtain ⟨m, h1, h2⟩ := List.mem_map.1 hx
          refine Classical.byContradiction fun h3 => hno ⟨m, h1, by rw [h2]; exact h3⟩
        have := (nodup_sub hnd h1).1
        simp at this
        omega
      obtain ⟨m, hmem, hnew, d, hnext⟩ := run_next_some (P := P) (ty := oN.type) hit hmW hborn hleft
      obtain ⟨W2, hW2⟩ : ∃ W2, putObj { W with drawn := d } ri (.mapIter (some rm) clock (pre.map (·.born) ++ [m.born]).toArray clock) = W2 := ⟨_, rfl⟩
      rw [hW2] at hnext
      have hit2 : W2.heap[ri]? = some (.mapIter (some rm) clock (pre.map (·.born) ++ [m.born]).toArray clock) := by rw [← hW2]; exact putObj_self _ _ hriW
      have hne2 : ∀ r, r ≠ ri → W2.heap[r]? = W.heap[r]? := by intro r h; rw [← hW2]; exact putObj_ne { W with drawn := d } _ h
      have hsz2 : W2.heap.size = W.heap.size := by rw [← hW2]; simp [putObj]
      have hmW2 : W2.heap[rm]? = some (.map ms.toArray clock) := by rw [hne2 rm (by omega)]; exact hmW
      have hfz2 : ∀ a, W2.frozen? a = W.frozen? a := by
        intro a
        rw [← hW2]
        exact frozen_putIter (W := { W with drawn := d }) hit (by intro _ _ _ _ h; cases h) (by intro _ _ _ _ h; cases h) a
      have hdo1 : Does P oN (callee K) a W (.tuple #[.bool true, m.key, m.val]) W2 := does_of_exec (by intro c h; rw [hN] at h; cases h) (.inl (by simp [execOp, hN, eval_tmp h5, hnext]))
      obtain ⟨a1, ha1⟩ : ∃ a1, a.put oN.dst (.tuple #[.bool true, m.key, m.val]) = a1 := ⟨_, rfl⟩
      obtain ⟨a2, ha2⟩ : ∃ a2, a1.put oX.dst (.bool true) = a2 := ⟨_, rfl⟩
      have t1 : a1.tmps = a.tmps.setIfInBounds 6 (.tuple #[.bool true, m.key, m.val]) := by rw [← ha1, dN]; rfl
      have t2 : a2.tmps = a1.tmps.setIfInBounds 7 (.bool true) := by rw [← ha2, dX]; rfl
      have s1 : a1.tmps.size = a.tmps.size := by rw [t1]; simp
      have s2 : a2.tmps.size = a.tmps.size := by rw [t2]; simp [s1]
      have hnt := k.nt
      have h6 : a1.eval (.tmp 6) = .tuple #[.bool true, m.key, m.val] := eval_tmp (by rw [t1]; exact get_set_self (by omega))
      have h7 : a2.eval (.tmp 7) = .bool true := eval_tmp (by rw [t2]; exact get_set_self (by omega))
      have hreg1 : CodeR P (.region i1 #[oN, oX] false) (callee K) a W .norm a2 W2 := by
        refine regionR (RunOps.cons (o := oN) rfl gN hdo1 ?_)
        rw [ha1]
        refine RunOps.cons (o := oX) rfl gX (does_extract (v := .bool true) hX h6 rfl) ?_
        rw [ha2]
        exact .nil
      have h52 : a2.tmps[5]? = some (.pointer (some ⟨ri, 0, none⟩)) := by rw [t2, getD_set_ne (by omega), t1, getD_set_ne (by omega)]; exact h5
      have h02 : a2.tmps[0]? = some (.func (.yield rl) #[] #[]) := by rw [t2, getD_set_ne (by omega), t1, getD_set_ne (by omega)]; exact h0
      have hentry := run_entry (P := P) hit2 hmW2 hmem hnd
      have hdo2 : Does P oE (callee K) a2 W2 (.tuple #[m.key, m.val]) W2 := does_of_exec (by intro c h; rw [hE] at h; cases h) (.inl (by simp [execOp, hE, eval_tmp h52, hentry]))
      obtain ⟨a3, ha3⟩ : ∃ a3, a2.put oE.dst (.tuple #[m.key, m.val]) = a3 := ⟨_, rfl⟩
      obtain ⟨a4, ha4⟩ : ∃ a4, a3.put oT.dst m.key = a4 := ⟨_, rfl⟩
      obtain ⟨a5, ha5⟩ : ∃ a5, a4.put oA.dst m.key = a5 := ⟨_, rfl⟩
      have t3 : a3.tmps = a2.tmps.setIfInBounds 8 (.tuple #[m.key, m.val]) := by rw [← ha3, dE]; rfl
      have t4 : a4.tmps = a3.tmps.setIfInBounds 9 m.key := by rw [← ha4, dT]; rfl
      have t5 : a5.tmps = a4.tmps.setIfInBounds 3 m.key := by rw [← ha5, dA]; rfl
      have s3 : a3.tmps.size = a.tmps.size := by rw [t3]; simp [s2]
      have s4 : a4.tmps.size = a.tmps.size := by rw [t4]; simp [s3]
      have s5 : a5.tmps.size = a.tmps.size := by rw [t5]; simp [s4]
      have h8 : a3.eval (.tmp 8) = .tuple #[m.key, m.val] := eval_tmp (by rw [t3]; exact get_set_self (by omega))
      have h9 : a4.eval (.tmp 9) = m.key := eval_tmp (by rw [t4]; exact get_set_self (by omega))
      have hreg2 : CodeR P (.region i2 #[oE, oT, oA] false) (callee K) a2 W2 .norm a5 W2 := by
        refine regionR (RunOps.cons (o := oE) rfl gE hdo2 ?_)
        rw [ha3]
        refine RunOps.cons (o := oT) rfl gT (does_extract (v := m.key) hT h8 rfl) ?_
        rw [ha4]
        refine RunOps.cons (o := oA) rfl gA (does_assign hA) ?_
        rw [h9, ha5]
        exact .nil
      have d5 : a5.defers = [] := by rw [← ha5, dA, ← ha4, dT, ← ha3, dE, ← ha2, dX, ← ha1, dN]; exact hd
      have g0 : a5.tmps[0]? = some (.func (.yield rl) #[] #[]) := by rw [t5, getD_set_ne (by omega), t4, getD_set_ne (by omega), t3, getD_set_ne (by omega)]; exact h02
      have g5 : a5.tmps[5]? = some (.pointer (some ⟨ri, 0, none⟩)) := by rw [t5, getD_set_ne (by omega), t4, getD_set_ne (by omega), t3, getD_set_ne (by omega)]; exact h52
      have g3 : a5.tmps[3]? = some m.key := by rw [t5]; exact get_set_self (by omega)
      have hj : pre.length < n := by omega
      have hpl : (pre.map keyI).length = pre.length := by simp
      obtain ⟨σ', hσ'⟩ : ∃ σ', sg ((pre ++ [m]).map keyI) = σ' := ⟨_, rfl⟩
      have hsg : ∀ i, i < pre.length → sg (pre.map keyI) i = σ' i := by
        intro i hi
        rw [← hσ', List.map_append]
        exact sg_below i (by omega)
      have hσm : σ' pre.length = keyI m := by
        rw [← hσ', List.map_append]
        simp [sg, List.getD_eq_getElem?_getD]
      have hr2 : Rel ρ' σ' C (Hs pre.length) W2 := (hrel.sig hsg (k.below _ (by omega))).touch fun r hr => by
        by_cases e : r = ri
        · right; subst e; exact ⟨hfree, by rw [hit2]; rfl⟩
        · left; exact hne2 r e
      have hext2 : Ext ρ1 ρ' h1 (Hs pre.length) W1 W2 := hext.touch hsz2 (fun r hr => hne2 r (by omega)) (by rw [← hW2]; rfl) (by rw [← hW2]; rfl) (by rw [← hW2]; rfl) hfz2
      obtain ⟨fr', hev, e0, e5, em⟩ := k.round _ hj
      have hfr : FrR ρ' σ' fi.nt fi.nl (frK l q pre.length) a5 := by
        refine ⟨by omega, ?_, (fun t v _ hv => nomatch hv), by rw [d5]; exact .nil⟩
        intro t v _ hg0
        have hg : T.get (T.set (T.set (T.set .nil 0 (.one (.yld l))) 3 (.one (.sym .i64 (.var pre.length)))) 5 (.one (.ptr q 0))) t = some v := hg0
        rcases T.get_set hg with ⟨e, e'⟩ | ⟨_, hg⟩
        · subst e; subst e'; exact ⟨_, g5, ri, 0, hq', rfl⟩
        · rcases T.get_set hg with ⟨e, e'⟩ | ⟨_, hg⟩
          · subst e; subst e'
            refine ⟨_, g3, ?_⟩
            show m.key = .int .i64 (σ' pre.length)
            rw [hσm]; exact hkeys m hmem
          · rcases T.get_set hg with ⟨e, e'⟩ | ⟨_, hg⟩
            · subst e; subst e'; exact ⟨_, g0, rl, Sl, hl', rfl⟩
            · cases hg
      obtain ⟨a6, W3, ρ'', hcode, hf6, hr3, he3⟩ := (eval_ok (hc σ') (hx σ') F).1 _ _ _ _ _ _ _ hev ρ' W2 a5 (callee K) ⟨⟨fi, k.hfi, rfl, rfl⟩, rfl, rfl, rfl⟩ hr2 hfr
      have hs3 := he3.sub hr2
      have hl3 := hs3 _ _ hl'
      have hq3 := hs3 _ _ hq'
      have hnl := k.nl
      have hit3 : W3.heap[ri]? = some (.mapIter (some rm) clock ((pre ++ [m]).map (·.born)).toArray clock) := by
        rw [he3.frame ri (by omega) hfree, hit2, List.map_append]; rfl
      have k0 : a6.tmps[0]? = some (.func (.yield rl) #[] #[]) := by
        obtain ⟨v', h1, r, S, h2, h3⟩ := hf6.pt 0 _ (show 0 < fi.nl by omega) e0
        rw [hl3] at h2; cases h2
        rw [h1, h3]
      have k5 : a6.tmps[5]? = some (.pointer (some ⟨ri, 0, none⟩)) := by
        obtain ⟨v', h1, r, S, h2, h3⟩ := hf6.pt 5 _ (show 5 < fi.nl by omega) e5
        rw [hq3] at h2; cases h2
        rw [h1, h3]
      have kd : a6.defers = [] := by
        have := hf6.marks
        rw [em] at this
        generalize a6.defers = dd at this
        cases this; rfl
      have hlen1 : (pre ++ [m]).length = pre.length + 1 := by simp
      obtain ⟨all, c1, c2, c4, a', W', ρ3, c5, c6, c7, c8⟩ := ih (pre ++ [m]) a6 W3 ρ'' (by omega) (by
          rw [List.map_append, List.nodup_append]
          refine ⟨hpn, by simp, ?_⟩
          intro x hx y hy e
          simp at hy
          subst e; subst hy
          exact hnew hx) (by
          intro x hx
          rcases List.mem_append.1 hx with e | e
          · exact hps x e
          · simp at e; subst e; exact hmem) hf6.size k0 k5 kd (by rw [hlen1, hσ']; exact hr3) (by rw [hlen1]; exact hext2.comp he3) hit3 (by rw [hlen1]; exact he3.free (by omega) hfree) hl3 hq3
      refine ⟨all, c1, c2, c4, a', W', ρ3, loopR (seqR hreg1 (seqR (condR h7 skipR) (blockR (seqR hreg2 hcode)))) c5, c6, c7, c8⟩
  -- the beginning
  have hund := ((hc σ0).ty tm ti ht).runUnd W1
  rw [hu] at hund
  have hnt := k.nt
  obtain ⟨a0, ha0⟩ : ∃ a0, entry0 fi [.func (.yield rl) #[] #[], .pointer (some ⟨rc, 0, none⟩)] = a0 := ⟨_, rfl⟩
  have z0 : a0.tmps[0]? = some (.func (.yield rl) #[] #[]) := by rw [← ha0]; exact entry0_get rfl
  have z1 : a0.tmps[1]? = some (.pointer (some ⟨rc, 0, none⟩)) := by rw [← ha0]; exact entry0_get rfl
  have zs : a0.tmps.size = fi.nt := by rw [← ha0]; exact entry0_size (by simp; omega)
  have zd : a0.defers = [] := by rw [← ha0]; rfl
  obtain ⟨a1, ha1⟩ : ∃ a1, a0.put oL.dst (.map (some rm)) = a1 := ⟨_, rfl⟩
  obtain ⟨a2, ha2⟩ : ∃ a2, a1.put oR.dst (.pointer (some ⟨ri, 0, none⟩)) = a2 := ⟨_, rfl⟩
  have t1 : a1.tmps = a0.tmps.setIfInBounds 4 (.map (some rm)) := by rw [← ha1, dL]; rfl
  have t2 : a2.tmps = a1.tmps.setIfInBounds 5 (.pointer (some ⟨ri, 0, none⟩)) := by rw [← ha2, dR]; rfl
  have s1 : a1.tmps.size = fi.nt := by rw [t1]; simp [zs]
  have s2 : a2.tmps.size = fi.nt := by rw [t2]; simp [s1]
  have h4 : a1.eval (.tmp 4) = .map (some rm) := eval_tmp (by rw [t1]; exact get_set_self (by omega))
  have hrange : Does P oR (callee K) a1 W1 (.pointer (some ⟨ri, 0, none⟩)) (push W1 (.mapIter (some rm) clock #[] clock)) := by
    refine does_of_exec (by intro c h; rw [hR] at h; cases h) (.inl ?_)
    rw [← hri]
    simp [execOp, hR, Instr.range, hund, h4, run_getMap (P := P) hm, push]
  have hreg0 : CodeR P (.region i0 #[oL, oR] false) (callee K) a0 W1 .norm a2 (push W1 (.mapIter (some rm) clock #[] clock)) := by
    refine regionR (RunOps.cons (o := oL) rfl gL (does_load (hc σ0) hL ht hag (eval_tmp z1) hcell) ?_)
    rw [ha1]
    refine RunOps.cons (o := oR) rfl gR hrange ?_
    rw [ha2]
    exact .nil
  have y0 : a2.tmps[0]? = some (.func (.yield rl) #[] #[]) := by rw [t2, getD_set_ne (by omega), t1, getD_set_ne (by omega)]; exact z0
  have y5 : a2.tmps[5]? = some (.pointer (some ⟨ri, 0, none⟩)) := by rw [t2]; exact get_set_self (by omega)
  have yd : a2.defers = [] := by rw [← ha2, dR, ← ha1, dL]; exact zd
  obtain ⟨all, c1, c2, c4, a', W', ρ3, c5, c6, c7, c8⟩ := loop n [] a2 _ ρq (by simp) (by simp) (by simp) (by omega) y0 y5 yd (hrq.sig (n := 0) (fun i hi => absurd hi (by omega)) (k.below 0 (by omega))) heq (by rw [← hri]; exact push_get_new _ _) hfri hl1 hq1
  refine ⟨all, c1, c2, c4, W', ρ3, ?_, c7, c8⟩
  refine callR_of hfu (o := .norm) (by intro id h; cases h) (a1 := a') ?_ c6 fun fn hfn => results0 (by rw [hfn]; exact k.res)
  rw [hbd, ha0]
  exact seqR hreg0 (blockR_exit c5)
end Eng
end

noncomputable section
namespace Eng
open Go
variable {P : Program} {C : Cfg} {σ : Sig} {ρ : Rho}

/-- leaving a function -/
theorem ret_s (hc : CfgOK P C σ) {f : FuncId} {fi : FI} (hfi : C.fu f = some fi) {vs : List Value} {o : Out} {fr1 : FR} {h1 h' : H} {v : AV} {w w1 : World} {a1 : Act} {ρ1 : Rho} (hk1 : stRet C fi o fr1 h1 = some (.val v h'))
    (c1 : CodeR P fi.body (callee f) (entry0 fi vs) w o a1 w1) (f1 : FrR ρ1 σ fi.nt fi.nl fr1 a1) (r1 : Rel ρ1 σ C h1 w1) : ∃ v' w2, CallR P f vs.toArray w v' w2 ∧ AVR ρ1 σ v v' ∧ Rel ρ1 σ C h' w2 ∧ Ext ρ1 ρ1 h1 h' w1 w2 := by
  obtain ⟨fn, hfn, hbody, hnt, hres, hname⟩ := (hc.fu f fi hfi).ex
  have henter : Frame.enter P f vs.toArray .normal = (callee f).atR (entry0 fi vs) [.code fi.body] := by
    simp only [Frame.enter, hfn, hbody, Option.map_some, Option.getD_some, Option.bind_some, hnt]
    rfl
  have hmarks : ∃ hh, takeMarks fr1.marks h1 (fun h => resultsK C fi.nl fr1 h fi.results fun vs => some (.val (retV vs) h)) = some (.val v h') ∧ (hh = o ∧ ∀ id, o ≠ .exit id) := by
    unfold stRet at hk1
    split at hk1
    · cases hk1
    · rename_i hne; exact ⟨o, hk1, rfl, hne⟩
  obtain ⟨_, hk2, _, hne⟩ := hmarks
  obtain ⟨h2, hk3, hm⟩ := marks_s (nl := 0) (nt := 0) hk2
  obtain ⟨xs, hk4, hresults⟩ := results_s hk3
  cases hk4
  obtain ⟨w2, r2, x2, hsteps⟩ := hm P σ ρ1 w1 a1.defers r1 f1.marks
  obtain ⟨us, g1, g2⟩ := hresults P σ ρ1 w2 a1.tmps hc r2 f1.pt f1.tl
  rw [← hres] at g1
  obtain ⟨v', g3, g4⟩ := run_results g1 g2
  refine ⟨v', w2, ⟨fun args w => (by simp [callFunc, hfn, hname, hbody]), ?_⟩, g4, r2, x2⟩
  intro cs
  have hret : ∃ todo, Steps P (lone (Frame.enter P f vs.toArray .normal) cs w) (lone { (callee f).atR a1 todo with mode := .returning } cs w1) := by
    rw [henter]
    have := c1 _ [] cs .code
    cases o with
    | norm => exact ⟨[], Steps.trans this (.one (stepR_end rfl))⟩
    | ret => obtain ⟨k0, g⟩ := this; exact ⟨_, g.trans (.one (stepR_ret rfl))⟩
    | exit id => exact absurd rfl (hne id)
  obtain ⟨todo, hret⟩ := hret
  refine ⟨_, hret.trans (hsteps _ cs rfl rfl), rfl, rfl, rfl, rfl, fn, hfn, ?_⟩
  exact g3
theorem entryFr {fi : FI} {args : List AV} {vs : List Value} (ha : F2 (AVR ρ σ) args vs) : FrR ρ σ fi.nt fi.nl ⟨T.ofList args, .nil, []⟩ (entry0 fi vs) := by
  refine ⟨?_, ?_, (fun t v _ hv => nomatch hv), .nil⟩
  · show fi.nt ≤ (vs.toArray ++ Array.replicate (fi.nt - vs.toArray.size) undef).size
    simp; omega
  · intro t u _ hu
    obtain ⟨v', h2, h3⟩ := ha.get (T.get_ofList hu)
    refine ⟨v', ?_, h3⟩
    show (vs.toArray ++ Array.replicate (fi.nt - vs.toArray.size) undef)[t]? = _
    have hlt : t < vs.toArray.size := by have := (List.getElem?_eq_some_iff.1 h2).1; simpa using this
    rw [Array.getElem?_append_left hlt]
    simpa using h2
/- what is reckoned with -/
def codeB (r : OR) (k : FR → H → Bool) : Bool := match r with | some (.code .norm fr h) => k fr h | _ => false
def codeRB (r : OR) (k : FR → H → Bool) : Bool := match r with | some (.code .ret fr h) => k fr h | _ => false
def valB (r : OR) (k : AV → H → Bool) : Bool := match r with | some (.val v h) => k v h | _ => false
theorem codeB_some {r : OR} {k : FR → H → Bool} (h : codeB r k = true) : ∃ fr hh, r = some (.code .norm fr hh) ∧ k fr hh = true := by
  unfold codeB at h
  split at h
  · exact ⟨_, _, rfl, h⟩
  · cases h
theorem codeRB_some {r : OR} {k : FR → H → Bool} (h : codeRB r k = true) : ∃ fr hh, r = some (.code .ret fr hh) ∧ k fr hh = true := by
  unfold codeRB at h
  split at h
  · exact ⟨_, _, rfl, h⟩
  · cases h
theorem valB_some {r : OR} {k : AV → H → Bool} (h : valB r k = true) : ∃ v hh, r = some (.val v hh) ∧ k v hh = true := by
  unfold valB at h
  split at h
  · exact ⟨_, _, rfl, h⟩
  · cases h
def hasAV (o : Option AV) (v : AV) : Bool := match o with | some u => AV.eqb u v | none => false
theorem hasAV_eq {o : Option AV} {v : AV} (h : hasAV o v = true) : o = some v := by
  unfold hasAV at h
  split at h
  · rw [AV.eqb_eq h]
  · cases h
def okK (l q : Nat) (fr : FR) : Bool := hasAV (T.get fr.pt 0) (.one (.yld l)) && (hasAV (T.get fr.pt 5) (.one (.ptr q 0)) && match fr.marks with | [] => true | _ => false)
def rnd (C : Cfg) (F : Nat) (XK : Ctx) (c3 : Code) (l q : Nat) : Nat → Nat → H → (H → Bool) → Bool
  | 0, j, h, k => h.under j && k h
  | m + 1, j, h, k => h.under j && codeB (eval C F XK (.code c3 (frK l q j)) h) fun fr h' => okK l q fr && rnd C F XK c3 l q m (j + 1) h' k
theorem rnd_some {F : Nat} {XK : Ctx} {c3 : Code} {l q : Nat} {k : H → Bool} : ∀ {m j : Nat} {h : H}, rnd C F XK c3 l q m j h k = true → ∃ Hs : Nat → H, Hs j = h ∧ k (Hs (j + m)) = true ∧ (∀ i, j ≤ i → i ≤ j + m → (Hs i).under i = true) ∧
    ∀ i, j ≤ i → i < j + m → ∃ fr', eval C F XK (.code c3 (frK l q i)) (Hs i) = some (.code .norm fr' (Hs (i + 1))) ∧ T.get fr'.pt 0 = some (.one (.yld l)) ∧ T.get fr'.pt 5 = some (.one (.ptr q 0)) ∧ fr'.marks = [] := by
  intro m
  induction m with
  | zero =>
    intro j h hk
    simp only [rnd, Bool.and_eq_true] at hk
    refine ⟨fun _ => h, rfl, hk.2, fun i h1 h2 => ?_, fun i h1 h2 => absurd h2 (by omega)⟩
    have : i = j := by omega
    subst this; exact hk.1
  | succ m ih =>
    intro j h hk
    simp only [rnd, Bool.and_eq_true] at hk
    obtain ⟨hb, hk1⟩ := hk
    obtain ⟨fr, h', he, hk2⟩ := codeB_some hk1
    simp only [Bool.and_eq_true] at hk2
    obtain ⟨Hs, g1, g2, g3, g4⟩ := ih hk2.2
    have hok := hk2.1
    simp only [okK, Bool.and_eq_true] at hok
    refine ⟨fun i => if i = j then h else Hs i, by simp, ?_, ?_, ?_⟩
    · show k (if j + (m + 1) = j then h else Hs (j + (m + 1))) = true
      rw [if_neg (by omega), show j + (m + 1) = j + 1 + m by omega]; exact g2
    · intro i h1 h2
      by_cases e : i = j
      · subst e; simpa using hb
      · simp only [e, if_false]; exact g3 i (by omega) (by omega)
    · intro i h1 h2
      have hi1 : i + 1 ≠ j := by omega
      simp only [hi1, if_false]
      by_cases e : i = j
      · subst e
        simp only [if_true]
        refine ⟨fr, by rw [g1]; exact he, hasAV_eq hok.1, hasAV_eq hok.2.1, ?_⟩
        have := hok.2.2
        split at this
        · rename_i hm; exact hm
        · cases this
      · simp only [e, if_false]
        exact g4 i (by omega) (by omega)
def loopB (h : H) (l : Nat) (k : LoopA → Bool) : Bool := match h.get l with | some (.loop r) => k r | _ => false
theorem loopB_some {h : H} {l : Nat} {k : LoopA → Bool} (hk : loopB h l k = true) : ∃ r, h.get l = some (.loop r) ∧ k r = true := by
  unfold loopB at hk
  split at hk
  · rename_i r hr; exact ⟨r, hr, hk⟩
  · cases hk
/-- the functions: their parts -/
structure AP where
  A : FuncId
  K : FuncId
  fiA : FI
  fiK : FI
  cA0 : Code
  cA1 : Code
  b0 : Nat
  as : Code
  bd : Code
  cT : Code
  c3 : Code
def AP.X (p : AP) : Ctx := ⟨p.A, p.fiA.nt, p.fiA.nl, none⟩
def AP.XK (p : AP) : Ctx := ⟨p.K, p.fiK.nt, p.fiK.nl, none⟩
def AP.loop (p : AP) (fr : FR) (h : H) : LoopA := { st := .ready, pend := none, fn := p.A, tmps := fr.pt, params := [7], assign := p.as, body := p.bd, defs := h.next }
def AP.h4 (p : AP) (fr : FR) (h : H) : H := (h.new (.defs true)).new (.loop (p.loop fr h))
structure AOK (P : Program) (C : Cfg) (p : AP) : Prop where
  fA : C.fu p.A = some p.fiA
  fK : C.fu p.K = some p.fiK
  bA : p.fiA.body = .seq p.cA0 (.seq (.seq p.cA1 (.block p.b0 (.rangeFunc (.tmp 6) #[7] p.as p.bd))) p.cT)
  bK : KBody C p.fiK.body p.c3
  rK : p.fiK.results = []
  nK : 10 ≤ p.fiK.nt
  lK : 6 ≤ p.fiK.nl
/-- AppendSeq of nothing and n keys -/
def chkA (C : Cfg) (p : AP) (F n : Nat) (k : AV → H → Bool) : Bool :=
  codeB (eval C F p.X (.code p.cA0 ⟨T.ofList [.one .nils, .one (.fn p.K [0])], .nil, []⟩) ⟨.nil, 1⟩) fun fr1 h1 =>
  codeB (eval C F p.X (.code p.cA1 fr1) h1) fun fr2 h2 =>
  hasAV ((od p.fiA.nl (.tmp 6)).val fr2.pt fr2.tl) (.one (.fn p.K [0])) && (fr2.pt.allB (AV.under 0) &&
  rnd C F p.XK p.c3 (Nat.succ h2.next) (Nat.succ (Nat.succ h2.next)) n 0 ((p.h4 fr2 h2).new .dead) fun hn =>
  loopB hn (Nat.succ h2.next) fun r =>
  codeB (endLoopA (Nat.succ h2.next) ⟨fr2.pt, .nil, h2.next :: fr2.marks⟩ hn r) fun fr5 h5 =>
  codeRB (eval C F p.X (.code p.cT fr5) h5) fun fr6 h6 => valB (stRet C p.fiA .ret fr6 h6) k)
end Eng
end

noncomputable section
namespace Eng
open Go
variable {P : Program} {C : Cfg}

def rhoC (rc S : Nat) : Rho := fun b => if b = 0 then some (rc, S) else none
theorem relC {rc : Nat} {w : World} {o : Obj} (h : w.heap[rc]? = some o) (σ : Sig) (S : Nat) : Rel (rhoC rc S) σ C ⟨.nil, 1⟩ w where
  lt := by
    intro b r S' hb
    unfold rhoC at hb
    split at hb
    · subst_vars; exact Nat.lt_succ_self 0
    · cases hb
  blk := by
    intro b r S' hb
    unfold rhoC at hb
    split at hb
    · cases hb; exact ⟨o, h, fun x hg => nomatch hg⟩
    · cases hb
  inj := by
    intro b b' r S1 S2 _ _ ⟨x, hx, _⟩
    cases hx
theorem freeC (rc S r : Nat) : Free (rhoC rc S) ⟨.nil, 1⟩ r := by
  intro b S' _ ⟨x, hx, _⟩
  cases hx
set_option maxHeartbeats 400000 in
theorem appRun (hc : ∀ σ, CfgOK P C σ) (hx : ∀ σ, ExtOK C P σ) {p : AP} (ok : AOK P C p) {F n : Nat} {k : AV → H → Bool} (hk : chkA C p F n k = true) : ∃ v h7, k v h7 = true ∧
    ∀ (w : World) (rc rm clock : Nat) (cs : Array Value) (e : TypeId) (ms : List MapEntry), w.heap[rc]? = some (.cells cs e (0, 0)) → cs[0]? = some (.map (some rm)) → w.heap[rm]? = some (.map ms.toArray clock) →
      (∀ m ∈ ms, m.key = .int .i64 (keyI m)) → (∀ m ∈ ms, m.born < clock) → (ms.map (·.born)).Nodup → ms.length = n →
      ∃ all : List MapEntry, (all.map (·.born)).Nodup ∧ (∀ m ∈ all, m ∈ ms) ∧ all.length = n ∧ ∃ v' w' ρ', CallR P p.A [.slice none 0 0, .func (.func p.K) #[] #[.pointer (some ⟨rc, 0, none⟩)]].toArray w v' w' ∧
        AVR ρ' (sg (all.map keyI)) v v' ∧ Rel ρ' (sg (all.map keyI)) C h7 w' ∧ Ext (rhoC rc cs.size) ρ' ⟨.nil, 1⟩ h7 w w' := by
  unfold chkA at hk
  obtain ⟨fr1, h1, e1, hk⟩ := codeB_some hk
  obtain ⟨fr2, h2, e2, hk⟩ := codeB_some hk
  simp only [Bool.and_eq_true] at hk
  obtain ⟨ef, eb, hk⟩ := hk
  obtain ⟨Hs, hs0, hk, hbel, hrnd⟩ := rnd_some hk
  rw [Nat.zero_add] at hk
  obtain ⟨r, hrg, hk⟩ := loopB_some hk
  obtain ⟨fr5, h5, e5, hk⟩ := codeB_some hk
  obtain ⟨fr6, h6, e6, hk⟩ := codeRB_some hk
  obtain ⟨v, h7, e7, hk⟩ := valB_some hk
  refine ⟨v, h7, hk, ?_⟩
  intro w rc rm clock cs e ms hcell hc0 hm hkeys hborn hnd hn
  obtain ⟨σ0, hσ0⟩ : ∃ σ0 : Sig, (fun _ => 0) = σ0 := ⟨_, rfl⟩
  have hrc : rc < w.heap.size := (Array.getElem?_eq_some_iff.1 hcell).1
  have hrm : rm < w.heap.size := (Array.getElem?_eq_some_iff.1 hm).1
  have hr0 : Rel (rhoC rc cs.size) σ0 C ⟨.nil, 1⟩ w := relC hcell σ0 _
  have hF : FrR (rhoC rc cs.size) σ0 p.fiA.nt p.fiA.nl ⟨T.ofList [.one .nils, .one (.fn p.K [0])], .nil, []⟩ (entry0 p.fiA [.slice none 0 0, .func (.func p.K) #[] #[.pointer (some ⟨rc, 0, none⟩)]]) :=
    entryFr (.cons rfl (.cons ⟨[.pointer (some ⟨rc, 0, none⟩)], rfl, .cons ⟨rc, cs.size, rfl, rfl⟩ .nil⟩ .nil))
  have hctx : ∀ {ρ : Rho}, CtxR C ρ p.X (callee p.A) := ⟨⟨p.fiA, ok.fA, rfl, rfl⟩, rfl, rfl, rfl⟩
  obtain ⟨a1, w1, ρ1, c1, f1, r1, x1⟩ := (eval_ok (hc σ0) (hx σ0) F).1 _ _ _ _ _ _ _ e1 _ w _ (callee p.A) hctx hr0 hF
  obtain ⟨a2, w2, ρ2, c2, f2, r2, x2⟩ := (eval_ok (hc σ0) (hx σ0) F).1 _ _ _ _ _ _ _ e2 _ w1 a1 (callee p.A) hctx r1 f1
  obtain ⟨cvs, hev, hcaps⟩ : ∃ vs : List Value, a2.eval (.tmp 6) = .func (.func p.K) #[] vs.toArray ∧ F2 (boxR ρ2) [0] vs := od_val f2.pt f2.tl (hasAV_eq ef)
  have hρ20 : ρ2 0 = some (rc, cs.size) := x2.sub r1 _ _ (x1.sub hr0 _ _ rfl)
  have hcvs : cvs = [.pointer (some ⟨rc, 0, none⟩)] := by
    cases hcaps with
    | cons hb ht =>
      cases ht
      obtain ⟨r', S', g1, g2⟩ := hb
      rw [hρ20] at g1; cases g1
      rw [g2]
  subst hcvs
  obtain ⟨r3, x3⟩ := r2.new (.defs true) (.deferred (some [])) 0 rfl
  obtain ⟨W3, hW3⟩ : ∃ W3, push w2 (.deferred (some [])) = W3 := ⟨_, rfl⟩
  have hs3 : W3.heap.size = w2.heap.size + 1 := by rw [← hW3]; simp [push]
  rw [hW3] at r3 x3
  have hd3 : upd ρ2 h2.next (w2.heap.size, 0) h2.next = some (w2.heap.size, 0) := upd_self _ _ _
  have hsub3 := r2.sub_upd (w2.heap.size, 0)
  generalize hρ3 : upd ρ2 h2.next (w2.heap.size, 0) = ρ3 at r3 x3 hd3 hsub3
  obtain ⟨L0, hL0⟩ : ∃ L0 : Loop, { state := .ready, pending := none, fn := (callee p.A).fn, tmps := a2.tmps, params := #[7], assign := p.as, body := p.bd, defers := w2.heap.size } = L0 := ⟨_, rfl⟩
  have hsub4 := r3.sub_upd (W3.heap.size, 0)
  have hL : LoopR (upd ρ3 (h2.new (.defs true)).next (W3.heap.size, 0)) σ0 C (p.loop fr2 h2) L0 := by
    rw [← hL0]
    exact ⟨rfl, rfl, rfl, rfl, rfl, rfl, ⟨p.fiA, ok.fA, f2.size, (f2.pt.mono hsub3).mono hsub4⟩, ⟨0, hsub4 _ _ hd3⟩⟩
  obtain ⟨r4, x4⟩ := r3.new (.loop (p.loop fr2 h2)) (.loop L0) 0 ⟨_, rfl, hL⟩
  obtain ⟨W4, hW4⟩ : ∃ W4, push W3 (.loop L0) = W4 := ⟨_, rfl⟩
  rw [hW4] at r4 x4
  have hl4 : upd ρ3 (h2.new (.defs true)).next (W3.heap.size, 0) (Nat.succ h2.next) = some (W3.heap.size, 0) := upd_self _ _ _
  generalize hρ4 : upd ρ3 (h2.new (.defs true)).next (W3.heap.size, 0) = ρ4 at r4 x4 hl4 hsub4
  have x04 : Ext (rhoC rc cs.size) ρ4 ⟨.nil, 1⟩ (p.h4 fr2 h2) w W4 := ((x1.comp x2).comp x3).comp x4
  have hcell4 : W4.heap[rc]? = some (.cells cs e (0, 0)) := by rw [x04.frame rc hrc (freeC _ _ _)]; exact hcell
  have hm4 : W4.heap[rm]? = some (.map ms.toArray clock) := by rw [x04.frame rm hrm (freeC _ _ _)]; exact hm
  have kf : KFacts C p.K p.fiK p.c3 (Nat.succ h2.next) (Nat.succ (Nat.succ h2.next)) n F Hs :=
    ⟨ok.fK, ok.bK, ok.rK, ok.nK, fun j hj => hrnd j (Nat.zero_le _) (by omega), ok.lK, fun j hj => hbel j (Nat.zero_le _) (by omega)⟩
  obtain ⟨all, g1, g2, g3, W5, ρ5, hC, r5, x5⟩ := keysRun hc hx kf (h1 := p.h4 fr2 h2) hs0 rfl hl4 r4 (rc := rc) (rm := rm) (by rw [cell_of hcell4]; exact hc0) hm4 hkeys hborn hnd hn (x04.free hrm (freeC _ _ _))
  refine ⟨all, g1, g2, g3, ?_⟩
  obtain ⟨σ', hσ'⟩ : ∃ σ', sg (all.map keyI) = σ' := ⟨_, rfl⟩
  rw [hσ'] at r5 ⊢
  -- behind the keys
  have hl5 : ρ5 (Nat.succ h2.next) = some (W3.heap.size, 0) := x5.sub r4 _ _ hl4
  obtain ⟨L, hLw, hLr⟩ := r5.loop hl5 hrg
  unfold endLoopA at e5
  have hnb : r.st ≠ .busy ∧ pendOut r.pend ⟨fr2.pt, .nil, h2.next :: fr2.marks⟩ ((Hs n).put (Nat.succ h2.next) (.loop { r with st := .exhausted })) = some (.code .norm fr5 h5) := by
    split at e5
    · cases e5
    · rename_i hb; exact ⟨hb, e5⟩
  obtain ⟨hb1, e5⟩ := hnb
  have hend := run_endLoop (P := P) hLw (by rw [hLr.1]; exact hb1)
  obtain ⟨r6, x6⟩ := r5.putLoop hl5 hrg (hLr.st .exhausted)
  have hpend := hLr.2.1
  unfold pendOut at e5
  split at e5
  · rename_i hp
    cases e5
    have hp' : L.pending = none := by rw [hp] at hpend; exact hpend
    obtain ⟨W6, hW6⟩ : ∃ W6, putObj W5 W3.heap.size (.loop { L with state := .exhausted }) = W6 := ⟨_, rfl⟩
    have hW6' : W5.putObj W3.heap.size (.loop { L with state := .exhausted }) = W6 := by rw [← hW6]; rfl
    rw [hW6'] at r6 x6 hend
    obtain ⟨mark, hmark⟩ : ∃ mark : List Deferred, [{ target := .collected w2.heap.size, args := #[] }] = mark := ⟨_, rfl⟩
    have hent : (Instr.enterLoop (callee p.A).fn a2.tmps #[7] p.as p.bd (callee p.A).roundOf).run P w2 = .ok (W3.heap.size, mark) W4 := by
      have := run_enterLoop_outer (P := P) (w := w2) (callee p.A).fn a2.tmps #[7] p.as p.bd
      have hro : (callee p.A).roundOf = none := rfl
      rw [hro, this, hmark, ← hW4, hL0, ← hW3]
      simp only [World.alloc, push, Array.size_push]
    have hsub : Sub ρ2 ρ5 := fun b x hb => x5.sub r4 _ _ (hsub4 _ _ (hsub3 b x hb))
    have hfr : FrR ρ5 σ' p.X.nt p.X.nl ⟨fr2.pt, .nil, h2.next :: fr2.marks⟩ ⟨a2.tmps, mark ++ a2.defers⟩ := by
      refine ⟨f2.size, (f2.pt.sig (n := 0) (fun i hi => absurd hi (by omega)) eb).mono hsub, (fun t v _ hv => nomatch hv), ?_⟩
      rw [← hmark]
      refine .cons ⟨w2.heap.size, 0, x5.sub r4 _ _ (hsub4 _ _ hd3), rfl⟩ (f2.marks.mono fun _ _ ⟨r, S, g1, g2⟩ => ⟨r, S, hsub _ _ g1, g2⟩)
    have hrange : CodeR P (.rangeFunc (.tmp 6) #[7] p.as p.bd) (callee p.A) a2 w2 .norm ⟨a2.tmps, mark ++ a2.defers⟩ W6 := by
      refine codeR_code (by simp) fun k cs => ?_
      obtain ⟨frx, s1, _, s2⟩ := hC.2 ((callee p.A).atR ⟨a2.tmps, mark ++ a2.defers⟩ (.inRangeFunc W3.heap.size :: k) :: cs)
      have s3 : step P (lone frx ((callee p.A).atR ⟨a2.tmps, mark ++ a2.defers⟩ (.inRangeFunc W3.heap.size :: k) :: cs) W5) = .next (lone ((callee p.A).atR ⟨a2.tmps, mark ++ a2.defers⟩ (.endRangeFunc W3.heap.size :: k)) cs W5) := step_leave_returned s2
      refine .head (stepR_rangeFunc hent hev hC.1) (Steps.trans ?_ (.head s3 (.one ?_)))
      · exact s1
      · have := stepR_endRangeFunc (P := P) (b := callee p.A) (a := ⟨a2.tmps, mark ++ a2.defers⟩) (k := k) (cs := cs) hend
        rw [hp'] at this
        exact this
    obtain ⟨a7, w7, ρ7, c7, f7, r7, x7⟩ := (eval_ok (hc σ') (hx σ') F).1 _ _ _ _ _ _ _ e6 _ W6 _ (callee p.A) hctx r6 hfr
    obtain ⟨v', w8, hcall, hv, r8, x8⟩ := ret_s (hc σ') ok.fA e7 (vs := [.slice none 0 0, .func (.func p.K) #[] #[.pointer (some ⟨rc, 0, none⟩)]]) (by rw [ok.bA]; exact seqR c1 (seqR (seqR c2 (blockR hrange)) c7)) f7 r7
    exact ⟨v', w8, ρ7, hcall, hv, r8, (((x04.comp x5).comp x6).comp x7).comp x8⟩
  · cases e5
  · cases e5
/- Collect and Sorted -/
inductive CBody (A : FuncId) : Code → Prop
  | mk {i0 i1 : Nat} {oa om oc os : Oper} {c : Call} (ha : oa.op = .assign (.const (.slice none 0 0))) (ga : oa.guard = none) (da : oa.dst = some 2) (hm : om.op = .move (.tmp 0)) (dm : om.dst = some 3) (gm : om.guard = none)
      (hcl : oc.op = .call c) (hcal : c.callee = .value (.func A)) (hargs : c.args.toList = [.const (.slice none 0 0), .tmp 3]) (dc : oc.dst = some 4) (gc : oc.guard = none) (hs : os.op = .assign (.tmp 4)) (ds : os.dst = some 2) (gs : os.guard = none) :
      CBody A (.seq (.region i0 #[oa] false) (.seq (.region i1 #[om, oc, os] false) .ret))
theorem collectRun {f A : FuncId} {fi : FI} (hf : FuR P f fi) (hb : CBody A fi.body) (hres : fi.results = [.tmp 2]) (hnt : 5 ≤ fi.nt) {fv v : Value} {w w' : World} (h : CallR P A [.slice none 0 0, fv].toArray w v w') : CallR P f [fv].toArray w v w' := by
  generalize hbd : fi.body = body at hb
  cases hb with
  | mk ha ga da hm dm gm hcl hcal hargs dc gc hs ds gs =>
  rename_i i0 i1 oa om oc os c
  obtain ⟨a0, ha0⟩ : ∃ a0, entry0 fi [fv] = a0 := ⟨_, rfl⟩
  have z0 : a0.tmps[0]? = some fv := by rw [← ha0]; exact entry0_get rfl
  have zs : a0.tmps.size = fi.nt := by rw [← ha0]; exact entry0_size (by simp; omega)
  have zd : a0.defers = [] := by rw [← ha0]; rfl
  obtain ⟨a1, ha1⟩ : ∃ a1, a0.put oa.dst (.slice none 0 0) = a1 := ⟨_, rfl⟩
  obtain ⟨a2, ha2⟩ : ∃ a2, a1.put om.dst fv = a2 := ⟨_, rfl⟩
  obtain ⟨a3, ha3⟩ : ∃ a3, a2.put oc.dst v = a3 := ⟨_, rfl⟩
  obtain ⟨a4, ha4⟩ : ∃ a4, a3.put os.dst v = a4 := ⟨_, rfl⟩
  have t1 : a1.tmps = a0.tmps.setIfInBounds 2 (.slice none 0 0) := by rw [← ha1, da]; rfl
  have t2 : a2.tmps = a1.tmps.setIfInBounds 3 fv := by rw [← ha2, dm]; rfl
  have t3 : a3.tmps = a2.tmps.setIfInBounds 4 v := by rw [← ha3, dc]; rfl
  have t4 : a4.tmps = a3.tmps.setIfInBounds 2 v := by rw [← ha4, ds]; rfl
  have s1 : a1.tmps.size = fi.nt := by rw [t1]; simp [zs]
  have s2 : a2.tmps.size = fi.nt := by rw [t2]; simp [s1]
  have s3 : a3.tmps.size = fi.nt := by rw [t3]; simp [s2]
  have d4 : a4.defers = [] := by rw [← ha4, ds, ← ha3, dc, ← ha2, dm, ← ha1, da]; exact zd
  have e1 : a1.eval (.tmp 0) = fv := eval_tmp (by rw [t1, getD_set_ne (by omega)]; exact z0)
  have e2 : a2.eval (.tmp 3) = fv := eval_tmp (by rw [t2]; exact get_set_self (by omega))
  have e3 : a3.eval (.tmp 4) = v := eval_tmp (by rw [t3]; exact get_set_self (by omega))
  have hr0 : CodeR P (.region i0 #[oa] false) (callee f) a0 w .norm a1 w := by
    refine regionR (RunOps.cons (o := oa) rfl ga (does_assign ha) ?_)
    have : a0.eval (.const (.slice none 0 0)) = .slice none 0 0 := rfl
    rw [this, ha1]
    exact .nil
  have hr1 : CodeR P (.region i1 #[om, oc, os] false) (callee f) a1 w .norm a4 w' := by
    refine regionR (RunOps.cons (o := om) rfl gm (does_move hm) ?_)
    rw [e1, ha2]
    refine RunOps.cons (o := oc) rfl gc (does_call hcl hcal (vs := [.slice none 0 0, fv]) ?_ h) ?_
    · rw [hargs, List.map_cons, List.map_cons, e2]; rfl
    rw [ha3]
    refine RunOps.cons (o := os) rfl gs (does_assign hs) ?_
    rw [e3, ha4]
    exact .nil
  refine callR_of hf (o := .ret) (by intro id h; cases h) (a1 := a4) ?_ d4 fun fn hfn => ?_
  · rw [hbd, ha0]
    exact seqR hr0 (seqR hr1 retR)
  · rw [results1 (by rw [hfn]; exact hres), Array.getD_eq_getD_getElem?, t4, get_set_self (by omega)]
    rfl
inductive SBody (Cl St : FuncId) : Code → Prop
  | mk {i0 i1 i2 i3 : Nat} {oa om oc os o2 oS o3 o4 : Oper} {c c' : Call} (ha : oa.op = .assign (.const (.slice none 0 0))) (ga : oa.guard = none) (da : oa.dst = some 2) (hm : om.op = .move (.tmp 0)) (dm : om.dst = some 4) (gm : om.guard = none)
      (hcl : oc.op = .call c) (hcal : c.callee = .value (.func Cl)) (hargs : c.args.toList = [.tmp 4]) (dc : oc.dst = some 5) (gc : oc.guard = none) (hs : os.op = .assign (.tmp 5)) (ds : os.dst = some 3) (gs : os.guard = none)
      (h2 : o2.op = .move (.tmp 3)) (d2 : o2.dst = some 6) (g2 : o2.guard = none) (hcl' : oS.op = .call c') (hcal' : c'.callee = .value (.func St)) (hargs' : c'.args.toList = [.tmp 6]) (dS : oS.dst = some 7) (gS : oS.guard = none)
      (h3 : o3.op = .move (.tmp 3)) (d3 : o3.dst = some 8) (g3 : o3.guard = none) (h4 : o4.op = .assign (.tmp 8)) (d4 : o4.dst = some 2) (g4 : o4.guard = none) :
      SBody Cl St (.seq (.region i0 #[oa] false) (.seq (.region i1 #[om, oc, os] false) (.seq (.region i2 #[o2, oS] false) (.seq (.region i3 #[o3, o4] false) .ret))))
theorem sortedRun {f Cl St : FuncId} {fi : FI} (hf : FuR P f fi) (hb : SBody Cl St fi.body) (hres : fi.results = [.tmp 2]) (hnt : 9 ≤ fi.nt) {fv v u : Value} {w w1 w' : World} (hC : CallR P Cl [fv].toArray w v w1) (hS : CallR P St [v].toArray w1 u w') : CallR P f [fv].toArray w v w' := by
  generalize hbd : fi.body = body at hb
  cases hb with
  | mk ha ga da hm dm gm hcl hcal hargs dc gc hs ds gs h2 d2 g2 hcl' hcal' hargs' dS gS h3 d3 g3 h4 d4 g4 =>
  rename_i i0 i1 i2 i3 oa om oc os o2 oS o3 o4 c c'
  obtain ⟨a0, ha0⟩ : ∃ a0, entry0 fi [fv] = a0 := ⟨_, rfl⟩
  have z0 : a0.tmps[0]? = some fv := by rw [← ha0]; exact entry0_get rfl
  have zs : a0.tmps.size = fi.nt := by rw [← ha0]; exact entry0_size (by simp; omega)
  have zd : a0.defers = [] := by rw [← ha0]; rfl
  obtain ⟨a1, ha1⟩ : ∃ a1, a0.put oa.dst (.slice none 0 0) = a1 := ⟨_, rfl⟩
  obtain ⟨a2, ha2⟩ : ∃ a2, a1.put om.dst fv = a2 := ⟨_, rfl⟩
  obtain ⟨a3, ha3⟩ : ∃ a3, a2.put oc.dst v = a3 := ⟨_, rfl⟩
  obtain ⟨a4, ha4⟩ : ∃ a4, a3.put os.dst v = a4 := ⟨_, rfl⟩
  obtain ⟨a5, ha5⟩ : ∃ a5, a4.put o2.dst v = a5 := ⟨_, rfl⟩
  obtain ⟨a6, ha6⟩ : ∃ a6, a5.put oS.dst u = a6 := ⟨_, rfl⟩
  obtain ⟨a7, ha7⟩ : ∃ a7, a6.put o3.dst v = a7 := ⟨_, rfl⟩
  obtain ⟨a8, ha8⟩ : ∃ a8, a7.put o4.dst v = a8 := ⟨_, rfl⟩
  have t1 : a1.tmps = a0.tmps.setIfInBounds 2 (.slice none 0 0) := by rw [← ha1, da]; rfl
  have t2 : a2.tmps = a1.tmps.setIfInBounds 4 fv := by rw [← ha2, dm]; rfl
  have t3 : a3.tmps = a2.tmps.setIfInBounds 5 v := by rw [← ha3, dc]; rfl
  have t4 : a4.tmps = a3.tmps.setIfInBounds 3 v := by rw [← ha4, ds]; rfl
  have t5 : a5.tmps = a4.tmps.setIfInBounds 6 v := by rw [← ha5, d2]; rfl
  have t6 : a6.tmps = a5.tmps.setIfInBounds 7 u := by rw [← ha6, dS]; rfl
  have t7 : a7.tmps = a6.tmps.setIfInBounds 8 v := by rw [← ha7, d3]; rfl
  have t8 : a8.tmps = a7.tmps.setIfInBounds 2 v := by rw [← ha8, d4]; rfl
  have s1 : a1.tmps.size = fi.nt := by rw [t1]; simp [zs]
  have s2 : a2.tmps.size = fi.nt := by rw [t2]; simp [s1]
  have s3 : a3.tmps.size = fi.nt := by rw [t3]; simp [s2]
  have s4 : a4.tmps.size = fi.nt := by rw [t4]; simp [s3]
  have s5 : a5.tmps.size = fi.nt := by rw [t5]; simp [s4]
  have s6 : a6.tmps.size = fi.nt := by rw [t6]; simp [s5]
  have s7 : a7.tmps.size = fi.nt := by rw [t7]; simp [s6]
  have d8 : a8.defers = [] := by rw [← ha8, put_defers, ← ha7, put_defers, ← ha6, put_defers, ← ha5, put_defers, ← ha4, put_defers, ← ha3, put_defers, ← ha2, put_defers, ← ha1, put_defers]; exact zd
  have e1 : a1.eval (.tmp 0) = fv := eval_tmp (by rw [t1, getD_set_ne (by omega)]; exact z0)
  have e2 : a2.eval (.tmp 4) = fv := eval_tmp (by rw [t2]; exact get_set_self (by omega))
  have e3 : a3.eval (.tmp 5) = v := eval_tmp (by rw [t3]; exact get_set_self (by omega))
  have e4 : a4.eval (.tmp 3) = v := eval_tmp (by rw [t4]; exact get_set_self (by omega))
  have e5 : a5.eval (.tmp 6) = v := eval_tmp (by rw [t5]; exact get_set_self (by omega))
  have e6 : a6.eval (.tmp 3) = v := eval_tmp (by rw [t6, getD_set_ne (by omega), t5, getD_set_ne (by omega), t4]; exact get_set_self (by omega))
  have e7 : a7.eval (.tmp 8) = v := eval_tmp (by rw [t7]; exact get_set_self (by omega))
  have hr0 : CodeR P (.region i0 #[oa] false) (callee f) a0 w .norm a1 w := by
    refine regionR (RunOps.cons (o := oa) rfl ga (does_assign ha) ?_)
    have : a0.eval (.const (.slice none 0 0)) = .slice none 0 0 := rfl
    rw [this, ha1]
    exact .nil
  have hr1 : CodeR P (.region i1 #[om, oc, os] false) (callee f) a1 w .norm a4 w1 := by
    refine regionR (RunOps.cons (o := om) rfl gm (does_move hm) ?_)
    rw [e1, ha2]
    refine RunOps.cons (o := oc) rfl gc (does_call hcl hcal (vs := [fv]) ?_ hC) ?_
    · rw [hargs, List.map_cons, e2]; rfl
    rw [ha3]
    refine RunOps.cons (o := os) rfl gs (does_assign hs) ?_
    rw [e3, ha4]
    exact .nil
  have hr2 : CodeR P (.region i2 #[o2, oS] false) (callee f) a4 w1 .norm a6 w' := by
    refine regionR (RunOps.cons (o := o2) rfl g2 (does_move h2) ?_)
    rw [e4, ha5]
    refine RunOps.cons (o := oS) rfl gS (does_call hcl' hcal' (vs := [v]) ?_ hS) ?_
    · rw [hargs', List.map_cons, e5]; rfl
    rw [ha6]
    exact .nil
  have hr3 : CodeR P (.region i3 #[o3, o4] false) (callee f) a6 w' .norm a8 w' := by
    refine regionR (RunOps.cons (o := o3) rfl g3 (does_move h3) ?_)
    rw [e6, ha7]
    refine RunOps.cons (o := o4) rfl g4 (does_assign h4) ?_
    rw [e7, ha8]
    exact .nil
  refine callR_of hf (o := .ret) (by intro id h; cases h) (a1 := a8) ?_ d8 fun fn hfn => ?_
  · rw [hbd, ha0]
    exact seqR hr0 (seqR hr1 (seqR hr2 (seqR hr3 retR)))
  · rw [results1 (by rw [hfn]; exact hres), Array.getD_eq_getD_getElem?, t8, get_set_self (by omega)]
    rfl
end Eng
end

noncomputable section
namespace Eng
open Go
variable {P : Program} {C : Cfg} {σ : Sig}

def natCmp (op : BinOp) (x y : Nat) : Option Bool := match intCmp op with | some f => some (f (.ofNat x) (.ofNat y)) | none => none
/-- comparisons of symbols, of which the places in their order are known -/
def cmpP (p : List Nat) (op : BinOp) (a b : E) : Option Bool :=
  match a, b with
  | .var i, .var j => match nth p i, nth p j with
    | some x, some y => natCmp op x y
    | _, _ => none
  | _, _ => none
def withP (C : Cfg) (p : List Nat) : Cfg := { C with cmp := cmpP p, norm := fun _ => none }
theorem cmpDen_order {op : BinOp} {x y : Int} {m n : Nat} (h1 : x < y ↔ m < n) (h2 : x = y ↔ m = n) : cmpDen op (Int.ofNat m) (Int.ofNat n) = cmpDen op x y := by
  have e1 : ((Int.ofNat m) < (Int.ofNat n)) ↔ x < y := by rw [h1]; simp only [Int.ofNat_eq_natCast]; omega
  have e2 : ((Int.ofNat m) = (Int.ofNat n)) ↔ x = y := by rw [h2]; simp only [Int.ofNat_eq_natCast]; omega
  have e3 : ((Int.ofNat m) ≤ (Int.ofNat n)) ↔ x ≤ y := by simp only [Int.ofNat_eq_natCast] at *; omega
  have e4 : ((Int.ofNat m) > (Int.ofNat n)) ↔ x > y := by simp only [Int.ofNat_eq_natCast] at *; omega
  have e5 : ((Int.ofNat m) ≥ (Int.ofNat n)) ↔ x ≥ y := by simp only [Int.ofNat_eq_natCast] at *; omega
  cases op <;> simp only [cmpDen] <;> first
    | rfl
    | (simp only [e1]; done)
    | (simp only [e3]; done)
    | (simp only [e4]; done)
    | (simp only [e5]; done)
    | (rw [Bool.eq_iff_iff]; simp only [beq_iff_eq, bne_iff_ne, ne_eq, e2])
theorem withP_ok (hc : CfgOK P C σ) {p : List Nat} (h : ∀ i j x y, p[i]? = some x → p[j]? = some y → (σ i < σ j ↔ x < y) ∧ (σ i = σ j ↔ x = y)) : CfgOK P (withP C p) σ where
  ty := hc.ty
  fu := hc.fu
  mixed := hc.mixed
  norm := fun _ _ h => nomatch h
  cmp := by
    intro op a b r hr
    have hr' : cmpP p op a b = some r := hr
    unfold cmpP at hr'
    split at hr'
    · rename_i i j
      rw [nth_eq, nth_eq] at hr'
      split at hr'
      · rename_i x y hx hy
        unfold natCmp at hr'
        split at hr'
        · rename_i f hf
          cases hr'
          obtain ⟨h1, h2⟩ := h i j x y hx hy
          rw [intCmp_eq hf]
          exact (cmpDen_order h1 h2).symm
        · cases hr'
      · cases hr'
    · cases hr'
/-- the lists of k different members -/
def enum : Nat → List Nat → List (List Nat)
  | 0, _ => [[]]
  | k + 1, l => l.flatMap fun x => (enum k (l.filter fun y => bnot (Nat.beq y x))).map (x :: ·)
theorem enum_mem : ∀ {k : Nat} {l p : List Nat}, p.length = k → p.Nodup → (∀ x ∈ p, x ∈ l) → p ∈ enum k l := by
  intro k
  induction k with
  | zero =>
    intro l p h _ _
    cases p with
    | nil => simp [enum]
    | cons x p => cases h
  | succ k ih =>
    intro l p h hnd hs
    cases p with
    | nil => cases h
    | cons x p =>
      simp only [List.nodup_cons] at hnd
      simp only [enum, List.mem_flatMap]
      refine ⟨x, hs x (by simp), List.mem_map.2 ⟨p, ih (by simpa using h) hnd.2 ?_, rfl⟩⟩
      intro y hy
      rw [List.mem_filter]
      refine ⟨hs y (List.mem_cons_of_mem _ hy), ?_⟩
      have hne : y ≠ x := fun e => hnd.1 (by rw [← e]; exact hy)
      cases hb : Nat.beq y x with
      | true => exact absurd (beq_eq hb) hne
      | false => rfl
def finB (p : List Nat) (n : Nat) (v : AV) (h : H) : Bool :=
  match v with
  | .one (.fsl b 0 m 1) => Nat.beq m n && (Nat.ble 1 b && (match h.get b with
    | some (.cells c n' _ _) => Nat.ble n n' && (List.range n).all fun i => match T.get c i with
      | some (.sym .i64 (.var j)) => (match nth p j with | some x => Nat.beq x i | none => false)
      | _ => false
    | _ => false))
  | _ => false
theorem finB_some {p : List Nat} {n : Nat} {v : AV} {h : H} (hk : finB p n v h = true) : ∃ b c n' full sib, v = .one (.fsl b 0 n 1) ∧ 1 ≤ b ∧ h.get b = some (.cells c n' full sib) ∧ n ≤ n' ∧ ∀ i, i < n → ∃ j, T.get c i = some (.sym .i64 (.var j)) ∧ p[j]? = some i := by
  unfold finB at hk
  split at hk
  · rename_i b m
    simp only [Bool.and_eq_true] at hk
    obtain ⟨h1, h2, h3⟩ := hk
    have h1 := beq_eq h1
    subst h1
    split at h3
    · rename_i c n' full sib hg
      simp only [Bool.and_eq_true, List.all_eq_true, List.mem_range] at h3
      refine ⟨b, c, n', full, sib, rfl, ble_le h2, hg, ble_le h3.1, fun i hi => ?_⟩
      have := h3.2 i hi
      split at this
      · rename_i j hj
        rw [nth_eq] at this
        split at this
        · rename_i x hx
          have := beq_eq this
          subst this
          exact ⟨j, hj, hx⟩
        · cases this
      · cases this
    · cases h3
  · cases hk
/-- Sorted, of n keys in any order -/
def chkS (C : Cfg) (p : AP) (St F n : Nat) : Bool :=
  chkA C p F n fun v h => (enum n (List.range n)).all fun π => valB (eval (withP C π) F ⟨0, 0, 0, none⟩ (.call St [v]) h) fun _ h' => finB π n v h'
structure SOK (P : Program) (C : Cfg) (p : AP) (S Cl St : FuncId) (fiS fiC : FI) : Prop where
  app : AOK P C p
  fS : C.fu S = some fiS
  fC : C.fu Cl = some fiC
  bS : SBody Cl St fiS.body
  bC : CBody p.A fiC.body
  rS : fiS.results = [.tmp 2]
  rC : fiC.results = [.tmp 2]
  nS : 9 ≤ fiS.nt
  nC : 5 ≤ fiC.nt
/- rising numbers -/
def Inc : List Int → Prop
  | [] => True
  | [_] => True
  | x :: y :: l => x < y ∧ Inc (y :: l)
theorem Inc.lt : ∀ {S : List Int}, Inc S → ∀ {i j : Nat} {x y : Int}, i < j → S[i]? = some x → S[j]? = some y → x < y := by
  intro S
  induction S with
  | nil => intro _ i j x y _ h; simp at h
  | cons a S ih =>
    intro hS i j x y hij hx hy
    cases S with
    | nil =>
      cases j with
      | zero => omega
      | succ j => simp at hy
    | cons b S =>
      obtain ⟨hab, hS'⟩ := hS
      cases j with
      | zero => omega
      | succ j =>
        have hy' : (b :: S)[j]? = some y := by simpa using hy
        cases i with
        | succ i => exact ih (i := i) (j := j) hS' (by omega) (by simpa using hx) hy'
        | zero =>
          have hxa : a = x := by simpa using hx
          subst hxa
          cases j with
          | zero => have : b = y := by simpa using hy'
                    subst this; exact hab
          | succ j => exact Int.lt_trans hab (ih hS' (Nat.zero_lt_succ j) (by simp) hy')
theorem keysSorted (hc : ∀ σ, CfgOK P C σ) (he : C.ext = fun _ _ _ => none) {p : AP} {S Cl St : FuncId} {fiS fiC : FI} (ok : SOK P C p S Cl St fiS fiC) {F n : Nat} (hk : chkS C p St F n = true) {w : World} {rc rm clock : Nat} {cs : Array Value} {e : TypeId} {ms : List MapEntry}
    (hcell : w.heap[rc]? = some (.cells cs e (0, 0))) (hc0 : cs[0]? = some (.map (some rm))) (hm : w.heap[rm]? = some (.map ms.toArray clock)) (hkeys : ∀ m ∈ ms, m.key = .int .i64 (keyI m)) (hborn : ∀ m ∈ ms, m.born < clock) (hnd : (ms.map (·.born)).Nodup)
    (hn : ms.length = n) (hkd : ∀ m ∈ ms, ∀ m' ∈ ms, keyI m = keyI m' → m.born = m'.born) {L : List Int} (hL : Inc L) (hmem : ∀ m ∈ ms, keyI m ∈ L) (hlen : L.length = n) :
    ∃ (r' : Nat) (w' : World) (cs' : Array Value) (e' : TypeId), CallR P S [.func (.func p.K) #[] #[.pointer (some ⟨rc, 0, none⟩)]].toArray w (.slice (some ⟨r', 0, none⟩) n cs'.size) w' ∧ w'.heap[r']? = some (.cells cs' e' (0, 0)) ∧ n ≤ cs'.size ∧ (∀ (i : Nat) (x : Int), L[i]? = some x → cs'[i]? = some (Value.int .i64 x)) ∧
      w.heap.size ≤ r' ∧ w.heap.size ≤ w'.heap.size ∧ (∀ r, r < w.heap.size → w'.heap[r]? = w.heap[r]?) ∧ w'.os = w.os ∧ w'.tape = w.tape ∧ w'.output = w.output ∧ ∀ a, w'.frozen? a = w.frozen? a := by
  have hx : ∀ σ, ExtOK C P σ := fun σ f args h v h' hk => by rw [he] at hk; cases hk
  obtain ⟨v, h7, hk7, hrun⟩ := appRun hc hx ok.app hk
  obtain ⟨all, g1, g2, g3, v', w1, ρ1, hA, hv, r1, x1⟩ := hrun w rc rm clock cs e ms hcell hc0 hm hkeys hborn hnd hn
  obtain ⟨σ, hσ⟩ : ∃ σ, sg (all.map keyI) = σ := ⟨_, rfl⟩
  rw [hσ] at hv r1
  -- the places
  have hidx : ∀ m ∈ ms, L[L.idxOf (keyI m)]? = some (keyI m) := by
    intro m hm
    have hlt := List.idxOf_lt_length_of_mem (hmem m hm)
    rw [List.getElem?_eq_getElem hlt, List.getElem_idxOf hlt]
  obtain ⟨q, hq⟩ : ∃ q, all.map (fun m => L.idxOf (keyI m)) = q := ⟨_, rfl⟩
  have hq1 : ∀ i x, q[i]? = some x → L[x]? = some (σ i) := by
    intro i x hx
    rw [← hq, List.getElem?_map] at hx
    cases hi : all[i]? with
    | none => rw [hi] at hx; cases hx
    | some m =>
      rw [hi] at hx
      cases hx
      have hm := g2 m (List.mem_of_getElem? hi)
      show L[L.idxOf (keyI m)]? = _
      rw [hidx m hm, ← hσ]
      simp [sg, List.getD_eq_getElem?_getD, hi]
  have hqn : q.Nodup := by
    rw [← hq]
    have h1 : all.Pairwise fun a b => a.born ≠ b.born := by
      have : (all.map (·.born)).Pairwise (· ≠ ·) := g1
      exact List.pairwise_map.1 this
    refine List.pairwise_map.2 (h1.imp_of_mem ?_)
    intro a b ha hb hab heq
    have e1 := hidx a (g2 a ha)
    have e2 := hidx b (g2 b hb)
    rw [heq] at e1
    rw [e1] at e2
    exact hab (hkd a (g2 a ha) b (g2 b hb) (Option.some.inj e2))
  have hmemq : q ∈ enum n (List.range n) := by
    refine enum_mem (by rw [← hq]; simpa using g3) hqn ?_
    intro x hx
    obtain ⟨i, hi⟩ := List.getElem?_of_mem hx
    have := hq1 i x hi
    have := (List.getElem?_eq_some_iff.1 this).1
    simpa [hlen] using this
  have hall := List.all_eq_true.1 hk7 q hmemq
  obtain ⟨u, h8, hev, hfin⟩ := valB_some hall
  have hord : ∀ i j x y, q[i]? = some x → q[j]? = some y → (σ i < σ j ↔ x < y) ∧ (σ i = σ j ↔ x = y) := by
    intro i j x y hx hy
    have e1 := hq1 i x hx
    have e2 := hq1 j y hy
    rcases Nat.lt_trichotomy x y with h | h | h
    · have := hL.lt h e1 e2; constructor <;> constructor <;> intro _ <;> omega
    · subst h; rw [e1] at e2; have e3 := Option.some.inj e2; constructor <;> constructor <;> intro _ <;> omega
    · have := hL.lt h e2 e1; constructor <;> constructor <;> intro _ <;> omega
  have hcP := withP_ok (p := q) (hc σ) hord
  have hxP : ExtOK (withP C q) P σ := fun f args h v h' hk => by
    have hk' : C.ext f args h = some (v, h') := hk
    rw [he] at hk'; cases hk'
  obtain ⟨u', w2, ρ2, hS, _, r2, x2⟩ := (eval_ok hcP hxP F).2.call _ _ _ _ _ _ hev ρ1 w1 [v'] (Rel.cfg (C := C) (C' := withP C q) rfl r1) (.cons hv .nil)
  obtain ⟨b, c, n', full, sib, rfl, hb1, hg, hn', hcs⟩ := finB_some hfin
  obtain ⟨r, Sz, cap, hρb, hv', hcap⟩ := hv
  have hρb2 := x2.sub (Rel.cfg (C := C) (C' := withP C q) rfl r1) _ _ hρb
  obtain ⟨o, ho, hbr⟩ := r2.blk b r Sz hρb2
  obtain ⟨cs', e', rfl, hsz, hle, _, hcell'⟩ := hbr _ hg
  have hcapsz : cap = cs'.size := by omega
  subst hcapsz
  have hr : w.heap.size ≤ r := by
    rcases x1.new b r Sz hb1 hρb with h | ⟨b0, S0, _, y, hy, _⟩
    · exact h
    · cases hy
  have x12 := x1.comp x2
  have hcall := sortedRun ((hc σ).fu S fiS ok.fS) ok.bS ok.rS ok.nS (collectRun ((hc σ).fu Cl fiC ok.fC) ok.bC ok.rC ok.nC hA) hS
  refine ⟨r, w2, cs', e', by rw [hv'] at hcall; exact hcall, ho, by omega, ?_, hr, x12.size, fun r hr => x12.frame r hr (freeC _ _ _), x12.os, x12.tape, x12.output, x12.fz⟩
  intro i x hx
  have hi : i < n := by rw [← hlen]; exact (List.getElem?_eq_some_iff.1 hx).1
  obtain ⟨j, hj1, hj2⟩ := hcs i hi
  obtain ⟨vv, hvv, har⟩ := hcell' i _ (by omega) hj1
  have hvv' : vv = .int .i64 (σ j) := har
  rw [hvv, hvv']
  have := hq1 j i hj2
  rw [hx] at this
  rw [Option.some.inj this]
end Eng
end

noncomputable section
namespace Eng
open Go
variable {P : Program} {C C' : Cfg} {σ : Sig} {ρ : Rho}

/- the summary of Sorted of a map's keys -/
def keyO (v : V) : Option Int := match v with | .one (.int .i64 x) => some x | _ => none
def insI (x : Int) (l : List Int) : List Int := @List.rec Int (fun _ => List Int) [x] (fun y t r => @Bool.rec (fun _ => List Int) (y :: r) (x :: y :: t) (iltb x y)) l
def isort (l : List Int) : List Int := @List.rec Int (fun _ => List Int) [] (fun x _ r => insI x r) l
def incB (l : List Int) : Bool := match l with
  | [] => true
  | [_] => true
  | x :: y :: l => iltb x y && incB (y :: l)
theorem incB_eq : ∀ {l : List Int}, incB l = true → Inc l := by
  intro l
  induction l with
  | nil => intro _; trivial
  | cons x l ih =>
    intro h
    cases l with
    | nil => trivial
    | cons y l =>
      simp only [incB, Bool.and_eq_true, iltb_eq, decide_eq_true_eq] at h
      exact ⟨h.1, ih h.2⟩
def memI (x : Int) (l : List Int) : Bool := l.any (intEqb x)
theorem memI_eq {x : Int} {l : List Int} (h : memI x l = true) : x ∈ l := by
  obtain ⟨y, h1, h2⟩ := List.any_eq_true.1 h
  rw [intEqb_eq] at h2
  rw [eq_of_beq h2]; exact h1
def nodupN : List Nat → Bool
  | [] => true
  | x :: l => bnot (l.any (Nat.beq x)) && nodupN l
theorem nodupN_eq : ∀ {l : List Nat}, nodupN l = true → l.Nodup := by
  intro l
  induction l with
  | nil => intro _; exact List.nodup_nil
  | cons x l ih =>
    intro h
    simp only [nodupN, Bool.and_eq_true] at h
    rw [List.nodup_cons]
    refine ⟨fun hx => ?_, ih h.2⟩
    have : l.any (Nat.beq x) = true := List.any_eq_true.2 ⟨x, hx, by simp⟩
    rw [this] at h
    cases h.1
def nodupI : List Int → Bool
  | [] => true
  | x :: l => bnot (l.any (intEqb x)) && nodupI l
theorem nodupI_eq : ∀ {l : List Int}, nodupI l = true → l.Nodup := by
  intro l
  induction l with
  | nil => intro _; exact List.nodup_nil
  | cons x l ih =>
    intro h
    simp only [nodupI, Bool.and_eq_true] at h
    rw [List.nodup_cons]
    refine ⟨fun hx => ?_, ih h.2⟩
    have : l.any (intEqb x) = true := List.any_eq_true.2 ⟨x, hx, by rw [intEqb_eq]; simp⟩
    rw [this] at h
    cases h.1
def goodK (N : Nat) (es : List ME) (clock : Nat) (xs L : List Int) : Bool :=
  Nat.ble 1 (len es) && (Nat.ble (len es) N && (Nat.beq (len L) (len es) && (incB L && (xs.all (fun x => memI x L) && (nodupI xs && (nodupN (es.map (·.born)) && es.all fun e => Nat.ble (Nat.succ e.born) clock))))))
def sortedOf (N : Nat) (h : H) (es : List ME) (clock : Nat) : Option (AV × H) :=
  match mapO (fun e => keyO e.key) es with
  | some xs => match isort xs with
    | L => bif goodK N es clock xs L then some (.one (.fsl h.2 0 (len es) 1), h.new (.cells (T.ofList (L.map (A.int .i64))) (len es) false none)) else none
  | none => none
def sortK (N : Nat) (Ks : List FuncId) (args : List AV) (h : H) : Option (AV × H) :=
  match args with
  | [.one (.fn K [c])] => bif Ks.any (Nat.beq K) then (match h.get c with
    | some (.cells t n _ _) => bif Nat.ble 1 n then (match T.get t 0 with
      | some (.map m) => match h.get m with
        | some (.map es clock) => sortedOf N h es clock
        | _ => none
      | _ => none) else none
    | _ => none) else none
  | _ => none
def extS (S N : Nat) (Ks : List FuncId) (ext : FuncId → List AV → H → Option (AV × H)) (f : FuncId) (args : List AV) (h : H) : Option (AV × H) :=
  @Bool.rec (fun _ => Option (AV × H)) (ext f args h) (@Option.rec (AV × H) (fun _ => Option (AV × H)) (ext f args h) some (sortK N Ks args h)) (Nat.beq S f)
theorem mapO_some {α β : Type} {f : α → Option β} : ∀ {l : List α} {m : List β}, mapO f l = some m → F2 (fun a b => f a = some b) l m := by
  intro l
  induction l with
  | nil => intro m h; cases h; exact .nil
  | cons a l ih =>
    intro m h
    have h' : consO (f a) (mapO f l) = some m := h
    cases hf : f a with
    | none => rw [hf] at h'; cases h'
    | some b =>
      cases hm : mapO f l with
      | none => rw [hf, hm] at h'; cases h'
      | some t => rw [hf, hm] at h'; cases h'; exact .cons hf (ih hm)
theorem T.get_ofList_lt {α : Type} {l : List α} {i : Nat} {x : α} (h : (T.ofList l).get i = some x) : l[i]? = some x := T.get_ofList h
/-- a block that was made by a call -/
theorem Rel.adopt {h : H} {w w' : World} (hr : Rel ρ σ C h w) {r : Nat} {x : Blk} {o : Obj} {S : Nat} (hro : w'.heap[r]? = some o) (hrw : w.heap.size ≤ r) (hk : ∀ r, r < w.heap.size → w'.heap[r]? = w.heap[r]?) (hs : w.heap.size ≤ w'.heap.size) (h1 : w'.os = w.os) (h2 : w'.tape = w.tape) (h3 : w'.output = w.output) (h4 : ∀ a, w'.frozen? a = w.frozen? a)
    (hx : BR (upd ρ h.next (r, S)) σ C x o S) : Rel (upd ρ h.next (r, S)) σ C (h.new x) w' ∧ Ext ρ (upd ρ h.next (r, S)) h (h.new x) w w' := by
  have hsub := hr.sub_upd (r, S)
  refine ⟨⟨?_, ?_, ?_⟩, ⟨?_, ?_, ?_, hs, ?_, fun r' hr' _ => hk r' hr', h1, h2, h3, h4⟩⟩
  · intro b r' S' hb
    by_cases e : b = h.next
    · subst e; show _ < h.next + 1; omega
    · rw [upd_ne ρ _ e] at hb; have := hr.lt b r' S' hb; show _ < h.next + 1; omega
  · intro b r' S' hb
    by_cases e : b = h.next
    · subst e
      rw [upd_self] at hb
      cases hb
      refine ⟨o, hro, ?_⟩
      intro y hy
      rcases H.get_new hy with ⟨_, e2⟩ | ⟨e2, _⟩
      · subst e2; exact hx
      · exact absurd rfl e2
    · rw [upd_ne ρ _ e] at hb
      obtain ⟨o', ho, hy⟩ := hr.blk b r' S' hb
      refine ⟨o', by rw [hk r' (hr.lt_size hb)]; exact ho, ?_⟩
      intro y hg
      rcases H.get_new hg with ⟨e2, _⟩ | ⟨_, e2⟩
      · exact absurd e2 e
      · exact (hy y e2).mono hsub
  · intro b b' r' S1 S2 hb hb' hl hl'
    by_cases e : b = h.next
    · by_cases e' : b' = h.next
      · exact .inl (e.trans e'.symm)
      · subst e
        rw [upd_self] at hb; rw [upd_ne ρ _ e'] at hb'
        cases hb
        have := hr.lt_size hb'
        omega
    · by_cases e' : b' = h.next
      · subst e'
        rw [upd_self] at hb'; rw [upd_ne ρ _ e] at hb
        cases hb'
        have := hr.lt_size hb
        omega
      · rw [upd_ne ρ _ e] at hb; rw [upd_ne ρ _ e'] at hb'
        obtain ⟨y, hy, hyd⟩ := hl
        obtain ⟨y', hy', hyd'⟩ := hl'
        have gy : h.get b = some y := by rcases H.get_new hy with ⟨e2, _⟩ | ⟨_, e2⟩; exact absurd e2 e; exact e2
        have gy' : h.get b' = some y' := by rcases H.get_new hy' with ⟨e2, _⟩ | ⟨_, e2⟩; exact absurd e2 e'; exact e2
        rcases hr.inj b b' r' S1 S2 hb hb' ⟨y, gy, hyd⟩ ⟨y', gy', hyd'⟩ with h1 | ⟨c, n, f, h1⟩
        · exact .inl h1
        · right
          rw [gy] at h1
          exact ⟨c, n, f, hy.trans h1⟩
  · show _ ≤ h.next + 1; omega
  · intro b hb; exact upd_ne ρ _ (by omega)
  · intro b r' S' hb he
    by_cases e : b = h.next
    · subst e; rw [upd_self] at he; cases he; exact .inl hrw
    · rw [upd_ne ρ _ e, hr.absent hb] at he; simp at he
  · intro b hb ⟨y, hy, hyd⟩
    rcases H.get_new hy with ⟨e2, _⟩ | ⟨_, e2⟩
    · omega
    · exact ⟨y, e2, hyd⟩
/-- what the summary wants: base tables, and that Sorted of n keys was reckoned, for each n up to N, and each kind of map -/
structure SortOK (P : Program) (B : Cfg) (S N : Nat) (Ks : List FuncId) : Prop where
  cfg : ∀ σ, CfgOK P B σ
  ext : B.ext = fun _ _ _ => none
  chk : ∀ K ∈ Ks, ∃ p : AP, p.K = K ∧ ∃ Cl St fiS fiC F, SOK P B p S Cl St fiS fiC ∧ ∀ n, 1 ≤ n → n ≤ N → chkS B p St F n = true
theorem born_F2 {es : List ME} {ms : List MapEntry} (h : F2 (MER ρ σ) es ms) : es.map (·.born) = ms.map (·.born) := by
  induction h with
  | nil => rfl
  | cons h0 _ ih => simp only [List.map_cons, ih, h0.2.2]
theorem keys_F2 {es : List ME} {ms : List MapEntry} {xs : List Int} (h : F2 (MER ρ σ) es ms) (hx : F2 (fun (e : ME) x => keyO e.key = some x) es xs) : ms.map (·.key) = xs.map (Value.int .i64) := by
  induction h generalizing xs with
  | nil => cases hx; rfl
  | @cons e m es ms h0 _ ih =>
    cases hx with
    | @cons _ x _ xs hx0 hx1 =>
      have hk : e.key = .one (.int .i64 x) := by
        unfold keyO at hx0
        split at hx0
        · rename_i y hy; cases hx0; exact hy
        · cases hx0
      have hm : m.key = .int .i64 x := by
        have := h0.1
        rw [hk] at this
        exact this
      simp only [List.map_cons, ih hx1, hm]
theorem sortK_ok {B : Cfg} {S N : Nat} {Ks : List FuncId} (ok : SortOK P B S N Ks) {args : List AV} {h h' : H} {v : AV} (hk : sortK N Ks args h = some (v, h')) {w : World} {vs : List Value} (hr : Rel ρ σ C h w) (ha : F2 (AVR ρ σ) args vs) :
    ∃ v' w' ρ', CallR P S vs.toArray w v' w' ∧ AVR ρ' σ v v' ∧ Rel ρ' σ C h' w' ∧ Ext ρ ρ' h h' w w' := by
  unfold sortK at hk
  split at hk
  · rename_i K c
    cases hK : Ks.any (Nat.beq K) with
    | false => rw [hK] at hk; cases hk
    | true =>
    rw [hK] at hk
    simp only [cond_true] at hk
    obtain ⟨K', hK1, hK2⟩ := List.any_eq_true.1 hK
    have hK2 := beq_eq hK2
    subst hK2
    split at hk
    · rename_i t n full sib hgc
      cases hn1 : Nat.ble 1 n with
      | false => rw [hn1] at hk; cases hk
      | true =>
      rw [hn1] at hk
      simp only [cond_true] at hk
      split at hk
      · rename_i m hgt
        split at hk
        · rename_i es clock hgm
          unfold sortedOf at hk
          split at hk
          · rename_i xs hxs
            obtain ⟨L, hL⟩ : ∃ L, isort xs = L := ⟨_, rfl⟩
            simp only [hL] at hk
            cases hgood : goodK N es clock xs L with
            | false => rw [hgood] at hk; cases hk
            | true =>
            rw [hgood] at hk
            simp only [cond_true, Option.some.injEq, Prod.mk.injEq] at hk
            obtain ⟨rfl, rfl⟩ := hk
            simp only [goodK, Bool.and_eq_true] at hgood
            obtain ⟨q1, q2, q3, q4, q5, q6, q7, q8⟩ := hgood
            have q1 := ble_le q1
            have q2 := ble_le q2
            have q3 := beq_eq q3
            simp only [len_eq] at q1 q2 q3
            -- the arguments
            cases ha with
            | cons ha0 ha1 =>
            cases ha1
            obtain ⟨cv, rfl, hcv⟩ := ha0
            cases hcv with
            | cons hb hnil =>
            cases hnil
            obtain ⟨rc, Sc, hρc, rfl⟩ := hb
            obtain ⟨oc, hoc, hbc⟩ := hr.blk c rc Sc hρc
            obtain ⟨cs, e, rfl, hsz, hnS, _, hcells⟩ := hbc _ hgc
            obtain ⟨vm, hvm, hvm2⟩ := hcells 0 _ (ble_le hn1) hgt
            obtain ⟨rm, Sm, hρm, rfl⟩ := hvm2
            obtain ⟨ms, hwm, hms⟩ := hr.map hρm hgm
            have hmap := mapO_some hxs
            have hkeys := keys_F2 hms hmap
            have hborns := born_F2 hms
            have hlen : ms.length = es.length := hms.length.symm
            have hkI : ms.map keyI = xs := by
              have : ms.map keyI = (ms.map (·.key)).map (fun k => match k with | .int _ x => x | _ => 0) := by
                rw [List.map_map]
                exact List.map_congr_left fun a _ => by first | (simp only [keyI, Function.comp_apply]; done) | (simp only [keyI, Function.comp_apply]; split <;> simp_all)
              rw [this, hkeys, List.map_map]
              simp [Function.comp_def]
            have hmk : ∀ m ∈ ms, m.key = .int .i64 (keyI m) := by
              intro m hm
              have : m.key ∈ xs.map (Value.int .i64) := by rw [← hkeys]; exact List.mem_map_of_mem hm
              obtain ⟨x, _, hx⟩ := List.mem_map.1 this
              rw [← hx]
              unfold keyI
              rw [← hx]
            have hmb : ∀ m ∈ ms, m.born < clock := by
              intro m hm
              have : m.born ∈ es.map (·.born) := by rw [hborns]; exact List.mem_map_of_mem hm
              obtain ⟨e, he, heb⟩ := List.mem_map.1 this
              have := ble_le (List.all_eq_true.1 q8 e he)
              omega
            have hnd : (ms.map (·.born)).Nodup := by rw [← hborns]; exact nodupN_eq q7
            have hxnd : (ms.map keyI).Nodup := by rw [hkI]; exact nodupI_eq q6
            have hkd : ∀ m ∈ ms, ∀ m' ∈ ms, keyI m = keyI m' → m.born = m'.born := by
              clear hkI hkeys hms hmap hwm hlen hmk hmb hnd hborns
              intro m hm m' hm' he
              induction ms with
              | nil => cases hm
              | cons a l ih =>
                simp only [List.map_cons, List.nodup_cons] at hxnd
                rcases List.mem_cons.1 hm with e1 | e1
                · rcases List.mem_cons.1 hm' with e2 | e2
                  · rw [e1, e2]
                  · exact absurd (by rw [← e1, he]; exact List.mem_map_of_mem e2) hxnd.1
                · rcases List.mem_cons.1 hm' with e2 | e2
                  · exact absurd (by rw [← e2, ← he]; exact List.mem_map_of_mem e1) hxnd.1
                  · exact ih hxnd.2 e1 e2
            have hmL : ∀ m ∈ ms, keyI m ∈ L := by
              intro m hm
              have : keyI m ∈ xs := by rw [← hkI]; exact List.mem_map_of_mem hm
              exact memI_eq (List.all_eq_true.1 q5 _ this)
            obtain ⟨p, rfl, Cl, St, fiS, fiC, F, sok, hchk⟩ := ok.chk K hK1
            obtain ⟨r', w', cs', e', hcall, hw', hn', hcv', hr', hs', hk', z1, z2, z3, z4⟩ := keysSorted ok.cfg ok.ext sok (hchk es.length q1 q2) (w := w) hoc hvm hwm hmk hmb hnd hlen hkd (incB_eq q4) hmL (by omega)
            have hbr : BR (upd ρ h.next (r', cs'.size)) σ C (.cells (T.ofList (L.map (A.int .i64))) (len es) false none) (.cells cs' e' (0, 0)) cs'.size := by
              refine ⟨cs', e', rfl, rfl, by rw [len_eq]; exact hn', (fun h => nomatch h), ?_⟩
              intro i a _ hg
              have := T.get_ofList hg
              rw [List.getElem?_map] at this
              cases hi : L[i]? with
              | none => rw [hi] at this; cases this
              | some x =>
                rw [hi] at this
                cases this
                exact ⟨_, hcv' i x hi, rfl⟩
            obtain ⟨r1, x1⟩ := hr.adopt hw' hr' hk' hs' z1 z2 z3 z4 hbr
            refine ⟨_, w', _, hcall, ⟨r', cs'.size, cs'.size, upd_self _ _ _, by rw [len_eq], by omega⟩, r1, x1⟩
          · cases hk
        · cases hk
      · cases hk
    · cases hk
  · cases hk
theorem extS_ok {B : Cfg} {S N : Nat} {Ks : List FuncId} (ok : SortOK P B S N Ks) {ext : FuncId → List AV → H → Option (AV × H)} (he : C.ext = extS S N Ks ext)
    (h0 : ∀ f args h v h', ext f args h = some (v, h') → ∀ ρ w vs, Rel ρ σ C h w → F2 (AVR ρ σ) args vs → ∃ v' w' ρ', CallR P f vs.toArray w v' w' ∧ AVR ρ' σ v v' ∧ Rel ρ' σ C h' w' ∧ Ext ρ ρ' h h' w w') : ExtOK C P σ := by
  intro f args h v h' hk ρ w vs hr ha
  rw [he] at hk
  unfold extS at hk
  cases hb : Nat.beq S f with
  | false => rw [hb] at hk; exact h0 f args h v h' hk ρ w vs hr ha
  | true =>
    rw [hb] at hk
    have hf := beq_eq hb
    subst hf
    cases hs : sortK N Ks args h with
    | none => rw [hs] at hk; exact h0 S args h v h' hk ρ w vs hr ha
    | some q =>
      rw [hs] at hk
      cases hk
      exact sortK_ok ok hs hr ha
end Eng
end

noncomputable section
namespace Eng
open Go Go.RowKit
variable {P : Program} {C C' : Cfg} {σ : Sig} {ρ ρ' : Rho}

/- a call without arguments whose heap is written down, wherever it is made: its blocks are numbered from a number on that is past all that are there -/
def ExtS (P : Program) (σ : Sig) (C : Cfg) (ext : FuncId → List AV → H → Option (AV × H)) : Prop :=
  ∀ f args h v h', ext f args h = some (v, h') → ∀ ρ w vs, Rel ρ σ C h w → F2 (AVR ρ σ) args vs → ∃ v' w' ρ', CallR P f vs.toArray w v' w' ∧ AVR ρ' σ v v' ∧ Rel ρ' σ C h' w' ∧ Ext ρ ρ' h h' w w'
theorem ExtS.ok {ext : FuncId → List AV → H → Option (AV × H)} (h : ExtS P σ C ext) (he : C.ext = ext) : ExtOK C P σ := by
  intro f args hh v h' hk
  rw [he] at hk
  exact h f args hh v h' hk
theorem ExtS.of {l : List SumE} (h : Al (Summ P σ C) l) : ExtS P σ C (extT l) := by
  intro f args hh v h' hk ρ w vs hr hvs
  obtain ⟨rfl, hs⟩ := extT_ok h f args hh v h' hk
  exact hs ρ h' w vs hr hvs
theorem ExtS.sort {B : Cfg} {S N : Nat} {Ks : List FuncId} (ok : SortOK P B S N Ks) {ext : FuncId → List AV → H → Option (AV × H)} (h0 : ExtS P σ C ext) : ExtS P σ C (extS S N Ks ext) := by
  intro f args h v h' hk ρ w vs hr ha
  unfold extS at hk
  cases hb : Nat.beq S f with
  | false => rw [hb] at hk; exact h0 f args h v h' hk ρ w vs hr ha
  | true =>
    rw [hb] at hk
    have hf := beq_eq hb
    subst hf
    cases hs : sortK N Ks args h with
    | none => rw [hs] at hk; exact h0 S args h v h' hk ρ w vs hr ha
    | some q =>
      rw [hs] at hk
      cases hk
      exact sortK_ok ok hs hr ha
structure SumG where
  f : FuncId
  v : AV
  k : Nat
  bl : List (Nat × Blk)
  next : Nat
def SummG (P : Program) (σ : Sig) (C : Cfg) (s : SumG) : Prop := (∀ p ∈ s.bl, s.k ≤ p.1) ∧ ∀ w, ∃ v' w' ρ' hF, CallR P s.f #[] w v' w' ∧ AVR ρ' σ s.v v' ∧ Rel ρ' σ C hF w' ∧
  Ext (fun _ => none) ρ' ⟨.nil, s.k⟩ hF w w' ∧ hF.next = s.next ∧ ∀ p ∈ s.bl, hF.get p.1 = some p.2
def fromK (k : Nat) (l : List (Nat × Blk)) : Bool := l.all fun p => Nat.ble k p.1
theorem SummG.of (hfu : C.fu = C'.fu) (hc : CfgOK P C σ) (hx : ExtOK C P σ) {n : Nat} {X : Ctx} {s : SumG} (hb : fromK s.k s.bl = true) (hk : snap s.v s.next s.bl (eval C n X (.call s.f []) ⟨.nil, s.k⟩) = true) : SummG P σ C' s := by
  obtain ⟨hF, h1, h2, h3⟩ := snap_some hk
  refine ⟨fun p hp => ble_le (List.all_eq_true.1 hb p hp), ?_⟩
  intro w
  have hr0 : Rel (fun _ => none) σ C ⟨.nil, s.k⟩ w := ⟨fun b r S hb => (by cases hb), fun b r S hb => (by cases hb), fun b b' r S S' hb => (by cases hb)⟩
  obtain ⟨v', w', ρ', g1, g2, g3, g4⟩ := (eval_ok hc hx n).2.call X s.f [] _ s.v hF h1 (fun _ => none) w [] hr0 .nil
  exact ⟨v', w', ρ', hF, g1, g2, g3.cfg hfu, g4, h2, h3⟩
def mergeT (t : T Blk) (l : List (Nat × Blk)) : T Blk := @List.rec (Nat × Blk) (fun _ => T Blk) t (fun p _ r => T.set r p.1 p.2) l
theorem mergeT_get {t : T Blk} : ∀ {l : List (Nat × Blk)} {b : Nat} {x : Blk}, (mergeT t l).get b = some x → T.get t b = some x ∨ (b, x) ∈ l := by
  intro l
  induction l with
  | nil => intro b x h; exact .inl h
  | cons p l ih =>
    intro b x h
    rcases T.get_set (show T.get (T.set (mergeT t l) p.1 p.2) b = some x from h) with ⟨e1, e2⟩ | ⟨_, e⟩
    · right
      rw [e1, e2]
      exact List.mem_cons_self
    · rcases ih e with e | e
      · exact .inl e
      · exact .inr (List.mem_cons_of_mem _ e)
def cutT (t : T Blk) (k : Nat) : T Blk := @Nat.rec (fun _ => T Blk) .nil (fun b r => @Option.rec Blk (fun _ => T Blk) r (fun x => T.set r b x) (T.get t b)) k
theorem cutT_get {t : T Blk} : ∀ {k b : Nat} {x : Blk}, (cutT t k).get b = some x → b < k ∧ T.get t b = some x := by
  intro k
  induction k with
  | zero => intro b x h; cases h
  | succ k ih =>
    intro b x h
    have h' : T.get (@Option.rec Blk (fun _ => T Blk) (cutT t k) (fun x => T.set (cutT t k) k x) (T.get t k)) b = some x := h
    cases hg : T.get t k with
    | none =>
      rw [hg] at h'
      have := ih h'
      exact ⟨by omega, this.2⟩
    | some y =>
      rw [hg] at h'
      rcases T.get_set (show T.get (T.set (cutT t k) k y) b = some x from h') with ⟨e1, e2⟩ | ⟨_, e⟩
      · subst e1; subst e2
        exact ⟨by omega, hg⟩
      · have := ih e
        exact ⟨by omega, this.2⟩
theorem SummG.run {s : SumG} (hs : SummG P σ C s) {h : H} {w : World} (hr : Rel ρ σ C h w) (hk : h.next ≤ s.k) :
    ∃ v' w' ρ', CallR P s.f #[] w v' w' ∧ AVR ρ' σ s.v v' ∧ Rel ρ' σ C ⟨mergeT (cutT h.1 s.k) s.bl, s.next⟩ w' ∧ Ext ρ ρ' h ⟨mergeT (cutT h.1 s.k) s.bl, s.next⟩ w w' := by
  obtain ⟨hfrom, hs⟩ := hs
  obtain ⟨v', w', ρ', hF, g1, g2, g3, g4, g5, g6⟩ := hs w
  have hkn : s.k ≤ s.next := by rw [← g5]; exact g4.next
  have low : ∀ b x, b < h.next → H.get ⟨mergeT (cutT h.1 s.k) s.bl, s.next⟩ b = some x → h.get b = some x := by
    intro b x hb hg
    rcases mergeT_get hg with e | e
    · exact (cutT_get e).2
    · have := hfrom _ e
      simp only at this
      omega
  have hi : ∀ b x, s.k ≤ b → b < s.next → H.get ⟨mergeT (cutT h.1 s.k) s.bl, s.next⟩ b = some x → hF.get b = some x := by
    intro b x h1 h2 hg
    rcases mergeT_get hg with e | e
    · have := (cutT_get e).1; omega
    · exact g6 _ e
  have dom : ∀ b r S, ρ' b = some (r, S) → s.k ≤ b ∧ b < s.next := by
    intro b r S hb
    refine ⟨?_, by rw [← g5]; exact g3.lt b r S hb⟩
    rcases Nat.lt_or_ge b s.k with e | e
    · rw [g4.old b e] at hb; cases hb
    · exact e
  have fresh : ∀ b r S, ρ' b = some (r, S) → w.heap.size ≤ r := by
    intro b r S hb
    rcases g4.new b r S (dom b r S hb).1 hb with e | ⟨_, _, e, _⟩
    · exact e
    · cases e
  have isold : ∀ b r S, ρ b = some (r, S) → r < w.heap.size := by
    intro b r S hb
    obtain ⟨o, ho, _⟩ := hr.blk b r S hb
    exact (Array.getElem?_eq_some_iff.1 ho).1
  have same : ∀ r, r < w.heap.size → w'.heap[r]? = w.heap[r]? := fun r hr' => g4.frame r hr' fun b S hb => by cases hb
  obtain ⟨ρ2, hρ2⟩ : ∃ ρ2 : Rho, ρ2 = fun b => if b < h.next then ρ b else ρ' b := ⟨_, rfl⟩
  have at1 : ∀ b, b < h.next → ρ2 b = ρ b := fun b hb => by rw [hρ2]; exact if_pos hb
  have at2 : ∀ b, ¬ b < h.next → ρ2 b = ρ' b := fun b hb => by rw [hρ2]; exact if_neg hb
  have sub1 : Sub ρ ρ2 := fun b x hb => by rw [at1 b (hr.lt b x.1 x.2 hb)]; exact hb
  have sub2 : Sub ρ' ρ2 := fun b x hb => by
    have := (dom b x.1 x.2 hb).1
    rw [at2 b (by omega)]; exact hb
  refine ⟨v', w', ρ2, g1, g2.mono sub2, ⟨?_, ?_, ?_⟩, ⟨?_, at1, ?_, g4.size, ?_, ?_, g4.os, g4.tape, g4.output, g4.fz⟩⟩
  · intro b r S hb
    show b < s.next
    by_cases e : b < h.next
    · omega
    · rw [at2 b e] at hb
      exact (dom b r S hb).2
  · intro b r S hb
    by_cases e : b < h.next
    · rw [at1 b e] at hb
      obtain ⟨o, ho, hx⟩ := hr.blk b r S hb
      exact ⟨o, by rw [same r (isold b r S hb)]; exact ho, fun x hg => (hx x (low b x e hg)).mono sub1⟩
    · rw [at2 b e] at hb
      obtain ⟨o, ho, hx⟩ := g3.blk b r S hb
      have hd := dom b r S hb
      exact ⟨o, ho, fun x hg => (hx x (hi b x hd.1 hd.2 hg)).mono sub2⟩
  · intro b b' r S S' hb hb' ⟨y, hy, hyd⟩ ⟨y', hy', hyd'⟩
    by_cases e : b < h.next
    · rw [at1 b e] at hb
      by_cases e' : b' < h.next
      · rw [at1 b' e'] at hb'
        have hy := low b y e hy
        rename_i hy0
        rcases hr.inj b b' r S S' hb hb' ⟨y, hy, hyd⟩ ⟨y', low b' y' e' hy', hyd'⟩ with q | ⟨c, n, f, q⟩
        · exact .inl q
        · right
          rw [hy] at q
          exact ⟨c, n, f, hy0.trans q⟩
      · rw [at2 b' e'] at hb'
        have := isold b r S hb
        have := fresh b' r S' hb'
        omega
    · rw [at2 b e] at hb
      by_cases e' : b' < h.next
      · rw [at1 b' e'] at hb'
        have := isold b' r S' hb'
        have := fresh b r S hb
        omega
      · rw [at2 b' e'] at hb'
        have hd := dom b r S hb
        have hd' := dom b' r S' hb'
        have hz := hi b y hd.1 hd.2 hy
        rcases g3.inj b b' r S S' hb hb' ⟨y, hz, hyd⟩ ⟨y', hi b' y' hd'.1 hd'.2 hy', hyd'⟩ with q | ⟨c, n, f, q⟩
        · exact .inl q
        · right
          rw [hz] at q
          exact ⟨c, n, f, hy.trans q⟩
  · show h.next ≤ s.next
    omega
  · intro b r S hb hb2
    rw [at2 b (by omega)] at hb2
    exact .inl (fresh b r S hb2)
  · intro b hb ⟨y, hy, hyd⟩
    exact ⟨y, low b y hb hy, hyd⟩
  · intro r hr' _
    exact same r hr'
def extG (s : SumG) (ext : FuncId → List AV → H → Option (AV × H)) (f : FuncId) (args : List AV) (h : H) : Option (AV × H) :=
  @Bool.rec (fun _ => Option (AV × H)) (ext f args h) (@Bool.rec (fun _ => Option (AV × H)) (ext f args h) (@Bool.rec (fun _ => Option (AV × H)) (ext f args h) (some (s.v, ⟨mergeT (cutT h.1 s.k) s.bl, s.next⟩)) (Nat.ble h.2 s.k)) (List.isEmpty args)) (Nat.beq s.f f)
theorem ExtS.gap {s : SumG} (hs : SummG P σ C s) {ext : FuncId → List AV → H → Option (AV × H)} (h0 : ExtS P σ C ext) : ExtS P σ C (extG s ext) := by
  intro f args h v h' hk ρ w vs hr hvs
  have hk' : @Bool.rec (fun _ => Option (AV × H)) (ext f args h) (@Bool.rec (fun _ => Option (AV × H)) (ext f args h) (@Bool.rec (fun _ => Option (AV × H)) (ext f args h) (some (s.v, ⟨mergeT (cutT h.1 s.k) s.bl, s.next⟩)) (Nat.ble h.2 s.k)) (List.isEmpty args)) (Nat.beq s.f f) = some (v, h') := hk
  cases h1 : Nat.beq s.f f with
  | false => rw [h1] at hk'; exact h0 f args h v h' hk' ρ w vs hr hvs
  | true =>
  rw [h1] at hk'
  cases h2 : List.isEmpty args with
  | false => rw [h2] at hk'; exact h0 f args h v h' hk' ρ w vs hr hvs
  | true =>
  rw [h2] at hk'
  cases h3 : Nat.ble h.2 s.k with
  | false => rw [h3] at hk'; exact h0 f args h v h' hk' ρ w vs hr hvs
  | true =>
  rw [h3] at hk'
  cases hk'
  have e1 := beq_eq h1
  subst e1
  have e2 := List.isEmpty_iff.1 h2
  subst e2
  cases hvs
  exact hs.run hr (ble_le h3)
end Eng
end

noncomputable section
namespace Eng
open Go Go.RowKit
variable {P : Program} {C C' : Cfg} {σ : Sig} {ρ ρ' : Rho}

/- facts of comparisons, and of expressions that are numbers -/
structure CF where
  op : BinOp
  x : E
  y : E
  r : Bool
def cmpT (l : List CF) (op : BinOp) (x y : E) : Option Bool :=
  @List.rec CF (fun _ => Option Bool) none (fun f _ r => @Bool.rec (fun _ => Option Bool) r (some f.r) (Nat.beq (binNo f.op) (binNo op) && f.x.eqb x && f.y.eqb y)) l
def CFok (σ : Sig) (f : CF) : Prop := cmpDen f.op (f.x.den σ) (f.y.den σ) = f.r
theorem binNo_inj {a b : BinOp} (h : Nat.beq (binNo a) (binNo b) = true) : a = b := by
  cases a <;> cases b <;> first | rfl | cases h
theorem cmpT_ok {σ : Sig} : ∀ {l : List CF}, Al (CFok σ) l → ∀ op x y r, cmpT l op x y = some r → cmpDen op (x.den σ) (y.den σ) = r := by
  intro l h
  induction h with
  | nil => intro op x y r h; cases h
  | cons h0 _ ih =>
    rename_i f l _
    intro op x y r h
    have h' : @Bool.rec (fun _ => Option Bool) (cmpT l op x y) (some f.r) (Nat.beq (binNo f.op) (binNo op) && f.x.eqb x && f.y.eqb y) = some r := h
    cases hb : (Nat.beq (binNo f.op) (binNo op) && f.x.eqb x && f.y.eqb y) with
    | false => rw [hb] at h'; exact ih op x y r h'
    | true =>
      rw [hb] at h'
      simp only [Bool.and_eq_true] at hb
      cases h'
      rw [← binNo_inj hb.1.1, ← Eng.eqb_eq hb.1.2, ← Eng.eqb_eq hb.2]
      exact h0
structure NF where
  e : E
  n : Int
def normT (l : List NF) (e : E) : Option Int :=
  @List.rec NF (fun _ => Option Int) none (fun f _ r => @Bool.rec (fun _ => Option Int) r (some f.n) (f.e.eqb e)) l
def NFok (σ : Sig) (f : NF) : Prop := f.e.den σ = f.n
theorem normT_ok {σ : Sig} : ∀ {l : List NF}, Al (NFok σ) l → ∀ e n, normT l e = some n → e.den σ = n := by
  intro l h
  induction h with
  | nil => intro e n h; cases h
  | cons h0 _ ih =>
    rename_i f l _
    intro e n h
    have h' : @Bool.rec (fun _ => Option Int) (normT l e) (some f.n) (f.e.eqb e) = some n := h
    cases hb : f.e.eqb e with
    | false => rw [hb] at h'; exact ih e n h'
    | true =>
      rw [hb] at h'
      cases h'
      rw [← Eng.eqb_eq hb]
      exact h0
/-- the low bits of a number -/
theorem and_small (x : Int) {m : Nat} (hm : m ≤ 1000) : ∃ n : Nat, n ≤ m ∧ binDen .and .i64 x (Int.ofNat m) = Int.ofNat n := by
  refine ⟨(BitVec.ofInt 64 x &&& BitVec.ofInt 64 (Int.ofNat m)).toNat, ?_, ?_⟩
  · rw [BitVec.toNat_and]
    have h1 : (BitVec.ofInt 64 (Int.ofNat m)).toNat = m := by
      show (BitVec.ofInt 64 ((m : Nat) : Int)).toNat = m
      rw [BitVec.ofInt_natCast, BitVec.toNat_ofNat]
      omega
    rw [h1]
    exact Nat.and_le_right
  · have h2 : (BitVec.ofInt 64 x &&& BitVec.ofInt 64 (Int.ofNat m)).toNat ≤ m := by
      rw [BitVec.toNat_and]
      have h1 : (BitVec.ofInt 64 (Int.ofNat m)).toNat = m := by
        show (BitVec.ofInt 64 ((m : Nat) : Int)).toNat = m
        rw [BitVec.ofInt_natCast, BitVec.toNat_ofNat]
        omega
      rw [h1]
      exact Nat.and_le_right
    show IntKind.i64.wrap ((BitVec.ofInt 64 x &&& BitVec.ofInt 64 (Int.ofNat m)).toNat : Int) = _
    generalize (BitVec.ofInt 64 x &&& BitVec.ofInt 64 (Int.ofNat m)).toNat = n at h2
    rw [IntKind.wrap_i64]
    simp only [Int.ofNat_eq_natCast]
    omega
end Eng
end

noncomputable section
namespace Eng
open Go Go.RowKit
variable {P : Program} {C C' : Cfg} {σ : Sig} {ρ ρ' : Rho}

/- sums that stay within their kind: what they come to without wrapping -/
def exBin (op : BinOp) (k : IntKind) (x y : Int) : Int :=
  match op with
  | .add => x + y
  | .sub => x - y
  | .mul => x * y
  | .quo => x / y
  | .rem => x % y
  | .and => x % (y + 1)
  | .shr => x / 2 ^ y.toNat
  | .xor => if x % 2 = 0 then x + 1 else x - 1
  | op => binDen op k x y
def E.ex (σ : Sig) : E → Int
  | .lit n => n
  | .var i => σ i
  | .bin op k a b => exBin op k (E.ex σ a) (E.ex σ b)
  | .conv _ a => E.ex σ a
def inK (k : IntKind) (p : Int × Int) : Option (Int × Int) :=
  match k with
  | .i64 => bif decide (-9223372036854775808 ≤ p.1) && decide (p.2 ≤ 9223372036854775807) then some p else none
  | .u64 => bif decide (0 ≤ p.1) && decide (p.2 ≤ 18446744073709551615) then some p else none
  | _ => none
def is64 (k : IntKind) : Bool := match k with | .i64 => true | .u64 => true | _ => false
def rngBin (op : BinOp) (k : IntKind) (p q : Int × Int) : Option (Int × Int) :=
  match op with
  | .add => inK k (p.1 + q.1, p.2 + q.2)
  | .sub => inK k (p.1 - q.2, p.2 - q.1)
  | .mul => bif decide (0 ≤ p.1) && decide (0 ≤ q.1) then inK k (p.1 * q.1, p.2 * q.2) else none
  | .quo => bif decide (0 ≤ p.1) && decide (1 ≤ q.1) then inK k (0, p.2) else none
  | .rem => bif decide (0 ≤ p.1) && decide (1 ≤ q.1) then some (0, q.2 - 1) else none
  | .and => bif decide (0 ≤ p.1) && (decide (p.2 ≤ 9223372036854775807) && (decide (q.1 = q.2) && (is64 k && (decide (q.1 = 1) || (decide (q.1 = 3) || (decide (q.1 = 7) || decide (q.1 = 63))))))) then some (0, q.1) else none
  | .shr => bif decide (0 ≤ p.1) && (decide (q.1 = q.2) && (is64 k && (decide (0 ≤ q.1) && decide (q.1 ≤ 63)))) then some (0, p.2) else none
  | .xor => bif decide (0 ≤ p.1) && (decide (p.2 ≤ 9223372036854775806) && (decide (q.1 = 1) && (decide (q.2 = 1) && is64 k))) then some (0, p.2 + 1) else none
  | _ => none
def E.rng (b : Nat → Int × Int) : E → Option (Int × Int)
  | .lit n => some (n, n)
  | .var i => some (b i)
  | .bin op k x y => match E.rng b x, E.rng b y with
    | some p, some q => rngBin op k p q
    | _, _ => none
  | .conv k x => match E.rng b x with
    | some p => inK k p
    | none => none
theorem inK_some {k : IntKind} {p q : Int × Int} (h : inK k p = some q) : q = p ∧ ∀ x, p.1 ≤ x → x ≤ p.2 → k.wrap x = x := by
  unfold inK at h
  split at h
  · cases hc : (decide (-9223372036854775808 ≤ p.1) && decide (p.2 ≤ 9223372036854775807)) with
    | false => rw [hc] at h; cases h
    | true =>
      rw [hc] at h; cases h
      simp only [Bool.and_eq_true, decide_eq_true_eq] at hc
      exact ⟨rfl, fun x h1 h2 => IntWalk.i64_in x ⟨by omega, by omega⟩⟩
  · cases hc : (decide (0 ≤ p.1) && decide (p.2 ≤ 18446744073709551615)) with
    | false => rw [hc] at h; cases h
    | true =>
      rw [hc] at h; cases h
      simp only [Bool.and_eq_true, decide_eq_true_eq] at hc
      exact ⟨rfl, fun x h1 h2 => IntWalk.u64_in x ⟨by omega, by omega⟩⟩
  · cases h
theorem wrap64 {k : IntKind} (h : is64 k = true) {x : Int} (h0 : 0 ≤ x) (h1 : x ≤ 9223372036854775807) : k.wrap x = x ∧ k.bits = 64 := by
  cases k <;> first | (cases h; done) | skip
  · exact ⟨IntWalk.i64_in x ⟨by omega, by omega⟩, rfl⟩
  · exact ⟨IntWalk.u64_in x ⟨by omega, by omega⟩, rfl⟩
theorem ofInt_nat {x : Int} (h0 : 0 ≤ x) (h1 : x ≤ 9223372036854775807) : (BitVec.ofInt 64 x).toNat = x.toNat := by
  rw [BitVec.toNat_ofInt]
  congr 1
  omega
theorem and_low {k : IntKind} {x y : Int} (hk : is64 k = true) (h0 : 0 ≤ x) (h1 : x ≤ 9223372036854775807) (c : Nat) (hc : c ≤ 6) (hy : y = (2 ^ c - 1 : Nat)) : binDen .and k x y = x % (y + 1) := by
  have hp : 2 ^ c ≤ 2 ^ 6 := Nat.pow_le_pow_right (by decide) hc
  have hp0 : 0 < 2 ^ c := Nat.pow_pos (by decide)
  have hm : x.toNat % 2 ^ c < 2 ^ c := Nat.mod_lt _ hp0
  have hb : k.bits = 64 := (wrap64 hk h0 h1).2
  show k.wrap (BitVec.ofInt k.bits x &&& BitVec.ofInt k.bits y).toNat = x % (y + 1)
  rw [hb, BitVec.toNat_and, ofInt_nat h0 h1, ofInt_nat (x := y) (by omega) (by omega)]
  rw [show y.toNat = 2 ^ c - 1 by omega, Nat.and_two_pow_sub_one_eq_mod]
  rw [(wrap64 hk (x := ((x.toNat % 2 ^ c : Nat) : Int)) (by omega) (by omega)).1, hy]
  have e : ((2 ^ c - 1 : Nat) : Int) + 1 = ((2 ^ c : Nat) : Int) := by omega
  rw [e, Int.natCast_emod]
  congr 1
  omega
theorem xor_one {k : IntKind} {x : Int} (hk : is64 k = true) (h0 : 0 ≤ x) (h1 : x ≤ 9223372036854775806) : binDen .xor k x 1 = if x % 2 = 0 then x + 1 else x - 1 := by
  have hb : k.bits = 64 := (wrap64 hk h0 (show x ≤ 9223372036854775807 by omega)).2
  show k.wrap (BitVec.ofInt k.bits x ^^^ BitVec.ofInt k.bits 1).toNat = _
  rw [hb, BitVec.toNat_xor, ofInt_nat h0 (by omega), ofInt_nat (x := 1) (by decide) (by decide)]
  have e1 : (x.toNat ^^^ 1) / 2 = x.toNat / 2 := by rw [Nat.xor_div_two]; simp
  have e2 : (x.toNat ^^^ 1) % 2 = (x.toNat + 1) % 2 := by
    have h := Nat.testBit_xor x.toNat 1 0
    rw [Nat.testBit_zero, Nat.testBit_zero, Nat.testBit_zero] at h
    rcases Nat.mod_two_eq_zero_or_one x.toNat with e | e
    · rw [e] at h
      have : decide ((x.toNat ^^^ 1) % 2 = 1) = true := by rw [h]; decide
      have := of_decide_eq_true this
      omega
    · rw [e] at h
      have : decide ((x.toNat ^^^ 1) % 2 = 1) = false := by rw [h]; decide
      have := of_decide_eq_false this
      omega
  have e3 : (((x.toNat ^^^ Int.toNat 1) : Nat) : Int) = if x % 2 = 0 then x + 1 else x - 1 := by
    have : Int.toNat 1 = 1 := rfl
    rw [this]
    split <;> omega
  rw [(wrap64 hk (by omega) (by rw [e3]; split <;> omega)).1, e3]
theorem rngBin_ok {op : BinOp} {k : IntKind} {p q r : Int × Int} {X Y : Int} (h : rngBin op k p q = some r) (h1 : p.1 ≤ X) (h2 : X ≤ p.2) (g1 : q.1 ≤ Y) (g2 : Y ≤ q.2) :
    r.1 ≤ exBin op k X Y ∧ exBin op k X Y ≤ r.2 ∧ binDen op k X Y = exBin op k X Y := by
  cases op with
  | add =>
    obtain ⟨rfl, hw⟩ := inK_some (show inK k (p.1 + q.1, p.2 + q.2) = some r from h)
    have a1 : p.1 + q.1 ≤ X + Y := by omega
    have a2 : X + Y ≤ p.2 + q.2 := by omega
    exact ⟨a1, a2, hw _ a1 a2⟩
  | sub =>
    obtain ⟨rfl, hw⟩ := inK_some (show inK k (p.1 - q.2, p.2 - q.1) = some r from h)
    have a1 : p.1 - q.2 ≤ X - Y := by omega
    have a2 : X - Y ≤ p.2 - q.1 := by omega
    exact ⟨a1, a2, hw _ a1 a2⟩
  | mul =>
    have h' : (bif decide (0 ≤ p.1) && decide (0 ≤ q.1) then inK k (p.1 * q.1, p.2 * q.2) else none) = some r := h
    cases hc : (decide (0 ≤ p.1) && decide (0 ≤ q.1)) with
    | false => rw [hc] at h'; cases h'
    | true =>
      rw [hc] at h'
      simp only [Bool.and_eq_true, decide_eq_true_eq] at hc
      obtain ⟨rfl, hw⟩ := inK_some (show inK k (p.1 * q.1, p.2 * q.2) = some r from h')
      have a1 : p.1 * q.1 ≤ X * Y := Int.mul_le_mul h1 g1 hc.2 (by omega)
      have a2 : X * Y ≤ p.2 * q.2 := Int.mul_le_mul h2 g2 (by omega) (by omega)
      exact ⟨a1, a2, hw _ a1 a2⟩
  | quo =>
    have h' : (bif decide (0 ≤ p.1) && decide (1 ≤ q.1) then inK k (0, p.2) else none) = some r := h
    cases hc : (decide (0 ≤ p.1) && decide (1 ≤ q.1)) with
    | false => rw [hc] at h'; cases h'
    | true =>
      rw [hc] at h'
      simp only [Bool.and_eq_true, decide_eq_true_eq] at hc
      obtain ⟨rfl, hw⟩ := inK_some (show inK k (0, p.2) = some r from h')
      obtain ⟨b1, b2⟩ := IntWalk.tdiv_le X Y (by omega) (by omega)
      have a2 : X / Y ≤ p.2 := by omega
      refine ⟨b1, a2, ?_⟩
      show k.wrap (X.tdiv Y) = X / Y
      rw [Int.tdiv_eq_ediv_of_nonneg (by omega)]
      exact hw _ b1 a2
  | rem =>
    have h' : (bif decide (0 ≤ p.1) && decide (1 ≤ q.1) then some (0, q.2 - 1) else none) = some r := h
    cases hc : (decide (0 ≤ p.1) && decide (1 ≤ q.1)) with
    | false => rw [hc] at h'; cases h'
    | true =>
      rw [hc] at h'
      simp only [Bool.and_eq_true, decide_eq_true_eq] at hc
      cases h'
      have b1 := Int.emod_nonneg X (show Y ≠ 0 by omega)
      have b2 := Int.emod_lt_of_pos X (show 0 < Y by omega)
      have a2 : X % Y ≤ q.2 - 1 := by omega
      exact ⟨b1, a2, IntWalk.rem_in X Y (by omega)⟩
  | and =>
    have h' : (bif decide (0 ≤ p.1) && (decide (p.2 ≤ 9223372036854775807) && (decide (q.1 = q.2) && (is64 k && (decide (q.1 = 1) || (decide (q.1 = 3) || (decide (q.1 = 7) || decide (q.1 = 63))))))) then some ((0 : Int), q.1) else none) = some r := h
    cases hc : (decide (0 ≤ p.1) && (decide (p.2 ≤ 9223372036854775807) && (decide (q.1 = q.2) && (is64 k && (decide (q.1 = 1) || (decide (q.1 = 3) || (decide (q.1 = 7) || decide (q.1 = 63)))))))) with
    | false => rw [hc] at h'; cases h'
    | true =>
      rw [hc] at h'
      simp only [Bool.and_eq_true, Bool.or_eq_true, decide_eq_true_eq] at hc
      cases h'
      obtain ⟨c1, c2, c3, c4, c5⟩ := hc
      have hY : Y = q.1 := by omega
      have b1 := Int.emod_nonneg X (show Y + 1 ≠ 0 by omega)
      have b2 := Int.emod_lt_of_pos X (show 0 < Y + 1 by omega)
      refine ⟨b1, show X % (Y + 1) ≤ q.1 by omega, ?_⟩
      rcases c5 with e | e | e | e
      · exact and_low c4 (by omega) (by omega) 1 (by decide) (by omega)
      · exact and_low c4 (by omega) (by omega) 2 (by decide) (by omega)
      · exact and_low c4 (by omega) (by omega) 3 (by decide) (by omega)
      · exact and_low c4 (by omega) (by omega) 6 (by decide) (by omega)
  | shr =>
    have h' : (bif decide (0 ≤ p.1) && (decide (q.1 = q.2) && (is64 k && (decide (0 ≤ q.1) && decide (q.1 ≤ 63)))) then some ((0 : Int), p.2) else none) = some r := h
    cases hc : (decide (0 ≤ p.1) && (decide (q.1 = q.2) && (is64 k && (decide (0 ≤ q.1) && decide (q.1 ≤ 63))))) with
    | false => rw [hc] at h'; cases h'
    | true =>
      rw [hc] at h'
      simp only [Bool.and_eq_true, decide_eq_true_eq] at hc
      cases h'
      obtain ⟨c1, c2, c3, c4, c5⟩ := hc
      have hb : k.bits = 64 := (wrap64 c3 (x := 0) (by decide) (by decide)).2
      have hpos : (0 : Int) < 2 ^ Y.toNat := Int.pow_pos (by decide)
      have hX : 0 ≤ X := by omega
      refine ⟨Int.ediv_nonneg hX (by omega), show X / 2 ^ Y.toNat ≤ p.2 from ?_, ?_⟩
      · have := Int.ediv_le_self (2 ^ Y.toNat) hX
        omega
      · show X.fdiv (2 ^ (min Y.toNat k.bits)) = X / 2 ^ Y.toNat
        rw [hb, Nat.min_eq_left (by omega), Int.fdiv_eq_ediv_of_nonneg X (by omega)]
  | xor =>
    have h' : (bif decide (0 ≤ p.1) && (decide (p.2 ≤ 9223372036854775806) && (decide (q.1 = 1) && (decide (q.2 = 1) && is64 k))) then some ((0 : Int), p.2 + 1) else none) = some r := h
    cases hc : (decide (0 ≤ p.1) && (decide (p.2 ≤ 9223372036854775806) && (decide (q.1 = 1) && (decide (q.2 = 1) && is64 k)))) with
    | false => rw [hc] at h'; cases h'
    | true =>
      rw [hc] at h'
      simp only [Bool.and_eq_true, decide_eq_true_eq] at hc
      cases h'
      obtain ⟨c1, c2, c3, c4, c5⟩ := hc
      obtain rfl : Y = 1 := by omega
      have := xor_one c5 (show 0 ≤ X by omega) (show X ≤ 9223372036854775806 by omega)
      refine ⟨?_, ?_, this⟩
      · show (0 : Int) ≤ if X % 2 = 0 then X + 1 else X - 1
        split <;> omega
      · show (if X % 2 = 0 then X + 1 else X - 1) ≤ p.2 + 1
        split <;> omega
  | _ => cases h
theorem rng_ok {b : Nat → Int × Int} (hb : ∀ i, (b i).1 ≤ σ i ∧ σ i ≤ (b i).2) : ∀ {e : E} {p : Int × Int}, e.rng b = some p → p.1 ≤ e.ex σ ∧ e.ex σ ≤ p.2 ∧ e.den σ = e.ex σ := by
  intro e
  induction e with
  | lit n => intro p h; cases h; exact ⟨Int.le_refl _, Int.le_refl _, rfl⟩
  | var i => intro p h; cases h; exact ⟨(hb i).1, (hb i).2, rfl⟩
  | conv k x ih =>
    intro p h
    unfold E.rng at h
    split at h
    · rename_i q hq
      obtain ⟨h1, h2, h3⟩ := ih hq
      obtain ⟨rfl, hw⟩ := inK_some h
      refine ⟨h1, h2, ?_⟩
      show k.wrap (x.den σ) = x.ex σ
      rw [h3, hw _ h1 h2]
    · cases h
  | bin op k x y ihx ihy =>
    intro p h
    unfold E.rng at h
    split at h
    · rename_i q q' hq hq'
      obtain ⟨h1, h2, h3⟩ := ihx hq
      obtain ⟨g1, g2, g3⟩ := ihy hq'
      obtain ⟨a1, a2, a3⟩ := rngBin_ok h h1 h2 g1 g2
      refine ⟨a1, a2, ?_⟩
      show binDen op k (x.den σ) (y.den σ) = exBin op k (x.ex σ) (y.ex σ)
      rw [h3, g3, a3]
    · cases h
theorem rng_den {b : Nat → Int × Int} (hb : ∀ i, (b i).1 ≤ σ i ∧ σ i ≤ (b i).2) {e : E} (h : (e.rng b).isSome = true) : e.den σ = e.ex σ := by
  obtain ⟨p, hp⟩ := Option.isSome_iff_exists.1 h
  exact (rng_ok hb hp).2.2
/-- a comparison's fact, of what is reckoned without wrapping -/
theorem CFok.ex {b : Nat → Int × Int} (hb : ∀ i, (b i).1 ≤ σ i ∧ σ i ≤ (b i).2) {f : CF} (hx : (f.x.rng b).isSome = true) (hy : (f.y.rng b).isSome = true) (h : cmpDen f.op (f.x.ex σ) (f.y.ex σ) = f.r) : CFok σ f := by
  unfold CFok
  rw [rng_den hb hx, rng_den hb hy]
  exact h
theorem NFok.ex {b : Nat → Int × Int} (hb : ∀ i, (b i).1 ≤ σ i ∧ σ i ≤ (b i).2) {f : NF} (hx : (f.e.rng b).isSome = true) (h : f.e.ex σ = f.n) : NFok σ f := by
  unfold NFok
  rw [rng_den hb hx]
  exact h
/- several heaps written down -/
def extGL (l : List SumG) (ext : FuncId → List AV → H → Option (AV × H)) : FuncId → List AV → H → Option (AV × H) :=
  @List.rec SumG (fun _ => FuncId → List AV → H → Option (AV × H)) ext (fun s _ r => extG s r) l
theorem ExtS.gaps {l : List SumG} (h : Al (SummG P σ C) l) {ext : FuncId → List AV → H → Option (AV × H)} (h0 : ExtS P σ C ext) : ExtS P σ C (extGL l ext) := by
  induction h with
  | nil => exact h0
  | cons h1 _ ih => exact ExtS.gap h1 ih
end Eng
end
