/- The engine, part 9: an element of a slice, copied into a new variable. No conditions beside those in its theorems. -/
import Derived.Test.YtikjmnimdlcehaaGreatE8
import Derived.Laws.Tables
import Derived.Laws.Cells
set_option linter.unusedVariables false
noncomputable section
namespace Eng
open Go Go.RowKit
variable {P : Program} {C C' : Cfg} {σ σ2 : Sig} {ρ ρ' : Rho} {b : Frame} {a : Act} {w : World}

theorem WB.of_codeR {c : Code} {o : Out} {a' : Act} {w' : World} {Q : Exit → Act → World → Prop} (hb : b.roundOf = none) (h : CodeR P c b a w o a' w') (hq : Q o.ex a' w') : WB P b c Q a w := by
  intro k cs
  have := h _ k cs .code
  rw [Frame.atR_of_none hb] at this
  exact ⟨_, a', w', hq, this.arrives hb⟩
/- an element of a slice, copied into a new variable -/
theorem does_indexAddr {o : Oper} {t e : TypeId} {x i : Operand} {ti ei : TI} {r off n ln cp : Nat} (hc : CfgOK P C σ) (ho : o.op = .indexAddr t x i) (ht : C.ty t = some ti) (hu : ti.und = .slice e) (he : C.ty e = some ei)
    (hx : a.eval x = .slice (some ⟨r, off, none⟩) ln cp) (hi : a.eval i = .int .i64 (Int.ofNat n)) (hn : n < ln) : Does P o b a w (.pointer (some ⟨r, off + n * ei.size, none⟩)) w := by
  refine does_of_exec (by intro c h; rw [ho] at h; cases h) (.inl ?_)
  have h1 := (hc.ty t ti ht).runUnd w
  have h2 := (hc.ty _ ei he).runSize w
  rw [hu] at h1
  have h4 : ¬ ln ≤ n := by omega
  simp [execOp, ho, Instr.indexAt, hi, run_asInt, h1, hx, h2, h4, addr_add]
theorem does_loadN {o : Oper} {t : TypeId} {x : Operand} {ti : TI} {r off : Nat} {vs : List Value} (hc : CfgOK P C σ) (ho : o.op = .load t x) (ht : C.ty t = some ti) (hag : ti.agg = true) (hl : vs.length = ti.size)
    (hx : a.eval x = .pointer (some ⟨r, off, none⟩)) (hv : ∀ (j : Nat) (v : Value), vs[j]? = some v → w.cell? ⟨r, off + j, none⟩ = some v) : Does P o b a w (.agg vs.toArray) w := by
  refine does_of_exec (by intro c h; rw [ho] at h; cases h) (.inl ?_)
  have h1 := (hc.ty t ti ht).runAgg w
  have h2 := (hc.ty t ti ht).runSize w
  rw [hag] at h1
  have h3 := run_loadCells_list (P := P) (w := w) ⟨r, off, none⟩ vs (fun j v hj => by rw [addr_add]; exact hv j v hj)
  rw [hl] at h3
  simp [execOp, ho, Instr.loadAt, hx, Instr.sureAddr, loadVar, h1, h2, h3]
theorem does_alloc {o : Oper} {t : TypeId} {ti : TI} (hc : CfgOK P C σ) (ho : o.op = .alloc t) (ht : C.ty t = some ti) : ∃ zs : List Value, zs.length = ti.size ∧ Does P o b a w (.pointer (some ⟨w.heap.size, 0, none⟩)) (push w (.cells zs.toArray t (0, 0))) := by
  obtain ⟨z, zs, h1, h2, h3, h4, _⟩ := (hc.ty t ti ht).runZero w
  refine ⟨zs, by rw [← h4]; exact (h3 (fun _ => none) (fun _ => 0)).length.symm, does_of_exec (by intro c h; rw [ho] at h; cases h) (.inl ?_)⟩
  simp [execOp, ho, Instr.alloc, h1, newVar, newRow, h2, push]
theorem setRow_push (w : World) (zs vs : Array Value) (t : TypeId) : (push w (.cells zs t (0, 0))).setRow w.heap.size vs = push w (.cells vs t (0, 0)) := by
  unfold World.setRow push
  congr 1
  apply Array.ext
  · simp
  · intro k h1 h2
    simp only [Array.getElem_modify, Array.getElem_push]
    split
    · rename_i hk
      subst hk
      simp
    · rename_i hk
      simp only [Array.size_modify, Array.size_push] at h1
      have : k < w.heap.size := by omega
      simp [this]
theorem does_storeNew {o : Oper} {t : TypeId} {x y : Operand} {ti : TI} {zs vs : List Value} {w0 : World} (hc : CfgOK P C σ) (ho : o.op = .store t x y) (ht : C.ty t = some ti) (hl : vs.length = ti.size) (hz : zs.length = ti.size)
    (hx : a.eval x = .pointer (some ⟨w0.heap.size, 0, none⟩)) (hy : a.eval y = .agg vs.toArray) (h1 : ∀ v ∈ vs, v.oneCell' = true) : Does P o b a (push w0 (.cells zs.toArray t (0, 0))) undef (push w0 (.cells vs.toArray t (0, 0))) := by
  refine does_of_exec (by intro c h; rw [ho] at h; cases h) (.inr ⟨rfl, ?_⟩)
  have h6 := (hc.ty t ti ht).runSize (push w0 (.cells zs.toArray t (0, 0)))
  have hg : (push w0 (.cells zs.toArray t (0, 0))).heap[w0.heap.size]? = some (.cells zs.toArray t (0, 0)) := by show (w0.heap.push _)[w0.heap.size]? = _; simp
  have h8 : Sem.run P (storeCells ⟨w0.heap.size, 0, none⟩ vs) (push w0 (.cells zs.toArray t (0, 0))) = .ok () _ := run_storeCells_from w0.heap.size t vs 0 zs.toArray _ hg (by simp; omega) h1
  rw [show (zs.toArray.toList.take 0 ++ vs).toArray = vs.toArray by simp, setRow_push] at h8
  simp [execOp, ho, Instr.storeAt, hx, Instr.sureAddr, storeVar, hy, Value.cells, h6, hl, h8]
theorem eval_put_ne {t d : Tmp} {v : Value} (h : t ≠ d) : (a.put (some d) v).eval (.tmp t) = a.eval (.tmp t) := by
  simp [Act.put, Act.eval, Array.getD_eq_getD_getElem?, Array.getElem?_setIfInBounds_ne (fun e => h e.symm)]
theorem eval_put_self {d : Tmp} {v : Value} (h : d < a.tmps.size) : (a.put (some d) v).eval (.tmp d) = v := by
  simp [Act.put, Act.eval, Array.getD_eq_getD_getElem?, Array.getElem?_setIfInBounds_self_of_lt h]
theorem put_size' {d : Tmp} {v : Value} : (a.put (some d) v).tmps.size = a.tmps.size := by simp [Act.put]
theorem put_get_ne {t d : Tmp} {v : Value} (h : t ≠ d) : (a.put (some d) v).tmps[t]? = a.tmps[t]? := by simp [Act.put, Array.getElem?_setIfInBounds_ne (fun e => h e.symm)]
theorem put_get_self {d : Tmp} {v : Value} (h : d < a.tmps.size) : (a.put (some d) v).tmps[d]? = some v := by simp [Act.put, Array.getElem?_setIfInBounds_self_of_lt h]
theorem put_defers' {d : Option Tmp} {v : Value} : (a.put d v).defers = a.defers := by cases d <;> rfl
end Eng
end

noncomputable section
namespace Eng
open Go Go.RowKit
variable {P : Program} {C C' : Cfg} {σ σ2 : Sig} {ρ ρ' : Rho} {b : Frame} {a : Act} {w : World}

/-- what a piece leaves that changes no block: its heap, slots, marks, and a slot of the last region -/
def sumT (ks : List Nat) (t : Nat) (r : OR) : Option (H × List (Option AV) × List Nat × Option AV) := match r with
  | some (.code .norm fr' h') => some (h', ks.map (fun k => T.get fr'.pt k), fr'.marks, fr'.tl.find t)
  | _ => none
theorem AtS.test {n0 : Nat} {X : Ctx} {fi : FI} {c : Code} {L : List (Nat × AV)} {l : List (Nat × Blk)} {n t : Nat} {ks : List Nat} {vs : List AV} {tv : Option AV} {Z : Nat → Prop} {F : List (Nat × Nat × Nat)}
    (hk : sumT ks t (eval C' n0 X (.code c (frOf L)) (heapOf l n)) = some (heapOf l n, vs.map some, [], tv)) (hfu : C'.fu = C.fu) (hc : CfgOK P C' σ) (hx : ExtOK C' P σ) (hf : C.fu X.fn = some fi) (hnt : fi.nt = X.nt) (hnl : fi.nl = X.nl) (hn : X.round = none)
    (hs : AtS C X.nt X.nl Z F l n L σ a w) :
    WB P (bare X.fn) c (fun e a' w' => e = .normal ∧ AtS C X.nt X.nl Z F l n (ks.zip vs) σ a' w' ∧ Stays Z w w' ∧ ∀ v, tv = some v → X.nl ≤ t → ∃ (ρ : Rho) (x : Value), a'.tmps[t]? = some x ∧ AVR ρ σ v x) a w := by
  unfold sumT at hk
  split at hk
  · rename_i fr' h' he
    simp only [Option.some.injEq, Prod.mk.injEq] at hk
    obtain ⟨e1, e2, e3, e4⟩ := hk
    subst e1
    obtain ⟨hb, ρ, hr, hfr, hz, hFF⟩ := hs
    have hr' := hr.cfg hfu.symm
    refine WB.code he hc hx (ctx_bare (by rw [hfu]; exact hf) hnt hnl hn ρ) hn hr' hfr fun a' w' ρ' g1 g2 g3 => ?_
    have hnew : ∀ b r S, ρ' b = some (r, S) → ρ b = some (r, S) := fun b r S hb' => by rw [g3.old b (g2.lt b r S hb')] at hb'; exact hb'
    refine ⟨rfl, ⟨fun r hr' => Nat.lt_of_lt_of_le (hb r hr') g3.size, ρ', g2.cfg hfu, ⟨g1.size, ?_, ?_, ?_⟩, fun b r S hb' => hz b r S (hnew b r S hb'), fun p hp => by rw [g3.old p.1 (hr.lt _ _ _ (hFF p hp))]; exact hFF p hp⟩,
      ⟨g3.size, fun r hr' => g3.frame r (hb r hr') fun b S hb' hl => hz b r S hb' hl hr', g3.os, g3.tape, g3.output, g3.fz⟩, ?_⟩
    · intro t v ht hg
      have hm := tableOf_mem (show (tableOf (ks.zip vs)).get t = some v from hg)
      exact g1.pt t v ht (zip_mem e2 hm).1
    · intro t v _ hg; cases hg
    · have := g1.marks
      rw [e3] at this
      exact this
    · intro v hv ht
      obtain ⟨x, h1, h2⟩ := g1.tl t v ht (by rw [← hv]; exact e4)
      exact ⟨ρ', x, h1, h2⟩
  · cases hk
theorem AtS.get {nt nl : Nat} {L : List (Nat × AV)} {l : List (Nat × Blk)} {n : Nat} {Z : Nat → Prop} {F : List (Nat × Nat × Nat)} (hs : AtS C nt nl Z F l n L σ a w) {t : Nat} {v : AV} (hg : (tableOf L).get t = some v) (ht : t < nl) :
    ∃ (ρ : Rho) (x : Value), a.tmps[t]? = some x ∧ AVR ρ σ v x ∧ ∀ p ∈ F, ρ p.1 = some p.2 := by
  obtain ⟨_, ρ, _, hfr, _, hFF⟩ := hs
  obtain ⟨x, h1, h2⟩ := hfr.pt t v ht hg
  exact ⟨ρ, x, h1, h2, hFF⟩
theorem AtS.size {nt nl : Nat} {L : List (Nat × AV)} {l : List (Nat × Blk)} {n : Nat} {Z : Nat → Prop} {F : List (Nat × Nat × Nat)} (hs : AtS C nt nl Z F l n L σ a w) : nt ≤ a.tmps.size := by
  obtain ⟨_, ρ, _, hfr, _, _⟩ := hs
  exact hfr.size
theorem AtS.defers {nt nl : Nat} {L : List (Nat × AV)} {l : List (Nat × Blk)} {n : Nat} {Z : Nat → Prop} {F : List (Nat × Nat × Nat)} (hs : AtS C nt nl Z F l n L σ a w) : a.defers = [] := by
  obtain ⟨_, ρ, _, hfr, _, _⟩ := hs
  have := hfr.marks
  show a.defers = []
  generalize a.defers = d at this ⊢
  have h : F2 (markR ρ) [] d := this
  cases h
  rfl
/-- a function's beginning, of a slice whose block is named 0 -/
theorem AtS.init {nt nl r off ln cp : Nat} (h0 : a.tmps[0]? = some (.slice (some ⟨r, off, none⟩) ln cp)) (hr : r < w.heap.size) (hsz : nt ≤ a.tmps.size) (hd : a.defers = []) :
    AtS C nt nl (fun x => x < w.heap.size) [(0, (r, 0))] [(0, .dead)] 1 [(0, .one (.slice 0 off ln cp))] σ a w := by
  have hsome : ∀ b x S, (fun b => if b = 0 then some (r, 0) else none : Rho) b = some (x, S) → b = 0 ∧ x = r := by
    intro b x S h
    by_cases e : b = 0
    · simp only [e, if_true, Option.some.injEq, Prod.mk.injEq] at h; exact ⟨e, h.1.symm⟩
    · simp [e] at h
  have hget : ∀ b x, (heapOf [(0, Blk.dead)] 1).get b = some x → x = .dead := by
    intro b x h
    have := heapOf_get h
    simp only [List.mem_singleton, Prod.mk.injEq] at this
    exact this.2
  refine ⟨fun _ h => h, fun b => if b = 0 then some (r, 0) else none, ⟨?_, ?_, ?_⟩, ⟨hsz, ?_, ?_, ?_⟩, ?_, ?_⟩
  · intro b x S h; obtain ⟨e, _⟩ := hsome b x S h; show b < 1; omega
  · intro b x S h
    obtain ⟨_, e⟩ := hsome b x S h
    subst e
    exact ⟨_, Array.getElem?_eq_getElem hr, fun y hy => by rw [hget b y hy]; trivial⟩
  · intro b b' x S S' _ _ ⟨y, hy, hyd⟩
    exact absurd (hget b y hy) hyd
  · intro t v _ hg
    have := tableOf_mem (show (tableOf [(0, AV.one (.slice 0 off ln cp))]).get t = some v from hg)
    simp only [List.mem_singleton, Prod.mk.injEq] at this
    obtain ⟨rfl, rfl⟩ := this
    exact ⟨_, h0, ⟨r, 0, rfl, rfl⟩⟩
  · intro t v _ hg; cases hg
  · rw [hd]; exact .nil
  · intro b x S _ ⟨y, hy, hyd⟩
    exact absurd (hget b y hy) hyd
  · intro p hp
    simp only [List.mem_singleton] at hp
    subst hp
    rfl
theorem Stays.push {Z : Nat → Prop} (hz : ∀ r, Z r → r < w.heap.size) (vs : Array Value) (t : TypeId) : Stays Z w (Eng.push w (.cells vs t (0, 0))) :=
  ⟨by show w.heap.size ≤ (w.heap.push _).size; simp, fun r hr => push_get_lt w _ (hz r hr), rfl, rfl, rfl, frozen_push w (by intro cs e lo hi h; cases h; exact Nat.le_refl _)⟩
end Eng
end
