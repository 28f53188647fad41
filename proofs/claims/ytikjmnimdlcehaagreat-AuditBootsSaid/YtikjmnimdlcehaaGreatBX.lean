/- A call from a heap of one block: what it comes to is written down. No conditions beside those in its theorems. -/
import Derived.Test.YtikjmnimdlcehaaGreatE12
set_option linter.unusedVariables false
noncomputable section
namespace Eng
open Go Go.RowKit
variable {P : Program} {C C' : Cfg} {σ σ1 σ2 : Sig} {ρ ρ' : Rho}

/- a call from a heap of one block: what it comes to is written down -/
def oneBlk (h : H) : Option Blk := match h.1 with
  | .node (some x) .nil .nil => bif Nat.beq h.2 1 then some x else none
  | _ => none
theorem oneBlk_eq {h : H} {x : Blk} (he : oneBlk h = some x) : h = ⟨.node (some x) .nil .nil, 1⟩ := by
  obtain ⟨t, n⟩ := h
  unfold oneBlk at he
  split at he
  · rename_i y ht
    have ht : t = .node (some y) .nil .nil := ht
    cases hb : Nat.beq n 1 with
    | false => rw [show (⟨t, n⟩ : H).2 = n from rfl, hb] at he; cases he
    | true =>
      rw [show (⟨t, n⟩ : H).2 = n from rfl, hb] at he
      have := Option.some.inj he
      subst this
      rw [ht, beq_eq hb]
  · cases he
def withBox (l : List (Nat × Blk)) (n : Nat) (x : Blk) : H := ⟨T.set (heapOf l n).1 0 x, n⟩
def extBox (f0 : FuncId) (args0 : List AV) (v : AV) (l : List (Nat × Blk)) (n : Nat) (ext : FuncId → List AV → H → Option (AV × H)) : FuncId → List AV → H → Option (AV × H) :=
  fun f args h => @Bool.rec (fun _ => Option (AV × H)) (ext f args h) (@Option.rec Blk (fun _ => Option (AV × H)) (ext f args h) (fun x => some (v, withBox l n x)) (oneBlk h)) (Nat.beq f f0 && listEqb AV.eqb args args0)
def resFits (g : Nat → Nat) (ft : FitF) (a b : AV) : Bool := match a, b with
  | .tup l, .tup m => listEqb (VfitsX g ft) l m
  | a, b => AVfitsX g ft a b
theorem F2.fitsXV {g : Nat → Nat} {k : Nat → Bool} {ft : FitF} (hs : FitOK σ σ2 ft) : ∀ {l m : List V} {vs : List Value}, listEqb (VfitsX g ft) l m = true → m.all (V.within k) = true → F2 (VR ρ σ) l vs → F2 (VR (Ren ρ g k) σ2) m vs := by
  intro l
  induction l with
  | nil => intro m vs hl _ h; cases m with | nil => cases h; exact .nil | cons => cases hl
  | cons a l ih =>
    intro m vs hl hw h
    cases m with
    | nil => cases hl
    | cons b m =>
      have hl' := listEqb_cons hl
      simp only [List.all_cons, Bool.and_eq_true] at hw
      cases h with
      | cons h1 h2 => exact .cons (VfitsX_ok hs hl'.1 hw.1 h1) (ih hl'.2 hw.2 h2)
theorem resFits_ok {g : Nat → Nat} {k : Nat → Bool} {ft : FitF} (hs : FitOK σ σ2 ft) {a b : AV} {v : Value} (hf : resFits g ft a b = true) (hw : b.within k = true) (h : AVR ρ σ a v) : AVR (Ren ρ g k) σ2 b v := by
  cases a with
  | tup l => cases b with
    | tup m => obtain ⟨vs, h1, h2⟩ := h; exact ⟨vs, h1, F2.fitsXV hs hf hw h2⟩
    | one b => cases hf
    | agg m => cases hf
  | one a => exact AVfitsX_ok hs hf hw h
  | agg l => exact AVfitsX_ok hs hf hw h
theorem get_node0 {x : Blk} {b : Nat} {y : Blk} (h : H.get ⟨.node (some x) .nil .nil, 1⟩ b = some y) : b = 0 ∧ y = x := by
  cases b with
  | zero => exact ⟨rfl, (Option.some.inj h).symm⟩
  | succ m =>
    exfalso
    have h' : @Bool.rec (fun _ => Option Blk) (T.get T.nil (Nat.div m 2)) (T.get T.nil (Nat.div m 2)) (Nat.beq (Nat.mod m 2) 0) = some y := h
    cases hb : Nat.beq (Nat.mod m 2) 0 <;> rw [hb] at h' <;> cases h'
theorem ExtS.box {f0 : FuncId} {args0 : List AV} {v : AV} {l : List (Nat × Blk)} {n : Nat} {ext : FuncId → List AV → H → Option (AV × H)} (h0 : ExtS P σ C ext) {g : Nat → Nat} (hgi : ∀ b b', g b = g b' → b = b') {v1 : AV} {h1 : H}
    (hv : resFits g fitSame v1 v = true) (hl : allFitsX g fitSame h1 l l = true) (hcl : closedL l n = true) (hvw : v.within (hasKey l) = true) (hk0 : hasKey l 0 = false) (hn : Nat.ble 1 n = true)
    (hr : ∀ ρ w vs, Rel ρ σ C ⟨.nil, 0⟩ w → F2 (AVR ρ σ) args0 vs → ∃ v' w' ρ', CallR P f0 vs.toArray w v' w' ∧ AVR ρ' σ v1 v' ∧ Rel ρ' σ C h1 w' ∧ Ext ρ ρ' ⟨.nil, 0⟩ h1 w w')
    (hp : ∀ ρ ρ' (vs : List Value), F2 (AVR ρ σ) args0 vs → F2 (AVR ρ' σ) args0 vs) : ExtS P σ C (extBox f0 args0 v l n ext) := by
  intro f args h u h' hk ρ w vs hrel ha
  unfold extBox at hk
  cases hb : (Nat.beq f f0 && listEqb AV.eqb args args0) with
  | false => rw [hb] at hk; exact h0 f args h u h' hk ρ w vs hrel ha
  | true =>
    rw [hb] at hk
    cases ho : oneBlk h with
    | none => rw [ho] at hk; exact h0 f args h u h' hk ρ w vs hrel ha
    | some x =>
      rw [ho] at hk
      simp only [Bool.and_eq_true] at hb
      have e1 := beq_eq hb.1
      subst e1
      have e2 := argsEqb_eq hb.2
      subst e2
      have e3 := oneBlk_eq ho
      subst e3
      cases hk
      obtain ⟨v', w', ρ', g1, g2, g3, g4⟩ := hr rho0 w vs (rel0 w) (hp _ _ _ ha)
      have hR := g3.moveX hgi (fitSame_ok σ) hl hcl
      have hV := resFits_ok (k := hasKey l) (fitSame_ok σ) hv hvw g2
      have fresh : ∀ b r S, Ren ρ' g (hasKey l) b = some (r, S) → w.heap.size ≤ r := by
        intro b r S hb'
        obtain ⟨_, hb2⟩ := Ren_some hb'
        rcases g4.new _ r S (Nat.zero_le _) hb2 with e | ⟨b0, S0, e, _⟩
        · exact e
        · cases e
      have hz : Ren ρ' g (hasKey l) 0 = none := by
        cases hq : Ren ρ' g (hasKey l) 0 with
        | none => rfl
        | some y => obtain ⟨hk, _⟩ := Ren_some hq; rw [hk0] at hk; cases hk
      let ρ2 : Rho := fun b => if b = 0 then ρ 0 else Ren ρ' g (hasKey l) b
      have z2 : ρ2 0 = ρ 0 := if_pos rfl
      have n2 : ∀ b, b ≠ 0 → ρ2 b = Ren ρ' g (hasKey l) b := fun b hb => if_neg hb
      have s1 : Sub ρ ρ2 := by
        intro b y hb
        have : b < 1 := hrel.lt b y.1 y.2 hb
        have e : b = 0 := by omega
        subst e
        rw [z2]; exact hb
      have s2 : Sub (Ren ρ' g (hasKey l)) ρ2 := by
        intro b y hb
        have : b ≠ 0 := by rintro rfl; rw [hz] at hb; cases hb
        rw [n2 b this]; exact hb
      have low : ∀ r S, ρ 0 = some (r, S) → r < w.heap.size := fun r S hb => hrel.lt_size hb
      have frame : ∀ r, r < w.heap.size → w'.heap[r]? = w.heap[r]? := fun r hr => g4.frame r hr fun b S hb => by cases hb
      have getm : ∀ b y, (withBox l n x).get b = some y → (b = 0 ∧ y = x) ∨ (b ≠ 0 ∧ (heapOf l n).get b = some y) := fun b y hy => T.get_set hy
      refine ⟨v', w', ρ2, g1, hV.mono s2, ⟨?_, ?_, ?_⟩, ⟨?_, ?_, ?_, g4.size, ?_, fun r hr _ => frame r hr, g4.os, g4.tape, g4.output, g4.fz⟩⟩
      · intro b r S hb
        by_cases e : b = 0
        · subst e; exact ble_le hn
        · rw [n2 b e] at hb; exact hR.lt b r S hb
      · intro b r S hb
        by_cases e : b = 0
        · subst e
          rw [z2] at hb
          obtain ⟨o, ho1, ho2⟩ := hrel.blk 0 r S hb
          refine ⟨o, (frame r (low r S hb)).trans ho1, fun y hy => ?_⟩
          rcases getm 0 y hy with ⟨_, e2⟩ | ⟨e2, _⟩
          · subst e2; exact (ho2 _ rfl).mono s1
          · exact absurd rfl e2
        · rw [n2 b e] at hb
          obtain ⟨o, ho1, ho2⟩ := hR.blk b r S hb
          refine ⟨o, ho1, fun y hy => ?_⟩
          rcases getm b y hy with ⟨e2, _⟩ | ⟨_, e2⟩
          · exact absurd e2 e
          · exact (ho2 y e2).mono s2
      · intro b b' r S S' hb hb' hlb hlb'
        by_cases e : b = 0 <;> by_cases e' : b' = 0
        · exact .inl (e.trans e'.symm)
        · subst e
          rw [z2] at hb; rw [n2 b' e'] at hb'
          have := low r S hb
          have := fresh b' r S' hb'
          omega
        · subst e'
          rw [z2] at hb'; rw [n2 b e] at hb
          have := low r S' hb'
          have := fresh b r S hb
          omega
        · rw [n2 b e] at hb; rw [n2 b' e'] at hb'
          have live : ∀ c, c ≠ 0 → Live (withBox l n x) c → Live (heapOf l n) c := by
            intro c hc ⟨y, hy, hd⟩
            rcases getm c y hy with ⟨e2, _⟩ | ⟨_, e2⟩
            · exact absurd e2 hc
            · exact ⟨y, e2, hd⟩
          rcases hR.inj b b' r S S' hb hb' (live b e hlb) (live b' e' hlb') with q | ⟨c, k, f', q⟩
          · exact .inl q
          · obtain ⟨y, hy, hd⟩ := hlb
            rcases getm b y hy with ⟨e2, _⟩ | ⟨_, e2⟩
            · exact absurd e2 e
            · rw [q] at e2; cases e2
              exact .inr ⟨c, k, f', hy⟩
      · exact ble_le hn
      · intro b hb
        have hb : b < 1 := hb
        have e : b = 0 := by omega
        subst e; exact z2
      · intro b r S hb hb2
        have hb : 1 ≤ b := hb
        rw [n2 b (by omega)] at hb2
        exact .inl (fresh b r S hb2)
      · intro b hb hl'
        have hb : b < 1 := hb
        have e : b = 0 := by omega
        subst e
        obtain ⟨y, hy, hd⟩ := hl'
        rcases getm 0 y hy with ⟨_, e2⟩ | ⟨e2, _⟩
        · subst e2; exact ⟨y, rfl, hd⟩
        · exact absurd rfl e2
end Eng
