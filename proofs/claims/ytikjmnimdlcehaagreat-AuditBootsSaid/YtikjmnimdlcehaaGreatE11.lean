/- The engine, part 11: the words of a frame, and a function evaluated in two parts. No conditions beside those in its theorems. -/
import Derived.Test.YtikjmnimdlcehaaGreatE10
set_option linter.unusedVariables false
noncomputable section
namespace Eng
open Go Go.RowKit
variable {P : Program} {B C : Cfg} {σ σ0 : Sig} {ρ ρ' : Rho}

/-- the map and a new number of a block that the world has got -/
theorem Rel.newIn {h : H} {w w' : World} (hr : Rel ρ σ C h w') (hsz : ∀ b r S, ρ b = some (r, S) → r < w.heap.size) {r0 m : Nat} {x : Blk} {o : Obj} (hge : w.heap.size ≤ r0) (ho : w'.heap[r0]? = some o) (hx : BR (upd ρ h.next (r0, m)) σ C x o m) :
    Rel (upd ρ h.next (r0, m)) σ C (h.new x) w' := by
  have hn : ρ h.next = none := hr.absent (Nat.le_refl _)
  have hsub : Sub ρ (upd ρ h.next (r0, m)) := by
    intro b y hb
    rw [upd_ne ρ _ (by intro e; subst e; rw [hn] at hb; cases hb)]
    exact hb
  refine ⟨?_, ?_, ?_⟩
  · intro b r S hb
    show b < h.next + 1
    by_cases e : b = h.next
    · omega
    · rw [upd_ne ρ _ e] at hb
      have := hr.lt b r S hb
      omega
  · intro b r S hb
    by_cases e : b = h.next
    · subst e
      rw [upd_self] at hb
      cases hb
      refine ⟨o, ho, fun y hy => ?_⟩
      rcases H.get_put (h := h) (show (h.put h.next x).get h.next = some y from hy) with ⟨_, e2⟩ | ⟨e2, _⟩
      · subst e2; exact hx
      · exact absurd rfl e2
    · rw [upd_ne ρ _ e] at hb
      obtain ⟨o', ho', hy⟩ := hr.blk b r S hb
      refine ⟨o', ho', fun y hg => ?_⟩
      rcases H.get_put (h := h) (show (h.put h.next x).get b = some y from hg) with ⟨e2, _⟩ | ⟨_, e2⟩
      · exact absurd e2 e
      · exact (hy y e2).mono hsub
  · intro b b' r S S' hb hb' hl hl'
    by_cases e : b = h.next
    · by_cases e' : b' = h.next
      · exact .inl (e.trans e'.symm)
      · subst e
        rw [upd_self] at hb; rw [upd_ne ρ _ e'] at hb'
        cases hb
        have := hsz b' _ _ hb'
        omega
    · by_cases e' : b' = h.next
      · subst e'
        rw [upd_self] at hb'; rw [upd_ne ρ _ e] at hb
        cases hb'
        have := hsz b _ _ hb
        omega
      · rw [upd_ne ρ _ e] at hb; rw [upd_ne ρ _ e'] at hb'
        have back : ∀ c, c ≠ h.next → Live (h.new x) c → Live h c := by
          intro c hc ⟨y, hy, hyd⟩
          rcases H.get_put (h := h) (show (h.put h.next x).get c = some y from hy) with ⟨e2, _⟩ | ⟨_, e2⟩
          · exact absurd e2 hc
          · exact ⟨y, e2, hyd⟩
        rcases hr.inj b b' r S S' hb hb' (back b e hl) (back b' e' hl') with h1 | ⟨c, n, f, h1⟩
        · exact .inl h1
        · right
          refine ⟨c, n, f, ?_⟩
          obtain ⟨y, hy, _⟩ := hl
          rcases H.get_put (h := h) (show (h.put h.next x).get b = some y from hy) with ⟨e2, _⟩ | ⟨_, e2⟩
          · exact absurd e2 e
          · rw [e2] at h1; cases h1; exact hy
/-- a call that makes a block of some of the words -/
theorem memCallW {n0 : Nat} {X : Ctx} {F n f fr base m bw : Nat} {hl : H} {cl cw : T A} (k1 : eval B n0 X (.call f [.one (.ptr 0 0), .one (.int .i64 (Int.ofNat fr))]) (memH F n) = some (.val (.tup [.one (.slice bw 0 m m), .one (.int .i64 0)]) hl))
    (k2 : hl.get 0 = some (memB F)) (k3 : hl.get 1 = some (.cells cl n true none)) (k4 : ∀ j, j < n → T.get cl j = some (.sym .u64 (.var j))) (k5 : hl.get bw = some (.cells cw m true none)) (k6 : ∀ j, j < m → T.get cw j = some (.sym .u64 (.var (base + j)))) (hb2 : 2 ≤ bw) (hbase : base + m ≤ n)
    (hc : ∀ σ, CfgOK P B σ) (hx : ∀ σ, ExtOK B P σ) {h : H} {w : World} {mb bm rm Sm : Nat} {cm c : T A} {sp : List (E × A)} (hr : Rel ρ σ C h w) (hρm : ρ mb = some (rm, Sm)) (hm : h.get mb = some (.cells cm 1 true none)) (hcm : T.get cm 0 = some (.slice bm 0 F F)) (hv : h.get bm = some (.vm c n sp))
    {ws : T A} (hws : ∀ j a, j < m → T.get ws j = some a → vmAt σ c sp (base + j) = some a) :
    ∃ v' w' ρ', CallR P f #[Value.pointer (some ⟨rm, 0, none⟩), .int .i64 (Int.ofNat fr)] w v' w' ∧ AVR ρ' σ (.tup [.one (.slice h.next 0 m m), .one (.int .i64 0)]) v' ∧
      Rel ρ' σ C ((h.put bm (.vm c n sp)).new (.cells ws m true none)) w' ∧ Ext ρ ρ' h ((h.put bm (.vm c n sp)).new (.cells ws m true none)) w w' := by
  obtain ⟨om, hom, hbm⟩ := hr.blk mb rm Sm hρm
  obtain ⟨csm, em, rfl, h3, h4, h5, h6⟩ := hbm _ hm
  have hSm : 1 = Sm := h5 rfl
  subst hSm
  obtain ⟨v0, hv0, rf, S, hρb, rfl⟩ := h6 0 _ (by decide) hcm
  obtain ⟨of, hof, hbf⟩ := hr.blk bm rf S hρb
  obtain ⟨cs, e, rfl, g1, g2, g3, g4⟩ := hbf _ hv
  subst g2
  have live1 : Live h mb := ⟨_, hm, by simp⟩
  have live2 : Live h bm := ⟨_, hv, by simp⟩
  have onlym : ∀ b S, ρ b = some (rm, S) → Live h b → b = mb := by
    intro b S hb hl
    rcases hr.inj mb b rm 1 S hρm hb live1 hl with e | ⟨c', n', f', e⟩
    · exact e.symm
    · rw [hm] at e; cases e
  have onlyf : ∀ b S, ρ b = some (rf, S) → Live h b → b = bm := by
    intro b S hb hl
    rcases hr.inj bm b rf n S hρb hb live2 hl with e | ⟨c', n', f', e⟩
    · exact e.symm
    · rw [hv] at e; cases e
  have hne : rm ≠ rf := by
    intro e
    subst e
    have := onlym bm n hρb live2
    subst this
    rw [hm] at hv
    cases hv
  have hbm' : mb ≠ bm := by
    intro e
    subst e
    rw [hm] at hv
    cases hv
  obtain ⟨σ0, hσ, _⟩ := pick_sig g3 0
  obtain ⟨ρ0, hρ0⟩ : ∃ r : Rho, r = fun b => if b = 0 then some (rm, 1) else if b = 1 then some (rf, n) else none := ⟨_, rfl⟩
  have z0 : ρ0 0 = some (rm, 1) := by rw [hρ0]; rfl
  have z1 : ρ0 1 = some (rf, n) := by rw [hρ0]; rfl
  have zz : ∀ b r S, ρ0 b = some (r, S) → (b = 0 ∧ r = rm ∧ S = 1) ∨ (b = 1 ∧ r = rf ∧ S = n) := by
    intro b r S hb
    rw [hρ0] at hb
    by_cases e0 : b = 0
    · subst e0
      have h' : some (rm, 1) = some (r, S) := hb
      cases h'
      exact .inl ⟨rfl, rfl, rfl⟩
    · by_cases e1 : b = 1
      · subst e1
        have h' : some (rf, n) = some (r, S) := hb
        cases h'
        exact .inr ⟨rfl, rfl, rfl⟩
      · simp [e0, e1] at hb
  have hrel : Rel ρ0 σ0 B (memH F n) w := by
    refine ⟨?_, ?_, ?_⟩
    · intro b r S hb
      rcases zz b r S hb with ⟨e, _⟩ | ⟨e, _⟩
      · subst e; show 0 < 2; omega
      · subst e; show 1 < 2; omega
    · intro b r S hb
      rcases zz b r S hb with ⟨rfl, rfl, rfl⟩ | ⟨rfl, rfl, rfl⟩
      · refine ⟨_, hom, fun x hgx => ?_⟩
        rcases get_two hgx with ⟨_, rfl⟩ | ⟨e, _⟩
        · refine ⟨csm, em, rfl, h3, h4, fun _ => rfl, fun i a hi hg => ?_⟩
          have := T.get_ofList hg
          obtain rfl : i = 0 := by omega
          cases this
          exact ⟨_, hv0, rf, n, z1, rfl⟩
        · omega
      · refine ⟨_, hof, fun x hgx => ?_⟩
        rcases get_two hgx with ⟨e, _⟩ | ⟨_, rfl⟩
        · omega
        · refine ⟨cs, e, rfl, g1, Nat.le_refl _, fun _ => rfl, fun i a hi hg => ?_⟩
          obtain ⟨hin, rfl⟩ := memSym_get (T.get_ofList hg)
          exact ⟨_, hσ i hin, rfl⟩
    · intro b b' r S S' hb hb' _ _
      rcases zz b r S hb with ⟨e1, e2, _⟩ | ⟨e1, e2, _⟩ <;> rcases zz b' r S' hb' with ⟨f1, f2, _⟩ | ⟨f1, f2, _⟩
      · exact .inl (e1.trans f1.symm)
      · exact absurd (e2.symm.trans f2) hne
      · exact absurd (f2.symm.trans e2) hne
      · exact .inl (e1.trans f1.symm)
  obtain ⟨v', w', ρl, q1, q2, q3, q4⟩ := (eval_ok (hc σ0) (hx σ0) n0).2.call X f _ (memH F n) _ hl k1 ρ0 w [.pointer (some ⟨rm, 0, none⟩), .int .i64 (Int.ofNat fr)] hrel (.cons (show AVR ρ0 σ0 (.one (.ptr 0 0)) (.pointer (some ⟨rm, 0, none⟩)) from ⟨rm, 1, z0, rfl⟩) (.cons rfl .nil))
  have l0 : ρl 0 = some (rm, 1) := by rw [q4.old 0 (show 0 < 2 by omega)]; exact z0
  have l1 : ρl 1 = some (rf, n) := by rw [q4.old 1 (show 1 < 2 by omega)]; exact z1
  obtain ⟨o1, ho1, hx1⟩ := q3.blk 0 rm 1 l0
  obtain ⟨csm', em', rfl, i1, i2, _, i3⟩ := hx1 _ k2
  obtain ⟨v1, hv1, r1, S1, e1, rfl⟩ := i3 0 (.slice 1 0 F F) (by decide) rfl
  rw [l1] at e1
  cases e1
  obtain ⟨o2, ho2, hx2⟩ := q3.blk 1 rf n l1
  obtain ⟨cs', e', rfl, j1, j2, _, j3⟩ := hx2 _ k3
  have same : ∀ j, j < n → cs'[j]? = cs[j]? := by
    intro j hj
    obtain ⟨x, hx1, hx2⟩ := j3 j _ hj (k4 j hj)
    rw [hx1, hσ j hj]
    exact congrArg some hx2
  have u1 : ∀ i, i < n → ∃ z, cs'[i]? = some (.int .u64 z) := fun i hi => by rw [same i hi]; exact g3 i hi
  have u2 : VmR ρ σ c sp cs' := by
    intro i a hi hg
    rw [j1] at hi
    rw [same i hi]
    exact g4 i a (by rw [g1]; exact hi) hg
  have keep : ∀ r, r < w.heap.size → r ≠ rm → r ≠ rf → w'.heap[r]? = w.heap[r]? := by
    intro r hr' n1 n2
    refine q4.frame r hr' fun b S hb _ => ?_
    rcases zz b r S hb with ⟨_, e, _⟩ | ⟨_, e, _⟩
    · exact n1 e
    · exact n2 e
  have back : ∀ b, Live (h.put bm (.vm c n sp)) b → Live h b := by
    intro b ⟨y, hy, hyd⟩
    rcases H.get_put hy with ⟨e, _⟩ | ⟨_, e⟩
    · subst e; exact live2
    · exact ⟨y, e, hyd⟩
  have key : Rel ρ σ C (h.put bm (.vm c n sp)) w' ∧ Ext ρ ρ h (h.put bm (.vm c n sp)) w w' := by
    refine ⟨⟨hr.lt, ?_, ?_⟩, ⟨Nat.le_refl _, fun _ _ => rfl, fun b r S hb he => (by rw [hr.absent hb] at he; cases he), q4.size, fun b _ => back b, ?_, q4.os, q4.tape, q4.output, q4.fz⟩⟩
    · intro b r S hb
      by_cases er : r = rf
      · subst er
        refine ⟨_, ho2, fun x hgx => ?_⟩
        rcases H.get_put hgx with ⟨e, e2⟩ | ⟨e, e2⟩
        · subst e; subst e2
          rw [hρb] at hb
          cases hb
          exact ⟨cs', e', rfl, j1, rfl, u1, u2⟩
        · by_cases hd : x = .dead
          · subst hd; trivial
          · exact absurd (onlyf b S hb ⟨x, e2, hd⟩) e
      · by_cases em2 : r = rm
        · subst em2
          refine ⟨_, ho1, fun x hgx => ?_⟩
          rcases H.get_put hgx with ⟨e, e2⟩ | ⟨e, e2⟩
          · subst e
            rw [hρb] at hb
            cases hb
            exact absurd rfl er
          · by_cases hd : x = .dead
            · subst hd; trivial
            · have := onlym b S hb ⟨x, e2, hd⟩
              subst this
              rw [hm] at e2
              cases e2
              rw [hρm] at hb
              cases hb
              refine ⟨csm', em', rfl, i1, i2, fun _ => rfl, fun i a hi hg => ?_⟩
              obtain rfl : i = 0 := by omega
              rw [hcm] at hg
              cases hg
              exact ⟨_, hv1, rf, n, hρb, rfl⟩
        · obtain ⟨o, ho, hx⟩ := hr.blk b r S hb
          have hlt : r < w.heap.size := (Array.getElem?_eq_some_iff.1 ho).1
          refine ⟨o, by rw [keep r hlt em2 er]; exact ho, fun x hgx => ?_⟩
          rcases H.get_put hgx with ⟨e, _⟩ | ⟨_, e2⟩
          · subst e
            rw [hρb] at hb
            cases hb
            exact absurd rfl er
          · exact hx x e2
    · intro b b' r S S' hb hb' hl hl'
      rcases hr.inj b b' r S S' hb hb' (back b hl) (back b' hl') with e | ⟨c', n', f', e⟩
      · exact .inl e
      · right
        obtain ⟨y, hy, hyd⟩ := hl
        rcases H.get_put hy with ⟨e1, _⟩ | ⟨_, e1⟩
        · subst e1; rw [hv] at e; cases e
        · rw [e1] at e
          cases e
          exact ⟨c', n', f', hy⟩
    · intro r hr' hno
      refine keep r hr' ?_ ?_
      · intro e; subst e; exact hno mb 1 hρm live1
      · intro e; subst e; exact hno bm n hρb live2
  -- the new block
  obtain ⟨xs, rfl, hxs⟩ := q2
  cases hxs with
  | cons ha hxs =>
  cases hxs with
  | cons hb hxs =>
  cases hxs
  obtain ⟨r0, S0, hρw, rfl⟩ := ha
  obtain ⟨o5, ho5, hx5⟩ := q3.blk bw r0 S0 hρw
  obtain ⟨cw', e5, rfl, y1, y2, y3, y4⟩ := hx5 _ k5
  have hS : m = S0 := y3 rfl
  subst hS
  have hge : w.heap.size ≤ r0 := by
    rcases q4.new bw r0 m hb2 hρw with h1 | ⟨b0, S1, h1, h2⟩
    · exact h1
    · exfalso
      have hlt : b0 < 2 := hrel.lt b0 _ _ h1
      have h3 := q3.inj bw b0 r0 m S1 hρw (by rw [q4.old b0 hlt]; exact h1) ⟨_, k5, by simp⟩ (by
        rcases zz b0 _ _ h1 with ⟨e, _⟩ | ⟨e, _⟩
        · subst e; exact ⟨_, k2, by simp [memB]⟩
        · subst e; exact ⟨_, k3, by simp⟩)
      rcases h3 with h4 | ⟨_, _, _, h4⟩
      · omega
      · rw [k5] at h4; cases h4
  have hval : ∀ j, j < m → cw'[j]? = cs[base + j]? := by
    intro j hj
    obtain ⟨x, hx1, hx2⟩ := y4 j _ hj (k6 j hj)
    rw [hx1, hσ (base + j) (by omega)]
    exact congrArg some hx2
  have hsub : Sub ρ (upd ρ h.next (r0, m)) := key.1.sub_upd (r0, m)
  have hBR : BR (upd ρ h.next (r0, m)) σ C (.cells ws m true none) (.cells cw' e5 (0, 0)) m := by
    refine ⟨cw', e5, rfl, y1, Nat.le_refl _, fun _ => rfl, fun j a hj hg => ?_⟩
    obtain ⟨x, hx1, hx2⟩ := g4 (base + j) a (by rw [g1]; omega) (hws j a hj hg)
    exact ⟨x, by rw [hval j hj]; exact hx1, hx2.mono hsub⟩
  have hnew : Rel (upd ρ h.next (r0, m)) σ C ((h.put bm (.vm c n sp)).new (.cells ws m true none)) w' := key.1.newIn (w := w) (fun b r S hb => hr.lt_size hb) hge ho5 hBR
  refine ⟨_, w', _, q1, ⟨_, rfl, .cons ⟨r0, m, upd_self _ _ _, rfl⟩ (.cons hb .nil)⟩, hnew, ?_⟩
  have e2 := key.2
  refine ⟨Nat.le_trans e2.next (Nat.le_succ _), ?_, ?_, e2.size, ?_, e2.frame, e2.os, e2.tape, e2.output, e2.fz⟩
  · intro b hb
    rw [upd_ne ρ _ (by have : b < h.next := hb; show b ≠ h.next; omega)]
  · intro b r S hb he
    by_cases e : b = h.next
    · subst e; rw [upd_self] at he; cases he; exact .inl hge
    · rw [upd_ne ρ _ e] at he; exact e2.new b r S hb he
  · intro b hb ⟨y, hy, hyd⟩
    rcases H.get_put (h := h.put bm (.vm c n sp)) (show ((h.put bm (.vm c n sp)).put h.next _).get b = some y from hy) with ⟨e, _⟩ | ⟨_, e⟩
    · exact absurd hb (by rw [e]; exact Nat.lt_irrefl _)
    · exact e2.live b hb ⟨y, e, hyd⟩
end Eng
end

noncomputable section
namespace Eng
open Go Go.RowKit
variable {P : Program} {B C : Cfg} {σ σ0 : Sig} {ρ ρ' : Rho}

/- the words of a frame, in a new block -/
/-- what the call leaves: the memory as it was, a new block of the frame's words -/
def wordsRes (F fr : Nat) (r : OR) : Bool := match r with
  | some (.val (.tup [.one (.slice bw 0 8 8), .one (.int .i64 0)]) h') => hasBlk h' (0, memB F) && (Nat.ble 2 bw && ((match h'.get 1 with | some (.cells c m true none) => Nat.beq m (Nat.mul 8 F) && allBelow (fun j => optA (T.get c j) (some (.sym .u64 (.var j)))) (Nat.mul 8 F) | _ => false) && (match h'.get bw with | some (.cells c m true none) => Nat.beq m 8 && allBelow (fun j => optA (T.get c j) (some (.sym .u64 (.var (Nat.add (Nat.mul 8 fr) j))))) 8 | _ => false)))
  | _ => false
theorem wordsRes_some {F fr : Nat} {r : OR} (h : wordsRes F fr r = true) : ∃ bw h' cl cw, r = some (.val (.tup [.one (.slice bw 0 8 8), .one (.int .i64 0)]) h') ∧ h'.get 0 = some (memB F) ∧ 2 ≤ bw ∧ h'.get 1 = some (.cells cl (Nat.mul 8 F) true none) ∧ (∀ j, j < Nat.mul 8 F → T.get cl j = some (.sym .u64 (.var j))) ∧
    h'.get bw = some (.cells cw 8 true none) ∧ ∀ j, j < 8 → T.get cw j = some (.sym .u64 (.var (Nat.mul 8 fr + j))) := by
  unfold wordsRes at h
  split at h
  · rename_i bw h'
    simp only [Bool.and_eq_true] at h
    obtain ⟨h1, h2, h3, h4⟩ := h
    split at h3
    · rename_i cl m hg
      simp only [Bool.and_eq_true] at h3
      split at h4
      · rename_i cw m' hg'
        simp only [Bool.and_eq_true] at h4
        have e1 := beq_eq h3.1
        have e2 := beq_eq h4.1
        subst e1; subst e2
        exact ⟨bw, h', cl, cw, rfl, hasBlk_eq h1, ble_le h2, hg, fun j hj => optA_eq (allBelow_get h3.2 j hj), hg', fun j hj => optA_eq (allBelow_get h4.2 j hj)⟩
      · cases h4
    · cases h3
  · cases h
section
variable (norm : E → Option Int) (cmp : BinOp → E → E → Option Bool)
def wordO (c : T A) (sp : List (E × A)) (fr j : Nat) : Option A := wordAt norm cmp c sp (.lit (.ofNat (Nat.mul 8 (Nat.add (Nat.mul 8 fr) j)))) fr (some (Nat.add (Nat.mul 8 fr) j))
def wordsT (c : T A) (sp : List (E × A)) (fr n : Nat) : T A := @Nat.rec (fun _ => T A) .nil (fun j t => match wordO norm cmp c sp fr j with | some a => T.set t j a | none => t) n
def mWords (F : Nat) (h : H) (mb fr : Nat) : Option (AV × H) := match memOf F h mb with
  | some (bm, c, sp) => some (.tup [.one (.slice h.next 0 8 8), .one (.int .i64 0)], (h.put bm (.vm c (Nat.mul 8 F) sp)).new (.cells (wordsT norm cmp c sp fr 8) 8 true none))
  | none => none
def pArgW (args : List AV) : Option (Nat × Nat) := match args with | [.one (.ptr mb 0), .one (.int .i64 (.ofNat f))] => some (mb, f) | _ => none
def extW (W F : Nat) (frs : List Nat) (ext : FuncId → List AV → H → Option (AV × H)) (g : FuncId) (args : List AV) (h : H) : Option (AV × H) :=
  @Bool.rec (fun _ => Option (AV × H)) (ext g args h) (match pArgW args with | some p => @Bool.rec (fun _ => Option (AV × H)) none (mWords norm cmp F h p.1 p.2) (frs.any (Nat.beq p.2)) | none => none) (Nat.beq g W)
end
theorem pArgW_some {args : List AV} {mb f : Nat} (h : pArgW args = some (mb, f)) : args = [.one (.ptr mb 0), .one (.int .i64 (.ofNat f))] := by
  unfold pArgW at h
  split at h
  · cases h; rfl
  · cases h
theorem wordsT_get (hc : CfgOK P C σ) {c : T A} {sp : List (E × A)} {fr : Nat} (hfr : fr < 4096) : ∀ n, n ≤ 8 → ∀ {j : Nat} {a : A}, T.get (wordsT C.norm C.cmp c sp fr n) j = some a → vmAt σ c sp (Nat.mul 8 fr + j) = some a := by
  intro n
  induction n with
  | zero =>
    intro _ j a h
    have h' : T.get (.nil : T A) j = some a := h
    have e : T.get (.nil : T A) j = none := by cases j <;> rfl
    rw [e] at h'
    cases h'
  | succ n ih =>
    intro hn j a h
    have h' : T.get (match wordO C.norm C.cmp c sp fr n with | some a => T.set (wordsT C.norm C.cmp c sp fr n) n a | none => wordsT C.norm C.cmp c sp fr n) j = some a := h
    split at h'
    · rename_i b hb
      rcases T.get_set h' with ⟨e1, e2⟩ | ⟨_, e2⟩
      · subst e1; subst e2
        refine wordAt_ok hc hb (f := fr) (oi := some (Nat.add (Nat.mul 8 fr) j)) ?_ ?_ ?_ ?_
        · have : Nat.mul 8 fr = 8 * fr := rfl
          omega
        · show Int.ofNat (Nat.mul 8 (Nat.add (Nat.mul 8 fr) j)) = _
          have : Nat.mul 8 (Nat.add (Nat.mul 8 fr) j) = 8 * (8 * fr + j) := rfl
          have e2 : Nat.mul 8 fr = 8 * fr := rfl
          rw [this, e2]
          simp only [Int.ofNat_eq_natCast]
          omega
        · have e2 : Nat.mul 8 fr = 8 * fr := rfl
          rw [e2]
          omega
        · intro i' hi
          cases hi
          rfl
      · exact ih (by omega) e2
    · exact ih (by omega) h'
structure WordsOK (P : Program) (B : Cfg) (W F : Nat) (frs : List Nat) : Prop where
  cfg : ∀ σ, CfgOK P B σ
  ext : ∀ σ, ExtOK B P σ
  words : ∀ f, f ∈ frs → f < F ∧ f < 4096 ∧ wordsRes F f (eval B 300 ⟨0, 0, 0, none⟩ (.call W [.one (.ptr 0 0), .one (.int .i64 (Int.ofNat f))]) (memH F (Nat.mul 8 F))) = true
theorem ExtS.words {W F : Nat} {frs : List Nat} (ok : WordsOK P B W F frs) (hc : CfgOK P C σ) {ext : FuncId → List AV → H → Option (AV × H)} (h0 : ExtS P σ C ext) : ExtS P σ C (extW C.norm C.cmp W F frs ext) := by
  intro g args h v h' hk ρ w vs hr hvs
  unfold extW at hk
  cases hb : Nat.beq g W with
  | false =>
    rw [hb] at hk
    exact h0 g args h v h' hk ρ w vs hr hvs
  | true =>
    rw [hb] at hk
    have e := beq_eq hb
    subst e
    have hk1 : (match pArgW args with | some p => @Bool.rec (fun _ => Option (AV × H)) none (mWords C.norm C.cmp F h p.1 p.2) (frs.any (Nat.beq p.2)) | none => none) = some (v, h') := hk
    split at hk1
    · rename_i p hpa
      obtain ⟨mb, f⟩ := p
      have hargs := pArgW_some hpa
      subst hargs
      cases hz : frs.any (Nat.beq f) with
      | false => rw [hz] at hk1; cases hk1
      | true =>
        rw [hz] at hk1
        have hk2 : mWords C.norm C.cmp F h mb f = some (v, h') := hk1
        unfold mWords at hk2
        split at hk2
        · rename_i bm c sp hmem
          cases hk2
          obtain ⟨f', hf', hff⟩ := List.any_eq_true.1 hz
          have := beq_eq hff
          subst this
          obtain ⟨cm, m1, m2, m3⟩ := memOf_some hmem
          cases hvs with
          | cons ha0 hvs =>
          cases hvs with
          | cons ha1 hvs =>
          cases hvs
          obtain ⟨rm, Sm, hρm, rfl⟩ := ha0
          obtain ⟨hfF, hf4, hw⟩ := ok.words f hf'
          obtain ⟨bw, hl, cl, cw, k1, k2, hb2, k3, k4, k5, k6⟩ := wordsRes_some hw
          have e1 : _ = Value.int .i64 (Int.ofNat f) := ha1
          subst e1
          exact memCallW k1 k2 k3 k4 k5 k6 hb2 (by show 8 * f + 8 ≤ 8 * F; omega) ok.cfg ok.ext hr hρm m1 m2 m3 (ws := wordsT C.norm C.cmp c sp f 8) (fun j a _ ha => wordsT_get hc hf4 8 (Nat.le_refl _) ha)
        · cases hk2
    · cases hk1
end Eng
end

noncomputable section
namespace Eng
open Go Go.RowKit
variable {P : Program} {C C1 C2 : Cfg} {σ : Sig} {ρ ρ' : Rho}

/- a function's code in two parts, each evaluated with facts and summaries of its own -/
def cutA (k : Nat) : Code → List Code × Code := @Nat.rec (fun _ => Code → List Code × Code) (fun c => ([], c)) (fun _ r c => match c with | .seq a b => (a :: (r b).1, (r b).2) | c => ([], c)) k
theorem cutA_nest : ∀ (k : Nat) (c : Code), nest (cutA k c).1 (cutA k c).2 = c := by
  intro k
  induction k with
  | zero => intro c; rfl
  | succ k ih =>
    intro c
    cases c with
    | seq a b =>
      show Code.seq a (nest (cutA k b).1 (cutA k b).2) = _
      rw [ih b]
    | _ => rfl
theorem CodeS.cfg (h : C1.fu = C.fu) {rec : Rec} (hs : CodeS C1 P σ rec) : CodeS C P σ rec := by
  intro X c fr hh o fr' h' hk ρ w a b hx hr hf
  have hx' : CtxR C1 ρ X b := ⟨by rw [h]; exact hx.fi, hx.fn, hx.kind, hx.round⟩
  obtain ⟨a', w', ρ', g1, g2, g3, g4⟩ := hs X c fr hh o fr' h' hk ρ w a b hx' (hr.cfg h.symm) hf
  exact ⟨a', w', ρ', g1, g2, g3.cfg h, g4⟩
theorem seq_st2 {X : Ctx} {c1 c2 : Code} {fr fr1 fr' : FR} {h h1 h' : H} {o : Out} (hA : CodeSt C P σ X c1 fr h .norm fr1 h1) (hB : CodeSt C P σ X c2 fr1 h1 o fr' h') : CodeSt C P σ X (.seq c1 c2) fr h o fr' h' := by
  intro ρ w a b hx hr hf
  obtain ⟨a1, w1, ρ1, hc1, hf1, hr1, hx1⟩ := hA ρ w a b hx hr hf
  obtain ⟨a2, w2, ρ2, hc2, hf2, hr2, hx2⟩ := hB ρ1 w1 a1 b (hx.mono (hx1.sub hr)) hr1 hf1
  refine ⟨a2, w2, ρ2, ?_, hf2, hr2, hx1.trans hr hr1 hx2⟩
  intro todo k cs hs
  cases hs
  exact .of_steps ((Steps.one stepR_seq).trans (hc1 _ _ cs .code)) (hc2 _ k cs .code)
def splitR (C1 C2 : Cfg) (n0 : Nat) (X : Ctx) (cs : List Code) (rest : Code) (fr : FR) (h : H) : OR := match evs C1 n0 X cs fr h with | some (.code .norm fr' h') => eval C2 n0 X (.code rest fr') h' | _ => none
theorem split_st {n0 : Nat} (g1 : CodeS C P σ (eval C1 n0)) (g2 : CodeS C P σ (eval C2 n0)) {X : Ctx} {rest : Code} : ∀ {cs : List Code} {fr : FR} {h : H} {o : Out} {fr' : FR} {h' : H}, splitR C1 C2 n0 X cs rest fr h = some (.code o fr' h') → CodeSt C P σ X (nest cs rest) fr h o fr' h' := by
  intro cs
  induction cs with
  | nil => intro fr h o fr' h' hk; exact g2 X rest fr h o fr' h' hk
  | cons c l ih =>
    intro fr h o fr' h' hk
    have hk' : (match (match eval C1 n0 X (.code c fr) h with | some (.code .norm fr' h') => evs C1 n0 X l fr' h' | _ => none) with | some (.code .norm fr' h') => eval C2 n0 X (.code rest fr') h' | _ => none) = some (.code o fr' h') := hk
    cases he : eval C1 n0 X (.code c fr) h with
    | none => rw [he] at hk'; cases hk'
    | some r =>
      rw [he] at hk'
      cases r with
      | val v hh => cases hk'
      | code o1 fr1 h1 =>
        cases o1 with
        | norm => exact seq_st2 (g1 X c fr h .norm fr1 h1 he) (ih hk')
        | exit id => cases hk'
        | ret => cases hk'
theorem split_call {n0 : Nat} (hc1 : CfgOK P C1 σ) (hx1 : ExtOK C1 P σ) (hc2 : CfgOK P C2 σ) (hx2 : ExtOK C2 P σ) (hfu : C2.fu = C1.fu) {f : FuncId} {fi : FI} (hf : C1.fu f = some fi) {k : Nat} {args : List AV} {h : H} {v : AV} {h' : H}
    (hk : codeK (splitR C1 C2 n0 ⟨f, fi.nt, fi.nl, none⟩ (cutA k fi.body).1 (cutA k fi.body).2 ⟨T.ofList args, .nil, []⟩ h) (stRet C1 fi) = some (.val v h')) {w : World} {vs : List Value} (hr : Rel ρ σ C1 h w) (ha : F2 (AVR ρ σ) args vs) :
    ∃ v' w' ρ', CallR P f vs.toArray w v' w' ∧ AVR ρ' σ v v' ∧ Rel ρ' σ C1 h' w' ∧ Ext ρ ρ' h h' w w' := by
  classical
  let X : Ctx := ⟨f, fi.nt, fi.nl, none⟩
  let fr0 : FR := ⟨T.ofList args, .nil, []⟩
  let r0 : OR := splitR C1 C2 n0 X (cutA k fi.body).1 (cutA k fi.body).2 fr0 h
  let rec' : Rec := fun X1 t1 h1 => if X1 = X ∧ t1 = .code fi.body fr0 ∧ h1 = h then r0 else none
  have hrec : CodeS C1 P σ rec' := by
    intro X1 c1 fr1 h1 o fr' h2 he
    have he' : (if X1 = X ∧ Task.code c1 fr1 = .code fi.body fr0 ∧ h1 = h then r0 else none) = some (.code o fr' h2) := he
    by_cases e : X1 = X ∧ Task.code c1 fr1 = .code fi.body fr0 ∧ h1 = h
    · rw [if_pos e] at he'
      obtain ⟨e1, e2, e3⟩ := e
      injection e2 with e4 e5
      subst e1; subst e4; subst e5; subst e3
      have := split_st (C := C1) (eval_ok hc1 hx1 n0).1 ((eval_ok hc2 hx2 n0).1.cfg hfu) he'
      rw [cutA_nest] at this
      exact this
    · rw [if_neg e] at he'
      cases he'
  have hk' : stCall2 C1 rec' f args h fi = some (.val v h') := by
    have e : rec' ⟨f, fi.nt, fi.nl, none⟩ (.code fi.body ⟨T.ofList args, .nil, []⟩) h = r0 := if_pos ⟨rfl, rfl, rfl⟩
    show codeK (rec' ⟨f, fi.nt, fi.nl, none⟩ (.code fi.body ⟨T.ofList args, .nil, []⟩) h) (stRet C1 fi) = _
    rw [e]
    exact hk
  exact call_s hc1 hrec hf hk' hr ha
/-- the first part is evaluated once, the rest for each of m cases -/
def runS (C1 : Cfg) (C2 : Nat → Cfg) (m n0 : Nat) (f : FuncId) (k : Nat) (args : List AV) : Bool := match C1.fu f with
  | some fi => (match evs C1 n0 ⟨f, fi.nt, fi.nl, none⟩ (cutA k fi.body).1 ⟨T.ofList args, .nil, []⟩ ⟨.nil, 0⟩ with
    | some (.code .norm fr h) => allBelow (fun o => says true (codeK (eval (C2 o) n0 ⟨f, fi.nt, fi.nl, none⟩ (.code (cutA k fi.body).2 fr) h) (stRet C1 fi))) m
    | _ => false)
  | none => false
theorem runS_true {C2 : Nat → Cfg} {m n0 k : Nat} {f : FuncId} {args : List AV} {vs : List Value} (hk : runS C1 C2 m n0 f k args = true) {i : Nat} (hi : i < m) (hc1 : CfgOK P C1 σ) (hx1 : ExtOK C1 P σ) (hc2 : CfgOK P (C2 i) σ) (hx2 : ExtOK (C2 i) P σ) (hfu : (C2 i).fu = C1.fu)
    (ha : F2 (AVR rho0 σ) args vs) (w : World) : Calls P f vs.toArray w fun e w' => e = .returned (.bool true) ∧ Grown w w' := by
  unfold runS at hk
  split at hk
  · rename_i fi hf
    split at hk
    · rename_i fr h he
      have h1 := allBelow_get hk i hi
      obtain ⟨h', h2⟩ := says_some h1
      have h3 : codeK (splitR C1 (C2 i) n0 ⟨f, fi.nt, fi.nl, none⟩ (cutA k fi.body).1 (cutA k fi.body).2 ⟨T.ofList args, .nil, []⟩ ⟨.nil, 0⟩) (stRet C1 fi) = some (.val (.one (.bool true)) h') := by
        unfold splitR
        rw [he]
        exact h2
      obtain ⟨v', w', ρ', g1, g2, g3, g4⟩ := split_call hc1 hx1 hc2 hx2 hfu hf h3 (rel0 w) ha
      intro cs
      obtain ⟨fr2, s1, s2, s3⟩ := g1.2 cs
      refine ⟨.returned v', w', fr2, ⟨congrArg _ g2, ⟨g4.os, g4.output, ?_⟩, g4.fz, g4.size⟩, s1, s2, s3⟩
      intro j hj
      rw [g4.frame j hj fun b S hb => (nomatch hb)]
      exact (World.keptBut_refl w (fun _ => False)).2.2 j hj
    · cases hk
  · cases hk
end Eng
end
