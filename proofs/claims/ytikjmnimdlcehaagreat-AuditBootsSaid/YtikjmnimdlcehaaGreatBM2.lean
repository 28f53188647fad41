/- AuditBoots: states with a mark; the law joined out of its pieces, what New answers being written down. No conditions beside those in its theorems. -/
import Derived.Test.YtikjmnimdlcehaaGreatBM
import Derived.Test.YtikjmnimdlcehaaGreatBX
set_option linter.unusedVariables false
open Go Eng Go.Proofs Go.RowKit
set_option maxRecDepth 100000
namespace Eng
variable {P : Program} {C C' : Cfg} {σ σ1 σ2 : Sig} {ρ ρ' : Rho}
noncomputable def defsFit (x : Option Blk) (y : Blk) : Bool := match x with
  | some (.defs o) => (match y with | .defs o' => boolEqb o o' | _ => false)
  | _ => false
noncomputable def isDefs (y : Blk) : Bool := match y with | .defs _ => true | _ => false
noncomputable def fitsBlkY (g : Nat → Nat) (ft : FitF) (h : H) (l : List (Nat × Blk)) (p : Nat × Blk) : Bool := fitsBlkX g ft h l p || defsFit (h.get (g p.1)) p.2
noncomputable def allFitsY (g : Nat → Nat) (ft : FitF) (h : H) (l : List (Nat × Blk)) : Bool := l.all (fitsBlkY g ft h l)
noncomputable def closedY (l : List (Nat × Blk)) (n : Nat) : Bool := l.all fun p => Nat.blt p.1 n && (p.2.within (hasKey l) || isDefs p.2)
theorem defsFit_some {x : Option Blk} {y : Blk} (h : defsFit x y = true) : ∃ o, x = some (.defs o) ∧ y = .defs o := by
  unfold defsFit at h
  split at h
  · split at h
    · rw [boolEqb_eq] at h; exact ⟨_, rfl, by rw [eq_of_beq h]⟩
    · cases h
  · cases h
theorem fitsBlkY_live {g : Nat → Nat} {ft : FitF} {h : H} {l : List (Nat × Blk)} {p : Nat × Blk} (hf : fitsBlkY g ft h l p = true) : Live h (g p.1) := by
  unfold fitsBlkY at hf
  rw [Bool.or_eq_true] at hf
  rcases hf with hf | hf
  · exact fitsBlkX_live hf
  · obtain ⟨o, h1, _⟩ := defsFit_some hf
    exact ⟨_, h1, by intro e; cases e⟩
theorem Rel.moveY {h : H} {w : World} (hr : Rel ρ σ C h w) {l : List (Nat × Blk)} {n : Nat} {g : Nat → Nat} (hgi : ∀ b b', g b = g b' → b = b') {ft : FitF} (hs : FitOK σ σ2 ft) (hg : allFitsY g ft h l = true) (hc : closedY l n = true) : Rel (Ren ρ g (hasKey l)) σ2 C (heapOf l n) w where
  lt := by
    intro b r S hb
    obtain ⟨hk, _⟩ := Ren_some hb
    obtain ⟨p, hp, hpb⟩ := List.any_eq_true.1 hk
    have := List.all_eq_true.1 hc p hp
    simp only [Bool.and_eq_true] at this
    have h1 : p.1 < n := by have := this.1; rwa [Nat.blt_eq] at this
    rw [beq_eq hpb] at h1
    exact h1
  blk := by
    intro b r S hb
    obtain ⟨hk, hb'⟩ := Ren_some hb
    obtain ⟨o, ho, hx⟩ := hr.blk (g b) r S hb'
    refine ⟨o, ho, fun x hgx => ?_⟩
    have hm := heapOf_get hgx
    have hcl := List.all_eq_true.1 hc _ hm
    simp only [Bool.and_eq_true, Bool.or_eq_true] at hcl
    have hf := List.all_eq_true.1 hg _ hm
    unfold fitsBlkY at hf
    rw [Bool.or_eq_true] at hf
    rcases hf with hf | hf
    · rcases fitsBlkX_some hf with ⟨c, n', f, s, c', q1, q2, q3, q4⟩ | ⟨es, es', k', q1, q2, q3⟩
      · have q2' : x = .cells c' n' f none := q2
        subst q2'
        obtain ⟨cs, e, h1, h2, h3, h4, h5⟩ := hx _ q1
        refine ⟨cs, e, h1, h2, h3, h4, fun i a hi ha => ?_⟩
        obtain ⟨a', ha', hfit⟩ := cellsFitsX_get q4 ha
        obtain ⟨v, hv, har⟩ := h5 i a' hi ha'
        have hwi : cellsWithin (hasKey l) c' = true := hcl.2.resolve_right (by intro e; cases e)
        exact ⟨v, hv, A.fitsX_ok hfit (cellsWithin_get hwi ha) hs har⟩
      · have q2' : x = .map es' k' := q2
        subst q2'
        obtain ⟨ms, h1, h2⟩ := hx _ q1
        exact ⟨ms, h1, F2.fitsXM hs q3 (hcl.2.resolve_right (by intro e; cases e)) h2⟩
    · obtain ⟨o', q1, q2⟩ := defsFit_some hf
      have q2' : x = .defs o' := q2
      subst q2'
      exact hx _ q1
  inj := by
    intro b b' r S S' hb hb' ⟨y, hy, hd⟩ ⟨y', hy', hd'⟩
    obtain ⟨_, hb⟩ := Ren_some hb
    obtain ⟨_, hb'⟩ := Ren_some hb'
    have hm := heapOf_get hy
    have hm' := heapOf_get hy'
    have hf := List.all_eq_true.1 hg _ hm
    have hf' := List.all_eq_true.1 hg _ hm'
    rcases hr.inj (g b) (g b') r S S' hb hb' (fitsBlkY_live hf) (fitsBlkY_live hf') with e | ⟨c2, n', f', e⟩
    · exact .inl (hgi _ _ e)
    · exfalso
      unfold fitsBlkY at hf
      rw [Bool.or_eq_true] at hf
      rcases hf with hf | hf
      · rcases fitsBlkX_some hf with ⟨c, n1, f, s, c', q1, q2, q3, q4⟩ | ⟨es, es', k', q1, _⟩
        · rw [show h.get (g b) = _ from q1] at e
          cases e
          have h1 := List.all_eq_true.1 (show (l.all fun p => bnot (Nat.beq (g p.1) (g b'))) = true from q3) _ hm'
          simp [bnot_eq, Nat.beq_refl] at h1
        · rw [show h.get (g b) = _ from q1] at e
          cases e
      · obtain ⟨o', q1, _⟩ := defsFit_some hf
        rw [show h.get (g b) = _ from q1] at e
        cases e
noncomputable def frOfM (L : List (Nat × AV)) (M : List Nat) : FR := ⟨(frOf L).pt, .nil, M⟩
noncomputable def frFitsM (g : Nat → Nat) (ft : FitF) (fr : FR) (h : H) (L : List (Nat × AV)) (l : List (Nat × Blk)) (M : List Nat) : Bool := L.all (slotFits g ft fr.pt) && (listEqb Nat.beq fr.marks (M.map g) && allFitsY g ft h l)
noncomputable def closedM (L : List (Nat × AV)) (l : List (Nat × Blk)) (n : Nat) (M : List Nat) : Bool := closedY l n && (L.all (fun p => p.2.within (hasKey l)) && M.all (hasKey l))
theorem marksFit {g : Nat → Nat} {k : Nat → Bool} : ∀ {M : List Nat} {ds : List Deferred}, M.all k = true → F2 (markR ρ) (M.map g) ds → F2 (markR (Ren ρ g k)) M ds := by
  intro M
  induction M with
  | nil => intro ds _ h; cases h; exact .nil
  | cons m M ih =>
    intro ds hk h
    simp only [List.all_cons, Bool.and_eq_true] at hk
    cases h with
    | cons h1 h2 =>
      obtain ⟨r, S, q1, q2⟩ := h1
      exact .cons ⟨r, S, by rw [Ren_of hk.1]; exact q1, q2⟩ (ih hk.2 h2)
theorem CodeX.moveM {X : Ctx} {c : Code} {fr fr' : FR} {h h' : H} {o : Out} {L : List (Nat × AV)} {l : List (Nat × Blk)} {n : Nat} {M : List Nat} {g : Nat → Nat} {ft : FitF} (hn : X.round = none) (hgi : ∀ b b', g b = g b' → b = b') (hs : FitOK σ σ1 ft)
    (hf : frFitsM g ft fr h L l M = true) (hcl : closedM L l n M = true) (hB : CodeX P C X c σ1 (frOfM L M) (heapOf l n) o σ2 fr' h') : CodeX P C X c σ fr h o σ2 fr' h' := by
  simp only [frFitsM, Bool.and_eq_true] at hf
  obtain ⟨q1, q2, q3⟩ := hf
  simp only [closedM, Bool.and_eq_true] at hcl
  obtain ⟨c1, c2, c3⟩ := hcl
  intro ρ w a b hx hr hfr
  have hr1 : Rel (Ren ρ g (hasKey l)) σ1 C (heapOf l n) w := hr.moveY hgi hs q3 c1
  have hf1 : FrR (Ren ρ g (hasKey l)) σ1 X.nt X.nl (frOfM L M) a := by
    refine ⟨hfr.size, ?_, ?_, ?_⟩
    · intro t v ht hg
      have hm := tableOf_mem (show (tableOf L).get t = some v from hg)
      have h1 : slotFits g ft fr.pt (t, v) = true := List.all_eq_true.1 q1 _ hm
      have h2 : v.within (hasKey l) = true := List.all_eq_true.1 c2 _ hm
      unfold slotFits at h1
      split at h1
      · rename_i v0 hv0
        obtain ⟨x, hx1, hx2⟩ := hfr.pt t v0 ht hv0
        exact ⟨x, hx1, AVfitsX_ok hs h1 h2 hx2⟩
      · cases h1
    · intro t v _ hg; cases hg
    · have h1 := hfr.marks
      rw [listEqb_eq (fun _ _ => beq_eq) q2] at h1
      exact marksFit c3 h1
  obtain ⟨a', w', ρ', g1, g2, g3, g4⟩ := hB _ w a b (ctx_any hn hx _) hr1 hf1
  refine ⟨a', w', ρ', g1, g2, g3, XE.trans ⟨?_, Nat.le_refl _, fun _ _ _ => rfl, rfl, rfl, rfl, fun _ => rfl⟩ g4⟩
  intro k r S hb
  obtain ⟨_, hb'⟩ := Ren_some hb
  refine .inr ⟨g k, S, hb', fun ⟨y, hy, _⟩ => ?_⟩
  exact fitsBlkY_live (List.all_eq_true.1 q3 _ (heapOf_get hy))
end Eng
namespace Boots
open Base
/-- a state with marks that is written down -/
structure StM where
  L : List (Nat × AV)
  l : List (Nat × Blk)
  n : Nat
  M : List Nat
noncomputable def StM.fr (s : StM) : FR := frOfM s.L s.M
noncomputable def StM.h (s : StM) : H := heapOf s.l s.n
noncomputable def StM.closed (s : StM) : Bool := closedM s.L s.l s.n s.M
/-- New, up to the objects that are made -/
noncomputable def p1M (lo : Int) (n : Nat) (e0 : E) (nc t : Int) (s : Bool) (st : StM) : Bool := match evs (cR lo n xS) 300 X4 pre4 (frOf [(0, aC 0 nc t s)]) (heapOf [] 0) with | some (.code .norm fr h) => frFitsM gI (fitTo e0 (.var 0)) fr h st.L st.l st.M | _ => false
theorem p1M_some {lo : Int} {n : Nat} {e0 : E} {nc t : Int} {s : Bool} {st : StM} (h : p1M lo n e0 nc t s st = true) : ∃ fr hh, evs (cR lo n xS) 300 X4 pre4 (frOf [(0, aC 0 nc t s)]) (heapOf [] 0) = some (.code .norm fr hh) ∧ frFitsM gI (fitTo e0 (.var 0)) fr hh st.L st.l st.M = true := by
  unfold p1M at h
  split at h
  · rename_i fr hh he; exact ⟨fr, hh, he, h⟩
  · cases h
/-- the rest of New -/
noncomputable def nwM (lo : Int) (n : Nat) (st : StM) : Option (AV × H) := match eval (cR lo n xS) 300 X4 (.code rest4 st.fr) st.h with
  | some (.code o fr h) => (match stRet (cR lo n xS) Tab.u4 o fr h with | some (.val v h') => some (v, h') | _ => none)
  | _ => none
theorem nwM_some {lo : Int} {n : Nat} {st : StM} {v : AV} {h' : H} (h : nwM lo n st = some (v, h')) : ∃ o fr hh, eval (cR lo n xS) 300 X4 (.code rest4 st.fr) st.h = some (.code o fr hh) ∧ stRet (cR lo n xS) Tab.u4 o fr hh = some (.val v h') := by
  unfold nwM at h
  split at h
  · rename_i o fr hh he
    split at h
    · rename_i v' h'' hr
      cases h
      exact ⟨o, fr, hh, he, hr⟩
    · cases h
  · cases h
theorem newOKM {lo lo2 : Int} {n n2 : Nat} {e0 : E} {nc t : Int} {s : Bool} {st : StM} {σ : Sig} {ext : FuncId → List AV → H → Option (AV × H)} (hp : p1M lo n e0 nc t s st = true) (hcl : st.closed = true) (hm : frFits gI (fitTo (.var 1) (.var 1)) ⟨T.ofList [aC 1 nc t s], .nil, []⟩ ⟨.nil, 0⟩ [(0, aC 0 nc t s)] [] = true)
    (h1 : lo ≤ σ 1) (h2 : σ 1 < lo + n) (h3 : lo2 ≤ σ 0) (h4 : σ 0 < lo2 + n2) (he : σ 0 = e0.den fun _ => σ 1) : ∀ v h', nwM lo2 n2 st = some (v, h') → ∀ ρ w vs, Rel ρ σ (cR lo2 n2 ext) ⟨.nil, 0⟩ w → F2 (AVR ρ σ) [aC 1 nc t s] vs →
    ∃ v' w' ρ', CallR Tryz.prog 4 vs.toArray w v' w' ∧ AVR ρ' σ v v' ∧ Rel ρ' σ (cR lo2 n2 ext) h' w' ∧ Ext ρ ρ' ⟨.nil, 0⟩ h' w w' := by
  intro v h' hn ρ w vs hr ha
  obtain ⟨o, fr, hh, g1, g2⟩ := nwM_some hn
  obtain ⟨fr1, h1', q1, q2⟩ := p1M_some hp
  refine CodeX.call (C := cR lo2 n2 ext) (okR h3 h4 ext) (f := 4) (fi := Tab.u4) (o := o) (fr' := fr) (h1 := hh) fu4 ?_ (stRet_ext.trans g2) hr ha
  rw [← nest4]
  refine CodeX.move (σ1 := fun _ => σ 1) (L := [(0, aC 0 nc t s)]) (l := []) (n := 0) (ft := fitTo (.var 1) (.var 1)) rfl gI_inj (fitTo_ok rfl rfl) hm rfl ?_
  refine CodeX.chain (C := cR lo2 n2 ext) (C' := cR lo n xS) (σ := fun _ => σ 1) (n0 := 300) rfl (okR (σ := fun _ => σ 1) h1 h2 xS) (exS.ok rfl) rfl (fr1 := fr1) (h1 := h1') ?_ q1
  refine CodeX.moveM (σ1 := σ) (ft := fitTo e0 (.var 0)) rfl gI_inj (fitTo_ok he rfl) q2 hcl ?_
  exact CodeX.eval (C' := cR lo2 n2 xS) g1 (okR h3 h4 xS) (exS.ok rfl) rfl
/-- what New answers, written down -/
structure Dn where
  v : AV
  l : List (Nat × Blk)
  n : Nat
noncomputable def Dn.closed (d : Dn) : Bool := closedL d.l d.n && (d.v.within (hasKey d.l) && (bnot (hasKey d.l 0) && Nat.ble 1 d.n))
noncomputable def pD (lo2 : Int) (n2 : Nat) (st : StM) (d : Dn) (g : List Nat) (m : Nat) : Bool := gOk g m && (match nwM lo2 n2 st with | some (v, h') => resFits (gOf g m) fitSame v d.v && allFitsX (gOf g m) fitSame h' d.l d.l | _ => false)
/-- the law, up to the view -/
noncomputable def xW2 (nc t : Int) (s : Bool) (d : Dn) : FuncId → List AV → H → Option (AV × H) := extBox 4 [aC 1 nc t s] d.v d.l d.n xS
noncomputable def p22 (lo2 : Int) (n2 : Nat) (nc t : Int) (s : Bool) (d : Dn) (vs : St) (g : List Nat) (m : Nat) : Bool := gOk g m && fitsR (gOf g m) fitSame vs (evs (cR lo2 n2 (xW2 nc t s d)) 300 X3 pre3 ⟨T.ofList (a3 nc t s), .nil, []⟩ ⟨.nil, 0⟩)
theorem lawOK2 {lo2 : Int} {n2 : Nat} {nc t : Int} {s : Bool} {st : StM} {vs : St} {d : Dn} {g g0 : List Nat} {m m0 : Nat} {sv : List SumV} {l : List SumE} {σ : Sig} (h3 : lo2 ≤ σ 0) (h4 : σ 0 < lo2 + n2) (hpd : pD lo2 n2 st d g0 m0 = true) (hdc : d.closed = true) (hp2 : p22 lo2 n2 nc t s d vs g m = true) (hcl : vs.closed = true)
    (hnew : ∀ (ext : FuncId → List AV → H → Option (AV × H)) v h', nwM lo2 n2 st = some (v, h') → ∀ ρ w vs, Rel ρ σ (cR lo2 n2 ext) ⟨.nil, 0⟩ w → F2 (AVR ρ σ) [aC 1 nc t s] vs → ∃ v' w' ρ', CallR Tryz.prog 4 vs.toArray w v' w' ∧ AVR ρ' σ v v' ∧ Rel ρ' σ (cR lo2 n2 ext) h' w' ∧ Ext ρ ρ' ⟨.nil, 0⟩ h' w w')
    (hp3 : p3 lo2 n2 sv vs = true) (hsv : ∀ C : Cfg, C.fu = Tab.fuT.get → Al (SummV Tryz.prog σ C) sv) (hp4 : p4 lo2 n2 sv l vs = true) (hl : ∀ C : Cfg, C.fu = Tab.fuT.get → Al (Summ Tryz.prog σ C) l)
    {vals : List Value} (ha : F2 (AVR rho0 σ) (a3 nc t s) vals) (w : World) : Calls Tryz.prog 3 vals.toArray w fun e w' => e = .returned (.bool true) ∧ Grown w w' := by
  unfold pD at hpd
  simp only [Bool.and_eq_true] at hpd
  obtain ⟨hg0, hpd⟩ := hpd
  unfold Dn.closed at hdc
  simp only [Bool.and_eq_true] at hdc
  obtain ⟨d1, d2, d3, d4⟩ := hdc
  have d3 : hasKey d.l 0 = false := by cases hk : hasKey d.l 0 with | false => rfl | true => rw [hk] at d3; cases d3
  have hx : ExtS Tryz.prog σ (cR lo2 n2 (xW2 nc t s d)) (xW2 nc t s d) := by
    split at hpd
    · rename_i v h' hn
      simp only [Bool.and_eq_true] at hpd
      exact ExtS.box exS (gOf_inj hg0) hpd.1 hpd.2 d1 d2 d3 d4 (hnew _ v h' hn) fun ρ ρ' vs ha => by
        cases ha with
        | cons h1 h2 =>
          cases h2
          obtain ⟨us, e1, e2⟩ := h1
          refine .cons ⟨us, e1, ?_⟩ .nil
          cases e2 with
          | cons q1 e2 => cases e2 with
            | cons q2 e2 => cases e2 with
              | cons q3 e2 => cases e2 with
                | cons q4 e2 => cases e2; exact .cons q1 (.cons q2 (.cons q3 (.cons q4 .nil)))
    · cases hpd
  unfold p22 at hp2
  simp only [Bool.and_eq_true] at hp2
  obtain ⟨hg, hp2⟩ := hp2
  obtain ⟨fr1, h1, q1, q2⟩ := fitsR_some hp2
  obtain ⟨fr2, h2, q3, q4⟩ := fitsR_some hp3
  obtain ⟨h5, hk⟩ := says_some hp4
  obtain ⟨o, fr', hh, he, hret⟩ := codeK_some hk
  refine CodeX.calls_true (C := cR lo2 n2 xN) (okR h3 h4 xN) (f := 3) (fi := Tab.u3) (o := o) (fr' := fr') (h1 := hh) fu3 ?_ hret ha w
  rw [← nest3]
  refine CodeX.chain (C := cR lo2 n2 xN) (C' := cR lo2 n2 (xW2 nc t s d)) (n0 := 300) rfl (okR h3 h4 _) (hx.ok rfl) rfl (fr1 := fr1) (h1 := h1) ?_ q1
  refine CodeX.move (σ1 := σ) (ft := fitSame) (g := gOf g m) rfl (gOf_inj hg) (fitSame_ok σ) q2 hcl ?_
  refine CodeX.chain (C := cR lo2 n2 xN) (C' := cR lo2 n2 (extV sv xN)) (n0 := 300) rfl (okR h3 h4 _) ((ExtS.sumV exN (hsv _ rfl)).ok rfl) rfl (fr1 := fr2) (h1 := h2) ?_ q3
  refine CodeX.move (σ1 := σ) (ft := fitSame) (g := gI) rfl gI_inj (fitSame_ok σ) q4 hcl ?_
  exact CodeX.eval (C' := cR lo2 n2 (extV sv (extT l))) he (okR h3 h4 _) ((ExtS.sumV (ExtS.of (hl _ rfl)) (hsv _ rfl)).ok rfl) rfl
end Boots
