/- AuditBoots: the law joined out of its pieces, for more than one thread. No conditions beside those in its theorems. -/
import Derived.Test.YtikjmnimdlcehaaGreatBM2
import Derived.Test.YtikjmnimdlcehaaGreatSO2
set_option linter.unusedVariables false
open Go Eng Go.Proofs Go.RowKit
set_option maxRecDepth 100000
namespace Boots
open Base
noncomputable def xS4 : FuncId → List AV → H → Option (AV × H) := extS 114 6 [154] (extS 114 6 [166] xN)
theorem exS4 {C : Cfg} {σ : Sig} : ExtS Tryz.prog σ C xS4 := ExtS.sort sortOK154 (ExtS.sort sortOK166x exN)
/-- the law, up to the view -/
noncomputable def xW4 (nc t : Int) (s : Bool) (d : Dn) : FuncId → List AV → H → Option (AV × H) := extBox 4 [aC 1 nc t s] d.v d.l d.n xS4
noncomputable def p24 (lo2 : Int) (n2 : Nat) (nc t : Int) (s : Bool) (d : Dn) (vs : St) (g : List Nat) (m : Nat) : Bool := gOk g m && fitsR (gOf g m) fitSame vs (evs (cR lo2 n2 (xW4 nc t s d)) 300 X3 pre3 ⟨T.ofList (a3 nc t s), .nil, []⟩ ⟨.nil, 0⟩)
theorem lawOK4 {lo2 : Int} {n2 : Nat} {nc t : Int} {s : Bool} {st : StM} {vs : St} {d : Dn} {g g0 : List Nat} {m m0 : Nat} {sv : List SumV} {l : List SumE} {σ : Sig} (h3 : lo2 ≤ σ 0) (h4 : σ 0 < lo2 + n2) (hpd : pD lo2 n2 st d g0 m0 = true) (hdc : d.closed = true) (hp2 : p24 lo2 n2 nc t s d vs g m = true) (hcl : vs.closed = true)
    (hnew : ∀ (ext : FuncId → List AV → H → Option (AV × H)) v h', nwM lo2 n2 st = some (v, h') → ∀ ρ w vs, Rel ρ σ (cR lo2 n2 ext) ⟨.nil, 0⟩ w → F2 (AVR ρ σ) [aC 1 nc t s] vs → ∃ v' w' ρ', CallR Tryz.prog 4 vs.toArray w v' w' ∧ AVR ρ' σ v v' ∧ Rel ρ' σ (cR lo2 n2 ext) h' w' ∧ Ext ρ ρ' ⟨.nil, 0⟩ h' w w')
    (hp3 : p3 lo2 n2 sv vs = true) (hsv : ∀ C : Cfg, C.fu = Tab.fuT.get → Al (SummV Tryz.prog σ C) sv) (hp4 : p4 lo2 n2 sv l vs = true) (hl : ∀ C : Cfg, C.fu = Tab.fuT.get → Al (Summ Tryz.prog σ C) l)
    {vals : List Value} (ha : F2 (AVR rho0 σ) (a3 nc t s) vals) (w : World) : Calls Tryz.prog 3 vals.toArray w fun e w' => e = .returned (.bool true) ∧ Grown w w' := by
  unfold pD at hpd
  simp only [Bool.and_eq_true] at hpd
  obtain ⟨hg0, hpd⟩ := hpd
  unfold Dn.closed at hdc
  simp only [Bool.and_eq_true] at hdc
  obtain ⟨d1, d2, d3, d4⟩ := hdc
  have d3 : hasKey d.l 0 = false := by cases hk : hasKey d.l 0 with | false => rfl | true => rw [hk] at d3; cases d3
  have hx : ExtS Tryz.prog σ (cR lo2 n2 (xW4 nc t s d)) (xW4 nc t s d) := by
    split at hpd
    · rename_i v h' hn
      simp only [Bool.and_eq_true] at hpd
      exact ExtS.box exS4 (gOf_inj hg0) hpd.1 hpd.2 d1 d2 d3 d4 (hnew _ v h' hn) fun ρ ρ' vs ha => by
        cases ha with
        | cons h1 h2 =>
          cases h2
          obtain ⟨us, e1, e2⟩ := h1
          refine .cons ⟨us, e1, ?_⟩ .nil
          cases e2 with
          | cons q1 e2 => cases e2 with
            | cons q2 e2 => cases e2 with
              | cons q3 e2 => cases e2 with
                | cons q4 e2 => cases e2; exact .cons q1 (.cons q2 (.cons q3 (.cons q4 .nil)))
    · cases hpd
  unfold p24 at hp2
  simp only [Bool.and_eq_true] at hp2
  obtain ⟨hg, hp2⟩ := hp2
  obtain ⟨fr1, h1, q1, q2⟩ := fitsR_some hp2
  obtain ⟨fr2, h2, q3, q4⟩ := fitsR_some hp3
  obtain ⟨h5, hk⟩ := says_some hp4
  obtain ⟨o, fr', hh, he, hret⟩ := codeK_some hk
  refine CodeX.calls_true (C := cR lo2 n2 xN) (okR h3 h4 xN) (f := 3) (fi := Tab.u3) (o := o) (fr' := fr') (h1 := hh) fu3 ?_ hret ha w
  rw [← nest3]
  refine CodeX.chain (C := cR lo2 n2 xN) (C' := cR lo2 n2 (xW4 nc t s d)) (n0 := 300) rfl (okR h3 h4 _) (hx.ok rfl) rfl (fr1 := fr1) (h1 := h1) ?_ q1
  refine CodeX.move (σ1 := σ) (ft := fitSame) (g := gOf g m) rfl (gOf_inj hg) (fitSame_ok σ) q2 hcl ?_
  refine CodeX.chain (C := cR lo2 n2 xN) (C' := cR lo2 n2 (extV sv xN)) (n0 := 300) rfl (okR h3 h4 _) ((ExtS.sumV exN (hsv _ rfl)).ok rfl) rfl (fr1 := fr2) (h1 := h2) ?_ q3
  refine CodeX.move (σ1 := σ) (ft := fitSame) (g := gI) rfl gI_inj (fitSame_ok σ) q4 hcl ?_
  exact CodeX.eval (C' := cR lo2 n2 (extV sv (extT l))) he (okR h3 h4 _) ((ExtS.sumV (ExtS.of (hl _ rfl)) (hsv _ rfl)).ok rfl) rfl
end Boots
