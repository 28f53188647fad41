/- AuditBoots: what is evaluated, and how the pieces are joined. No conditions beside those in its theorems. -/
import Derived.Test.YtikjmnimdlcehaaGreatSO
set_option linter.unusedVariables false
open Go Eng Go.Proofs Go.RowKit
set_option maxRecDepth 100000
namespace Boots
open Base
noncomputable def xN : FuncId → List AV → H → Option (AV × H) := fun _ _ _ => none
noncomputable def xS : FuncId → List AV → H → Option (AV × H) := extS 114 6 [154] (extS 114 3 [166] xN)
noncomputable def cR (lo : Int) (n : Nat) (ext : FuncId → List AV → H → Option (AV × H)) : Cfg := { ty := Tab.tyT.get, fu := Tab.fuT.get, cmp := cmpR lo n, ext := ext, norm := normR lo n }
theorem okR {lo : Int} {n : Nat} {σ : Sig} (h1 : lo ≤ σ 0) (h2 : σ 0 < lo + n) (ext : FuncId → List AV → H → Option (AV × H)) : CfgOK Tryz.prog (cR lo n ext) σ := Base.ok _ _ _ σ (cmpR_ok h1 h2) (normR_ok h1 h2)
theorem exN {C : Cfg} {σ : Sig} : ExtS Tryz.prog σ C xN := fun _ _ _ _ _ h => nomatch h
theorem exS {C : Cfg} {σ : Sig} : ExtS Tryz.prog σ C xS := ExtS.sort sortOK154 (ExtS.sort sortOK166 exN)
noncomputable def X3 : Ctx := ⟨3, Tab.u3.nt, Tab.u3.nl, none⟩
noncomputable def X4 : Ctx := ⟨4, Tab.u4.nt, Tab.u4.nl, none⟩
theorem fu3 : Tab.fuT.get 3 = some Tab.u3 := by kernel_rfl
theorem fu4 : Tab.fuT.get 4 = some Tab.u4 := by kernel_rfl
noncomputable def pre4 : List Code := (cutA 7 Tab.u4.body).1
noncomputable def rest4 : Code := (cutA 7 Tab.u4.body).2
noncomputable def pre3 : List Code := (cutA 4 Tab.u3.body).1
noncomputable def mid3 : List Code := (cutA 1 (cutA 4 Tab.u3.body).2).1
noncomputable def rest3 : Code := (cutA 1 (cutA 4 Tab.u3.body).2).2
theorem nest4 : nest pre4 rest4 = Tab.u4.body := cutA_nest 7 _
theorem nest3 : nest pre3 (nest mid3 rest3) = Tab.u3.body := (congrArg (nest pre3) (cutA_nest 1 _)).trans (cutA_nest 4 _)
/-- the configuration; its number of frames is the symbol i -/
def aC (i : Nat) (nc t : Int) (s : Bool) : AV := .agg [.sym .i64 (.var i), .int .i64 nc, .int .i64 t, .bool s]
def a3 (nc t : Int) (s : Bool) : List AV := [aC 1 nc t s, .one (.sym .i64 (.var 2)), .one (.sym .i64 (.var 3))]
def gI : Nat → Nat := fun b => b
theorem gI_inj : ∀ b b', gI b = gI b' → b = b' := fun _ _ h => h
/-- a state that is written down -/
structure St where
  L : List (Nat × AV)
  l : List (Nat × Blk)
  n : Nat
noncomputable def St.fr (s : St) : FR := frOf s.L
noncomputable def St.h (s : St) : H := heapOf s.l s.n
noncomputable def St.closed (s : St) : Bool := closedF s.L s.l s.n
noncomputable def fitsR (g : Nat → Nat) (ft : FitF) (s : St) (r : OR) : Bool := match r with | some (.code .norm fr h) => frFits g ft fr h s.L s.l | _ => false
theorem fitsR_some {g : Nat → Nat} {ft : FitF} {s : St} {r : OR} (h : fitsR g ft s r = true) : ∃ fr hh, r = some (.code .norm fr hh) ∧ frFits g ft fr hh s.L s.l = true := by
  unfold fitsR at h
  split at h
  · exact ⟨_, _, rfl, h⟩
  · cases h
/-- New, up to the objects that are made -/
noncomputable def p1 (lo : Int) (n : Nat) (e0 : E) (nc t : Int) (s : Bool) (st : St) : Bool := fitsR gI (fitTo e0 (.var 0)) st (evs (cR lo n xS) 300 X4 pre4 (frOf [(0, aC 0 nc t s)]) (heapOf [] 0))
/-- the rest of New -/
noncomputable def nw (lo : Int) (n : Nat) (st : St) : Option (AV × H) := match eval (cR lo n xS) 300 X4 (.code rest4 st.fr) st.h with
  | some (.code o fr h) => (match stRet (cR lo n xS) Tab.u4 o fr h with | some (.val v h') => some (v, h') | _ => none)
  | _ => none
theorem nw_some {lo : Int} {n : Nat} {st : St} {v : AV} {h' : H} (h : nw lo n st = some (v, h')) : ∃ o fr hh, eval (cR lo n xS) 300 X4 (.code rest4 st.fr) st.h = some (.code o fr hh) ∧ stRet (cR lo n xS) Tab.u4 o fr hh = some (.val v h') := by
  unfold nw at h
  split at h
  · rename_i o fr hh he
    split at h
    · rename_i v' h'' hr
      cases h
      exact ⟨o, fr, hh, he, hr⟩
    · cases h
  · cases h
theorem stRet_ext {lo : Int} {n : Nat} {e e' : FuncId → List AV → H → Option (AV × H)} {fi : FI} {o : Out} {fr : FR} {h : H} : stRet (cR lo n e) fi o fr h = stRet (cR lo n e') fi o fr h := rfl
theorem newOK {lo lo2 : Int} {n n2 : Nat} {e0 : E} {nc t : Int} {s : Bool} {st : St} {σ : Sig} {ext : FuncId → List AV → H → Option (AV × H)} (hp : p1 lo n e0 nc t s st = true) (hcl : st.closed = true) (hm : frFits gI (fitTo (.var 1) (.var 1)) ⟨T.ofList [aC 1 nc t s], .nil, []⟩ ⟨.nil, 0⟩ [(0, aC 0 nc t s)] [] = true)
    (h1 : lo ≤ σ 1) (h2 : σ 1 < lo + n) (h3 : lo2 ≤ σ 0) (h4 : σ 0 < lo2 + n2) (he : σ 0 = e0.den fun _ => σ 1) : ∀ v h', nw lo2 n2 st = some (v, h') → ∀ ρ w vs, Rel ρ σ (cR lo2 n2 ext) ⟨.nil, 0⟩ w → F2 (AVR ρ σ) [aC 1 nc t s] vs →
    ∃ v' w' ρ', CallR Tryz.prog 4 vs.toArray w v' w' ∧ AVR ρ' σ v v' ∧ Rel ρ' σ (cR lo2 n2 ext) h' w' ∧ Ext ρ ρ' ⟨.nil, 0⟩ h' w w' := by
  intro v h' hn ρ w vs hr ha
  obtain ⟨o, fr, hh, g1, g2⟩ := nw_some hn
  obtain ⟨fr1, h1', q1, q2⟩ := fitsR_some hp
  refine CodeX.call (C := cR lo2 n2 ext) (okR h3 h4 ext) (f := 4) (fi := Tab.u4) (o := o) (fr' := fr) (h1 := hh) fu4 ?_ (stRet_ext.trans g2) hr ha
  rw [← nest4]
  refine CodeX.move (σ1 := fun _ => σ 1) (L := [(0, aC 0 nc t s)]) (l := []) (n := 0) (ft := fitTo (.var 1) (.var 1)) rfl gI_inj (fitTo_ok rfl rfl) hm rfl ?_
  refine CodeX.chain (C := cR lo2 n2 ext) (C' := cR lo n xS) (σ := fun _ => σ 1) (n0 := 300) rfl (okR (σ := fun _ => σ 1) h1 h2 xS) (exS.ok rfl) rfl (fr1 := fr1) (h1 := h1') ?_ q1
  refine CodeX.move (σ1 := σ) (ft := fitTo e0 (.var 0)) rfl gI_inj (fitTo_ok he rfl) q2 hcl ?_
  exact CodeX.eval (C' := cR lo2 n2 xS) g1 (okR h3 h4 xS) (exS.ok rfl) rfl
/-- the law, up to the view -/
noncomputable def xW (nc t : Int) (s : Bool) (r : Option (AV × H)) : FuncId → List AV → H → Option (AV × H) := extAt 4 [aC 1 nc t s] r xS
noncomputable def p2 (lo2 : Int) (n2 : Nat) (nc t : Int) (s : Bool) (st vs : St) (g : List Nat) (m : Nat) : Bool := gOk g m && fitsR (gOf g m) fitSame vs (evs (cR lo2 n2 (xW nc t s (nw lo2 n2 st))) 300 X3 pre3 ⟨T.ofList (a3 nc t s), .nil, []⟩ ⟨.nil, 0⟩)
/-- nothing is found in it -/
noncomputable def p3 (lo2 : Int) (n2 : Nat) (sv : List SumV) (vs : St) : Bool := fitsR gI fitSame vs (evs (cR lo2 n2 (extV sv xN)) 300 X3 mid3 vs.fr vs.h)
/-- the rest of the law -/
noncomputable def p4 (lo2 : Int) (n2 : Nat) (sv : List SumV) (l : List SumE) (vs : St) : Bool := says true (codeK (eval (cR lo2 n2 (extV sv (extT l))) 300 X3 (.code rest3 vs.fr) vs.h) (stRet (cR lo2 n2 xN) Tab.u3))
theorem lawOK {lo2 : Int} {n2 : Nat} {nc t : Int} {s : Bool} {st vs : St} {g : List Nat} {m : Nat} {sv : List SumV} {l : List SumE} {σ : Sig} (h3 : lo2 ≤ σ 0) (h4 : σ 0 < lo2 + n2) (hp2 : p2 lo2 n2 nc t s st vs g m = true) (hcl : vs.closed = true)
    (hnew : ∀ (ext : FuncId → List AV → H → Option (AV × H)) v h', nw lo2 n2 st = some (v, h') → ∀ ρ w vs, Rel ρ σ (cR lo2 n2 ext) ⟨.nil, 0⟩ w → F2 (AVR ρ σ) [aC 1 nc t s] vs → ∃ v' w' ρ', CallR Tryz.prog 4 vs.toArray w v' w' ∧ AVR ρ' σ v v' ∧ Rel ρ' σ (cR lo2 n2 ext) h' w' ∧ Ext ρ ρ' ⟨.nil, 0⟩ h' w w')
    (hp3 : p3 lo2 n2 sv vs = true) (hsv : ∀ C : Cfg, C.fu = Tab.fuT.get → Al (SummV Tryz.prog σ C) sv) (hp4 : p4 lo2 n2 sv l vs = true) (hl : ∀ C : Cfg, C.fu = Tab.fuT.get → Al (Summ Tryz.prog σ C) l)
    {vals : List Value} (ha : F2 (AVR rho0 σ) (a3 nc t s) vals) (w : World) : Calls Tryz.prog 3 vals.toArray w fun e w' => e = .returned (.bool true) ∧ Grown w w' := by
  unfold p2 at hp2
  simp only [Bool.and_eq_true] at hp2
  obtain ⟨hg, hp2⟩ := hp2
  obtain ⟨fr1, h1, q1, q2⟩ := fitsR_some hp2
  obtain ⟨fr2, h2, q3, q4⟩ := fitsR_some hp3
  obtain ⟨h5, hk⟩ := says_some hp4
  obtain ⟨o, fr', hh, he, hret⟩ := codeK_some hk
  refine CodeX.calls_true (C := cR lo2 n2 xN) (okR h3 h4 xN) (f := 3) (fi := Tab.u3) (o := o) (fr' := fr') (h1 := hh) fu3 ?_ hret ha w
  rw [← nest3]
  refine CodeX.chain (C := cR lo2 n2 xN) (C' := cR lo2 n2 (xW nc t s (nw lo2 n2 st))) (n0 := 300) rfl (okR h3 h4 _) ((ExtS.at exS fun v h' hv => hnew _ v h' hv).ok rfl) rfl (fr1 := fr1) (h1 := h1) ?_ q1
  refine CodeX.move (σ1 := σ) (ft := fitSame) (g := gOf g m) rfl (gOf_inj hg) (fitSame_ok σ) q2 hcl ?_
  refine CodeX.chain (C := cR lo2 n2 xN) (C' := cR lo2 n2 (extV sv xN)) (n0 := 300) rfl (okR h3 h4 _) ((ExtS.sumV exN (hsv _ rfl)).ok rfl) rfl (fr1 := fr2) (h1 := h2) ?_ q3
  refine CodeX.move (σ1 := σ) (ft := fitSame) (g := gI) rfl gI_inj (fitSame_ok σ) q4 hcl ?_
  exact CodeX.eval (C' := cR lo2 n2 (extV sv (extT l))) he (okR h3 h4 _) ((ExtS.sumV (ExtS.of (hl _ rfl)) (hsv _ rfl)).ok rfl) rfl
/-- a part of Check, that finds nothing -/
noncomputable def pV (lo2 : Int) (n2 : Nat) (s : SumV) : Bool := closedV s && saysV s.bl (eval (cR lo2 n2 xN) 300 X0 (.call s.f s.args) (heapOf s.bl s.n))
theorem sumV_ok {lo2 : Int} {n2 : Nat} {s : SumV} {σ : Sig} (hp : pV lo2 n2 s = true) (h3 : lo2 ≤ σ 0) (h4 : σ 0 < lo2 + n2) (C : Cfg) (hC : C.fu = Tab.fuT.get) : SummV Tryz.prog σ C s := by
  unfold pV at hp
  simp only [Bool.and_eq_true] at hp
  exact SummV.of (C' := cR lo2 n2 xN) hC.symm (okR h3 h4 xN) (exN.ok rfl) hp.1 hp.2
def unrle (l : List (Nat × A)) : List A := l.flatMap fun p => List.replicate p.1 p.2
noncomputable def cl (l : List (Nat × A)) (n : Nat) (f : Bool) : Blk := .cells (T.ofList (unrle l)) n f none
/-- the view's cells: slices that are not looked at -/
def anyAt (keep : List Nat) (l : List A) : List A := l.zipIdx.map fun p => bif keep.contains p.2 then p.1 else (match p.1 with | .slice .. => .any | .fsl .. => .any | .nils => .any | .emp => .any | a => a)
/-- awake() and Low -/
noncomputable def low1 (k1 : Int) : List SumE := [⟨5, [], .one (.bool true)⟩, ⟨9, [.one (.sym .i64 (.var 3)), .one (.int .i64 ((5 : Nat) : Int))], .one (.int .i64 k1)⟩]
noncomputable def low2 (k1 : Int) (n : Nat) (k2 : Int) : List SumE := ⟨9, [.one (.sym .i64 (.var 2)), .one (.int .i64 (n : Int))], .one (.int .i64 k2)⟩ :: low1 k1
end Boots
