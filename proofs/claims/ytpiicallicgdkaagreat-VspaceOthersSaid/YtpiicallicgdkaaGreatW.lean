/- Calls that are evaluated with heaps written down, answers of calls, facts of numbers, and the sorted keys of a map. No conditions. -/
import Derived.Test.YtpiicallicgdkaaGreatS
import Derived.Test.YtpiicallicgdkaaGreatSO
open Go Eng Go.Proofs Go.RowKit
namespace Base
noncomputable def cfgW (gs : List SumG) (t : List CF) (n : List NF) (l : List SumE) : Cfg := { ty := Tab.tyT.get, fu := Tab.fuT.get, cmp := cmpT t, norm := normT n, ext := extS 325 5 [340] (extGL gs (extT l)) }
theorem okW {gs : List SumG} {t : List CF} {n : List NF} {l : List SumE} {σ : Sig} (ht : Al (CFok σ) t) (hn : Al (NFok σ) n) : CfgOK Tryz.prog (cfgW gs t n l) σ := ok _ _ _ σ (cmpT_ok ht) (normT_ok hn)
theorem extW {gs : List SumG} {t : List CF} {n : List NF} {l : List SumE} {σ : Sig} (hg : ∀ C : Cfg, C.fu = Tab.fuT.get → Al (SummG Tryz.prog σ C) gs) (hl : ∀ C : Cfg, C.fu = Tab.fuT.get → Al (Summ Tryz.prog σ C) l) : ExtOK (cfgW gs t n l) Tryz.prog σ :=
  (ExtS.sort sortOK (ExtS.gaps (hg _ rfl) (ExtS.of (hl _ rfl)))).ok rfl
theorem leafW {gs : List SumG} {t : List CF} {n : List NF} {l : List SumE} {σ : Sig} {f : FuncId} {args : List AV} {vs : List Value} (hk : says true (eval (cfgW gs t n l) 300 X0 (.call f args) ⟨.nil, 0⟩) = true)
    (hg : ∀ C : Cfg, C.fu = Tab.fuT.get → Al (SummG Tryz.prog σ C) gs) (ht : Al (CFok σ) t) (hn : Al (NFok σ) n) (hl : ∀ C : Cfg, C.fu = Tab.fuT.get → Al (Summ Tryz.prog σ C) l) (ha : F2 (AVR rho0 σ) args vs) (w : World) :
    Calls Tryz.prog f vs.toArray w fun e w' => e = .returned (.bool true) ∧ Grown w w' :=
  calls_true (okW ht hn) (extW hg hl) hk ha w
theorem summW {gs : List SumG} {σ : Sig} (hg : ∀ C : Cfg, C.fu = Tab.fuT.get → Al (SummG Tryz.prog σ C) gs) (C : Cfg) (hC : C.fu = Tab.fuT.get) {n : Nat} {f : FuncId} {v : Bool} (hk : says v (eval (cfgW gs [] [] []) n X0 (.call f []) ⟨.nil, 0⟩) = true) : Summ Tryz.prog σ C ⟨f, [], .one (.bool v)⟩ := by
  obtain ⟨h', hk'⟩ := says_some hk
  exact Summ.of (C := cfgW gs [] [] []) (s := ⟨f, [], .one (.bool v)⟩) hC.symm (okW .nil .nil) (extW hg (fun _ _ => .nil)) hk' rfl rfl
theorem gapW {gs : List SumG} {σ : Sig} (hg : ∀ C : Cfg, C.fu = Tab.fuT.get → Al (SummG Tryz.prog σ C) gs) (C : Cfg) (hC : C.fu = Tab.fuT.get) {n : Nat} {s : SumG} (hb : fromK s.k s.bl = true) (hk : snap s.v s.next s.bl (eval (cfgW gs [] [] []) n X0 (.call s.f []) ⟨.nil, s.k⟩) = true) : SummG Tryz.prog σ C s :=
  SummG.of (C := cfgW gs [] [] []) hC.symm (okW .nil .nil) (extW hg (fun _ _ => .nil)) hb hk
theorem gs20 (σ : Sig) : ∀ C : Cfg, C.fu = Tab.fuT.get → Al (SummG Tryz.prog σ C) [s20] := fun C hC => .cons (sum20 σ C hC) .nil
end Base
