/- TopServed: what is evaluated is right. No conditions beside those in its theorems. -/
import Derived.Test.YtkcnnmpiochaaaaGreatKSM
import Derived.Test.YtkcnnmpiochaaaaGreatKSD
set_option linter.unusedVariables false
open Go Eng Go.Proofs Go.RowKit
namespace TopS
open Base
theorem okG {t : List CF} {n : List NF} {l : List SumE} {σ : Sig} (ht : Al (CFok σ) t) (hn : Al (NFok σ) n) : CfgOK Tryz.prog (cfgG t n l) σ :=
  have k := ok (cmpT t) (fun _ _ _ => none) (normT n) σ (cmpT_ok ht) (normT_ok hn)
  ⟨k.ty, k.fu, k.cmp, k.norm, k.mixed⟩
theorem exG {t : List CF} {n : List NF} {l : List SumE} {σ : Sig} (ht : Al (CFok σ) t) (hn : Al (NFok σ) n) (hl : ∀ C : Cfg, C.fu = Tab.fuT.get → Al (Summ Tryz.prog σ C) l) : ExtOK (cfgG t n l) Tryz.prog σ := by
  have h0 := exM ht hn hl
  intro f args h v h' hk
  have hk' : @Bool.rec (fun _ => Option (AV × H)) none ((cfgM t n l).ext f args h) (hasBit 2239744744524469655325139274778143245928983895389396457659112605491370665665273170485493450366479532224 f) = some (v, h') := hk
  cases hb : hasBit 2239744744524469655325139274778143245928983895389396457659112605491370665665273170485493450366479532224 f with
  | false => rw [hb] at hk'; cases hk'
  | true =>
    rw [hb] at hk'
    intro ρ w vs hr hvs
    obtain ⟨v', w', ρ', g1, g2, g3, g4⟩ := h0 f args h v h' hk' ρ w vs (hr.cfg (C' := cfgM t n l) (show (cfgG t n l).fu = (cfgM t n l).fu from rfl)) hvs
    exact ⟨v', w', ρ', g1, g2, g3.cfg (C' := cfgG t n l) (show (cfgM t n l).fu = (cfgG t n l).fu from rfl), g4⟩
theorem okLow0 : isLow 0 ((512 : Nat) : Int) (eval cfg0 100 X0 (.call 7 [.one (.sym .i64 (.var 0)), .one (.int .i64 ((512 : Nat) : Int))]) ⟨.nil, 0⟩) = true := by decide +kernel
theorem okLow1 : isLow 1 ((8 : Nat) : Int) (eval cfg0 100 X0 (.call 7 [.one (.sym .i64 (.var 1)), .one (.int .i64 ((8 : Nat) : Int))]) ⟨.nil, 0⟩) = true := by decide +kernel
theorem okLow2 : isLow 2 ((3 : Nat) : Int) (eval cfg0 100 X0 (.call 7 [.one (.sym .i64 (.var 2)), .one (.int .i64 ((3 : Nat) : Int))]) ⟨.nil, 0⟩) = true := by decide +kernel
end TopS
