/- AuditBoots: awake() and Low, and configurations of which there is no boot. No conditions beside those in its theorems. -/
import Derived.Test.YtikjmnimdlcehaaGreatBM
import Derived.Test.YtikjmnimdlcehaaGreatFlat
set_option linter.unusedVariables false
open Go Eng Go.Proofs Go.RowKit
set_option maxRecDepth 100000
namespace Boots
open Base
theorem aw5 : says true (eval cfg0 300 X0 (.call 5 []) ⟨.nil, 0⟩) = true := by decide +kernel
theorem lw2_1 : isLow 2 1 (eval cfg0 300 X0 (.call 9 [.one (.sym .i64 (.var 2)), .one (.int .i64 ((1 : Nat) : Int))]) ⟨.nil, 0⟩) = true := by decide +kernel
theorem lw2_2 : isLow 2 2 (eval cfg0 300 X0 (.call 9 [.one (.sym .i64 (.var 2)), .one (.int .i64 ((2 : Nat) : Int))]) ⟨.nil, 0⟩) = true := by decide +kernel
theorem lw2_3 : isLow 2 3 (eval cfg0 300 X0 (.call 9 [.one (.sym .i64 (.var 2)), .one (.int .i64 ((3 : Nat) : Int))]) ⟨.nil, 0⟩) = true := by decide +kernel
theorem lw2_4 : isLow 2 4 (eval cfg0 300 X0 (.call 9 [.one (.sym .i64 (.var 2)), .one (.int .i64 ((4 : Nat) : Int))]) ⟨.nil, 0⟩) = true := by decide +kernel
theorem lw2_5 : isLow 2 5 (eval cfg0 300 X0 (.call 9 [.one (.sym .i64 (.var 2)), .one (.int .i64 ((5 : Nat) : Int))]) ⟨.nil, 0⟩) = true := by decide +kernel
theorem lw2_8 : isLow 2 8 (eval cfg0 300 X0 (.call 9 [.one (.sym .i64 (.var 2)), .one (.int .i64 ((8 : Nat) : Int))]) ⟨.nil, 0⟩) = true := by decide +kernel
theorem lw2_9 : isLow 2 9 (eval cfg0 300 X0 (.call 9 [.one (.sym .i64 (.var 2)), .one (.int .i64 ((9 : Nat) : Int))]) ⟨.nil, 0⟩) = true := by decide +kernel
theorem lw2_10 : isLow 2 10 (eval cfg0 300 X0 (.call 9 [.one (.sym .i64 (.var 2)), .one (.int .i64 ((10 : Nat) : Int))]) ⟨.nil, 0⟩) = true := by decide +kernel
theorem lw2_14 : isLow 2 14 (eval cfg0 300 X0 (.call 9 [.one (.sym .i64 (.var 2)), .one (.int .i64 ((14 : Nat) : Int))]) ⟨.nil, 0⟩) = true := by decide +kernel
theorem lw2_15 : isLow 2 15 (eval cfg0 300 X0 (.call 9 [.one (.sym .i64 (.var 2)), .one (.int .i64 ((15 : Nat) : Int))]) ⟨.nil, 0⟩) = true := by decide +kernel
theorem lw2_18 : isLow 2 18 (eval cfg0 300 X0 (.call 9 [.one (.sym .i64 (.var 2)), .one (.int .i64 ((18 : Nat) : Int))]) ⟨.nil, 0⟩) = true := by decide +kernel
theorem lw2_22 : isLow 2 22 (eval cfg0 300 X0 (.call 9 [.one (.sym .i64 (.var 2)), .one (.int .i64 ((22 : Nat) : Int))]) ⟨.nil, 0⟩) = true := by decide +kernel
theorem lw2_27 : isLow 2 27 (eval cfg0 300 X0 (.call 9 [.one (.sym .i64 (.var 2)), .one (.int .i64 ((27 : Nat) : Int))]) ⟨.nil, 0⟩) = true := by decide +kernel
theorem lw3_5 : isLow 3 5 (eval cfg0 300 X0 (.call 9 [.one (.sym .i64 (.var 3)), .one (.int .i64 ((5 : Nat) : Int))]) ⟨.nil, 0⟩) = true := by decide +kernel
theorem ls1 {σ : Sig} {k : Nat} (hk : k < 5) (e : low ((5 : Nat) : Int) (σ 3) = Int.ofNat k) : ∀ C : Cfg, C.fu = Tab.fuT.get → Al (Summ Tryz.prog σ C) (low1 (Int.ofNat k)) := fun C hC =>
  .cons (summ0 C hC σ aw5) (.cons (summLow C hC σ lw3_5 (by omega) e hk) .nil)
theorem ls2 {σ : Sig} {k n j : Nat} (hk : k < 5) (e : low ((5 : Nat) : Int) (σ 3) = Int.ofNat k) (hl : isLow 2 n (eval cfg0 300 X0 (.call 9 [.one (.sym .i64 (.var 2)), .one (.int .i64 (n : Int))]) ⟨.nil, 0⟩) = true) (hn : n ≤ 1000) (hj : j < n) (e2 : low (n : Int) (σ 2) = Int.ofNat j) :
    ∀ C : Cfg, C.fu = Tab.fuT.get → Al (Summ Tryz.prog σ C) (low2 (Int.ofNat k) n (Int.ofNat j)) := fun C hC =>
  .cons (summLow C hC σ hl hn e2 hj) (ls1 hk e C hC)
def sg (u fr wh wt : Int) : Sig := fun i => match i with | 0 => u | 1 => fr | 2 => wh | _ => wt
theorem den1 (c fr : Int) (h1 : 11 ≤ fr) (h2 : fr ≤ 64) (h3 : 0 ≤ c) (h4 : c ≤ 10) : fr - c = (E.bin .quo .i64 (.bin .sub .i64 (.var 0) (.lit c)) (.lit 1)).den (fun _ => fr) := by
  simp [E.den, binDen, IntKind.wrap_i64]
  omega
noncomputable def cN (t : List CF) : Cfg := { ty := Tab.tyT.get, fu := Tab.fuT.get, cmp := cmpT t, ext := extT [⟨5, [], .one (.bool true)⟩] }
theorem leafN {t : List CF} {σ : Sig} {args : List AV} {vs : List Value} (hk : says true (eval (cN t) 300 X0 (.call 3 args) ⟨.nil, 0⟩) = true) (ht : Al (CFok σ) t) (ha : F2 (AVR rho0 σ) args vs) (w : World) : Calls Tryz.prog 3 vs.toArray w fun e w' => e = .returned (.bool true) ∧ Grown w w' :=
  calls_true (ok (cmpT t) (extT [⟨5, [], .one (.bool true)⟩]) (fun _ => none) σ (cmpT_ok ht) (fun _ _ h => nomatch h)) ((ExtS.of (l := [⟨5, [], .one (.bool true)⟩]) (.cons (summ0 _ rfl σ aw5) .nil)).ok rfl) hk ha w
def sn (fr co th wh wt : Int) : Sig := fun i => match i with | 0 => fr | 1 => co | 2 => th | 3 => wh | _ => wt
noncomputable def aN (th : A) (s : Bool) : List AV := [.agg [.sym .i64 (.var 0), .sym .i64 (.var 1), th, .bool s], .one (.sym .i64 (.var 3)), .one (.sym .i64 (.var 4))]
noncomputable def tN1 : List CF := [⟨.geq, .var 2, .lit 1, false⟩]
theorem rN1t : says true (eval (cN tN1) 300 X0 (.call 3 (aN (.sym .i64 (.var 2)) true)) ⟨.nil, 0⟩) = true := by decide +kernel
theorem rN1f : says true (eval (cN tN1) 300 X0 (.call 3 (aN (.sym .i64 (.var 2)) false)) ⟨.nil, 0⟩) = true := by decide +kernel
theorem rN1 : ∀ s : Bool, says true (eval (cN tN1) 300 X0 (.call 3 (aN (.sym .i64 (.var 2)) s)) ⟨.nil, 0⟩) = true
  | true => rN1t
  | false => rN1f
noncomputable def tN2 : List CF := [⟨.geq, .var 2, .lit 1, true⟩, ⟨.leq, .var 2, .lit 3, false⟩]
theorem rN2t : says true (eval (cN tN2) 300 X0 (.call 3 (aN (.sym .i64 (.var 2)) true)) ⟨.nil, 0⟩) = true := by decide +kernel
theorem rN2f : says true (eval (cN tN2) 300 X0 (.call 3 (aN (.sym .i64 (.var 2)) false)) ⟨.nil, 0⟩) = true := by decide +kernel
theorem rN2 : ∀ s : Bool, says true (eval (cN tN2) 300 X0 (.call 3 (aN (.sym .i64 (.var 2)) s)) ⟨.nil, 0⟩) = true
  | true => rN2t
  | false => rN2f
noncomputable def tN3 : List CF := [⟨.geq, .var 2, .lit 1, true⟩, ⟨.leq, .var 2, .lit 3, true⟩, ⟨.geq, .var 1, .lit 1, false⟩]
theorem rN3t : says true (eval (cN tN3) 300 X0 (.call 3 (aN (.sym .i64 (.var 2)) true)) ⟨.nil, 0⟩) = true := by decide +kernel
theorem rN3f : says true (eval (cN tN3) 300 X0 (.call 3 (aN (.sym .i64 (.var 2)) false)) ⟨.nil, 0⟩) = true := by decide +kernel
theorem rN3 : ∀ s : Bool, says true (eval (cN tN3) 300 X0 (.call 3 (aN (.sym .i64 (.var 2)) s)) ⟨.nil, 0⟩) = true
  | true => rN3t
  | false => rN3f
noncomputable def tN4 : List CF := [⟨.geq, .var 2, .lit 1, true⟩, ⟨.leq, .var 2, .lit 3, true⟩, ⟨.geq, .var 1, .lit 1, true⟩, ⟨.leq, .var 1, .lit 3, false⟩]
theorem rN4t : says true (eval (cN tN4) 300 X0 (.call 3 (aN (.sym .i64 (.var 2)) true)) ⟨.nil, 0⟩) = true := by decide +kernel
theorem rN4f : says true (eval (cN tN4) 300 X0 (.call 3 (aN (.sym .i64 (.var 2)) false)) ⟨.nil, 0⟩) = true := by decide +kernel
theorem rN4 : ∀ s : Bool, says true (eval (cN tN4) 300 X0 (.call 3 (aN (.sym .i64 (.var 2)) s)) ⟨.nil, 0⟩) = true
  | true => rN4t
  | false => rN4f
noncomputable def tN5_1 : List CF := [⟨.geq, .var 1, .lit 1, true⟩, ⟨.leq, .var 1, .lit 3, true⟩, ⟨.geq, .var 0, .lit 11, false⟩]
theorem rN5_1t : says true (eval (cN tN5_1) 300 X0 (.call 3 (aN (.int .i64 1) true)) ⟨.nil, 0⟩) = true := by decide +kernel
theorem rN5_1f : says true (eval (cN tN5_1) 300 X0 (.call 3 (aN (.int .i64 1) false)) ⟨.nil, 0⟩) = true := by decide +kernel
theorem rN5_1 : ∀ s : Bool, says true (eval (cN tN5_1) 300 X0 (.call 3 (aN (.int .i64 1) s)) ⟨.nil, 0⟩) = true
  | true => rN5_1t
  | false => rN5_1f
noncomputable def tN6_1 : List CF := [⟨.geq, .var 1, .lit 1, true⟩, ⟨.leq, .var 1, .lit 3, true⟩, ⟨.geq, .var 0, .lit 11, true⟩, ⟨.leq, .var 0, .lit 64, false⟩]
theorem rN6_1t : says true (eval (cN tN6_1) 300 X0 (.call 3 (aN (.int .i64 1) true)) ⟨.nil, 0⟩) = true := by decide +kernel
theorem rN6_1f : says true (eval (cN tN6_1) 300 X0 (.call 3 (aN (.int .i64 1) false)) ⟨.nil, 0⟩) = true := by decide +kernel
theorem rN6_1 : ∀ s : Bool, says true (eval (cN tN6_1) 300 X0 (.call 3 (aN (.int .i64 1) s)) ⟨.nil, 0⟩) = true
  | true => rN6_1t
  | false => rN6_1f
noncomputable def tN5_2 : List CF := [⟨.geq, .var 1, .lit 1, true⟩, ⟨.leq, .var 1, .lit 3, true⟩, ⟨.geq, .var 0, .lit 22, false⟩]
theorem rN5_2t : says true (eval (cN tN5_2) 300 X0 (.call 3 (aN (.int .i64 2) true)) ⟨.nil, 0⟩) = true := by decide +kernel
theorem rN5_2f : says true (eval (cN tN5_2) 300 X0 (.call 3 (aN (.int .i64 2) false)) ⟨.nil, 0⟩) = true := by decide +kernel
theorem rN5_2 : ∀ s : Bool, says true (eval (cN tN5_2) 300 X0 (.call 3 (aN (.int .i64 2) s)) ⟨.nil, 0⟩) = true
  | true => rN5_2t
  | false => rN5_2f
noncomputable def tN6_2 : List CF := [⟨.geq, .var 1, .lit 1, true⟩, ⟨.leq, .var 1, .lit 3, true⟩, ⟨.geq, .var 0, .lit 22, true⟩, ⟨.leq, .var 0, .lit 64, false⟩]
theorem rN6_2t : says true (eval (cN tN6_2) 300 X0 (.call 3 (aN (.int .i64 2) true)) ⟨.nil, 0⟩) = true := by decide +kernel
theorem rN6_2f : says true (eval (cN tN6_2) 300 X0 (.call 3 (aN (.int .i64 2) false)) ⟨.nil, 0⟩) = true := by decide +kernel
theorem rN6_2 : ∀ s : Bool, says true (eval (cN tN6_2) 300 X0 (.call 3 (aN (.int .i64 2) s)) ⟨.nil, 0⟩) = true
  | true => rN6_2t
  | false => rN6_2f
noncomputable def tN5_3 : List CF := [⟨.geq, .var 1, .lit 1, true⟩, ⟨.leq, .var 1, .lit 3, true⟩, ⟨.geq, .var 0, .lit 33, false⟩]
theorem rN5_3t : says true (eval (cN tN5_3) 300 X0 (.call 3 (aN (.int .i64 3) true)) ⟨.nil, 0⟩) = true := by decide +kernel
theorem rN5_3f : says true (eval (cN tN5_3) 300 X0 (.call 3 (aN (.int .i64 3) false)) ⟨.nil, 0⟩) = true := by decide +kernel
theorem rN5_3 : ∀ s : Bool, says true (eval (cN tN5_3) 300 X0 (.call 3 (aN (.int .i64 3) s)) ⟨.nil, 0⟩) = true
  | true => rN5_3t
  | false => rN5_3f
noncomputable def tN6_3 : List CF := [⟨.geq, .var 1, .lit 1, true⟩, ⟨.leq, .var 1, .lit 3, true⟩, ⟨.geq, .var 0, .lit 33, true⟩, ⟨.leq, .var 0, .lit 64, false⟩]
theorem rN6_3t : says true (eval (cN tN6_3) 300 X0 (.call 3 (aN (.int .i64 3) true)) ⟨.nil, 0⟩) = true := by decide +kernel
theorem rN6_3f : says true (eval (cN tN6_3) 300 X0 (.call 3 (aN (.int .i64 3) false)) ⟨.nil, 0⟩) = true := by decide +kernel
theorem rN6_3 : ∀ s : Bool, says true (eval (cN tN6_3) 300 X0 (.call 3 (aN (.int .i64 3) s)) ⟨.nil, 0⟩) = true
  | true => rN6_3t
  | false => rN6_3f
end Boots
