/- VspaceLevels: what is evaluated, with which facts and answers. No conditions beside those in its theorems. -/
import Derived.Test.YtcdhglfdgmeokaaGreatA34
set_option linter.unusedVariables false
open Go Eng Go.Proofs Go.RowKit
namespace vspaceLevelsW
open Base
noncomputable def isV (v : AV) (r : OR) : Bool := match r with | some (.val x _) => AV.eqb x v | _ => false
theorem isV_some {v : AV} {r : OR} (h : isV v r = true) : ∃ h', r = some (.val v h') := by
  unfold isV at h
  split at h
  · rename_i x h'; exact ⟨h', by rw [AV.eqb_eq h]⟩
  · cases h
theorem summV (C : Cfg) (hC : C.fu = Tab.fuT.get) (σ : Sig) (s : SumE) (hk : isV s.v (eval cfg0 300 X0 (.call s.f s.args) ⟨.nil, 0⟩) = true) (hp : plainAV s.v = true) (ha : s.args.all plainAV = true) : Summ Tryz.prog σ C s := by
  obtain ⟨h', hk'⟩ := isV_some hk
  exact Summ.of (C := cfg0) hC.symm (ok0 σ) (ext0 σ) hk' hp ha
noncomputable def p0 : SumE := ⟨127, [.agg [.bool true, .bool false, .bool false, .bool false, .int .i64 24]], .tup [.one (.int .u64 6145), .one (.int .i64 0)]⟩
theorem q0 : isV p0.v (eval cfg0 300 X0 (.call p0.f p0.args) ⟨.nil, 0⟩) = true := by decide +kernel
noncomputable def p1 : SumE := ⟨127, [.agg [.bool true, .bool false, .bool false, .bool false, .int .i64 25]], .tup [.one (.int .u64 6401), .one (.int .i64 0)]⟩
theorem q1 : isV p1.v (eval cfg0 300 X0 (.call p1.f p1.args) ⟨.nil, 0⟩) = true := by decide +kernel
noncomputable def p2 : SumE := ⟨127, [.agg [.bool true, .bool false, .bool false, .bool false, .int .i64 26]], .tup [.one (.int .u64 6657), .one (.int .i64 0)]⟩
theorem q2 : isV p2.v (eval cfg0 300 X0 (.call p2.f p2.args) ⟨.nil, 0⟩) = true := by decide +kernel
noncomputable def p3 : SumE := ⟨340, [.one (.int .u64 6145)], .tup [.agg [.bool true, .bool false, .bool false, .bool false, .int .i64 24], .one (.int .i64 0)]⟩
theorem q3 : isV p3.v (eval cfg0 300 X0 (.call p3.f p3.args) ⟨.nil, 0⟩) = true := by decide +kernel
noncomputable def p4 : SumE := ⟨235, [.one (.int .u64 8), .one (.int .i64 4), .one (.int .i64 1), .one (.int .u64 1)], .tup [.one (.int .u64 24), .one (.int .i64 0)]⟩
theorem q4 : isV p4.v (eval cfg0 300 X0 (.call p4.f p4.args) ⟨.nil, 0⟩) = true := by decide +kernel
noncomputable def p5 : SumE := ⟨235, [.one (.int .u64 0), .one (.int .i64 3), .one (.int .i64 1), .one (.int .u64 1)], .tup [.one (.int .u64 8), .one (.int .i64 0)]⟩
theorem q5 : isV p5.v (eval cfg0 300 X0 (.call p5.f p5.args) ⟨.nil, 0⟩) = true := by decide +kernel
noncomputable def lst : List SumE := [⟨34, [], .one (.bool true)⟩, p0, p1, p2, p3, p4, p5]
theorem lstOK (σ : Sig) : ∀ C : Cfg, C.fu = Tab.fuT.get → Al (Summ Tryz.prog σ C) lst := fun C hC => .cons (aw34 σ C hC) (.cons (summV C hC σ p0 q0 rfl rfl) (.cons (summV C hC σ p1 q1 rfl rfl) (.cons (summV C hC σ p2 q2 rfl rfl) (.cons (summV C hC σ p3 q3 rfl rfl) (.cons (summV C hC σ p4 q4 rfl rfl) (.cons (summV C hC σ p5 q5 rfl rfl) .nil))))))
def eV (i : Nat) : E := .bin .rem .u64 (.var i) (.lit 32768)
def eP (i : Nat) : E := .conv .i64 (.bin .quo .u64 (eV i) (.lit 64))
def e1 (i : Nat) : E := .bin .rem .i64 (.bin .quo .i64 (.bin .quo .i64 (eP i) (.lit 8)) (.lit 8)) (.lit 8)
def e2 (i : Nat) : E := .bin .rem .i64 (.bin .quo .i64 (eP i) (.lit 8)) (.lit 8)
def tab (s4 s5 : Bool) : List CF := [⟨.lss, eP 0, .lit 0, false⟩, ⟨.geq, eP 0, .lit 512, false⟩, ⟨.lss, eP 1, .lit 0, false⟩, ⟨.geq, eP 1, .lit 512, false⟩, ⟨.geq, eV 0, .lit 32768, false⟩, ⟨.geq, eV 1, .lit 32768, false⟩,
  ⟨.eql, .bin .quo .u64 (eV 1) (.lit 512), .bin .quo .u64 (eV 0) (.lit 512), s5⟩, ⟨.eql, .bin .quo .u64 (eV 1) (.lit 4096), .bin .quo .u64 (eV 0) (.lit 4096), s4⟩]
def n3 (i j k : Nat) : List NF := [⟨e1 0, Int.ofNat i⟩, ⟨e2 0, Int.ofNat j⟩, ⟨e1 1, Int.ofNat k⟩]
def n4 (i j k : Nat) : List NF := [⟨e1 0, Int.ofNat i⟩, ⟨e2 0, Int.ofNat j⟩, ⟨e1 1, Int.ofNat i⟩, ⟨e2 1, Int.ofNat k⟩]
noncomputable def run (t : List CF) (n : List NF) : Bool := says true (eval (cfgW [s19] t n lst) 300 X0 (.call 6 [.one (.sym .u64 (.var 0)), .one (.sym .u64 (.var 1))]) ⟨.nil, 0⟩)
noncomputable def row (i j : Nat) : Bool := run (tab true true) (n4 i j j) && [0, 1, 2, 3, 4, 5, 6, 7].all fun k => (Nat.beq k i || run (tab false false) (n3 i j k)) && (Nat.beq k j || run (tab true false) (n4 i j k))
end vspaceLevelsW
