/- FaultPages: the call answers true, of any address and value. No conditions. -/
import Derived.Test.YtcdhglfdgmeokaaGreatA58
set_option linter.unusedVariables false
open Go Eng Go.Proofs Go.RowKit
namespace faultPagesW
open Base
noncomputable def lst : List SumE := [⟨58, [], .one (.bool true)⟩]
noncomputable def tA : List CF := [⟨.geq, .var 0, .lit 32768, true⟩]
noncomputable def tB : List CF := [⟨.geq, .var 0, .lit 32768, false⟩, ⟨.neq, (.bin .rem .u64 (.var 0) (.lit 8)), .lit 0, true⟩]
noncomputable def tC : List CF := [⟨.geq, .var 0, .lit 32768, false⟩, ⟨.neq, (.bin .rem .u64 (.var 0) (.lit 8)), .lit 0, false⟩]
noncomputable def run (t : List CF) (b2 b3 : Bool) : Bool := says true (eval (cfgW (s59 :: s132 :: [s19]) t [] lst) 300 X0 (.call 13 [.one (.sym .u64 (.var 0)), .one (.sym .u64 (.var 1)), .one (.bool b2), .one (.bool b3)]) ⟨.nil, 0⟩)
theorem rAtt : run tA true true = true := by decide +kernel
theorem rAtf : run tA true false = true := by decide +kernel
theorem rAft : run tA false true = true := by decide +kernel
theorem rAff : run tA false false = true := by decide +kernel
theorem anyA : ∀ b2 b3 : Bool, run tA b2 b3 = true
  | true, true => rAtt
  | true, false => rAtf
  | false, true => rAft
  | false, false => rAff
theorem rBtt : run tB true true = true := by decide +kernel
theorem rBtf : run tB true false = true := by decide +kernel
theorem rBft : run tB false true = true := by decide +kernel
theorem rBff : run tB false false = true := by decide +kernel
theorem anyB : ∀ b2 b3 : Bool, run tB b2 b3 = true
  | true, true => rBtt
  | true, false => rBtf
  | false, true => rBft
  | false, false => rBff
theorem rCtt : run tC true true = true := by decide +kernel
theorem rCtf : run tC true false = true := by decide +kernel
theorem rCft : run tC false true = true := by decide +kernel
theorem rCff : run tC false false = true := by decide +kernel
theorem anyC : ∀ b2 b3 : Bool, run tC b2 b3 = true
  | true, true => rCtt
  | true, false => rCtf
  | false, true => rCft
  | false, false => rCff
def sig (a0 a1 : Int) : Sig := fun i => match i with | 0 => a0 | _ => a1
set_option maxRecDepth 100000 in
theorem walk (a0 : Int) (a1 : Int) (b2 : Bool) (b3 : Bool)  (w0 : (Lit.int .u64 a0).wf = true) (w1 : (Lit.int .u64 a1).wf = true) (w : World) : Calls Tryz.prog 13 #[.int .u64 a0, .int .u64 a1, .bool b2, .bool b3] w fun e w' => e = .returned (.bool true) ∧ Grown w w' := by
  have hv : F2 (AVR rho0 (sig a0 a1)) [.one (.sym .u64 (.var 0)), .one (.sym .u64 (.var 1)), .one (.bool b2), .one (.bool b3)] [.int .u64 a0, .int .u64 a1, .bool b2, .bool b3] := (.cons rfl (.cons rfl (.cons rfl (.cons rfl .nil))))
  by_cases hA : a0 ≥ 32768
  · exact leafW (show says true (eval (cfgW (s59 :: s132 :: [s19]) tA [] lst) 300 X0 (.call 13 [.one (.sym .u64 (.var 0)), .one (.sym .u64 (.var 1)), .one (.bool b2), .one (.bool b3)]) ⟨.nil, 0⟩) = true from anyA b2 b3) (gs59 _) (.cons (show CFok (sig a0 a1) ⟨.geq, .var 0, .lit 32768, true⟩ from decide_eq_true hA) .nil) .nil (fun C hC => .cons (aw58 _ C hC) .nil) hv w
  · by_cases hB : a0.tmod 8 = 0
    · exact leafW (show says true (eval (cfgW (s59 :: s132 :: [s19]) tC [] lst) 300 X0 (.call 13 [.one (.sym .u64 (.var 0)), .one (.sym .u64 (.var 1)), .one (.bool b2), .one (.bool b3)]) ⟨.nil, 0⟩) = true from anyC b2 b3) (gs59 _) (.cons (show CFok (sig a0 a1) ⟨.geq, .var 0, .lit 32768, false⟩ from decide_eq_false hA) (.cons (show CFok (sig a0 a1) ⟨.neq, (.bin .rem .u64 (.var 0) (.lit 8)), .lit 0, false⟩ from bne_eq_false_iff_eq.2 hB) .nil)) .nil (fun C hC => .cons (aw58 _ C hC) .nil) hv w
    · exact leafW (show says true (eval (cfgW (s59 :: s132 :: [s19]) tB [] lst) 300 X0 (.call 13 [.one (.sym .u64 (.var 0)), .one (.sym .u64 (.var 1)), .one (.bool b2), .one (.bool b3)]) ⟨.nil, 0⟩) = true from anyB b2 b3) (gs59 _) (.cons (show CFok (sig a0 a1) ⟨.geq, .var 0, .lit 32768, false⟩ from decide_eq_false hA) (.cons (show CFok (sig a0 a1) ⟨.neq, (.bin .rem .u64 (.var 0) (.lit 8)), .lit 0, true⟩ from bne_iff_ne.2 hB) .nil)) .nil (fun C hC => .cons (aw58 _ C hC) .nil) hv w
end faultPagesW
