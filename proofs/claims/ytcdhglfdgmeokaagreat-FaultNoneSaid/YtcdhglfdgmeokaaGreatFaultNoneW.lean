/- FaultNone: the call answers true, of any arguments. No conditions. -/
import Derived.Test.YtcdhglfdgmeokaaGreatA58
import Derived.Test.YtcdhglfdgmeokaaGreatFlat
set_option linter.unusedVariables false
open Go Eng Go.Proofs Go.RowKit
namespace faultNoneW
open Base
noncomputable def lst : List SumE := [⟨58, [], .one (.bool true)⟩]
noncomputable def run (z1_0 z1_1 : Bool) : Bool := says true (eval (cfgW [s19] [] [] lst) 300 X0 (.call 12 [.one (.sym .i64 (.var 0)), .agg [.bool z1_0, .bool z1_1, .sym .u64 (.var 1), .sym .u64 (.var 2)]]) ⟨.nil, 0⟩)
theorem rtt : run true true = true := by decide +kernel
theorem rtf : run true false = true := by decide +kernel
theorem rft : run false true = true := by decide +kernel
theorem rff : run false false = true := by decide +kernel
theorem any : ∀ z1_0 z1_1 : Bool, run z1_0 z1_1 = true
  | true, true => rtt
  | true, false => rtf
  | false, true => rft
  | false, false => rff
def sig (a0 z1_2 z1_3 : Int) : Sig := fun i => match i with | 0 => a0 | 1 => z1_2 | _ => z1_3
set_option maxRecDepth 100000 in
theorem walk (a0 : Int) (l1 : List Value) (h1 : Flat.Cells [.b, .b, .n .u64, .n .u64] l1)  (w : World) : Calls Tryz.prog 12 #[.int .i64 a0, .agg l1.toArray] w fun e w' => e = .returned (.bool true) ∧ Grown w w' := by
  obtain _ | _ | h1 := h1
  rename_i z1_0 _
  obtain _ | _ | h1 := h1
  rename_i z1_1 _
  obtain _ | ⟨_, h1⟩ := h1
  rename_i z1_2 _ _
  obtain _ | ⟨_, h1⟩ := h1
  rename_i z1_3 _ _
  cases h1
  have ha1 : F2 (AR rho0 (sig a0 z1_2 z1_3)) [.bool z1_0, .bool z1_1, .sym .u64 (.var 1), .sym .u64 (.var 2)] [.bool z1_0, .bool z1_1, .int .u64 z1_2, .int .u64 z1_3] := (.cons rfl (.cons rfl (.cons rfl (.cons rfl .nil))))
  have hv : F2 (AVR rho0 (sig a0 z1_2 z1_3)) [.one (.sym .i64 (.var 0)), .agg [.bool z1_0, .bool z1_1, .sym .u64 (.var 1), .sym .u64 (.var 2)]] [.int .i64 a0, .agg [.bool z1_0, .bool z1_1, .int .u64 z1_2, .int .u64 z1_3].toArray] := (.cons rfl (.cons ⟨_, rfl, ha1⟩ .nil))
  exact leafW (any z1_0 z1_1) (gs19 _) .nil .nil (fun C hC => .cons (aw58 _ C hC) .nil) hv w
end faultNoneW
