/- IpcDropped: the call answers true, of any arguments. No conditions. -/
import Derived.Test.YtcdhglfdgmeokaaGreatA21
import Derived.Test.YtcdhglfdgmeokaaGreatFlat
set_option linter.unusedVariables false
open Go Eng Go.Proofs Go.RowKit
namespace ipcDroppedW
open Base
noncomputable def lst : List SumE := [⟨21, [], .one (.bool true)⟩]
noncomputable def run (b1 : Bool) : Bool := says true (eval (cfgW [s19] [] [] lst) 300 X0 (.call 4 [.agg [.sym .u64 (.var 0), .sym .u64 (.var 1), .sym .u64 (.var 2), .sym .u64 (.var 3)], .one (.bool b1)]) ⟨.nil, 0⟩)
theorem rt : run true = true := by decide +kernel
theorem rf : run false = true := by decide +kernel
theorem any : ∀ b1 : Bool, run b1 = true
  | true => rt
  | false => rf
def sig (z0_0 z0_1 z0_2 z0_3 : Int) : Sig := fun i => match i with | 0 => z0_0 | 1 => z0_1 | 2 => z0_2 | _ => z0_3
set_option maxRecDepth 100000 in
theorem walk (l0 : List Value) (b1 : Bool) (h0 : Flat.Cells [.n .u64, .n .u64, .n .u64, .n .u64] l0)  (w : World) : Calls Tryz.prog 4 #[.agg l0.toArray, .bool b1] w fun e w' => e = .returned (.bool true) ∧ Grown w w' := by
  obtain _ | ⟨_, h0⟩ := h0
  rename_i z0_0 _ _
  obtain _ | ⟨_, h0⟩ := h0
  rename_i z0_1 _ _
  obtain _ | ⟨_, h0⟩ := h0
  rename_i z0_2 _ _
  obtain _ | ⟨_, h0⟩ := h0
  rename_i z0_3 _ _
  cases h0
  have ha0 : F2 (AR rho0 (sig z0_0 z0_1 z0_2 z0_3)) [.sym .u64 (.var 0), .sym .u64 (.var 1), .sym .u64 (.var 2), .sym .u64 (.var 3)] [.int .u64 z0_0, .int .u64 z0_1, .int .u64 z0_2, .int .u64 z0_3] := (.cons rfl (.cons rfl (.cons rfl (.cons rfl .nil))))
  have hv : F2 (AVR rho0 (sig z0_0 z0_1 z0_2 z0_3)) [.agg [.sym .u64 (.var 0), .sym .u64 (.var 1), .sym .u64 (.var 2), .sym .u64 (.var 3)], .one (.bool b1)] [.agg [.int .u64 z0_0, .int .u64 z0_1, .int .u64 z0_2, .int .u64 z0_3].toArray, .bool b1] := (.cons ⟨_, rfl, ha0⟩ (.cons rfl .nil))
  exact leafW (any b1) (gs19 _) .nil .nil (fun C hC => .cons (aw21 _ C hC) .nil) hv w
end ipcDroppedW
