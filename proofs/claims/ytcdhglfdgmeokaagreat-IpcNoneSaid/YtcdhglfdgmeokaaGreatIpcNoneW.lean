/- IpcNone: the call answers true, of any arguments. No conditions. -/
import Derived.Test.YtcdhglfdgmeokaaGreatA21
import Derived.Test.YtcdhglfdgmeokaaGreatFlat
set_option linter.unusedVariables false
open Go Eng Go.Proofs Go.RowKit
namespace ipcNoneW
open Base
noncomputable def lst : List SumE := [⟨21, [], .one (.bool true)⟩]
noncomputable def run : Bool := says true (eval (cfgW [s19] [] [] lst) 300 X0 (.call 3 [.one (.sym .i64 (.var 0)), .agg [.sym .u64 (.var 1), .sym .u64 (.var 2), .sym .u64 (.var 3), .sym .u64 (.var 4)], .one (.sym .i64 (.var 5))]) ⟨.nil, 0⟩)
theorem r : run  = true := by decide +kernel
theorem any : run = true := r
def sig (a0 z1_0 z1_1 z1_2 z1_3 a2 : Int) : Sig := fun i => match i with | 0 => a0 | 1 => z1_0 | 2 => z1_1 | 3 => z1_2 | 4 => z1_3 | _ => a2
set_option maxRecDepth 100000 in
theorem walk (a0 : Int) (l1 : List Value) (a2 : Int) (h1 : Flat.Cells [.n .u64, .n .u64, .n .u64, .n .u64] l1)  (w : World) : Calls Tryz.prog 3 #[.int .i64 a0, .agg l1.toArray, .int .i64 a2] w fun e w' => e = .returned (.bool true) ∧ Grown w w' := by
  obtain _ | ⟨_, h1⟩ := h1
  rename_i z1_0 _ _
  obtain _ | ⟨_, h1⟩ := h1
  rename_i z1_1 _ _
  obtain _ | ⟨_, h1⟩ := h1
  rename_i z1_2 _ _
  obtain _ | ⟨_, h1⟩ := h1
  rename_i z1_3 _ _
  cases h1
  have ha1 : F2 (AR rho0 (sig a0 z1_0 z1_1 z1_2 z1_3 a2)) [.sym .u64 (.var 1), .sym .u64 (.var 2), .sym .u64 (.var 3), .sym .u64 (.var 4)] [.int .u64 z1_0, .int .u64 z1_1, .int .u64 z1_2, .int .u64 z1_3] := (.cons rfl (.cons rfl (.cons rfl (.cons rfl .nil))))
  have hv : F2 (AVR rho0 (sig a0 z1_0 z1_1 z1_2 z1_3 a2)) [.one (.sym .i64 (.var 0)), .agg [.sym .u64 (.var 1), .sym .u64 (.var 2), .sym .u64 (.var 3), .sym .u64 (.var 4)], .one (.sym .i64 (.var 5))] [.int .i64 a0, .agg [.int .u64 z1_0, .int .u64 z1_1, .int .u64 z1_2, .int .u64 z1_3].toArray, .int .i64 a2] := (.cons rfl (.cons ⟨_, rfl, ha1⟩ (.cons rfl .nil)))
  exact leafW (any ) (gs19 _) .nil .nil (fun C hC => .cons (aw21 _ C hC) .nil) hv w
end ipcNoneW
