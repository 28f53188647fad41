/- ReapNone: the call answers true, of any arguments. No conditions. -/
import Derived.Test.YtcdhglfdgmeokaaGreatA37
import Derived.Test.YtcdhglfdgmeokaaGreatFlat
set_option linter.unusedVariables false
open Go Eng Go.Proofs Go.RowKit
namespace reapNoneW
open Base
noncomputable def lst : List SumE := [⟨37, [], .one (.bool true)⟩]
noncomputable def run : Bool := says true (eval (cfgW [s19] [] [] lst) 300 X0 (.call 7 [.agg [.sym .i64 (.var 0), .sym .i64 (.var 1)], .one (.sym .i64 (.var 2))]) ⟨.nil, 0⟩)
theorem r : run  = true := by decide +kernel
theorem any : run = true := r
def sig (z0_0 z0_1 a1 : Int) : Sig := fun i => match i with | 0 => z0_0 | 1 => z0_1 | _ => a1
set_option maxRecDepth 100000 in
theorem walk (l0 : List Value) (a1 : Int) (h0 : Flat.Cells [.n .i64, .n .i64] l0)  (w : World) : Calls Tryz.prog 7 #[.agg l0.toArray, .int .i64 a1] w fun e w' => e = .returned (.bool true) ∧ Grown w w' := by
  obtain _ | ⟨_, h0⟩ := h0
  rename_i z0_0 _ _
  obtain _ | ⟨_, h0⟩ := h0
  rename_i z0_1 _ _
  cases h0
  have ha0 : F2 (AR rho0 (sig z0_0 z0_1 a1)) [.sym .i64 (.var 0), .sym .i64 (.var 1)] [.int .i64 z0_0, .int .i64 z0_1] := (.cons rfl (.cons rfl .nil))
  have hv : F2 (AVR rho0 (sig z0_0 z0_1 a1)) [.agg [.sym .i64 (.var 0), .sym .i64 (.var 1)], .one (.sym .i64 (.var 2))] [.agg [.int .i64 z0_0, .int .i64 z0_1].toArray, .int .i64 a1] := (.cons ⟨_, rfl, ha0⟩ (.cons rfl .nil))
  exact leafW (any ) (gs19 _) .nil .nil (fun C hC => .cons (aw37 _ C hC) .nil) hv w
end reapNoneW
