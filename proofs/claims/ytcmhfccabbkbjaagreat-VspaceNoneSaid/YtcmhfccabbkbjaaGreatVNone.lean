/- VspaceNone: the call answers true, of any act. No conditions. -/
import Derived.Test.YtcmhfccabbkbjaaGreatS24
import Derived.Test.YtcmhfccabbkbjaaGreatFlat
open Go Eng Go.Proofs Go.RowKit
namespace VNone
open Base
noncomputable def lst : List SumE := [⟨37, [], .one (.bool true)⟩]
noncomputable def cfg : Cfg := { ty := Tab.tyT.get, fu := Tab.fuT.get, cmp := fun _ _ _ => none, ext := extT lst }
theorem run : says true (eval cfg 300 X0 (.call 5 [.agg [.sym .i64 (.var 0), .sym .i64 (.var 1), .sym .i64 (.var 2), .sym .i64 (.var 3), .sym .i64 (.var 4), .sym .i64 (.var 5), .sym .i64 (.var 6), .sym .u64 (.var 7)]]) ⟨.nil, 0⟩) = true := by decide +kernel
def sig (z0 z1 z2 z3 z4 z5 z6 z7 : Int) : Sig := fun i => match i with | 0 => z0 | 1 => z1 | 2 => z2 | 3 => z3 | 4 => z4 | 5 => z5 | 6 => z6 | _ => z7
set_option maxRecDepth 100000 in
theorem walk (l : List Value) (h : Flat.Cells [.i64, .i64, .i64, .i64, .i64, .i64, .i64, .u64] l) (w : World) : Calls Tryz.prog 5 #[.agg l.toArray] w fun e w' => e = .returned (.bool true) ∧ Grown w w' := by
  obtain _ | ⟨_, h⟩ := h
  rename_i z0 _ _
  obtain _ | ⟨_, h⟩ := h
  rename_i z1 _ _
  obtain _ | ⟨_, h⟩ := h
  rename_i z2 _ _
  obtain _ | ⟨_, h⟩ := h
  rename_i z3 _ _
  obtain _ | ⟨_, h⟩ := h
  rename_i z4 _ _
  obtain _ | ⟨_, h⟩ := h
  rename_i z5 _ _
  obtain _ | ⟨_, h⟩ := h
  rename_i z6 _ _
  obtain _ | ⟨_, h⟩ := h
  rename_i z7 _ _
  cases h
  have hc : CfgOK Tryz.prog cfg (sig z0 z1 z2 z3 z4 z5 z6 z7) := ok _ _ _ (fun _ _ _ _ h => nomatch h)
  have hx : ExtOK cfg Tryz.prog (sig z0 z1 z2 z3 z4 z5 z6 z7) := ExtOK.of (l := lst) rfl (.cons (summS _ rfl _ awake24) .nil)
  have ha : F2 (AR rho0 (sig z0 z1 z2 z3 z4 z5 z6 z7)) [.sym .i64 (.var 0), .sym .i64 (.var 1), .sym .i64 (.var 2), .sym .i64 (.var 3), .sym .i64 (.var 4), .sym .i64 (.var 5), .sym .i64 (.var 6), .sym .u64 (.var 7)] [.int .i64 z0, .int .i64 z1, .int .i64 z2, .int .i64 z3, .int .i64 z4, .int .i64 z5, .int .i64 z6, .int .u64 z7] := .cons rfl (.cons rfl (.cons rfl (.cons rfl (.cons rfl (.cons rfl (.cons rfl (.cons rfl (.nil))))))))
  have hv : F2 (AVR rho0 (sig z0 z1 z2 z3 z4 z5 z6 z7)) [.agg [.sym .i64 (.var 0), .sym .i64 (.var 1), .sym .i64 (.var 2), .sym .i64 (.var 3), .sym .i64 (.var 4), .sym .i64 (.var 5), .sym .i64 (.var 6), .sym .u64 (.var 7)]] [.agg [.int .i64 z0, .int .i64 z1, .int .i64 z2, .int .i64 z3, .int .i64 z4, .int .i64 z5, .int .i64 z6, .int .u64 z7].toArray] := .cons ⟨_, rfl, ha⟩ .nil
  have := calls_true hc hx run hv w
  exact this
end VNone
