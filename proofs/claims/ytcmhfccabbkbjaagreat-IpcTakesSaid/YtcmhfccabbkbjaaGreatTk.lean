/- IpcTakes: the call answers true, of any two messages, in either order, called or sent. No conditions. -/
import Derived.Test.YtcmhfccabbkbjaaGreatS26
import Derived.Test.YtcmhfccabbkbjaaGreatFlat
open Go Eng Go.Proofs Go.RowKit
namespace Takes
open Base
noncomputable def lst : List SumE := [⟨53, [], .one (.bool true)⟩]
noncomputable def cfg : Cfg := { ty := Tab.tyT.get, fu := Tab.fuT.get, cmp := fun _ _ _ => none, ext := extE ⟨38, [], v38⟩ h38 (extT lst) }
noncomputable def one (f c : Bool) : Bool := says true (eval cfg 300 X0 (.call 10 [.agg [.sym .u64 (.var 0), .sym .u64 (.var 1), .sym .u64 (.var 2), .sym .u64 (.var 3)], .agg [.sym .u64 (.var 4), .sym .u64 (.var 5), .sym .u64 (.var 6), .sym .u64 (.var 7)], .one (.bool f), .one (.bool c)]) ⟨.nil, 0⟩)
theorem tt : one true true = true := by decide +kernel
theorem tf : one true false = true := by decide +kernel
theorem ft : one false true = true := by decide +kernel
theorem ff : one false false = true := by decide +kernel
theorem any (f c : Bool) : one f c = true := by
  cases f
  · cases c
    · exact ff
    · exact ft
  · cases c
    · exact tf
    · exact tt
def sig (m0 m1 m2 m3 b0 b1 b2 b3 : Int) : Sig := fun i => match i with | 0 => m0 | 1 => m1 | 2 => m2 | 3 => m3 | 4 => b0 | 5 => b1 | 6 => b2 | _ => b3
set_option maxRecDepth 100000 in
theorem walk (l k : List Value) (h : Flat.Cells [.u64, .u64, .u64, .u64] l) (g : Flat.Cells [.u64, .u64, .u64, .u64] k) (f c : Bool) (w : World) : Calls Tryz.prog 10 #[.agg l.toArray, .agg k.toArray, .bool f, .bool c] w fun e w' => e = .returned (.bool true) ∧ Grown w w' := by
  obtain _ | ⟨_, h⟩ := h
  rename_i m0 _ _
  obtain _ | ⟨_, h⟩ := h
  rename_i m1 _ _
  obtain _ | ⟨_, h⟩ := h
  rename_i m2 _ _
  obtain _ | ⟨_, h⟩ := h
  rename_i m3 _ _
  cases h
  obtain _ | ⟨_, g⟩ := g
  rename_i b0 _ _
  obtain _ | ⟨_, g⟩ := g
  rename_i b1 _ _
  obtain _ | ⟨_, g⟩ := g
  rename_i b2 _ _
  obtain _ | ⟨_, g⟩ := g
  rename_i b3 _ _
  cases g
  have hc : CfgOK Tryz.prog cfg (sig m0 m1 m2 m3 b0 b1 b2 b3) := ok _ _ _ (fun _ _ _ _ h => nomatch h)
  have hx : ExtOK cfg Tryz.prog (sig m0 m1 m2 m3 b0 b1 b2 b3) := ExtOK.start (s := ⟨38, [], v38⟩) (hP := h38) (l := lst) rfl (sum38 _ rfl _) (.cons (summS _ rfl _ awake26) .nil)
  have ha : F2 (AR rho0 (sig m0 m1 m2 m3 b0 b1 b2 b3)) [.sym .u64 (.var 0), .sym .u64 (.var 1), .sym .u64 (.var 2), .sym .u64 (.var 3)] [.int .u64 m0, .int .u64 m1, .int .u64 m2, .int .u64 m3] := .cons rfl (.cons rfl (.cons rfl (.cons rfl .nil)))
  have hb : F2 (AR rho0 (sig m0 m1 m2 m3 b0 b1 b2 b3)) [.sym .u64 (.var 4), .sym .u64 (.var 5), .sym .u64 (.var 6), .sym .u64 (.var 7)] [.int .u64 b0, .int .u64 b1, .int .u64 b2, .int .u64 b3] := .cons rfl (.cons rfl (.cons rfl (.cons rfl .nil)))
  have hv : F2 (AVR rho0 (sig m0 m1 m2 m3 b0 b1 b2 b3)) [.agg [.sym .u64 (.var 0), .sym .u64 (.var 1), .sym .u64 (.var 2), .sym .u64 (.var 3)], .agg [.sym .u64 (.var 4), .sym .u64 (.var 5), .sym .u64 (.var 6), .sym .u64 (.var 7)], .one (.bool f), .one (.bool c)] [.agg [.int .u64 m0, .int .u64 m1, .int .u64 m2, .int .u64 m3].toArray, .agg [.int .u64 b0, .int .u64 b1, .int .u64 b2, .int .u64 b3].toArray, .bool f, .bool c] := .cons ⟨_, rfl, ha⟩ (.cons ⟨_, rfl, hb⟩ (.cons rfl (.cons rfl .nil)))
  have := calls_true hc hx (any f c) hv w
  exact this
end Takes
