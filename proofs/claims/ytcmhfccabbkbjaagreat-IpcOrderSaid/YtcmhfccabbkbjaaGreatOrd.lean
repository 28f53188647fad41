/- IpcOrder: the call answers true, of either order and any two words. No conditions. -/
import Derived.Test.YtcmhfccabbkbjaaGreatS26
open Go Eng Go.Proofs Go.RowKit
namespace Order
open Base
noncomputable def cfg : Cfg := { ty := Tab.tyT.get, fu := Tab.fuT.get, cmp := fun _ _ _ => none, ext := extE ⟨49, [], v49⟩ h49 (extT [⟨53, [], .one (.bool true)⟩]) }
theorem t : says true (eval cfg 300 X0 (.call 8 [.one (.bool true), .one (.sym .u64 (.var 0)), .one (.sym .u64 (.var 1))]) ⟨.nil, 0⟩) = true := by decide +kernel
theorem f : says true (eval cfg 300 X0 (.call 8 [.one (.bool false), .one (.sym .u64 (.var 0)), .one (.sym .u64 (.var 1))]) ⟨.nil, 0⟩) = true := by decide +kernel
def sig (a b : Int) : Sig := fun i => match i with | 0 => a | _ => b
theorem walk (s : Bool) (a b : Int) (w : World) : Calls Tryz.prog 8 #[.bool s, .int .u64 a, .int .u64 b] w fun e w' => e = .returned (.bool true) ∧ Grown w w' := by
  have hc : CfgOK Tryz.prog cfg (sig a b) := ok _ _ _ (fun _ _ _ _ h => nomatch h)
  have hx : ExtOK cfg Tryz.prog (sig a b) := ExtOK.start (s := ⟨49, [], v49⟩) (hP := h49) (l := [⟨53, [], .one (.bool true)⟩]) rfl (sum49 _ rfl _) (.cons (summS _ rfl _ awake26) .nil)
  cases s with
  | true => exact calls_true (vs := [.bool true, .int .u64 a, .int .u64 b]) hc hx t (.cons rfl (.cons rfl (.cons rfl .nil))) w
  | false => exact calls_true (vs := [.bool false, .int .u64 a, .int .u64 b]) hc hx f (.cons rfl (.cons rfl (.cons rfl .nil))) w
end Order
