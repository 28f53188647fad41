/- IpcRights: the call answers true, of any arguments. No conditions. -/
import Derived.Test.YtcdhglfdgmeokaaGreatA21
import Derived.Test.YtcdhglfdgmeokaaGreatFlat
set_option linter.unusedVariables false
open Go Eng Go.Proofs Go.RowKit
namespace ipcRightsW
open Base
noncomputable def lst (m : Nat) : List SumE := [⟨21, [], .one (.bool true)⟩]
noncomputable def nt (k0 k1 k : Nat) : List NF := [⟨.bin .and .i64 (.var 0) (.lit 7), Int.ofNat k0⟩, ⟨.bin .and .i64 (.var 1) (.lit 1), Int.ofNat k1⟩]
noncomputable def run (k0 k1 : Nat) : Bool := says true (eval (cfgW [s19] [] (nt k0 k1 0) (lst  0)) 300 X0 (.call 5 [.one (.sym .i64 (.var 0)), .one (.sym .i64 (.var 1)), .agg [.sym .u64 (.var 2), .sym .u64 (.var 3), .sym .u64 (.var 4), .sym .u64 (.var 5)]]) ⟨.nil, 0⟩)
theorem r0_0 : run 0 0 = true := by decide +kernel
theorem r0_1 : run 0 1 = true := by decide +kernel
theorem r1_0 : run 1 0 = true := by decide +kernel
theorem r1_1 : run 1 1 = true := by decide +kernel
theorem r2_0 : run 2 0 = true := by decide +kernel
theorem r2_1 : run 2 1 = true := by decide +kernel
theorem r3_0 : run 3 0 = true := by decide +kernel
theorem r3_1 : run 3 1 = true := by decide +kernel
theorem r4_0 : run 4 0 = true := by decide +kernel
theorem r4_1 : run 4 1 = true := by decide +kernel
theorem r5_0 : run 5 0 = true := by decide +kernel
theorem r5_1 : run 5 1 = true := by decide +kernel
theorem r6_0 : run 6 0 = true := by decide +kernel
theorem r6_1 : run 6 1 = true := by decide +kernel
theorem r7_0 : run 7 0 = true := by decide +kernel
theorem r7_1 : run 7 1 = true := by decide +kernel
theorem any : ∀ k, k ≤ 7 → ∀ g, g ≤ 1 → run k g = true
  | 0, _, 0, _ => r0_0
  | 0, _, 1, _ => r0_1
  | 1, _, 0, _ => r1_0
  | 1, _, 1, _ => r1_1
  | 2, _, 0, _ => r2_0
  | 2, _, 1, _ => r2_1
  | 3, _, 0, _ => r3_0
  | 3, _, 1, _ => r3_1
  | 4, _, 0, _ => r4_0
  | 4, _, 1, _ => r4_1
  | 5, _, 0, _ => r5_0
  | 5, _, 1, _ => r5_1
  | 6, _, 0, _ => r6_0
  | 6, _, 1, _ => r6_1
  | 7, _, 0, _ => r7_0
  | 7, _, 1, _ => r7_1
  | k + 8, h, _, _ => absurd h (by omega)
  | _, _, g + 2, h => absurd h (by omega)
def sig (a0 a1 z2_0 z2_1 z2_2 z2_3 : Int) : Sig := fun i => match i with | 0 => a0 | 1 => a1 | 2 => z2_0 | 3 => z2_1 | 4 => z2_2 | _ => z2_3
set_option maxRecDepth 100000 in
theorem walk (a0 : Int) (a1 : Int) (l2 : List Value) (h2 : Flat.Cells [.n .u64, .n .u64, .n .u64, .n .u64] l2)  (w : World) : Calls Tryz.prog 5 #[.int .i64 a0, .int .i64 a1, .agg l2.toArray] w fun e w' => e = .returned (.bool true) ∧ Grown w w' := by
  obtain _ | ⟨_, h2⟩ := h2
  rename_i z2_0 _ _
  obtain _ | ⟨_, h2⟩ := h2
  rename_i z2_1 _ _
  obtain _ | ⟨_, h2⟩ := h2
  rename_i z2_2 _ _
  obtain _ | ⟨_, h2⟩ := h2
  rename_i z2_3 _ _
  cases h2
  obtain ⟨k, hk, he⟩ := and_small a0 (m := 7) (by omega)
  obtain ⟨g, hg, hf⟩ := and_small a1 (m := 1) (by omega)
  have ha2 : F2 (AR rho0 (sig a0 a1 z2_0 z2_1 z2_2 z2_3)) [.sym .u64 (.var 2), .sym .u64 (.var 3), .sym .u64 (.var 4), .sym .u64 (.var 5)] [.int .u64 z2_0, .int .u64 z2_1, .int .u64 z2_2, .int .u64 z2_3] := (.cons rfl (.cons rfl (.cons rfl (.cons rfl .nil))))
  have hv : F2 (AVR rho0 (sig a0 a1 z2_0 z2_1 z2_2 z2_3)) [.one (.sym .i64 (.var 0)), .one (.sym .i64 (.var 1)), .agg [.sym .u64 (.var 2), .sym .u64 (.var 3), .sym .u64 (.var 4), .sym .u64 (.var 5)]] [.int .i64 a0, .int .i64 a1, .agg [.int .u64 z2_0, .int .u64 z2_1, .int .u64 z2_2, .int .u64 z2_3].toArray] := (.cons rfl (.cons rfl (.cons ⟨_, rfl, ha2⟩ .nil)))
  have hk : says true (eval (cfgW [s19] [] (nt k g 0) (lst 0)) 300 X0 (.call 5 [.one (.sym .i64 (.var 0)), .one (.sym .i64 (.var 1)), .agg [.sym .u64 (.var 2), .sym .u64 (.var 3), .sym .u64 (.var 4), .sym .u64 (.var 5)]]) ⟨.nil, 0⟩) = true := any k hk g hg
  have hn : Al (NFok (sig a0 a1 z2_0 z2_1 z2_2 z2_3)) (nt k g 0) := .cons (show NFok (sig a0 a1 z2_0 z2_1 z2_2 z2_3) ⟨.bin .and .i64 (.var 0) (.lit 7), Int.ofNat k⟩ from he) (.cons (show NFok (sig a0 a1 z2_0 z2_1 z2_2 z2_3) ⟨.bin .and .i64 (.var 1) (.lit 1), Int.ofNat g⟩ from hf) .nil)
  have hl : ∀ C : Cfg, C.fu = Tab.fuT.get → Al (Summ Tryz.prog (sig a0 a1 z2_0 z2_1 z2_2 z2_3) C) (lst 0) := fun C hC => .cons (aw21 _ C hC) .nil
  exact leafW hk (gs19 _) .nil hn hl hv w
end ipcRightsW
