/- VspaceRemap: the call answers true, of any arguments. No conditions beside those in its theorems. -/
import Derived.Test.YtpiicallicgdkaaGreatVspaceRemapE0
import Derived.Test.YtpiicallicgdkaaGreatVspaceRemapE1
import Derived.Test.YtpiicallicgdkaaGreatVspaceRemapE2
import Derived.Test.YtpiicallicgdkaaGreatVspaceRemapE3
import Derived.Test.YtpiicallicgdkaaGreatVspaceRemapE4
import Derived.Test.YtpiicallicgdkaaGreatVspaceRemapE5
set_option linter.unusedVariables false
open Go Eng Go.Proofs Go.RowKit
namespace vspaceRemapW
open Base
theorem inR {p : Nat → Bool} {a l m : Nat} (h : (List.range' a l).all p = true) (h1 : a ≤ m) (h2 : m < a + l) : p m = true := List.all_eq_true.1 h m (by rw [List.mem_range'_1]; omega)
theorem anyr0_0 (m : Nat) (h : m < 8) : run 0 0 m = true := by
  by_cases h0 : m < 4
  · exact inR e0_0_0 (by omega) (by omega)
  exact inR e0_0_4 (by omega) (by omega)
theorem anyr0_1 (m : Nat) (h : m < 8) : run 0 1 m = true := by
  by_cases h0 : m < 4
  · exact inR e0_1_0 (by omega) (by omega)
  exact inR e0_1_4 (by omega) (by omega)
theorem anyr0_2 (m : Nat) (h : m < 8) : run 0 2 m = true := by
  by_cases h0 : m < 4
  · exact inR e0_2_0 (by omega) (by omega)
  exact inR e0_2_4 (by omega) (by omega)
theorem anyr1_0 (m : Nat) (h : m < 8) : run 1 0 m = true := by
  by_cases h0 : m < 4
  · exact inR e1_0_0 (by omega) (by omega)
  exact inR e1_0_4 (by omega) (by omega)
theorem anyr1_1 (m : Nat) (h : m < 8) : run 1 1 m = true := by
  by_cases h0 : m < 4
  · exact inR e1_1_0 (by omega) (by omega)
  exact inR e1_1_4 (by omega) (by omega)
theorem anyr1_2 (m : Nat) (h : m < 8) : run 1 2 m = true := by
  by_cases h0 : m < 4
  · exact inR e1_2_0 (by omega) (by omega)
  exact inR e1_2_4 (by omega) (by omega)
theorem anyr2_0 (m : Nat) (h : m < 8) : run 2 0 m = true := by
  by_cases h0 : m < 4
  · exact inR e2_0_0 (by omega) (by omega)
  exact inR e2_0_4 (by omega) (by omega)
theorem anyr2_1 (m : Nat) (h : m < 8) : run 2 1 m = true := by
  by_cases h0 : m < 4
  · exact inR e2_1_0 (by omega) (by omega)
  exact inR e2_1_4 (by omega) (by omega)
theorem anyr2_2 (m : Nat) (h : m < 8) : run 2 2 m = true := by
  by_cases h0 : m < 4
  · exact inR e2_2_0 (by omega) (by omega)
  exact inR e2_2_4 (by omega) (by omega)
theorem any : ∀ m0, m0 < 3 → ∀ m1, m1 < 3 → ∀ m2, m2 < 8 → run m0 m1 m2 = true
  | 0, _, 0, _, m, h => anyr0_0 m h
  | 0, _, 1, _, m, h => anyr0_1 m h
  | 0, _, 2, _, m, h => anyr0_2 m h
  | 1, _, 0, _, m, h => anyr1_0 m h
  | 1, _, 1, _, m, h => anyr1_1 m h
  | 1, _, 2, _, m, h => anyr1_2 m h
  | 2, _, 0, _, m, h => anyr2_0 m h
  | 2, _, 1, _, m, h => anyr2_1 m h
  | 2, _, 2, _, m, h => anyr2_2 m h
  | m + 3, h, _, _, _, _ => absurd h (by omega)
  | _, _, m + 3, h, _, _ => absurd h (by omega)
def sig (a0 a1 a2 a3 : Int) : Sig := fun i => match i with | 0 => a0 | 1 => a1 | 2 => a2 | _ => a3
set_option maxRecDepth 100000 in
theorem walk (a0 : Int) (a1 : Int) (a2 : Int) (a3 : Int)   (w : World) : Calls Tryz.prog 5 #[.int .i64 a0, .int .i64 a1, .int .i64 a2, .int .u64 a3] w fun e w' => e = .returned (.bool true) ∧ Grown w w' := by
  obtain ⟨m0, h0, e0⟩ := low_nat (n := 3) (by omega) a0
  obtain ⟨m1, h1, e1⟩ := low_nat (n := 3) (by omega) a1
  obtain ⟨m2, h2, e2⟩ := low_nat (n := 8) (by omega) a2
  have hv : F2 (AVR rho0 (sig a0 a1 a2 a3)) [.one (.sym .i64 (.var 0)), .one (.sym .i64 (.var 1)), .one (.sym .i64 (.var 2)), .one (.sym .u64 (.var 3))] [.int .i64 a0, .int .i64 a1, .int .i64 a2, .int .u64 a3] := (.cons rfl (.cons rfl (.cons rfl (.cons rfl .nil))))
  have hk : says true (eval (cfgW (s30 :: [s20]) [] [] (lst m0 m1 m2)) 300 X0 (.call 5 [.one (.sym .i64 (.var 0)), .one (.sym .i64 (.var 1)), .one (.sym .i64 (.var 2)), .one (.sym .u64 (.var 3))]) ⟨.nil, 0⟩) = true := any m0 h0 m1 h1 m2 h2 
  have hl : ∀ C : Cfg, C.fu = Tab.fuT.get → Al (Summ Tryz.prog (sig a0 a1 a2 a3) C) (lst m0 m1 m2) := fun C hC => .cons (aw38 _ C hC) (.cons (summLow C hC _ okLow0 (by omega) e0 h0) (.cons (summLow C hC _ okLow1 (by omega) e1 h1) (.cons (summLow C hC _ okLow2 (by omega) e2 h2) (puresOK _ C hC))))
  exact leafW hk (gs30 _) .nil .nil hl hv w
end vspaceRemapW
