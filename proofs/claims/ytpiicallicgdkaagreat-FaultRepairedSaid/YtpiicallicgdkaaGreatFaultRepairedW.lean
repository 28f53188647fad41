/- FaultRepaired: the call answers true, of any arguments. No conditions beside those in its theorems. -/
import Derived.Test.YtpiicallicgdkaaGreatFaultRepairedE0
import Derived.Test.YtpiicallicgdkaaGreatFaultRepairedE1
import Derived.Test.YtpiicallicgdkaaGreatFaultRepairedE2
import Derived.Test.YtpiicallicgdkaaGreatFaultRepairedE3
import Derived.Test.YtpiicallicgdkaaGreatFaultRepairedE4
import Derived.Test.YtpiicallicgdkaaGreatFaultRepairedE5
import Derived.Test.YtpiicallicgdkaaGreatFaultRepairedE6
set_option linter.unusedVariables false
open Go Eng Go.Proofs Go.RowKit
namespace faultRepairedW
open Base
theorem inR {p : Nat → Bool} {a l m : Nat} (h : (List.range' a l).all p = true) (h1 : a ≤ m) (h2 : m < a + l) : p m = true := List.all_eq_true.1 h m (by rw [List.mem_range'_1]; omega)
theorem anyr0_t (m : Nat) (h : m < 8) : run 0 m true = true := by
  by_cases h0 : m < 4
  · exact inR (p := fun m => run 0 m true) (m := m) e0_t_0 (by omega) (by omega)
  exact inR (p := fun m => run 0 m true) (m := m) e0_t_4 (by omega) (by omega)
theorem anyr0_f (m : Nat) (h : m < 8) : run 0 m false = true := by
  by_cases h0 : m < 4
  · exact inR (p := fun m => run 0 m false) (m := m) e0_f_0 (by omega) (by omega)
  exact inR (p := fun m => run 0 m false) (m := m) e0_f_4 (by omega) (by omega)
theorem anyr1_t (m : Nat) (h : m < 8) : run 1 m true = true := by
  by_cases h0 : m < 4
  · exact inR (p := fun m => run 1 m true) (m := m) e1_t_0 (by omega) (by omega)
  exact inR (p := fun m => run 1 m true) (m := m) e1_t_4 (by omega) (by omega)
theorem anyr1_f (m : Nat) (h : m < 8) : run 1 m false = true := by
  by_cases h0 : m < 4
  · exact inR (p := fun m => run 1 m false) (m := m) e1_f_0 (by omega) (by omega)
  exact inR (p := fun m => run 1 m false) (m := m) e1_f_4 (by omega) (by omega)
theorem anyr2_t (m : Nat) (h : m < 8) : run 2 m true = true := by
  by_cases h0 : m < 4
  · exact inR (p := fun m => run 2 m true) (m := m) e2_t_0 (by omega) (by omega)
  exact inR (p := fun m => run 2 m true) (m := m) e2_t_4 (by omega) (by omega)
theorem anyr2_f (m : Nat) (h : m < 8) : run 2 m false = true := by
  by_cases h0 : m < 4
  · exact inR (p := fun m => run 2 m false) (m := m) e2_f_0 (by omega) (by omega)
  exact inR (p := fun m => run 2 m false) (m := m) e2_f_4 (by omega) (by omega)
theorem anyr3_t (m : Nat) (h : m < 8) : run 3 m true = true := by
  by_cases h0 : m < 4
  · exact inR (p := fun m => run 3 m true) (m := m) e3_t_0 (by omega) (by omega)
  exact inR (p := fun m => run 3 m true) (m := m) e3_t_4 (by omega) (by omega)
theorem anyr3_f (m : Nat) (h : m < 8) : run 3 m false = true := by
  by_cases h0 : m < 4
  · exact inR (p := fun m => run 3 m false) (m := m) e3_f_0 (by omega) (by omega)
  exact inR (p := fun m => run 3 m false) (m := m) e3_f_4 (by omega) (by omega)
theorem anyr4_t (m : Nat) (h : m < 8) : run 4 m true = true := by
  by_cases h0 : m < 4
  · exact inR (p := fun m => run 4 m true) (m := m) e4_t_0 (by omega) (by omega)
  exact inR (p := fun m => run 4 m true) (m := m) e4_t_4 (by omega) (by omega)
theorem anyr4_f (m : Nat) (h : m < 8) : run 4 m false = true := by
  by_cases h0 : m < 4
  · exact inR (p := fun m => run 4 m false) (m := m) e4_f_0 (by omega) (by omega)
  exact inR (p := fun m => run 4 m false) (m := m) e4_f_4 (by omega) (by omega)
theorem anyr5_t (m : Nat) (h : m < 8) : run 5 m true = true := by
  by_cases h0 : m < 4
  · exact inR (p := fun m => run 5 m true) (m := m) e5_t_0 (by omega) (by omega)
  exact inR (p := fun m => run 5 m true) (m := m) e5_t_4 (by omega) (by omega)
theorem anyr5_f (m : Nat) (h : m < 8) : run 5 m false = true := by
  by_cases h0 : m < 4
  · exact inR (p := fun m => run 5 m false) (m := m) e5_f_0 (by omega) (by omega)
  exact inR (p := fun m => run 5 m false) (m := m) e5_f_4 (by omega) (by omega)
theorem anyr6_t (m : Nat) (h : m < 8) : run 6 m true = true := by
  by_cases h0 : m < 4
  · exact inR (p := fun m => run 6 m true) (m := m) e6_t_0 (by omega) (by omega)
  exact inR (p := fun m => run 6 m true) (m := m) e6_t_4 (by omega) (by omega)
theorem anyr6_f (m : Nat) (h : m < 8) : run 6 m false = true := by
  by_cases h0 : m < 4
  · exact inR (p := fun m => run 6 m false) (m := m) e6_f_0 (by omega) (by omega)
  exact inR (p := fun m => run 6 m false) (m := m) e6_f_4 (by omega) (by omega)
theorem any : ∀ m0, m0 < 7 → ∀ m1, m1 < 8 → ∀ b3 : Bool, run m0 m1 b3 = true
  | 0, _, m, h, true => anyr0_t m h
  | 0, _, m, h, false => anyr0_f m h
  | 1, _, m, h, true => anyr1_t m h
  | 1, _, m, h, false => anyr1_f m h
  | 2, _, m, h, true => anyr2_t m h
  | 2, _, m, h, false => anyr2_f m h
  | 3, _, m, h, true => anyr3_t m h
  | 3, _, m, h, false => anyr3_f m h
  | 4, _, m, h, true => anyr4_t m h
  | 4, _, m, h, false => anyr4_f m h
  | 5, _, m, h, true => anyr5_t m h
  | 5, _, m, h, false => anyr5_f m h
  | 6, _, m, h, true => anyr6_t m h
  | 6, _, m, h, false => anyr6_f m h
  | m + 7, h, _, _, _ => absurd h (by omega)
def sig (a0 a1 a2 : Int) : Sig := fun i => match i with | 0 => a0 | 1 => a1 | _ => a2
set_option maxRecDepth 100000 in
theorem walk (a0 : Int) (a1 : Int) (a2 : Int) (b3 : Bool)   (w : World) : Calls Tryz.prog 3 #[.int .i64 a0, .int .i64 a1, .int .u64 a2, .bool b3] w fun e w' => e = .returned (.bool true) ∧ Grown w w' := by
  obtain ⟨m0, h0, e0⟩ := low_nat (n := 7) (by omega) a0
  obtain ⟨m1, h1, e1⟩ := low_nat (n := 8) (by omega) a1
  have hv : F2 (AVR rho0 (sig a0 a1 a2)) [.one (.sym .i64 (.var 0)), .one (.sym .i64 (.var 1)), .one (.sym .u64 (.var 2)), .one (.bool b3)] [.int .i64 a0, .int .i64 a1, .int .u64 a2, .bool b3] := (.cons rfl (.cons rfl (.cons rfl (.cons rfl .nil))))
  have hk : says true (eval (cfgW (s7 :: s30 :: [s20]) [] [] (lst m0 m1)) 300 X0 (.call 3 [.one (.sym .i64 (.var 0)), .one (.sym .i64 (.var 1)), .one (.sym .u64 (.var 2)), .one (.bool b3)]) ⟨.nil, 0⟩) = true := any m0 h0 m1 h1 b3
  have hl : ∀ C : Cfg, C.fu = Tab.fuT.get → Al (Summ Tryz.prog (sig a0 a1 a2) C) (lst m0 m1) := fun C hC => .cons (aw19 _ C hC) (.cons (summLow C hC _ okLow0 (by omega) e0 h0) (.cons (summLow C hC _ okLow1 (by omega) e1 h1) (puresOK _ C hC)))
  exact leafW hk (gs7 _) .nil .nil hl hv w
end faultRepairedW
