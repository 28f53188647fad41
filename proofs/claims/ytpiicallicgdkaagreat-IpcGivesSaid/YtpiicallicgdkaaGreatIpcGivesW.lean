/- IpcGives: the call answers true, of any arguments. No conditions beside those in its theorems. -/
import Derived.Test.YtpiicallicgdkaaGreatIpcGivesE0
import Derived.Test.YtpiicallicgdkaaGreatIpcGivesE1
import Derived.Test.YtpiicallicgdkaaGreatIpcGivesE2
import Derived.Test.YtpiicallicgdkaaGreatIpcGivesE3
import Derived.Test.YtpiicallicgdkaaGreatIpcGivesE4
import Derived.Test.YtpiicallicgdkaaGreatIpcGivesE5
import Derived.Test.YtpiicallicgdkaaGreatIpcGivesE6
set_option linter.unusedVariables false
open Go Eng Go.Proofs Go.RowKit
namespace ipcGivesW
open Base
theorem inR {p : Nat → Bool} {a l m : Nat} (h : (List.range' a l).all p = true) (h1 : a ≤ m) (h2 : m < a + l) : p m = true := List.all_eq_true.1 h m (by rw [List.mem_range'_1]; omega)
theorem anyr0_t (m : Nat) (h : m < 17) : run 0 m true = true := by
  exact inR (p := fun m => run 0 m true) (m := m) e0_t_0 (by omega) (by omega)
theorem anyr0_f (m : Nat) (h : m < 17) : run 0 m false = true := by
  exact inR (p := fun m => run 0 m false) (m := m) e0_f_0 (by omega) (by omega)
theorem anyr1_t (m : Nat) (h : m < 17) : run 1 m true = true := by
  exact inR (p := fun m => run 1 m true) (m := m) e1_t_0 (by omega) (by omega)
theorem anyr1_f (m : Nat) (h : m < 17) : run 1 m false = true := by
  exact inR (p := fun m => run 1 m false) (m := m) e1_f_0 (by omega) (by omega)
theorem anyr2_t (m : Nat) (h : m < 17) : run 2 m true = true := by
  exact inR (p := fun m => run 2 m true) (m := m) e2_t_0 (by omega) (by omega)
theorem anyr2_f (m : Nat) (h : m < 17) : run 2 m false = true := by
  exact inR (p := fun m => run 2 m false) (m := m) e2_f_0 (by omega) (by omega)
theorem anyr3_t (m : Nat) (h : m < 17) : run 3 m true = true := by
  exact inR (p := fun m => run 3 m true) (m := m) e3_t_0 (by omega) (by omega)
theorem anyr3_f (m : Nat) (h : m < 17) : run 3 m false = true := by
  exact inR (p := fun m => run 3 m false) (m := m) e3_f_0 (by omega) (by omega)
theorem anyr4_t (m : Nat) (h : m < 17) : run 4 m true = true := by
  exact inR (p := fun m => run 4 m true) (m := m) e4_t_0 (by omega) (by omega)
theorem anyr4_f (m : Nat) (h : m < 17) : run 4 m false = true := by
  exact inR (p := fun m => run 4 m false) (m := m) e4_f_0 (by omega) (by omega)
theorem anyr5_t (m : Nat) (h : m < 17) : run 5 m true = true := by
  exact inR (p := fun m => run 5 m true) (m := m) e5_t_0 (by omega) (by omega)
theorem anyr5_f (m : Nat) (h : m < 17) : run 5 m false = true := by
  exact inR (p := fun m => run 5 m false) (m := m) e5_f_0 (by omega) (by omega)
theorem anyr6_t (m : Nat) (h : m < 17) : run 6 m true = true := by
  exact inR (p := fun m => run 6 m true) (m := m) e6_t_0 (by omega) (by omega)
theorem anyr6_f (m : Nat) (h : m < 17) : run 6 m false = true := by
  exact inR (p := fun m => run 6 m false) (m := m) e6_f_0 (by omega) (by omega)
theorem anyr7_t (m : Nat) (h : m < 17) : run 7 m true = true := by
  exact inR (p := fun m => run 7 m true) (m := m) e7_t_0 (by omega) (by omega)
theorem anyr7_f (m : Nat) (h : m < 17) : run 7 m false = true := by
  exact inR (p := fun m => run 7 m false) (m := m) e7_f_0 (by omega) (by omega)
theorem anyr8_t (m : Nat) (h : m < 17) : run 8 m true = true := by
  exact inR (p := fun m => run 8 m true) (m := m) e8_t_0 (by omega) (by omega)
theorem anyr8_f (m : Nat) (h : m < 17) : run 8 m false = true := by
  exact inR (p := fun m => run 8 m false) (m := m) e8_f_0 (by omega) (by omega)
theorem anyr9_t (m : Nat) (h : m < 17) : run 9 m true = true := by
  exact inR (p := fun m => run 9 m true) (m := m) e9_t_0 (by omega) (by omega)
theorem anyr9_f (m : Nat) (h : m < 17) : run 9 m false = true := by
  exact inR (p := fun m => run 9 m false) (m := m) e9_f_0 (by omega) (by omega)
theorem anyr10_t (m : Nat) (h : m < 17) : run 10 m true = true := by
  exact inR (p := fun m => run 10 m true) (m := m) e10_t_0 (by omega) (by omega)
theorem anyr10_f (m : Nat) (h : m < 17) : run 10 m false = true := by
  exact inR (p := fun m => run 10 m false) (m := m) e10_f_0 (by omega) (by omega)
theorem anyr11_t (m : Nat) (h : m < 17) : run 11 m true = true := by
  exact inR (p := fun m => run 11 m true) (m := m) e11_t_0 (by omega) (by omega)
theorem anyr11_f (m : Nat) (h : m < 17) : run 11 m false = true := by
  exact inR (p := fun m => run 11 m false) (m := m) e11_f_0 (by omega) (by omega)
theorem anyr12_t (m : Nat) (h : m < 17) : run 12 m true = true := by
  exact inR (p := fun m => run 12 m true) (m := m) e12_t_0 (by omega) (by omega)
theorem anyr12_f (m : Nat) (h : m < 17) : run 12 m false = true := by
  exact inR (p := fun m => run 12 m false) (m := m) e12_f_0 (by omega) (by omega)
theorem anyr13_t (m : Nat) (h : m < 17) : run 13 m true = true := by
  exact inR (p := fun m => run 13 m true) (m := m) e13_t_0 (by omega) (by omega)
theorem anyr13_f (m : Nat) (h : m < 17) : run 13 m false = true := by
  exact inR (p := fun m => run 13 m false) (m := m) e13_f_0 (by omega) (by omega)
theorem anyr14_t (m : Nat) (h : m < 17) : run 14 m true = true := by
  exact inR (p := fun m => run 14 m true) (m := m) e14_t_0 (by omega) (by omega)
theorem anyr14_f (m : Nat) (h : m < 17) : run 14 m false = true := by
  exact inR (p := fun m => run 14 m false) (m := m) e14_f_0 (by omega) (by omega)
theorem anyr15_t (m : Nat) (h : m < 17) : run 15 m true = true := by
  exact inR (p := fun m => run 15 m true) (m := m) e15_t_0 (by omega) (by omega)
theorem anyr15_f (m : Nat) (h : m < 17) : run 15 m false = true := by
  exact inR (p := fun m => run 15 m false) (m := m) e15_f_0 (by omega) (by omega)
theorem anyr16_t (m : Nat) (h : m < 17) : run 16 m true = true := by
  exact inR (p := fun m => run 16 m true) (m := m) e16_t_0 (by omega) (by omega)
theorem anyr16_f (m : Nat) (h : m < 17) : run 16 m false = true := by
  exact inR (p := fun m => run 16 m false) (m := m) e16_f_0 (by omega) (by omega)
theorem any : ∀ m0, m0 < 17 → ∀ m1, m1 < 17 → ∀ b2 : Bool, run m0 m1 b2 = true
  | 0, _, m, h, true => anyr0_t m h
  | 0, _, m, h, false => anyr0_f m h
  | 1, _, m, h, true => anyr1_t m h
  | 1, _, m, h, false => anyr1_f m h
  | 2, _, m, h, true => anyr2_t m h
  | 2, _, m, h, false => anyr2_f m h
  | 3, _, m, h, true => anyr3_t m h
  | 3, _, m, h, false => anyr3_f m h
  | 4, _, m, h, true => anyr4_t m h
  | 4, _, m, h, false => anyr4_f m h
  | 5, _, m, h, true => anyr5_t m h
  | 5, _, m, h, false => anyr5_f m h
  | 6, _, m, h, true => anyr6_t m h
  | 6, _, m, h, false => anyr6_f m h
  | 7, _, m, h, true => anyr7_t m h
  | 7, _, m, h, false => anyr7_f m h
  | 8, _, m, h, true => anyr8_t m h
  | 8, _, m, h, false => anyr8_f m h
  | 9, _, m, h, true => anyr9_t m h
  | 9, _, m, h, false => anyr9_f m h
  | 10, _, m, h, true => anyr10_t m h
  | 10, _, m, h, false => anyr10_f m h
  | 11, _, m, h, true => anyr11_t m h
  | 11, _, m, h, false => anyr11_f m h
  | 12, _, m, h, true => anyr12_t m h
  | 12, _, m, h, false => anyr12_f m h
  | 13, _, m, h, true => anyr13_t m h
  | 13, _, m, h, false => anyr13_f m h
  | 14, _, m, h, true => anyr14_t m h
  | 14, _, m, h, false => anyr14_f m h
  | 15, _, m, h, true => anyr15_t m h
  | 15, _, m, h, false => anyr15_f m h
  | 16, _, m, h, true => anyr16_t m h
  | 16, _, m, h, false => anyr16_f m h
  | m + 17, h, _, _, _ => absurd h (by omega)
def sig (a0 a1 : Int) : Sig := fun i => match i with | 0 => a0 | _ => a1
set_option maxRecDepth 100000 in
theorem walk (a0 : Int) (a1 : Int) (b2 : Bool)   (w : World) : Calls Tryz.prog 4 #[.int .i64 a0, .int .i64 a1, .bool b2] w fun e w' => e = .returned (.bool true) ∧ Grown w w' := by
  obtain ⟨m0, h0, e0⟩ := low_nat (n := 17) (by omega) a0
  obtain ⟨m1, h1, e1⟩ := low_nat (n := 17) (by omega) a1
  have hv : F2 (AVR rho0 (sig a0 a1)) [.one (.sym .i64 (.var 0)), .one (.sym .i64 (.var 1)), .one (.bool b2)] [.int .i64 a0, .int .i64 a1, .bool b2] := (.cons rfl (.cons rfl (.cons rfl .nil)))
  have hk : says true (eval (cfgW [s20] [] [] (lst m0 m1)) 300 X0 (.call 4 [.one (.sym .i64 (.var 0)), .one (.sym .i64 (.var 1)), .one (.bool b2)]) ⟨.nil, 0⟩) = true := any m0 h0 m1 h1 b2
  have hl : ∀ C : Cfg, C.fu = Tab.fuT.get → Al (Summ Tryz.prog (sig a0 a1) C) (lst m0 m1) := fun C hC => .cons (aw27 _ C hC) (.cons (summLow C hC _ okLow0 (by omega) e0 h0) (.cons (summLow C hC _ okLow1 (by omega) e1 h1) (puresOK _ C hC)))
  exact leafW hk (gs20 _) .nil .nil hl hv w
end ipcGivesW
