/- KernelYield: the call answers true, of any arguments. No conditions beside those in its theorems. -/
import Derived.Test.YtnjinlodmjoibaaGreatKernelYieldE0
set_option linter.unusedVariables false
open Go Eng Go.Proofs Go.RowKit
namespace kernelYieldW
open Base
theorem inR {p : Nat → Bool} {a l m : Nat} (h : (List.range' a l).all p = true) (h1 : a ≤ m) (h2 : m < a + l) : p m = true := List.all_eq_true.1 h m (by rw [List.mem_range'_1]; omega)
theorem anyr (m : Nat) (h : m < 8) : run m = true := by
  exact inR e_0 (by omega) (by omega)
theorem any : ∀ m0, m0 < 8 → run m0 = true
  | m, h => anyr m h
def sig (a0 : Int) : Sig := fun i => match i with  | _ => a0
set_option maxRecDepth 100000 in
theorem walk (a0 : Int)   (w : World) : Calls Tryz.prog 3 #[.int .i64 a0] w fun e w' => e = .returned (.bool true) ∧ Grown w w' := by
  obtain ⟨m0, h0, e0⟩ := low_nat (n := 8) (by omega) a0
  have hv : F2 (AVR rho0 (sig a0)) [.one (.sym .i64 (.var 0))] [.int .i64 a0] := (.cons rfl .nil)
  have hk : says true (eval (cfgW (s8 :: s40 :: [s32]) [] [] (lst m0)) 300 X0 (.call 3 [.one (.sym .i64 (.var 0))]) ⟨.nil, 0⟩) = true := any m0 h0 
  have hl : ∀ C : Cfg, C.fu = Tab.fuT.get → Al (Summ Tryz.prog (sig a0) C) (lst m0) := fun C hC => .cons (aw18 _ C hC) (.cons (summLow C hC _ okLow0 (by omega) e0 h0) .nil)
  exact leafW hk (gs8 _) .nil .nil hl hv w
end kernelYieldW
