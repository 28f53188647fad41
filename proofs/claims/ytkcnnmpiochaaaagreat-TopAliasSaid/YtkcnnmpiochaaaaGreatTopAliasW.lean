/- TopAlias: the call answers true, of any numbers. No conditions. -/
import Derived.Test.YtkcnnmpiochaaaaGreatTR0
import Derived.Test.YtkcnnmpiochaaaaGreatTR1
import Derived.Test.YtkcnnmpiochaaaaGreatTR2
import Derived.Test.YtkcnnmpiochaaaaGreatTR3
import Derived.Test.YtkcnnmpiochaaaaGreatTR4
set_option linter.unusedVariables false
open Go Eng Go.Proofs Go.RowKit
namespace topAliasW
open Base TopA
theorem walk (a0 a1 a2 a3 : Int) (b4 : Bool) (w : World) : Calls Tryz.prog 3 #[.int .i64 a0, .int .i64 a1, .int .i64 a2, .int .u64 a3, .bool b4] w fun e w' => e = .returned (.bool true) ∧ Grown w w' := by
  obtain ⟨n, hn, en⟩ := low_nat (n := 512) (by omega) a0
  obtain ⟨o, ho, eo⟩ := low_nat (n := 8) (by omega) a1
  obtain ⟨m, hm, em⟩ := low_nat (n := 3) (by omega) a2
  obtain ⟨N, hN⟩ : ∃ N : Int, N = Int.ofNat n := ⟨_, rfl⟩
  obtain ⟨K, hK⟩ : ∃ K : Int, K = Int.ofNat o := ⟨_, rfl⟩
  have hI : Is N K := by
    simp only [Int.ofNat_eq_natCast] at hN hK
    exact ⟨by omega, by omega, by omega, by omega⟩
  rw [← hN] at en
  rw [← hK] at eo
  have hl : ∀ C : Cfg, C.fu = Tab.fuT.get → Al (Summ Tryz.prog (sg a0 a1 a2 a3 N K) C) (lst m) := fun C hC =>
    .cons (aw _ C hC) (.cons (summLow' C hC _ okLow0 (by omega) (by omega) (fun _ _ h => h) (fun _ _ h => h) en (fun _ => rfl)) (.cons (summLow' C hC _ okLow1 (by omega) (by omega) (fun _ _ h => h) (fun _ _ h => h) eo (fun _ => rfl)) (.cons (summLow C hC _ okLow2 (by omega) em hm) (pusOK _ C hC))))
  have key : ∀ (t : List CF) (l : List NF), Al (CFok (sg a0 a1 a2 a3 N K)) t → Al (NFok (sg a0 a1 a2 a3 N K)) l → run t l m b4 = true → Calls Tryz.prog 3 #[.int .i64 a0, .int .i64 a1, .int .i64 a2, .int .u64 a3, .bool b4] w fun e w' => e = .returned (.bool true) ∧ Grown w w' := fun t l ht hl' hr =>
    calls_true (okM ht hl') (exM ht hl' hl) (vs := [.int .i64 a0, .int .i64 a1, .int .i64 a2, .int .u64 a3, .bool b4]) hr (.cons rfl (.cons rfl (.cons rfl (.cons rfl (.cons rfl .nil))))) w
  have h4 : N = 0 ∨ (N % 4 = 0 ∧ 0 < N) ∨ N % 4 = 1 ∨ N % 4 = 2 ∨ N % 4 = 3 := by have := hI.n0; omega
  rcases h4 with h | h | h | h | h
  · exact key _ _ (okC0 hI h) (okN0 hI h) (any0 m hm b4)
  · exact key _ _ (okC4 hI h) (okN4 hI h) (any4 m hm b4)
  · exact key _ _ (okC1 hI h) (okN1 hI h) (any1 m hm b4)
  · exact key _ _ (okC2 hI h) (okN2 hI h) (any2 m hm b4)
  · exact key _ _ (okC3 hI h) (okN3 hI h) (any3 m hm b4)
end topAliasW
