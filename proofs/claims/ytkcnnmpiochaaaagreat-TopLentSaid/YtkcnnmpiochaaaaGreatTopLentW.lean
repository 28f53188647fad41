/- TopLent: the call answers true, of any numbers. No conditions. -/
import Derived.Test.YtkcnnmpiochaaaaGreatKTG
import Derived.Test.YtkcnnmpiochaaaaGreatKTRz
import Derived.Test.YtkcnnmpiochaaaaGreatKTR0
import Derived.Test.YtkcnnmpiochaaaaGreatKTR1
import Derived.Test.YtkcnnmpiochaaaaGreatKTR2
import Derived.Test.YtkcnnmpiochaaaaGreatKTR3
set_option linter.unusedVariables false
open Go Eng Go.Proofs Go.RowKit
namespace topLentW
open Base TopL
def Run (w : World) (a0 a1 a2 a3 a4 : Int) : Prop := Calls Tryz.prog 5 #[.int .i64 a0, .int .i64 a1, .int .i64 a2, .int .u64 a3, .int .u64 a4] w fun e w' => e = .returned (.bool true) ∧ Grown w w'
theorem cls (n : Int) (h0 : 0 ≤ n) : n = 0 ∨ (n % 4 = 0 ∧ 0 < n) ∨ n % 4 = 1 ∨ n % 4 = 2 ∨ n % 4 = 3 := by omega
theorem walk (a0 a1 a2 a3 a4 : Int) (w0 : (Lit.int .i64 a0).wf = true) (w1 : (Lit.int .i64 a1).wf = true) (w2 : (Lit.int .i64 a2).wf = true) (w3 : (Lit.int .u64 a3).wf = true) (w4 : (Lit.int .u64 a4).wf = true) (w : World) : Calls Tryz.prog 5 #[.int .i64 a0, .int .i64 a1, .int .i64 a2, .int .u64 a3, .int .u64 a4] w fun e w' => e = .returned (.bool true) ∧ Grown w w' := by
  obtain ⟨n, hn, en⟩ := low_nat (n := 512) (by omega) a0
  obtain ⟨m, hm, em⟩ := low_nat (n := 512) (by omega) a1
  obtain ⟨o, ho, eo⟩ := low_nat (n := 8) (by omega) a2
  obtain ⟨X, hX⟩ : ∃ X : Int, X = Int.ofNat n := ⟨_, rfl⟩
  obtain ⟨Y, hY⟩ : ∃ Y : Int, Y = Int.ofNat m := ⟨_, rfl⟩
  obtain ⟨Z, hZ⟩ : ∃ Z : Int, Z = Int.ofNat o := ⟨_, rfl⟩
  have hI : Is a3 a4 X Y Z := by
    have g3 : IntKind.u64.min ≤ a3 ∧ a3 ≤ IntKind.u64.max := by simpa [Lit.wf] using w3
    have g4 : IntKind.u64.min ≤ a4 ∧ a4 ≤ IntKind.u64.max := by simpa [Lit.wf] using w4
    have e0 : IntKind.u64.min = 0 := by decide
    have e1 : IntKind.u64.max = 18446744073709551615 := by decide
    rw [e0, e1] at g3 g4
    simp only [Int.ofNat_eq_natCast] at hX hY hZ
    exact ⟨g3.1, g3.2, g4.1, g4.2, by omega, by omega, by omega, by omega, by omega, by omega⟩
  rw [← hX] at en
  rw [← hY] at em
  rw [← hZ] at eo
  have hl : ∀ C : Cfg, C.fu = Tab.fuT.get → Al (Summ Tryz.prog (sg a0 a1 a2 a3 a4 X Y Z) C) lst := fun C hC =>
    .cons (aw hI C hC) (.cons (summLow' C hC _ okLow0 (by omega) (by omega) (fun _ _ h => h) (fun _ _ h => h) en (fun _ => rfl)) (.cons (summLow' C hC _ okLow1 (by omega) (by omega) (fun _ _ h => h) (fun _ _ h => h) em (fun _ => rfl)) (.cons (summLow' C hC _ okLow2 (by omega) (by omega) (fun _ _ h => h) (fun _ _ h => h) eo (fun _ => rfl)) (pusOK hI C hC))))
  have key : ∀ (t : List CF) (l : List NF), Al (CFok (sg a0 a1 a2 a3 a4 X Y Z)) t → Al (NFok (sg a0 a1 a2 a3 a4 X Y Z)) l → run t l = true → Run w a0 a1 a2 a3 a4 := fun t l ht hl' hr =>
    calls_true (okG ht hl') (exG ht hl' hl) (vs := [.int .i64 a0, .int .i64 a1, .int .i64 a2, .int .u64 a3, .int .u64 a4]) hr (.cons rfl (.cons rfl (.cons rfl (.cons rfl (.cons rfl .nil))))) w
  rcases cls X hI.n0 with h | h | h | h | h <;> rcases cls Y hI.m0 with g | g | g | g | g
  · exact key _ _ (okCnz hI h (okCmz hI g (okC hI))) (okNnz hI h (okNmz hI g (okN hI))) rz_z
  · exact key _ _ (okCnz hI h (okCm0 hI g (okC hI))) (okNnz hI h (okNm0 hI g (okN hI))) rz_0
  · exact key _ _ (okCnz hI h (okCm1 hI g (okC hI))) (okNnz hI h (okNm1 hI g (okN hI))) rz_1
  · exact key _ _ (okCnz hI h (okCm2 hI g (okC hI))) (okNnz hI h (okNm2 hI g (okN hI))) rz_2
  · exact key _ _ (okCnz hI h (okCm3 hI g (okC hI))) (okNnz hI h (okNm3 hI g (okN hI))) rz_3
  · exact key _ _ (okCn0 hI h (okCmz hI g (okC hI))) (okNn0 hI h (okNmz hI g (okN hI))) r0_z
  · exact key _ _ (okCn0 hI h (okCm0 hI g (okC hI))) (okNn0 hI h (okNm0 hI g (okN hI))) r0_0
  · exact key _ _ (okCn0 hI h (okCm1 hI g (okC hI))) (okNn0 hI h (okNm1 hI g (okN hI))) r0_1
  · exact key _ _ (okCn0 hI h (okCm2 hI g (okC hI))) (okNn0 hI h (okNm2 hI g (okN hI))) r0_2
  · exact key _ _ (okCn0 hI h (okCm3 hI g (okC hI))) (okNn0 hI h (okNm3 hI g (okN hI))) r0_3
  · exact key _ _ (okCn1 hI h (okCmz hI g (okC hI))) (okNn1 hI h (okNmz hI g (okN hI))) r1_z
  · exact key _ _ (okCn1 hI h (okCm0 hI g (okC hI))) (okNn1 hI h (okNm0 hI g (okN hI))) r1_0
  · exact key _ _ (okCn1 hI h (okCm1 hI g (okC hI))) (okNn1 hI h (okNm1 hI g (okN hI))) r1_1
  · exact key _ _ (okCn1 hI h (okCm2 hI g (okC hI))) (okNn1 hI h (okNm2 hI g (okN hI))) r1_2
  · exact key _ _ (okCn1 hI h (okCm3 hI g (okC hI))) (okNn1 hI h (okNm3 hI g (okN hI))) r1_3
  · exact key _ _ (okCn2 hI h (okCmz hI g (okC hI))) (okNn2 hI h (okNmz hI g (okN hI))) r2_z
  · exact key _ _ (okCn2 hI h (okCm0 hI g (okC hI))) (okNn2 hI h (okNm0 hI g (okN hI))) r2_0
  · exact key _ _ (okCn2 hI h (okCm1 hI g (okC hI))) (okNn2 hI h (okNm1 hI g (okN hI))) r2_1
  · exact key _ _ (okCn2 hI h (okCm2 hI g (okC hI))) (okNn2 hI h (okNm2 hI g (okN hI))) r2_2
  · exact key _ _ (okCn2 hI h (okCm3 hI g (okC hI))) (okNn2 hI h (okNm3 hI g (okN hI))) r2_3
  · exact key _ _ (okCn3 hI h (okCmz hI g (okC hI))) (okNn3 hI h (okNmz hI g (okN hI))) r3_z
  · exact key _ _ (okCn3 hI h (okCm0 hI g (okC hI))) (okNn3 hI h (okNm0 hI g (okN hI))) r3_0
  · exact key _ _ (okCn3 hI h (okCm1 hI g (okC hI))) (okNn3 hI h (okNm1 hI g (okN hI))) r3_1
  · exact key _ _ (okCn3 hI h (okCm2 hI g (okC hI))) (okNn3 hI h (okNm2 hI g (okN hI))) r3_2
  · exact key _ _ (okCn3 hI h (okCm3 hI g (okC hI))) (okNn3 hI h (okNm3 hI g (okN hI))) r3_3
end topLentW
