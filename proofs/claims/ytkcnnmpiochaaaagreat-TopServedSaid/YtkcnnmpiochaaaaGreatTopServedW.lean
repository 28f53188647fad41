/- TopServed: the call answers true, of any page, place, rights, word and call. No conditions. -/
import Derived.Test.YtkcnnmpiochaaaaGreatKSG
import Derived.Test.YtkcnnmpiochaaaaGreatFlat
import Derived.Test.YtkcnnmpiochaaaaGreatKSRft
import Derived.Test.YtkcnnmpiochaaaaGreatKSRff
import Derived.Test.YtkcnnmpiochaaaaGreatKSR1tZ
import Derived.Test.YtkcnnmpiochaaaaGreatKSR1tP
import Derived.Test.YtkcnnmpiochaaaaGreatKSR2tZ
import Derived.Test.YtkcnnmpiochaaaaGreatKSR2tP
import Derived.Test.YtkcnnmpiochaaaaGreatKSR0fZ
import Derived.Test.YtkcnnmpiochaaaaGreatKSR0fP
import Derived.Test.YtkcnnmpiochaaaaGreatKSR2fZ
import Derived.Test.YtkcnnmpiochaaaaGreatKSR2fP
set_option linter.unusedVariables false
open Go Eng Go.Proofs Go.RowKit
namespace topServedW
open Base TopS
theorem cls (n : Int) (h0 : 0 ≤ n) : n = 0 ∨ (n % 4 = 0 ∧ 0 < n) ∨ n % 4 = 1 ∨ n % 4 = 2 ∨ n % 4 = 3 := by omega
def Run (w : World) (a0 a1 a2 : Int) (a3 : Bool) (a4 : Int) (z0 z1 z2 z3 z4 z5 z6 : Int) : Prop := Calls Tryz.prog 4 #[.int .i64 a0, .int .i64 a1, .int .i64 a2, .bool a3, .int .u64 a4, .agg [.int .u64 z0, .int .u64 z1, .int .u64 z2, .int .u64 z3, .int .u64 z4, .int .u64 z5, .int .u64 z6].toArray] w fun e w' => e = .returned (.bool true) ∧ Grown w w'
theorem some (a0 a1 a2 a4 z0 z1 z2 z3 z4 z5 z6 : Int) (a3 : Bool) (w0 : (Lit.int .i64 a0).wf = true) (w1 : (Lit.int .i64 a1).wf = true) (w2 : (Lit.int .i64 a2).wf = true) (w4 : (Lit.int .u64 a4).wf = true) (w : World) : Run w a0 a1 a2 a3 a4 z0 z1 z2 z3 z4 z5 z6 := by
  obtain ⟨n, hn, en⟩ := low_nat (n := 512) (by omega) a0
  obtain ⟨k, hk, ek⟩ := low_nat (n := 8) (by omega) a1
  obtain ⟨r, hr, er⟩ := low_nat (n := 3) (by omega) a2
  obtain ⟨X, hX⟩ : ∃ X : Int, X = Int.ofNat n := ⟨_, rfl⟩
  obtain ⟨Y, hY⟩ : ∃ Y : Int, Y = Int.ofNat k := ⟨_, rfl⟩
  have hI : Is a4 X Y := by
    have g4 : IntKind.u64.min ≤ a4 ∧ a4 ≤ IntKind.u64.max := by simpa [Lit.wf] using w4
    have e0 : IntKind.u64.min = 0 := by decide
    have e1 : IntKind.u64.max = 18446744073709551615 := by decide
    rw [e0, e1] at g4
    simp only [Int.ofNat_eq_natCast] at hX hY
    exact ⟨g4.1, g4.2, by omega, by omega, by omega, by omega⟩
  rw [← hX] at en
  have ek' : low 8 a1 = Y := by rw [hY]; exact ek
  have hl : ∀ q : A, (∀ ρ, AR ρ (sg a0 a1 a2 a4 z0 z1 z2 z3 z4 z5 z6 X Y) q (.int .i64 Y)) → ∀ C : Cfg, C.fu = Tab.fuT.get → Al (Summ Tryz.prog (sg a0 a1 a2 a4 z0 z1 z2 z3 z4 z5 z6 X Y) C) (lst r q) := fun q hq C hC =>
    .cons (aw hI C hC) (.cons (summLow' C hC _ okLow0 (by omega) (by omega) (fun _ _ h => h) (fun _ _ h => h) en (fun _ => rfl)) (.cons (summLow' C hC _ okLow1 (by omega) (by omega) (fun _ _ h => h) (fun _ _ h => h) ek' hq) (.cons (summLow C hC _ okLow2 (by omega) er hr) (pusOK hI C hC))))
  have hv : ∀ b : Bool, F2 (AVR rho0 (sg a0 a1 a2 a4 z0 z1 z2 z3 z4 z5 z6 X Y)) (args b) [.int .i64 a0, .int .i64 a1, .int .i64 a2, .bool b, .int .u64 a4, .agg [.int .u64 z0, .int .u64 z1, .int .u64 z2, .int .u64 z3, .int .u64 z4, .int .u64 z5, .int .u64 z6].toArray] := fun b => (.cons rfl (.cons rfl (.cons rfl (.cons rfl (.cons rfl (.cons ⟨_, rfl, (.cons rfl (.cons rfl (.cons rfl (.cons rfl (.cons rfl (.cons rfl (.cons rfl .nil)))))))⟩ .nil))))))
  have keyF : ∀ (t : List CF) (l : List NF) (b : Bool), Al (CFok (sg a0 a1 a2 a4 z0 z1 z2 z3 z4 z5 z6 X Y)) t → Al (NFok (sg a0 a1 a2 a4 z0 z1 z2 z3 z4 z5 z6 X Y)) l → run t l r b = true → Run w a0 a1 a2 b a4 z0 z1 z2 z3 z4 z5 z6 := fun t l b ht hl' hr' =>
    calls_true (okG ht hl') (exG ht hl' (hl (.sym .i64 (.var 11)) (fun _ => rfl))) hr' (hv b) w
  have keyT : ∀ (t : List CF) (l : List NF) (b : Bool), Al (CFok (sg a0 a1 a2 a4 z0 z1 z2 z3 z4 z5 z6 X Y)) t → Al (NFok (sg a0 a1 a2 a4 z0 z1 z2 z3 z4 z5 z6 X Y)) l → runT t l r b = true → Run w a0 a1 a2 b a4 z0 z1 z2 z3 z4 z5 z6 := fun t l b ht hl' hr' =>
    runS_true hr' hk (okG ht hl') (exG ht hl' (hl (.sym .i64 (.var 11)) (fun _ => rfl))) (okG (okCo hI ht k hk hY) (okNo hI hl' k hk hY)) (exG (okCo hI ht k hk hY) (okNo hI hl' k hk hY) (hl (.int .i64 (Int.ofNat k)) (fun _ => by rw [hY]; rfl))) rfl (hv b) w
  obtain rfl | rfl | rfl : r = 0 ∨ r = 1 ∨ r = 2 := by omega
  · cases a3
    · by_cases e : a4 = 0
      · rcases cls X hI.n0 with h | h | h | h | h
        · exact keyT _ _ false (okCvZ hI e (okCnz hI h (okC hI))) (okNvZ hI e (okNnz hI h (okN hI))) rz_0fZ
        · exact keyT _ _ false (okCvZ hI e (okCn0 hI h (okC hI))) (okNvZ hI e (okNn0 hI h (okN hI))) r0_0fZ
        · exact keyT _ _ false (okCvZ hI e (okCn1 hI h (okC hI))) (okNvZ hI e (okNn1 hI h (okN hI))) r1_0fZ
        · exact keyT _ _ false (okCvZ hI e (okCn2 hI h (okC hI))) (okNvZ hI e (okNn2 hI h (okN hI))) r2_0fZ
        · exact keyT _ _ false (okCvZ hI e (okCn3 hI h (okC hI))) (okNvZ hI e (okNn3 hI h (okN hI))) r3_0fZ
      · rcases cls X hI.n0 with h | h | h | h | h
        · exact keyT _ _ false (okCvP hI e (okCnz hI h (okC hI))) (okNvP hI e (okNnz hI h (okN hI))) rz_0fP
        · exact keyT _ _ false (okCvP hI e (okCn0 hI h (okC hI))) (okNvP hI e (okNn0 hI h (okN hI))) r0_0fP
        · exact keyT _ _ false (okCvP hI e (okCn1 hI h (okC hI))) (okNvP hI e (okNn1 hI h (okN hI))) r1_0fP
        · exact keyT _ _ false (okCvP hI e (okCn2 hI h (okC hI))) (okNvP hI e (okNn2 hI h (okN hI))) r2_0fP
        · exact keyT _ _ false (okCvP hI e (okCn3 hI h (okC hI))) (okNvP hI e (okNn3 hI h (okN hI))) r3_0fP
    · rcases cls X hI.n0 with h | h | h | h | h
      · exact keyF _ _ true (okCnz hI h (okC hI)) (okNnz hI h (okN hI)) fz_0t
      · exact keyF _ _ true (okCn0 hI h (okC hI)) (okNn0 hI h (okN hI)) f0_0t
      · exact keyF _ _ true (okCn1 hI h (okC hI)) (okNn1 hI h (okN hI)) f1_0t
      · exact keyF _ _ true (okCn2 hI h (okC hI)) (okNn2 hI h (okN hI)) f2_0t
      · exact keyF _ _ true (okCn3 hI h (okC hI)) (okNn3 hI h (okN hI)) f3_0t
  · cases a3
    · rcases cls X hI.n0 with h | h | h | h | h
      · exact keyF _ _ false (okCnz hI h (okC hI)) (okNnz hI h (okN hI)) fz_1f
      · exact keyF _ _ false (okCn0 hI h (okC hI)) (okNn0 hI h (okN hI)) f0_1f
      · exact keyF _ _ false (okCn1 hI h (okC hI)) (okNn1 hI h (okN hI)) f1_1f
      · exact keyF _ _ false (okCn2 hI h (okC hI)) (okNn2 hI h (okN hI)) f2_1f
      · exact keyF _ _ false (okCn3 hI h (okC hI)) (okNn3 hI h (okN hI)) f3_1f
    · by_cases e : a4 = 0
      · rcases cls X hI.n0 with h | h | h | h | h
        · exact keyT _ _ true (okCvZ hI e (okCnz hI h (okC hI))) (okNvZ hI e (okNnz hI h (okN hI))) rz_1tZ
        · exact keyT _ _ true (okCvZ hI e (okCn0 hI h (okC hI))) (okNvZ hI e (okNn0 hI h (okN hI))) r0_1tZ
        · exact keyT _ _ true (okCvZ hI e (okCn1 hI h (okC hI))) (okNvZ hI e (okNn1 hI h (okN hI))) r1_1tZ
        · exact keyT _ _ true (okCvZ hI e (okCn2 hI h (okC hI))) (okNvZ hI e (okNn2 hI h (okN hI))) r2_1tZ
        · exact keyT _ _ true (okCvZ hI e (okCn3 hI h (okC hI))) (okNvZ hI e (okNn3 hI h (okN hI))) r3_1tZ
      · rcases cls X hI.n0 with h | h | h | h | h
        · exact keyT _ _ true (okCvP hI e (okCnz hI h (okC hI))) (okNvP hI e (okNnz hI h (okN hI))) rz_1tP
        · exact keyT _ _ true (okCvP hI e (okCn0 hI h (okC hI))) (okNvP hI e (okNn0 hI h (okN hI))) r0_1tP
        · exact keyT _ _ true (okCvP hI e (okCn1 hI h (okC hI))) (okNvP hI e (okNn1 hI h (okN hI))) r1_1tP
        · exact keyT _ _ true (okCvP hI e (okCn2 hI h (okC hI))) (okNvP hI e (okNn2 hI h (okN hI))) r2_1tP
        · exact keyT _ _ true (okCvP hI e (okCn3 hI h (okC hI))) (okNvP hI e (okNn3 hI h (okN hI))) r3_1tP
  · cases a3
    · by_cases e : a4 = 0
      · rcases cls X hI.n0 with h | h | h | h | h
        · exact keyT _ _ false (okCvZ hI e (okCnz hI h (okC hI))) (okNvZ hI e (okNnz hI h (okN hI))) rz_2fZ
        · exact keyT _ _ false (okCvZ hI e (okCn0 hI h (okC hI))) (okNvZ hI e (okNn0 hI h (okN hI))) r0_2fZ
        · exact keyT _ _ false (okCvZ hI e (okCn1 hI h (okC hI))) (okNvZ hI e (okNn1 hI h (okN hI))) r1_2fZ
        · exact keyT _ _ false (okCvZ hI e (okCn2 hI h (okC hI))) (okNvZ hI e (okNn2 hI h (okN hI))) r2_2fZ
        · exact keyT _ _ false (okCvZ hI e (okCn3 hI h (okC hI))) (okNvZ hI e (okNn3 hI h (okN hI))) r3_2fZ
      · rcases cls X hI.n0 with h | h | h | h | h
        · exact keyT _ _ false (okCvP hI e (okCnz hI h (okC hI))) (okNvP hI e (okNnz hI h (okN hI))) rz_2fP
        · exact keyT _ _ false (okCvP hI e (okCn0 hI h (okC hI))) (okNvP hI e (okNn0 hI h (okN hI))) r0_2fP
        · exact keyT _ _ false (okCvP hI e (okCn1 hI h (okC hI))) (okNvP hI e (okNn1 hI h (okN hI))) r1_2fP
        · exact keyT _ _ false (okCvP hI e (okCn2 hI h (okC hI))) (okNvP hI e (okNn2 hI h (okN hI))) r2_2fP
        · exact keyT _ _ false (okCvP hI e (okCn3 hI h (okC hI))) (okNvP hI e (okNn3 hI h (okN hI))) r3_2fP
    · by_cases e : a4 = 0
      · rcases cls X hI.n0 with h | h | h | h | h
        · exact keyT _ _ true (okCvZ hI e (okCnz hI h (okC hI))) (okNvZ hI e (okNnz hI h (okN hI))) rz_2tZ
        · exact keyT _ _ true (okCvZ hI e (okCn0 hI h (okC hI))) (okNvZ hI e (okNn0 hI h (okN hI))) r0_2tZ
        · exact keyT _ _ true (okCvZ hI e (okCn1 hI h (okC hI))) (okNvZ hI e (okNn1 hI h (okN hI))) r1_2tZ
        · exact keyT _ _ true (okCvZ hI e (okCn2 hI h (okC hI))) (okNvZ hI e (okNn2 hI h (okN hI))) r2_2tZ
        · exact keyT _ _ true (okCvZ hI e (okCn3 hI h (okC hI))) (okNvZ hI e (okNn3 hI h (okN hI))) r3_2tZ
      · rcases cls X hI.n0 with h | h | h | h | h
        · exact keyT _ _ true (okCvP hI e (okCnz hI h (okC hI))) (okNvP hI e (okNnz hI h (okN hI))) rz_2tP
        · exact keyT _ _ true (okCvP hI e (okCn0 hI h (okC hI))) (okNvP hI e (okNn0 hI h (okN hI))) r0_2tP
        · exact keyT _ _ true (okCvP hI e (okCn1 hI h (okC hI))) (okNvP hI e (okNn1 hI h (okN hI))) r1_2tP
        · exact keyT _ _ true (okCvP hI e (okCn2 hI h (okC hI))) (okNvP hI e (okNn2 hI h (okN hI))) r2_2tP
        · exact keyT _ _ true (okCvP hI e (okCn3 hI h (okC hI))) (okNvP hI e (okNn3 hI h (okN hI))) r3_2tP
theorem walk (a0 a1 a2 : Int) (a3 : Bool) (a4 : Int) (l5 : List Value) (w0 : (Lit.int .i64 a0).wf = true) (w1 : (Lit.int .i64 a1).wf = true) (w2 : (Lit.int .i64 a2).wf = true) (w4 : (Lit.int .u64 a4).wf = true) (h5 : Flat.Cells [.n .u64, .n .u64, .n .u64, .n .u64, .n .u64, .n .u64, .n .u64] l5) (w : World) : Calls Tryz.prog 4 #[.int .i64 a0, .int .i64 a1, .int .i64 a2, .bool a3, .int .u64 a4, .agg l5.toArray] w fun e w' => e = .returned (.bool true) ∧ Grown w w' := by
  obtain _ | ⟨_, h5⟩ := h5
  rename_i z0 _ _
  obtain _ | ⟨_, h5⟩ := h5
  rename_i z1 _ _
  obtain _ | ⟨_, h5⟩ := h5
  rename_i z2 _ _
  obtain _ | ⟨_, h5⟩ := h5
  rename_i z3 _ _
  obtain _ | ⟨_, h5⟩ := h5
  rename_i z4 _ _
  obtain _ | ⟨_, h5⟩ := h5
  rename_i z5 _ _
  obtain _ | ⟨_, h5⟩ := h5
  rename_i z6 _ _
  cases h5
  exact some a0 a1 a2 a4 z0 z1 z2 z3 z4 z5 z6 a3 w0 w1 w2 w4 w
end topServedW
