/- RealmClean: the call answers true, of any four numbers. No conditions. -/
import Derived.Test.YtcmhfccabbkbjaaGreatW23
open Go Eng Go.Proofs Go.RowKit
namespace RC
open Base
noncomputable def lst (f w k : Nat) : List SumE := [⟨21, [], .one (.bool true)⟩, ⟨16, [.one (.sym .i64 (.var 0)), .one (.int .i64 (Int.ofNat 8))], .one (.int .i64 (Int.ofNat f))⟩, ⟨16, [.one (.sym .i64 (.var 1)), .one (.int .i64 (Int.ofNat 8))], .one (.int .i64 (Int.ofNat w))⟩, ⟨16, [.one (.sym .i64 (.var 3)), .one (.int .i64 (Int.ofNat 6))], .one (.int .i64 (Int.ofNat k))⟩]
noncomputable def cfg (f w k : Nat) : Cfg := { ty := Tab.tyT.get, fu := Tab.fuT.get, cmp := fun _ _ _ => none, ext := extT (lst f w k) }
noncomputable def case (f w k : Nat) : Bool := says true (eval (cfg f w k) 300 X0 (.call 3 [.one (.sym .i64 (.var 0)), .one (.sym .i64 (.var 1)), .one (.sym .u64 (.var 2)), .one (.sym .i64 (.var 3))]) ⟨.nil, 0⟩)
theorem c00 : [0, 1, 2, 3, 4, 5].all (case 0 0) = true := by decide +kernel
theorem c01 : [0, 1, 2, 3, 4, 5].all (case 0 1) = true := by decide +kernel
theorem c02 : [0, 1, 2, 3, 4, 5].all (case 0 2) = true := by decide +kernel
theorem c03 : [0, 1, 2, 3, 4, 5].all (case 0 3) = true := by decide +kernel
theorem c04 : [0, 1, 2, 3, 4, 5].all (case 0 4) = true := by decide +kernel
theorem c05 : [0, 1, 2, 3, 4, 5].all (case 0 5) = true := by decide +kernel
theorem c06 : [0, 1, 2, 3, 4, 5].all (case 0 6) = true := by decide +kernel
theorem c07 : [0, 1, 2, 3, 4, 5].all (case 0 7) = true := by decide +kernel
theorem c10 : [0, 1, 2, 3, 4, 5].all (case 1 0) = true := by decide +kernel
theorem c11 : [0, 1, 2, 3, 4, 5].all (case 1 1) = true := by decide +kernel
theorem c12 : [0, 1, 2, 3, 4, 5].all (case 1 2) = true := by decide +kernel
theorem c13 : [0, 1, 2, 3, 4, 5].all (case 1 3) = true := by decide +kernel
theorem c14 : [0, 1, 2, 3, 4, 5].all (case 1 4) = true := by decide +kernel
theorem c15 : [0, 1, 2, 3, 4, 5].all (case 1 5) = true := by decide +kernel
theorem c16 : [0, 1, 2, 3, 4, 5].all (case 1 6) = true := by decide +kernel
theorem c17 : [0, 1, 2, 3, 4, 5].all (case 1 7) = true := by decide +kernel
theorem c20 : [0, 1, 2, 3, 4, 5].all (case 2 0) = true := by decide +kernel
theorem c21 : [0, 1, 2, 3, 4, 5].all (case 2 1) = true := by decide +kernel
theorem c22 : [0, 1, 2, 3, 4, 5].all (case 2 2) = true := by decide +kernel
theorem c23 : [0, 1, 2, 3, 4, 5].all (case 2 3) = true := by decide +kernel
theorem c24 : [0, 1, 2, 3, 4, 5].all (case 2 4) = true := by decide +kernel
theorem c25 : [0, 1, 2, 3, 4, 5].all (case 2 5) = true := by decide +kernel
theorem c26 : [0, 1, 2, 3, 4, 5].all (case 2 6) = true := by decide +kernel
theorem c27 : [0, 1, 2, 3, 4, 5].all (case 2 7) = true := by decide +kernel
theorem c30 : [0, 1, 2, 3, 4, 5].all (case 3 0) = true := by decide +kernel
theorem c31 : [0, 1, 2, 3, 4, 5].all (case 3 1) = true := by decide +kernel
theorem c32 : [0, 1, 2, 3, 4, 5].all (case 3 2) = true := by decide +kernel
theorem c33 : [0, 1, 2, 3, 4, 5].all (case 3 3) = true := by decide +kernel
theorem c34 : [0, 1, 2, 3, 4, 5].all (case 3 4) = true := by decide +kernel
theorem c35 : [0, 1, 2, 3, 4, 5].all (case 3 5) = true := by decide +kernel
theorem c36 : [0, 1, 2, 3, 4, 5].all (case 3 6) = true := by decide +kernel
theorem c37 : [0, 1, 2, 3, 4, 5].all (case 3 7) = true := by decide +kernel
theorem c40 : [0, 1, 2, 3, 4, 5].all (case 4 0) = true := by decide +kernel
theorem c41 : [0, 1, 2, 3, 4, 5].all (case 4 1) = true := by decide +kernel
theorem c42 : [0, 1, 2, 3, 4, 5].all (case 4 2) = true := by decide +kernel
theorem c43 : [0, 1, 2, 3, 4, 5].all (case 4 3) = true := by decide +kernel
theorem c44 : [0, 1, 2, 3, 4, 5].all (case 4 4) = true := by decide +kernel
theorem c45 : [0, 1, 2, 3, 4, 5].all (case 4 5) = true := by decide +kernel
theorem c46 : [0, 1, 2, 3, 4, 5].all (case 4 6) = true := by decide +kernel
theorem c47 : [0, 1, 2, 3, 4, 5].all (case 4 7) = true := by decide +kernel
theorem c50 : [0, 1, 2, 3, 4, 5].all (case 5 0) = true := by decide +kernel
theorem c51 : [0, 1, 2, 3, 4, 5].all (case 5 1) = true := by decide +kernel
theorem c52 : [0, 1, 2, 3, 4, 5].all (case 5 2) = true := by decide +kernel
theorem c53 : [0, 1, 2, 3, 4, 5].all (case 5 3) = true := by decide +kernel
theorem c54 : [0, 1, 2, 3, 4, 5].all (case 5 4) = true := by decide +kernel
theorem c55 : [0, 1, 2, 3, 4, 5].all (case 5 5) = true := by decide +kernel
theorem c56 : [0, 1, 2, 3, 4, 5].all (case 5 6) = true := by decide +kernel
theorem c57 : [0, 1, 2, 3, 4, 5].all (case 5 7) = true := by decide +kernel
theorem c60 : [0, 1, 2, 3, 4, 5].all (case 6 0) = true := by decide +kernel
theorem c61 : [0, 1, 2, 3, 4, 5].all (case 6 1) = true := by decide +kernel
theorem c62 : [0, 1, 2, 3, 4, 5].all (case 6 2) = true := by decide +kernel
theorem c63 : [0, 1, 2, 3, 4, 5].all (case 6 3) = true := by decide +kernel
theorem c64 : [0, 1, 2, 3, 4, 5].all (case 6 4) = true := by decide +kernel
theorem c65 : [0, 1, 2, 3, 4, 5].all (case 6 5) = true := by decide +kernel
theorem c66 : [0, 1, 2, 3, 4, 5].all (case 6 6) = true := by decide +kernel
theorem c67 : [0, 1, 2, 3, 4, 5].all (case 6 7) = true := by decide +kernel
theorem c70 : [0, 1, 2, 3, 4, 5].all (case 7 0) = true := by decide +kernel
theorem c71 : [0, 1, 2, 3, 4, 5].all (case 7 1) = true := by decide +kernel
theorem c72 : [0, 1, 2, 3, 4, 5].all (case 7 2) = true := by decide +kernel
theorem c73 : [0, 1, 2, 3, 4, 5].all (case 7 3) = true := by decide +kernel
theorem c74 : [0, 1, 2, 3, 4, 5].all (case 7 4) = true := by decide +kernel
theorem c75 : [0, 1, 2, 3, 4, 5].all (case 7 5) = true := by decide +kernel
theorem c76 : [0, 1, 2, 3, 4, 5].all (case 7 6) = true := by decide +kernel
theorem c77 : [0, 1, 2, 3, 4, 5].all (case 7 7) = true := by decide +kernel
theorem disp : ∀ f w : Nat, f < 8 → w < 8 → [0, 1, 2, 3, 4, 5].all (case f w) = true
  | 0, 0, _, _ => c00
  | 0, 1, _, _ => c01
  | 0, 2, _, _ => c02
  | 0, 3, _, _ => c03
  | 0, 4, _, _ => c04
  | 0, 5, _, _ => c05
  | 0, 6, _, _ => c06
  | 0, 7, _, _ => c07
  | 1, 0, _, _ => c10
  | 1, 1, _, _ => c11
  | 1, 2, _, _ => c12
  | 1, 3, _, _ => c13
  | 1, 4, _, _ => c14
  | 1, 5, _, _ => c15
  | 1, 6, _, _ => c16
  | 1, 7, _, _ => c17
  | 2, 0, _, _ => c20
  | 2, 1, _, _ => c21
  | 2, 2, _, _ => c22
  | 2, 3, _, _ => c23
  | 2, 4, _, _ => c24
  | 2, 5, _, _ => c25
  | 2, 6, _, _ => c26
  | 2, 7, _, _ => c27
  | 3, 0, _, _ => c30
  | 3, 1, _, _ => c31
  | 3, 2, _, _ => c32
  | 3, 3, _, _ => c33
  | 3, 4, _, _ => c34
  | 3, 5, _, _ => c35
  | 3, 6, _, _ => c36
  | 3, 7, _, _ => c37
  | 4, 0, _, _ => c40
  | 4, 1, _, _ => c41
  | 4, 2, _, _ => c42
  | 4, 3, _, _ => c43
  | 4, 4, _, _ => c44
  | 4, 5, _, _ => c45
  | 4, 6, _, _ => c46
  | 4, 7, _, _ => c47
  | 5, 0, _, _ => c50
  | 5, 1, _, _ => c51
  | 5, 2, _, _ => c52
  | 5, 3, _, _ => c53
  | 5, 4, _, _ => c54
  | 5, 5, _, _ => c55
  | 5, 6, _, _ => c56
  | 5, 7, _, _ => c57
  | 6, 0, _, _ => c60
  | 6, 1, _, _ => c61
  | 6, 2, _, _ => c62
  | 6, 3, _, _ => c63
  | 6, 4, _, _ => c64
  | 6, 5, _, _ => c65
  | 6, 6, _, _ => c66
  | 6, 7, _, _ => c67
  | 7, 0, _, _ => c70
  | 7, 1, _, _ => c71
  | 7, 2, _, _ => c72
  | 7, 3, _, _ => c73
  | 7, 4, _, _ => c74
  | 7, 5, _, _ => c75
  | 7, 6, _, _ => c76
  | 7, 7, _, _ => c77
  | f + 8, _, h, _ => absurd h (by omega)
  | _, w + 8, _, h => absurd h (by omega)
theorem low8 (i : Nat) (hi : i = 0 ∨ i = 1) : isLow i (8 : Nat) (eval cfg0 100 X0 (.call 16 [.one (.sym .i64 (.var i)), .one (.int .i64 (8 : Nat))]) ⟨.nil, 0⟩) = true := by
  rcases hi with rfl | rfl
  · decide +kernel
  · decide +kernel
theorem low6 : isLow 3 (6 : Nat) (eval cfg0 100 X0 (.call 16 [.one (.sym .i64 (.var 3)), .one (.int .i64 (6 : Nat))]) ⟨.nil, 0⟩) = true := by decide +kernel
def sig (a b c d : Int) : Sig := fun i => match i with | 0 => a | 1 => b | 2 => c | _ => d
theorem walk (a b c d : Int) (w : World) : Calls Tryz.prog 3 #[.int .i64 a, .int .i64 b, .int .u64 c, .int .i64 d] w fun e w' => e = .returned (.bool true) ∧ Grown w w' := by
  obtain ⟨f, hf, ef⟩ := low_nat (n := 8) (by decide) a
  obtain ⟨g, hg, eg⟩ := low_nat (n := 8) (by decide) b
  obtain ⟨k, hk, ek⟩ := low_nat (n := 6) (by decide) d
  have hall := List.all_eq_true.1 (disp f g hf hg) k (by
    match k, hk with
    | 0, _ | 1, _ | 2, _ | 3, _ | 4, _ | 5, _ => simp
    | k + 6, h => omega)
  exact calls_true (P := Tryz.prog) (C := cfg f g k) (σ := sig a b c d) (ok _ _ _ (fun _ _ _ _ h => nomatch h))
    (ExtOK.of (l := lst f g k) rfl (.cons (summ0 _ rfl _ awake23) (.cons (summLow _ rfl _ (low8 0 (.inl rfl)) (by decide) ef hf) (.cons (summLow _ rfl _ (low8 1 (.inr rfl)) (by decide) eg hg) (.cons (summLow _ rfl _ low6 (by decide) ek hk) .nil)))))
    hall (vs := [.int .i64 a, .int .i64 b, .int .u64 c, .int .i64 d]) (.cons rfl (.cons rfl (.cons rfl (.cons rfl .nil)))) w
end RC
