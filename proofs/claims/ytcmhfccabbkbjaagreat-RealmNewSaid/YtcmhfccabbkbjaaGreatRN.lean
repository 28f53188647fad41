/- RealmNew: the call answers true, of any two numbers. No conditions. -/
import Derived.Test.YtcmhfccabbkbjaaGreatW23
open Go Eng Go.Proofs Go.RowKit
namespace RN
open Base
structure CF where
  op : BinOp
  x : E
  y : E
  r : Bool
noncomputable def cmpT (l : List CF) (op : BinOp) (x y : E) : Option Bool :=
  @List.rec CF (fun _ => Option Bool) none (fun f _ r => @Bool.rec (fun _ => Option Bool) r (some f.r) (Nat.beq (binNo f.op) (binNo op) && f.x.eqb x && f.y.eqb y)) l
def CFok (σ : Sig) (f : CF) : Prop := cmpDen f.op (f.x.den σ) (f.y.den σ) = f.r
theorem binNo_inj {a b : BinOp} (h : Nat.beq (binNo a) (binNo b) = true) : a = b := by
  cases a <;> cases b <;> first | rfl | cases h
theorem cmpT_ok {σ : Sig} : ∀ {l : List CF}, Al (CFok σ) l → ∀ op x y r, cmpT l op x y = some r → cmpDen op (x.den σ) (y.den σ) = r := by
  intro l h
  induction h with
  | nil => intro op x y r h; cases h
  | cons h0 _ ih =>
    rename_i f l _
    intro op x y r h
    have h' : @Bool.rec (fun _ => Option Bool) (cmpT l op x y) (some f.r) (Nat.beq (binNo f.op) (binNo op) && f.x.eqb x && f.y.eqb y) = some r := h
    cases hb : (Nat.beq (binNo f.op) (binNo op) && f.x.eqb x && f.y.eqb y) with
    | false => rw [hb] at h'; exact ih op x y r h'
    | true =>
      rw [hb] at h'
      simp only [Bool.and_eq_true] at hb
      cases h'
      rw [← binNo_inj hb.1.1, ← Eng.eqb_eq hb.1.2, ← Eng.eqb_eq hb.2]
      exact h0
noncomputable def lst : List SumE := [⟨21, [], .one (.bool true)⟩]
noncomputable def cfg (t : List CF) : Cfg := { ty := Tab.tyT.get, fu := Tab.fuT.get, cmp := cmpT t, ext := extT lst }
noncomputable def nat (n : Nat) : AV := .one (.int .i64 (Int.ofNat n))
noncomputable def var (i : Nat) : AV := .one (.sym .i64 (.var i))
noncomputable def run (t : List CF) (a b : AV) : Bool := says true (eval (cfg t) 300 X0 (.call 4 [a, b]) ⟨.nil, 0⟩)
def sig (a b : Int) : Sig := fun i => match i with | 0 => a | _ => b
theorem leaf {t : List CF} {x y : AV} {a b : Int} (hk : run t x y = true) (ht : Al (CFok (sig a b)) t) (hx : AVR rho0 (sig a b) x (.int .i64 a)) (hy : AVR rho0 (sig a b) y (.int .i64 b)) (w : World) :
    Calls Tryz.prog 4 #[.int .i64 a, .int .i64 b] w fun e w' => e = .returned (.bool true) ∧ Grown w w' :=
  calls_true (P := Tryz.prog) (C := cfg t) (σ := sig a b) (ok _ _ _ (cmpT_ok ht)) (ExtOK.of (l := lst) rfl (.cons (summ0 _ rfl _ awake23) .nil)) hk (vs := [.int .i64 a, .int .i64 b]) (.cons hx (.cons hy .nil)) w
noncomputable def t_fl : List CF := [⟨.lss, .var 0, .lit 1, true⟩, ⟨.geq, .var 0, .lit 1, false⟩]
noncomputable def t_fh : List CF := [⟨.lss, .var 0, .lit 1, false⟩, ⟨.gtr, .var 0, .lit 64, true⟩, ⟨.geq, .var 0, .lit 1, true⟩, ⟨.leq, .var 0, .lit 64, false⟩]
noncomputable def t_nl : List CF := [⟨.lss, .var 1, .lit 1, true⟩, ⟨.geq, .var 1, .lit 1, false⟩]
noncomputable def t_nh : List CF := [⟨.lss, .var 1, .lit 1, false⟩, ⟨.gtr, .var 1, .lit 3, true⟩, ⟨.geq, .var 1, .lit 1, true⟩, ⟨.leq, .var 1, .lit 3, false⟩]
noncomputable def t_flnl : List CF := [⟨.lss, .var 0, .lit 1, true⟩, ⟨.geq, .var 0, .lit 1, false⟩, ⟨.lss, .var 1, .lit 1, true⟩, ⟨.geq, .var 1, .lit 1, false⟩]
noncomputable def t_flnh : List CF := [⟨.lss, .var 0, .lit 1, true⟩, ⟨.geq, .var 0, .lit 1, false⟩, ⟨.lss, .var 1, .lit 1, false⟩, ⟨.gtr, .var 1, .lit 3, true⟩, ⟨.geq, .var 1, .lit 1, true⟩, ⟨.leq, .var 1, .lit 3, false⟩]
noncomputable def t_fhnl : List CF := [⟨.lss, .var 0, .lit 1, false⟩, ⟨.gtr, .var 0, .lit 64, true⟩, ⟨.geq, .var 0, .lit 1, true⟩, ⟨.leq, .var 0, .lit 64, false⟩, ⟨.lss, .var 1, .lit 1, true⟩, ⟨.geq, .var 1, .lit 1, false⟩]
noncomputable def t_fhnh : List CF := [⟨.lss, .var 0, .lit 1, false⟩, ⟨.gtr, .var 0, .lit 64, true⟩, ⟨.geq, .var 0, .lit 1, true⟩, ⟨.leq, .var 0, .lit 64, false⟩, ⟨.lss, .var 1, .lit 1, false⟩, ⟨.gtr, .var 1, .lit 3, true⟩, ⟨.geq, .var 1, .lit 1, true⟩, ⟨.leq, .var 1, .lit 3, false⟩]
theorem c0 : (List.range' 1 8).all (fun f => [1, 2, 3].all (fun n => run [] (nat f) (nat n)) && (run t_nl (nat f) (var 1) && run t_nh (nat f) (var 1))) = true := by decide +kernel
theorem c1 : (List.range' 9 8).all (fun f => [1, 2, 3].all (fun n => run [] (nat f) (nat n)) && (run t_nl (nat f) (var 1) && run t_nh (nat f) (var 1))) = true := by decide +kernel
theorem c2 : (List.range' 17 8).all (fun f => [1, 2, 3].all (fun n => run [] (nat f) (nat n)) && (run t_nl (nat f) (var 1) && run t_nh (nat f) (var 1))) = true := by decide +kernel
theorem c3 : (List.range' 25 8).all (fun f => [1, 2, 3].all (fun n => run [] (nat f) (nat n)) && (run t_nl (nat f) (var 1) && run t_nh (nat f) (var 1))) = true := by decide +kernel
theorem c4 : (List.range' 33 8).all (fun f => [1, 2, 3].all (fun n => run [] (nat f) (nat n)) && (run t_nl (nat f) (var 1) && run t_nh (nat f) (var 1))) = true := by decide +kernel
theorem c5 : (List.range' 41 8).all (fun f => [1, 2, 3].all (fun n => run [] (nat f) (nat n)) && (run t_nl (nat f) (var 1) && run t_nh (nat f) (var 1))) = true := by decide +kernel
theorem c6 : (List.range' 49 8).all (fun f => [1, 2, 3].all (fun n => run [] (nat f) (nat n)) && (run t_nl (nat f) (var 1) && run t_nh (nat f) (var 1))) = true := by decide +kernel
theorem c7 : (List.range' 57 8).all (fun f => [1, 2, 3].all (fun n => run [] (nat f) (nat n)) && (run t_nl (nat f) (var 1) && run t_nh (nat f) (var 1))) = true := by decide +kernel
theorem d_fl : [1, 2, 3].all (fun n => run t_fl (var 0) (nat n)) = true := by decide +kernel
theorem d_flnl : run t_flnl (var 0) (var 1) = true := by decide +kernel
theorem d_flnh : run t_flnh (var 0) (var 1) = true := by decide +kernel
theorem d_fh : [1, 2, 3].all (fun n => run t_fh (var 0) (nat n)) = true := by decide +kernel
theorem d_fhnl : run t_fhnl (var 0) (var 1) = true := by decide +kernel
theorem d_fhnh : run t_fhnh (var 0) (var 1) = true := by decide +kernel
theorem three {p : Nat → Bool} (h : [1, 2, 3].all p = true) {n : Nat} (h1 : 1 ≤ n) (h2 : n ≤ 3) : p n = true := by
  simp only [List.all_cons, List.all_nil, Bool.and_eq_true] at h
  match n, h1, h2 with
  | 1, _, _ => exact h.1
  | 2, _, _ => exact h.2.1
  | 3, _, _ => exact h.2.2.1
  | n + 4, _, h => omega
theorem rows {p : Nat → Bool} (h : ∀ i, i < 8 → (List.range' (1 + 8 * i) 8).all p = true) {f : Nat} (h1 : 1 ≤ f) (h2 : f ≤ 64) : p f = true := by
  have := h ((f - 1) / 8) (by omega)
  exact List.all_eq_true.1 this f (by rw [List.mem_range'_1]; omega)
theorem all : ∀ i, i < 8 → (List.range' (1 + 8 * i) 8).all (fun f => [1, 2, 3].all (fun n => run [] (nat f) (nat n)) && (run t_nl (nat f) (var 1) && run t_nh (nat f) (var 1))) = true
  | 0, _ => c0
  | 1, _ => c1
  | 2, _ => c2
  | 3, _ => c3
  | 4, _ => c4
  | 5, _ => c5
  | 6, _ => c6
  | 7, _ => c7
  | i + 8, h => absurd h (by omega)
theorem walk (a b : Int) (w : World) : Calls Tryz.prog 4 #[.int .i64 a, .int .i64 b] w fun e w' => e = .returned (.bool true) ∧ Grown w w' := by
  by_cases hf : 1 ≤ a ∧ a ≤ 64
  · obtain ⟨f, rfl⟩ := Int.eq_ofNat_of_zero_le (show 0 ≤ a by omega)
    have h := rows all (f := f) (by omega) (by omega)
    simp only [Bool.and_eq_true] at h
    by_cases hn : 1 ≤ b ∧ b ≤ 3
    · obtain ⟨n, rfl⟩ := Int.eq_ofNat_of_zero_le (show 0 ≤ b by omega)
      exact leaf (three h.1 (by omega) (by omega)) .nil rfl rfl w
    · by_cases hl : b < 1
      · exact leaf h.2.1 (.cons (by simp only [CFok, cmpDen, E.den, sig]; exact decide_eq_true (by omega)) (.cons (by simp only [CFok, cmpDen, E.den, sig]; exact decide_eq_false (by omega)) (.nil))) rfl rfl w
      · exact leaf h.2.2 (.cons (by simp only [CFok, cmpDen, E.den, sig]; exact decide_eq_false (by omega)) (.cons (by simp only [CFok, cmpDen, E.den, sig]; exact decide_eq_true (by omega)) (.cons (by simp only [CFok, cmpDen, E.den, sig]; exact decide_eq_true (by omega)) (.cons (by simp only [CFok, cmpDen, E.den, sig]; exact decide_eq_false (by omega)) (.nil))))) rfl rfl w
  · by_cases hl : a < 1
    · by_cases hn : 1 ≤ b ∧ b ≤ 3
      · obtain ⟨n, rfl⟩ := Int.eq_ofNat_of_zero_le (show 0 ≤ b by omega)
        exact leaf (three d_fl (by omega) (by omega)) (.cons (by simp only [CFok, cmpDen, E.den, sig]; exact decide_eq_true (by omega)) (.cons (by simp only [CFok, cmpDen, E.den, sig]; exact decide_eq_false (by omega)) (.nil))) rfl rfl w
      · by_cases hl2 : b < 1
        · exact leaf d_flnl (.cons (by simp only [CFok, cmpDen, E.den, sig]; exact decide_eq_true (by omega)) (.cons (by simp only [CFok, cmpDen, E.den, sig]; exact decide_eq_false (by omega)) (.cons (by simp only [CFok, cmpDen, E.den, sig]; exact decide_eq_true (by omega)) (.cons (by simp only [CFok, cmpDen, E.den, sig]; exact decide_eq_false (by omega)) (.nil))))) rfl rfl w
        · exact leaf d_flnh (.cons (by simp only [CFok, cmpDen, E.den, sig]; exact decide_eq_true (by omega)) (.cons (by simp only [CFok, cmpDen, E.den, sig]; exact decide_eq_false (by omega)) (.cons (by simp only [CFok, cmpDen, E.den, sig]; exact decide_eq_false (by omega)) (.cons (by simp only [CFok, cmpDen, E.den, sig]; exact decide_eq_true (by omega)) (.cons (by simp only [CFok, cmpDen, E.den, sig]; exact decide_eq_true (by omega)) (.cons (by simp only [CFok, cmpDen, E.den, sig]; exact decide_eq_false (by omega)) (.nil))))))) rfl rfl w
    · by_cases hn : 1 ≤ b ∧ b ≤ 3
      · obtain ⟨n, rfl⟩ := Int.eq_ofNat_of_zero_le (show 0 ≤ b by omega)
        exact leaf (three d_fh (by omega) (by omega)) (.cons (by simp only [CFok, cmpDen, E.den, sig]; exact decide_eq_false (by omega)) (.cons (by simp only [CFok, cmpDen, E.den, sig]; exact decide_eq_true (by omega)) (.cons (by simp only [CFok, cmpDen, E.den, sig]; exact decide_eq_true (by omega)) (.cons (by simp only [CFok, cmpDen, E.den, sig]; exact decide_eq_false (by omega)) (.nil))))) rfl rfl w
      · by_cases hl2 : b < 1
        · exact leaf d_fhnl (.cons (by simp only [CFok, cmpDen, E.den, sig]; exact decide_eq_false (by omega)) (.cons (by simp only [CFok, cmpDen, E.den, sig]; exact decide_eq_true (by omega)) (.cons (by simp only [CFok, cmpDen, E.den, sig]; exact decide_eq_true (by omega)) (.cons (by simp only [CFok, cmpDen, E.den, sig]; exact decide_eq_false (by omega)) (.cons (by simp only [CFok, cmpDen, E.den, sig]; exact decide_eq_true (by omega)) (.cons (by simp only [CFok, cmpDen, E.den, sig]; exact decide_eq_false (by omega)) (.nil))))))) rfl rfl w
        · exact leaf d_fhnh (.cons (by simp only [CFok, cmpDen, E.den, sig]; exact decide_eq_false (by omega)) (.cons (by simp only [CFok, cmpDen, E.den, sig]; exact decide_eq_true (by omega)) (.cons (by simp only [CFok, cmpDen, E.den, sig]; exact decide_eq_true (by omega)) (.cons (by simp only [CFok, cmpDen, E.den, sig]; exact decide_eq_false (by omega)) (.cons (by simp only [CFok, cmpDen, E.den, sig]; exact decide_eq_false (by omega)) (.cons (by simp only [CFok, cmpDen, E.den, sig]; exact decide_eq_true (by omega)) (.cons (by simp only [CFok, cmpDen, E.den, sig]; exact decide_eq_true (by omega)) (.cons (by simp only [CFok, cmpDen, E.den, sig]; exact decide_eq_false (by omega)) (.nil))))))))) rfl rfl w
end RN
