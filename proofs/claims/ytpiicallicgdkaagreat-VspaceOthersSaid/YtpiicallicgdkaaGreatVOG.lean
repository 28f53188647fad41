/- VspaceOthers: one round of its loop's body: from a place it comes to a place. No conditions beside those in its theorems. -/
import Derived.Test.YtpiicallicgdkaaGreatVOL
set_option linter.unusedVariables false
open Go Eng Go.Proofs Go.RowKit
namespace VO
open Base
section
variable {σ : Sig} {x y e : E} {p : Int}
theorem geT (h : y.den σ ≤ x.den σ) : CFok σ ⟨.geq, x, y, true⟩ := decide_eq_true (show x.den σ ≥ y.den σ from h)
theorem geF (h : x.den σ < y.den σ) : CFok σ ⟨.geq, x, y, false⟩ := decide_eq_false (show ¬ x.den σ ≥ y.den σ by omega)
theorem ltT (h : x.den σ < y.den σ) : CFok σ ⟨.lss, x, y, true⟩ := decide_eq_true (show x.den σ < y.den σ from h)
theorem ltF (h : y.den σ ≤ x.den σ) : CFok σ ⟨.lss, x, y, false⟩ := decide_eq_false (show ¬ x.den σ < y.den σ by omega)
theorem gtT (h : y.den σ < x.den σ) : CFok σ ⟨.gtr, x, y, true⟩ := decide_eq_true (show x.den σ > y.den σ from h)
theorem leF (h : y.den σ < x.den σ) : CFok σ ⟨.leq, x, y, false⟩ := decide_eq_false (show ¬ x.den σ ≤ y.den σ by omega)
theorem eqF (h : x.den σ ≠ y.den σ) : CFok σ ⟨.eql, x, y, false⟩ := beq_eq_false_iff_ne.2 h
theorem eqT (h : x.den σ = y.den σ) : CFok σ ⟨.eql, x, y, true⟩ := beq_iff_eq.2 h
theorem neT (h : x.den σ ≠ y.den σ) : CFok σ ⟨.neq, x, y, true⟩ := bne_iff_ne.2 h
theorem alApp {α : Type} {q : α → Prop} {l m : List α} (h : Al q l) (h' : Al q m) : Al q (app l m) := by
  induction h with
  | nil => exact h'
  | cons h1 _ ih => exact .cons h1 ih
theorem pgC_ok (he : e.den σ = p) (h0 : 0 ≤ p) (h1 : p < 512) : Al (CFok σ) (pgC e) :=
  .cons (geT (show (0 : Int) ≤ e.den σ by omega)) (.cons (geF (show e.den σ < (512 : Int) by omega)) (.cons (ltF (show (0 : Int) ≤ e.den σ by omega)) (.cons (ltT (show e.den σ < (512 : Int) by omega)) .nil)))
theorem small (f : E) (h0 : 0 ≤ p) (h1 : p < 512) (hr : (f.rng (fun _ => (0, 511))).isSome = true) : f.den (fun _ => p) = f.ex (fun _ => p) := rng_den (b := fun _ => (0, 511)) (fun _ => ⟨h0, show p ≤ 511 by omega⟩) hr
theorem pgN_ok (he : e.den σ = p) (h0 : 0 ≤ p) (h1 : p < 512) {d : Nat} (hd : p / 64 = Int.ofNat d) : Al (NFok σ) (pgN e d) := by
  refine .cons ?_ (.cons ?_ .nil)
  · have h := small (.bin .quo .i64 (.var 0) (.lit 64)) h0 h1 rfl
    show binDen .quo .i64 (e.den σ) 64 = Int.ofNat d
    rw [he, ← hd]
    exact h
  · have h := small (.bin .rem .i64 (.bin .quo .i64 (.bin .quo .i64 (.var 0) (.lit 8)) (.lit 8)) (.lit 8)) h0 h1 rfl
    show binDen .rem .i64 (binDen .quo .i64 (binDen .quo .i64 (e.den σ) 8) 8) 8 = Int.ofNat d
    rw [he]
    refine h.trans ?_
    show p / 8 / 8 % 8 = Int.ofNat d
    simp only [Int.ofNat_eq_natCast] at hd ⊢
    omega
theorem pg2_ok (he : e.den σ = p) (h0 : 0 ≤ p) (h1 : p < 512) {d : Nat} (hd : p / 8 % 8 = Int.ofNat d) : Al (NFok σ) (pg2 e d) := by
  refine .cons ?_ .nil
  have h := small (.bin .rem .i64 (.bin .quo .i64 (.var 0) (.lit 8)) (.lit 8)) h0 h1 rfl
  show binDen .rem .i64 (binDen .quo .i64 (e.den σ) 8) 8 = Int.ofNat d
  rw [he, ← hd]
  exact h
end
def sg (page d n m a0 a1 b0 b1 va : Int) : Sig := fun i => match i with | 0 => page | 1 => d | 2 => n | 3 => m | 4 => a0 | 5 => a1 | 6 => b0 | 7 => b1 | _ => va
def okq (q : Nat) (page : Int) : Prop := q < 9 ∧ (0 < q → 0 ≤ page ∧ page < 512 ∧ page / 64 = Int.ofNat (q - 1))
theorem sC_ok {σ : Sig} : ∀ {q : Nat}, okq q (σ 0) → Al (CFok σ) (sC q)
  | 0, _ => .nil
  | q + 1, h => pgC_ok (e := .var 0) rfl (h.2 (by omega)).1 (h.2 (by omega)).2.1
theorem sN_ok {σ : Sig} : ∀ {q : Nat}, okq q (σ 0) → Al (NFok σ) (sN q)
  | 0, _ => .nil
  | q + 1, h => pgN_ok (e := .var 0) rfl (h.2 (by omega)).1 (h.2 (by omega)).2.1 (h.2 (by omega)).2.2
theorem fu6 : cfg0.fu X6.fn = some Tab.u6 := by show Tab.fuT.get 6 = some Tab.u6; kernel_rfl
theorem lcOK : ∀ q : Nat, Lc.all (fun p => fixedV (hasKey (lst q)) p.2) = true
  | 0 => by decide +kernel
  | d + 1 => by kernel_rfl
theorem keeps7 (q : Nat) (i : Int) : Keeps (hasKey (lst q)) (.one (.int .i64 i)) := Keeps.one rfl
theorem keeps0 (q off ln cp : Nat) : Keeps (hasKey (lst q)) (.one (.slice 0 off ln cp)) := Keeps.one (show hasKey (lst q) 0 = true from key0 q)
abbrev Inv (Z : Nat → Prop) (F : List (Nat × Nat × Nat)) (q : Nat) (page : Int) (v0 v7 : AV) (a : Act) (w : World) : Prop := At cfg0 143 12 Z F (lst q) 3646 page (LL v0 v7) a w
def Post (Z : Nat → Prop) (F : List (Nat × Nat × Nat)) (v0 v7 : AV) (w0 : World) (e : Exit) (a : Act) (w : World) : Prop := (e = .normal ∨ e = .exit 1) ∧ (∃ q page, okq q page ∧ Inv Z F q page v0 v7 a w) ∧ Stays Z w0 w
abbrev Ready (Z : Nat → Prop) (F : List (Nat × Nat × Nat)) (q : Nat) (v0 v7 : AV) (cells : List A) (σ : Sig) (a : Act) (w : World) : Prop :=
  AtS cfg0 143 12 Z F ((3646, .cells (T.ofList cells) 8 true none) :: lst q) 3647 ((8, .one (.ptr 3646 0)) :: LL v0 v7) σ a w
theorem fire {q q' : Nat} {o : Out} {e0 : E} {cells : List A} {t : List CF} {n : List NF} {σ : Sig} (hK : K q o q' e0 cells t n) (hq : okq q (σ 0)) (hq' : okq q' (e0.den σ)) (ho : o.ex = .normal ∨ o.ex = .exit 1) (ht : Al (CFok σ) t) (hn : Al (NFok σ) n)
    {Z : Nat → Prop} {F : List (Nat × Nat × Nat)} (hF : F.all (fun p => hasKey (lst q') p.1) = true) {v0 v7 : AV} (h0 : Keeps (hasKey (lst q')) v0) (h7 : Keeps (hasKey (lst q')) v7) {a : Act} {w : World} (hs : Ready Z F q v0 v7 cells σ a w) :
    WB Tryz.prog (bare 6) body (Post Z F v0 v7 w) a w := by
  have hc : CfgOK Tryz.prog (cfgV (app t (sC q)) (app n (sN q))) σ := okW (alApp ht (sC_ok hq)) (alApp hn (sN_ok hq))
  have hx : ExtOK (cfgV (app t (sC q)) (app n (sN q))) Tryz.prog σ := extW (gs20 σ) (fun C hC => puVOK σ C hC)
  have := AtS.code (X := X6) (fi := Tab.u6) (C := cfg0) (vs := [v0, v7]) (hK v0 v7) (by
    intro v hv
    rcases List.mem_cons.1 hv with e | hv
    · rw [e]; exact h0
    · rcases List.mem_cons.1 hv with e | hv
      · rw [e]; exact h7
      · cases hv) (lcOK q') (clQ q' hq'.1) hF rfl hc hx fu6 rfl rfl rfl hs
  refine this.mono fun e a' w' ⟨e1, e2, e3⟩ => ⟨by rw [e1]; exact ho, ⟨q', _, hq', e2⟩, e3⟩
theorem cells8 {σ : Sig} {ρ : Rho} {c1 c2 c3 c4 c5 c6 c7 c8 : A} {w1 w2 w3 w4 w5 w6 w7 w8 : Value} (h1 : AR ρ σ c1 w1) (h2 : AR ρ σ c2 w2) (h3 : AR ρ σ c3 w3) (h4 : AR ρ σ c4 w4) (h5 : AR ρ σ c5 w5) (h6 : AR ρ σ c6 w6) (h7 : AR ρ σ c7 w7) (h8 : AR ρ σ c8 w8) :
    F2 (AR ρ σ) [c1, c2, c3, c4, c5, c6, c7, c8] [w1, w2, w3, w4, w5, w6, w7, w8] := .cons h1 (.cons h2 (.cons h3 (.cons h4 (.cons h5 (.cons h6 (.cons h7 (.cons h8 .nil)))))))
section
variable {Z : Nat → Prop} {F : List (Nat × Nat × Nat)} {v0 v7 : AV} {a : Act} {w : World} {q : Nat} {page n m a0 a1 b0 b1 va : Int}
/-- what is given of a round: the new block holds the act -/
def Given (Z : Nat → Prop) (F : List (Nat × Nat × Nat)) (v0 v7 : AV) (a : Act) (w : World) (q : Nat) (page d n m a0 a1 b0 b1 va : Int) : Prop := okq q page ∧ (∀ q, F.all (fun p => hasKey (lst q) p.1) = true) ∧ (∀ q, Keeps (hasKey (lst q)) v0) ∧ (∀ q, Keeps (hasKey (lst q)) v7) ∧ 0 ≤ va ∧
  ∀ cells : List A, cells.length = 8 → (∀ ρ : Rho, F2 (AR ρ (sg page d n m a0 a1 b0 b1 va)) cells [.int .i64 d, .int .i64 n, .int .i64 m, .int .i64 a0, .int .i64 a1, .int .i64 b0, .int .i64 b1, .int .u64 va]) → Ready Z F q v0 v7 cells (sg page d n m a0 a1 b0 b1 va) a w
theorem Given.fire {d : Int} (h : Given Z F v0 v7 a w q page d n m a0 a1 b0 b1 va) {q' : Nat} {o : Out} {e0 : E} {cells : List A} {t : List CF} {nn : List NF} (hK : K q o q' e0 cells t nn) (hq' : okq q' (e0.den (sg page d n m a0 a1 b0 b1 va))) (ho : o.ex = .normal ∨ o.ex = .exit 1)
    (ht : Al (CFok (sg page d n m a0 a1 b0 b1 va)) t) (hn : Al (NFok (sg page d n m a0 a1 b0 b1 va)) nn) (hl : cells.length = 8) (hc : ∀ ρ : Rho, F2 (AR ρ (sg page d n m a0 a1 b0 b1 va)) cells [.int .i64 d, .int .i64 n, .int .i64 m, .int .i64 a0, .int .i64 a1, .int .i64 b0, .int .i64 b1, .int .u64 va]) :
    WB Tryz.prog (bare 6) body (Post Z F v0 v7 w) a w :=
  VO.fire hK h.1 hq' ho ht hn (h.2.1 q') (h.2.2.1 q') (h.2.2.2.1 q') (h.2.2.2.2.2 cells hl hc)
theorem other0 (h : Given Z F v0 v7 a w q page 0 n m a0 a1 b0 b1 va) (hne : ¬ (a0 = 2 ∧ a1 = 8)) : WB Tryz.prog (bare 6) body (Post Z F v0 v7 w) a w := by
  by_cases e0 : a0 = 2
  · subst e0
    have e1 : a1 ≠ 8 := fun e => hne ⟨rfl, e⟩
    exact h.fire (kB0 q h.1.1) h.1 (.inr rfl) (.cons (eqF (x := .var 5) (y := .lit 8) e1) .nil) .nil rfl (fun _ => cells8 rfl rfl rfl rfl rfl rfl rfl rfl)
  · by_cases e1 : a1 = 8
    · exact h.fire (kA0t q h.1.1) h.1 (.inr rfl) (.cons (eqF (x := .var 4) (y := .lit 2) e0) (.cons (eqT (x := .var 5) (y := .lit 8) e1) .nil)) .nil rfl (fun _ => cells8 rfl rfl rfl rfl rfl rfl rfl rfl)
    · exact h.fire (kA0f q h.1.1) h.1 (.inr rfl) (.cons (eqF (x := .var 4) (y := .lit 2) e0) (.cons (eqF (x := .var 5) (y := .lit 8) e1) .nil)) .nil rfl (fun _ => cells8 rfl rfl rfl rfl rfl rfl rfl rfl)
theorem other1 (h : Given Z F v0 v7 a w q page 1 n m a0 a1 b0 b1 va) (hne : ¬ (a0 = 2 ∧ a1 = 8)) : WB Tryz.prog (bare 6) body (Post Z F v0 v7 w) a w := by
  by_cases e0 : a0 = 2
  · subst e0
    have e1 : a1 ≠ 8 := fun e => hne ⟨rfl, e⟩
    exact h.fire (kB1 q h.1.1) h.1 (.inr rfl) (.cons (eqF (x := .var 5) (y := .lit 8) e1) .nil) .nil rfl (fun _ => cells8 rfl rfl rfl rfl rfl rfl rfl rfl)
  · by_cases e1 : a1 = 8
    · exact h.fire (kA1t q h.1.1) h.1 (.inr rfl) (.cons (eqF (x := .var 4) (y := .lit 2) e0) (.cons (eqT (x := .var 5) (y := .lit 8) e1) .nil)) .nil rfl (fun _ => cells8 rfl rfl rfl rfl rfl rfl rfl rfl)
    · exact h.fire (kA1f q h.1.1) h.1 (.inr rfl) (.cons (eqF (x := .var 4) (y := .lit 2) e0) (.cons (eqF (x := .var 5) (y := .lit 8) e1) .nil)) .nil rfl (fun _ => cells8 rfl rfl rfl rfl rfl rfl rfl rfl)
theorem other2 (h : Given Z F v0 v7 a w q page 2 n m a0 a1 b0 b1 va) (hne : ¬ (a0 = 2 ∧ a1 = 11)) : WB Tryz.prog (bare 6) body (Post Z F v0 v7 w) a w := by
  by_cases e0 : a0 = 2
  · subst e0
    have e1 : a1 ≠ 11 := fun e => hne ⟨rfl, e⟩
    exact h.fire (kB2 q h.1.1) h.1 (.inr rfl) (.cons (eqF (x := .var 5) (y := .lit 11) e1) .nil) .nil rfl (fun _ => cells8 rfl rfl rfl rfl rfl rfl rfl rfl)
  · by_cases e1 : a1 = 11
    · exact h.fire (kA2t q h.1.1) h.1 (.inr rfl) (.cons (eqF (x := .var 4) (y := .lit 2) e0) (.cons (eqT (x := .var 5) (y := .lit 11) e1) .nil)) .nil rfl (fun _ => cells8 rfl rfl rfl rfl rfl rfl rfl rfl)
    · exact h.fire (kA2f q h.1.1) h.1 (.inr rfl) (.cons (eqF (x := .var 4) (y := .lit 2) e0) (.cons (eqF (x := .var 5) (y := .lit 11) e1) .nil)) .nil rfl (fun _ => cells8 rfl rfl rfl rfl rfl rfl rfl rfl)
theorem other3 (h : Given Z F v0 v7 a w q page 3 n m a0 a1 b0 b1 va) (hne : ¬ (a0 = 2 ∧ a1 = 11)) : WB Tryz.prog (bare 6) body (Post Z F v0 v7 w) a w := by
  by_cases e0 : a0 = 2
  · subst e0
    have e1 : a1 ≠ 11 := fun e => hne ⟨rfl, e⟩
    exact h.fire (kB3 q h.1.1) h.1 (.inr rfl) (.cons (eqF (x := .var 5) (y := .lit 11) e1) .nil) .nil rfl (fun _ => cells8 rfl rfl rfl rfl rfl rfl rfl rfl)
  · by_cases e1 : a1 = 11
    · exact h.fire (kA3t q h.1.1) h.1 (.inr rfl) (.cons (eqF (x := .var 4) (y := .lit 2) e0) (.cons (eqT (x := .var 5) (y := .lit 11) e1) .nil)) .nil rfl (fun _ => cells8 rfl rfl rfl rfl rfl rfl rfl rfl)
    · exact h.fire (kA3f q h.1.1) h.1 (.inr rfl) (.cons (eqF (x := .var 4) (y := .lit 2) e0) (.cons (eqF (x := .var 5) (y := .lit 11) e1) .nil)) .nil rfl (fun _ => cells8 rfl rfl rfl rfl rfl rfl rfl rfl)
theorem pvDen {d : Int} (h0 : 0 ≤ va) (h1 : va < 32768) : pv.den (sg page d n m a0 a1 b0 b1 va) = va / 64 := by
  have := rng_den (σ := fun _ => va) (b := fun _ => (0, 32767)) (fun _ => ⟨h0, show va ≤ 32767 by omega⟩) (e := .conv .i64 (.bin .quo .u64 (.var 0) (.lit 64))) rfl
  exact this
theorem mt (h : Given Z F v0 v7 a w q page 0 n m 2 8 b0 b1 va) : WB Tryz.prog (bare 6) body (Post Z F v0 v7 w) a w := by
  have hva := h.2.2.2.2.1
  by_cases hh : 32768 ≤ va
  · exact h.fire (kMtHigh q h.1.1) h.1 (.inl rfl) (.cons (geT (x := .var 8) (y := .lit 32768) hh) .nil) .nil rfl (fun _ => cells8 rfl rfl rfl rfl rfl rfl rfl rfl)
  · have hv : va < 32768 := by omega
    by_cases h0 : 0 < q
    · exact h.fire (kMtLow q h.1.1 h0) h.1 (.inl rfl) (.cons (geF (x := .var 8) (y := .lit 32768) hv) .nil) .nil rfl (fun _ => cells8 rfl rfl rfl rfl rfl rfl rfl rfl)
    · obtain rfl : q = 0 := by omega
      obtain ⟨d, hd⟩ := Int.eq_ofNat_of_zero_le (show 0 ≤ va / 64 / 64 by omega)
      have hd8 : d < 8 := by omega
      have hp := pvDen (page := page) (d := 0) (n := n) (m := m) (a0 := 2) (a1 := 8) (b0 := b0) (b1 := b1) hva hv
      refine h.fire (kMt d hd8) ?_ (.inl rfl) (.cons (geF (x := .var 8) (y := .lit 32768) hv) (pgC_ok hp (by omega) (by omega))) (pgN_ok hp (by omega) (by omega) hd) rfl (fun _ => cells8 rfl rfl rfl rfl rfl rfl rfl rfl)
      rw [hp]
      exact ⟨by omega, fun _ => ⟨by omega, by omega, hd⟩⟩
theorem ut (h : Given Z F v0 v7 a w q page 1 n m 2 8 b0 b1 va) : WB Tryz.prog (bare 6) body (Post Z F v0 v7 w) a w :=
  h.fire (kUt q h.1.1) ⟨by omega, fun hh => absurd hh (by omega)⟩ (.inl rfl) .nil .nil rfl (fun _ => cells8 rfl rfl rfl rfl rfl rfl rfl rfl)
theorem uf (h : Given Z F v0 v7 a w q page 3 n m 2 11 b0 b1 va) : WB Tryz.prog (bare 6) body (Post Z F v0 v7 w) a w :=
  h.fire (kUf q h.1.1) h.1 (.inl rfl) .nil .nil rfl (fun _ => cells8 rfl rfl rfl rfl rfl rfl rfl rfl)
theorem remDen {d : Int} (h0 : 0 ≤ va) (h1 : va < 32768) : (E.bin .rem .u64 (.var 8) (.lit 64)).den (sg page d n m a0 a1 b0 b1 va) = va % 64 := by
  have := rng_den (σ := fun _ => va) (b := fun _ => (0, 32767)) (fun _ => ⟨h0, show va ≤ 32767 by omega⟩) (e := .bin .rem .u64 (.var 0) (.lit 64)) rfl
  exact this
theorem mfr0 (h : Given Z F v0 v7 a w q page 2 1 m 2 11 b0 b1 va) (hv : va < 32768) (ha : va % 64 = 0) : WB Tryz.prog (bare 6) body (Post Z F v0 v7 w) a w := by
  have hva := h.2.2.2.2.1
  obtain ⟨d, hd⟩ := Int.eq_ofNat_of_zero_le (show 0 ≤ va / 64 / 64 by omega)
  obtain ⟨e, he⟩ := Int.eq_ofNat_of_zero_le (show 0 ≤ va / 64 / 8 % 8 by omega)
  have hp := pvDen (page := page) (d := 2) (n := 1) (m := m) (a0 := 2) (a1 := 11) (b0 := b0) (b1 := b1) hva hv
  have hr := remDen (page := page) (d := 2) (n := 1) (m := m) (a0 := 2) (a1 := 11) (b0 := b0) (b1 := b1) hva hv
  have hA : Al (NFok (sg page 2 1 m 2 11 b0 b1 va)) nAl := .cons (hr.trans ha) .nil
  have hB : Al (CFok (sg page 2 1 m 2 11 b0 b1 va)) pLow := .cons (geF (x := .var 8) (y := .lit 32768) hv) (pgC_ok hp (by omega) (by omega))
  have hk := kMf0 q h.1.1 d e (by omega) (by omega)
  by_cases hq : d + 1 = q
  · exact h.fire (hk.2 hq) h.1 (.inl rfl) hB (alApp (alApp hA (pgN_ok hp (by omega) (by omega) hd)) (pg2_ok hp (by omega) (by omega) he)) rfl (fun _ => cells8 rfl rfl rfl rfl rfl rfl rfl rfl)
  · exact h.fire (hk.1 hq) h.1 (.inl rfl) hB (alApp hA (pgN_ok hp (by omega) (by omega) hd)) rfl (fun _ => cells8 rfl rfl rfl rfl rfl rfl rfl rfl)
theorem mfr1 (h : Given Z F v0 v7 a w q page 2 2 m 2 11 b0 b1 va) (hv : va < 32768) (ha : va % 64 = 0) : WB Tryz.prog (bare 6) body (Post Z F v0 v7 w) a w := by
  have hva := h.2.2.2.2.1
  obtain ⟨d, hd⟩ := Int.eq_ofNat_of_zero_le (show 0 ≤ va / 64 / 64 by omega)
  obtain ⟨e, he⟩ := Int.eq_ofNat_of_zero_le (show 0 ≤ va / 64 / 8 % 8 by omega)
  have hp := pvDen (page := page) (d := 2) (n := 2) (m := m) (a0 := 2) (a1 := 11) (b0 := b0) (b1 := b1) hva hv
  have hr := remDen (page := page) (d := 2) (n := 2) (m := m) (a0 := 2) (a1 := 11) (b0 := b0) (b1 := b1) hva hv
  have hA : Al (NFok (sg page 2 2 m 2 11 b0 b1 va)) nAl := .cons (hr.trans ha) .nil
  have hB : Al (CFok (sg page 2 2 m 2 11 b0 b1 va)) pLow := .cons (geF (x := .var 8) (y := .lit 32768) hv) (pgC_ok hp (by omega) (by omega))
  have hk := kMf1 q h.1.1 d e (by omega) (by omega)
  by_cases hq : d + 1 = q
  · exact h.fire (hk.2 hq) h.1 (.inl rfl) hB (alApp (alApp hA (pgN_ok hp (by omega) (by omega) hd)) (pg2_ok hp (by omega) (by omega) he)) rfl (fun _ => cells8 rfl rfl rfl rfl rfl rfl rfl rfl)
  · exact h.fire (hk.1 hq) h.1 (.inl rfl) hB (alApp hA (pgN_ok hp (by omega) (by omega) hd)) rfl (fun _ => cells8 rfl rfl rfl rfl rfl rfl rfl rfl)
theorem mfr2 (h : Given Z F v0 v7 a w q page 2 3 m 2 11 b0 b1 va) (hv : va < 32768) (ha : va % 64 = 0) : WB Tryz.prog (bare 6) body (Post Z F v0 v7 w) a w := by
  have hva := h.2.2.2.2.1
  obtain ⟨d, hd⟩ := Int.eq_ofNat_of_zero_le (show 0 ≤ va / 64 / 64 by omega)
  obtain ⟨e, he⟩ := Int.eq_ofNat_of_zero_le (show 0 ≤ va / 64 / 8 % 8 by omega)
  have hp := pvDen (page := page) (d := 2) (n := 3) (m := m) (a0 := 2) (a1 := 11) (b0 := b0) (b1 := b1) hva hv
  have hr := remDen (page := page) (d := 2) (n := 3) (m := m) (a0 := 2) (a1 := 11) (b0 := b0) (b1 := b1) hva hv
  have hA : Al (NFok (sg page 2 3 m 2 11 b0 b1 va)) nAl := .cons (hr.trans ha) .nil
  have hB : Al (CFok (sg page 2 3 m 2 11 b0 b1 va)) pLow := .cons (geF (x := .var 8) (y := .lit 32768) hv) (pgC_ok hp (by omega) (by omega))
  have hk := kMf2 q h.1.1 d e (by omega) (by omega)
  by_cases hq : d + 1 = q
  · exact h.fire (hk.2 hq) h.1 (.inl rfl) hB (alApp (alApp hA (pgN_ok hp (by omega) (by omega) hd)) (pg2_ok hp (by omega) (by omega) he)) rfl (fun _ => cells8 rfl rfl rfl rfl rfl rfl rfl rfl)
  · exact h.fire (hk.1 hq) h.1 (.inl rfl) hB (alApp hA (pgN_ok hp (by omega) (by omega) hd)) rfl (fun _ => cells8 rfl rfl rfl rfl rfl rfl rfl rfl)
theorem mf (h : Given Z F v0 v7 a w q page 2 n m 2 11 b0 b1 va) : WB Tryz.prog (bare 6) body (Post Z F v0 v7 w) a w := by
  have hva := h.2.2.2.2.1
  by_cases hh : 32768 ≤ va
  · exact h.fire (kMfHigh q h.1.1) h.1 (.inl rfl) (.cons (geT (x := .var 8) (y := .lit 32768) hh) .nil) .nil rfl (fun _ => cells8 rfl rfl rfl rfl rfl rfl rfl rfl)
  have hv : va < 32768 := by omega
  have hr := remDen (page := page) (d := 2) (n := n) (m := m) (a0 := 2) (a1 := 11) (b0 := b0) (b1 := b1) hva hv
  have hg : CFok (sg page 2 n m 2 11 b0 b1 va) ⟨.geq, .var 8, .lit 32768, false⟩ := geF (x := .var 8) (y := .lit 32768) hv
  by_cases ha : va % 64 = 0
  · have hA : Al (NFok (sg page 2 n m 2 11 b0 b1 va)) nAl := .cons (hr.trans ha) .nil
    by_cases h1 : n < 1
    · exact h.fire (kMfSmall q h.1.1) h.1 (.inl rfl) (.cons hg (.cons (ltT (x := .var 2) (y := .lit 1) h1) (.cons (geF (x := .var 2) (y := .lit 1) h1) (.cons (geF (x := .var 2) (y := .lit 2) (show n < 2 by omega)) .nil)))) hA rfl (fun _ => cells8 rfl rfl rfl rfl rfl rfl rfl rfl)
    by_cases h3 : 3 < n
    · exact h.fire (kMfGreat q h.1.1) h.1 (.inl rfl) (.cons hg (.cons (ltF (x := .var 2) (y := .lit 1) (show 1 ≤ n by omega)) (.cons (gtT (x := .var 2) (y := .lit 3) h3) (.cons (geT (x := .var 2) (y := .lit 1) (show 1 ≤ n by omega)) (.cons (geT (x := .var 2) (y := .lit 2) (show 2 ≤ n by omega)) (.cons (leF (x := .var 2) (y := .lit 3) h3) .nil)))))) hA rfl (fun _ => cells8 rfl rfl rfl rfl rfl rfl rfl rfl)
    rcases (show n = 1 ∨ n = 2 ∨ n = 3 by omega) with e | e | e
    · subst e; exact mfr0 h hv ha
    · subst e; exact mfr1 h hv ha
    · subst e; exact mfr2 h hv ha
  · exact h.fire (kMfUnal q h.1.1) h.1 (.inl rfl) (.cons hg (.cons (neT (x := .bin .rem .u64 (.var 8) (.lit 64)) (y := .lit 0) (by rw [hr]; exact ha)) .nil)) .nil rfl (fun _ => cells8 rfl rfl rfl rfl rfl rfl rfl rfl)
theorem fe (h : Given Z F v0 v7 a w q page 8 n m a0 a1 b0 b1 va) : WB Tryz.prog (bare 6) body (Post Z F v0 v7 w) a w := by
  by_cases m0 : m < 0
  · exact h.fire (kFNeg q h.1.1) h.1 (.inl rfl) (.cons (ltT (x := .var 3) (y := .lit 0) m0) (.cons (geF (x := .var 3) (y := .lit 0) m0) .nil)) .nil rfl (fun _ => cells8 rfl rfl rfl rfl rfl rfl rfl rfl)
  by_cases m2 : 2 ≤ m
  · exact h.fire (kFOut q h.1.1) h.1 (.inl rfl) (.cons (ltF (x := .var 3) (y := .lit 0) (show 0 ≤ m by omega)) (.cons (geT (x := .var 3) (y := .lit 2) m2) (.cons (geT (x := .var 3) (y := .lit 0) (show 0 ≤ m by omega)) (.cons (ltF (x := .var 3) (y := .lit 2) m2) .nil)))) .nil rfl (fun _ => cells8 rfl rfl rfl rfl rfl rfl rfl rfl)
  rcases (show m = 0 ∨ m = 1 by omega) with e | e
  · subst e
    by_cases n0 : n < 0
    · exact h.fire (kF0Neg q h.1.1) h.1 (.inl rfl) (.cons (ltT (x := .var 2) (y := .lit 0) n0) .nil) .nil rfl (fun _ => cells8 rfl rfl rfl rfl rfl rfl rfl rfl)
    by_cases n5 : 512 ≤ n
    · exact h.fire (kF0Out q h.1.1) h.1 (.inl rfl) (.cons (ltF (x := .var 2) (y := .lit 0) (show 0 ≤ n by omega)) (.cons (geT (x := .var 2) (y := .lit 512) n5) .nil)) .nil rfl (fun _ => cells8 rfl rfl rfl rfl rfl rfl rfl rfl)
    obtain ⟨d, hd⟩ := Int.eq_ofNat_of_zero_le (show 0 ≤ n / 64 by omega)
    obtain ⟨e, he⟩ := Int.eq_ofNat_of_zero_le (show 0 ≤ n / 8 % 8 by omega)
    have hB : Al (CFok (sg page 8 n 0 a0 a1 b0 b1 va)) (pgC (.var 2)) := pgC_ok (e := .var 2) (p := n) rfl (by omega) (by omega)
    have hN : Al (NFok (sg page 8 n 0 a0 a1 b0 b1 va)) (pgN (.var 2) d) := pgN_ok (e := .var 2) (p := n) rfl (by omega) (by omega) hd
    have hk := kF0 q h.1.1 d e (by omega) (by omega)
    by_cases hq : d + 1 = q
    · exact h.fire (hk.2 hq) h.1 (.inl rfl) hB (alApp hN (pg2_ok (e := .var 2) (p := n) rfl (by omega) (by omega) he)) rfl (fun _ => cells8 rfl rfl rfl rfl rfl rfl rfl rfl)
    · exact h.fire (hk.1 hq) h.1 (.inl rfl) hB hN rfl (fun _ => cells8 rfl rfl rfl rfl rfl rfl rfl rfl)
  · subst e
    by_cases n0 : n < 0
    · exact h.fire (kF1Neg q h.1.1) h.1 (.inl rfl) (.cons (ltT (x := .var 2) (y := .lit 0) n0) .nil) .nil rfl (fun _ => cells8 rfl rfl rfl rfl rfl rfl rfl rfl)
    by_cases n5 : 512 ≤ n
    · exact h.fire (kF1Out q h.1.1) h.1 (.inl rfl) (.cons (ltF (x := .var 2) (y := .lit 0) (show 0 ≤ n by omega)) (.cons (geT (x := .var 2) (y := .lit 512) n5) .nil)) .nil rfl (fun _ => cells8 rfl rfl rfl rfl rfl rfl rfl rfl)
    exact h.fire (kF1 q h.1.1) h.1 (.inl rfl) (pgC_ok (e := .var 2) (p := n) rfl (by omega) (by omega)) .nil rfl (fun _ => cells8 rfl rfl rfl rfl rfl rfl rfl rfl)
theorem step {d : Int} (h : Given Z F v0 v7 a w q page d n m a0 a1 b0 b1 va) : WB Tryz.prog (bare 6) body (Post Z F v0 v7 w) a w := by
  by_cases d0 : d = 0
  · subst d0
    by_cases e : a0 = 2 ∧ a1 = 8
    · obtain ⟨rfl, rfl⟩ := e; exact mt h
    · exact other0 h e
  by_cases d1 : d = 1
  · subst d1
    by_cases e : a0 = 2 ∧ a1 = 8
    · obtain ⟨rfl, rfl⟩ := e; exact ut h
    · exact other1 h e
  by_cases d2 : d = 2
  · subst d2
    by_cases e : a0 = 2 ∧ a1 = 11
    · obtain ⟨rfl, rfl⟩ := e; exact mf h
    · exact other2 h e
  by_cases d3 : d = 3
  · subst d3
    by_cases e : a0 = 2 ∧ a1 = 11
    · obtain ⟨rfl, rfl⟩ := e; exact uf h
    · exact other3 h e
  by_cases d8 : d = 8
  · subst d8; exact fe h
  · exact h.fire (kOther q h.1.1) h.1 (.inr rfl) (.cons (eqF (x := .var 1) (y := .lit 0) d0) (.cons (eqF (x := .var 1) (y := .lit 1) d1) (.cons (eqF (x := .var 1) (y := .lit 2) d2) (.cons (eqF (x := .var 1) (y := .lit 3) d3) (.cons (eqF (x := .var 1) (y := .lit 8) d8) .nil))))) .nil rfl (fun _ => cells8 rfl rfl rfl rfl rfl rfl rfl rfl)
end
end VO
