/- Base of the proofs of this seat: the tables, and Low of a number that is not known. No conditions. -/
import Derived.Test.YtikjmnimdlcehaaGreatTabF
import Derived.Test.YtikjmnimdlcehaaGreatE7
import Derived.IntWalk
open Go Eng Go.Proofs Go.RowKit
namespace Base
noncomputable def cfg0 : Cfg := { ty := Tab.tyT.get, fu := Tab.fuT.get, cmp := fun _ _ _ => none, ext := fun _ _ _ => none }
noncomputable def X0 : Ctx := ⟨0, 0, 0, none⟩
theorem ok (cmp : BinOp → E → E → Option Bool) (ext : FuncId → List AV → H → Option (AV × H)) (norm : E → Option Int) (σ : Sig) (hc : ∀ op x y r, cmp op x y = some r → cmpDen op (x.den σ) (y.den σ) = r) (hn : ∀ e n, norm e = some n → e.den σ = n) : CfgOK Tryz.prog { ty := Tab.tyT.get, fu := Tab.fuT.get, cmp := cmp, ext := ext, norm := norm } σ :=
  CfgOK.of (by rw [Tab.tyT_eq]) (by rw [Tab.fuT_eq]) Tab.tys Tab.fus hc Tab.mixed hn
theorem ok0 (σ : Sig) : CfgOK Tryz.prog cfg0 σ := ok _ _ _ σ (fun _ _ _ _ h => nomatch h) (fun _ _ h => nomatch h)
theorem ext0 (σ : Sig) : ExtOK cfg0 Tryz.prog σ := fun _ _ _ _ _ h => nomatch h
/-- what a closed call answers -/
theorem summ0 (C : Cfg) (hC : C.fu = Tab.fuT.get) (σ : Sig) {n : Nat} {f : FuncId} {v : Bool} (hk : says v (eval cfg0 n X0 (.call f []) ⟨.nil, 0⟩) = true) : Summ Tryz.prog σ C ⟨f, [], .one (.bool v)⟩ := by
  obtain ⟨h', hk'⟩ := says_some hk
  exact Summ.of (C := cfg0) (s := ⟨f, [], .one (.bool v)⟩) hC.symm (ok0 σ) (ext0 σ) hk' rfl rfl
/-- the number below n that Low makes of x -/
def low (n : Int) (x : Int) : Int := (IntKind.u64.wrap x).tmod n
theorem low_nat {n : Nat} (hn : 0 < n) (x : Int) : ∃ k : Nat, k < n ∧ low n x = Int.ofNat k := by
  have h0 : 0 ≤ IntKind.u64.wrap x := by simp [IntKind.wrap, IntKind.bits, IntKind.signed]; omega
  obtain ⟨m, hm⟩ := Int.eq_ofNat_of_zero_le h0
  refine ⟨m % n, Nat.mod_lt _ hn, ?_⟩
  unfold low
  rw [hm]
  rfl
def lowE (i : Nat) (n : Int) : AV := .one (.sym .i64 (.conv .i64 (.bin .rem .u64 (.conv .u64 (.var i)) (.lit n))))
noncomputable def isLow (i : Nat) (n : Int) (r : OR) : Bool := match r with | some (.val v _) => AV.eqb v (lowE i n) | _ => false
theorem isLow_some {i : Nat} {n : Int} {r : OR} (h : isLow i n r = true) : ∃ h', r = some (.val (lowE i n) h') := by
  unfold isLow at h
  split at h
  · rename_i v h'; exact ⟨h', by rw [AV.eqb_eq h]⟩
  · cases h
/-- Low, of a number that is not known: the answer in a form of the caller's choice -/
theorem summLow' (C : Cfg) (hC : C.fu = Tab.fuT.get) (σ : Sig) {m i : Nat} {n : Nat} {a0 a1 v : A} {k : Int} (hk : isLow i n (eval cfg0 m X0 (.call 9 [.one (.sym .i64 (.var i)), .one (.int .i64 n)]) ⟨.nil, 0⟩) = true) (hn : n ≤ 1000) (h1 : 0 < n)
    (ha0 : ∀ ρ x, AR ρ σ a0 x → x = .int .i64 (σ i)) (ha1 : ∀ ρ x, AR ρ σ a1 x → x = .int .i64 n) (hl : low n (σ i) = k) (hv : ∀ ρ, AR ρ σ v (.int .i64 k)) :
    Summ Tryz.prog σ C ⟨9, [.one a0, .one a1], .one v⟩ := by
  obtain ⟨h', hk'⟩ := isLow_some hk
  have s := Summ.of (C := cfg0) (C' := C) (s := ⟨9, [.one (.sym .i64 (.var i)), .one (.int .i64 n)], lowE i n⟩) hC.symm (ok0 σ) (ext0 σ) hk' rfl rfl
  intro ρ h w vs hr hvs
  have hvs' : F2 (AVR ρ σ) [.one (.sym .i64 (.var i)), .one (.int .i64 n)] vs := by
    cases hvs with
    | cons q0 hvs =>
      cases hvs with
      | cons q1 hvs =>
        cases hvs
        exact .cons (ha0 ρ _ q0) (.cons (ha1 ρ _ q1) .nil)
  obtain ⟨v', w', ρ', h1', h2, h3, h4⟩ := s ρ h w vs hr hvs'
  refine ⟨v', w', ρ', h1', ?_, h3, h4⟩
  have h5 : v' = .int .i64 (IntKind.i64.wrap (low n (σ i))) := h2
  obtain ⟨j, hj, hj'⟩ := low_nat h1 (σ i)
  have h6 : IntKind.i64.wrap (low n (σ i)) = k := by
    rw [← hl, hj', IntKind.wrap_i64]
    simp only [Int.ofNat_eq_natCast]
    omega
  rw [h6] at h5
  rw [h5]
  exact hv ρ'
theorem summLow (C : Cfg) (hC : C.fu = Tab.fuT.get) (σ : Sig) {m i k : Nat} {n : Nat} (hk : isLow i n (eval cfg0 m X0 (.call 9 [.one (.sym .i64 (.var i)), .one (.int .i64 n)]) ⟨.nil, 0⟩) = true) (hn : n ≤ 1000) (hl : low n (σ i) = Int.ofNat k) (hkn : k < n) :
    Summ Tryz.prog σ C ⟨9, [.one (.sym .i64 (.var i)), .one (.int .i64 n)], .one (.int .i64 (Int.ofNat k))⟩ :=
  summLow' C hC σ hk hn (by omega) (fun _ _ h => h) (fun _ _ h => h) hl (fun _ => rfl)
end Base
