/- TopServed: the heap behind a boot, its memory as words: how it is read and written. No conditions beside those in its theorems. -/
import Derived.Test.YtkcnnmpiochaaaaGreatKSMd
set_option linter.unusedVariables false
open Go Eng Go.Proofs Go.RowKit
namespace TopS
open Base
theorem okP (l : List SumE) (σ : Sig) : CfgOK Tryz.prog (cfgP l) σ := ok _ _ _ σ (fun _ _ _ _ h => nomatch h) (fun _ _ h => nomatch h)
theorem exP {l : List SumE} {σ : Sig} (hl : ∀ C : Cfg, C.fu = Tab.fuT.get → Al (Summ Tryz.prog σ C) l) : ExtOK (cfgP l) Tryz.prog σ := (ExtS.sort sortOK (ExtS.of (hl _ rfl))).ok rfl
theorem start6 : snapA s6.v s6.next s6.bl (eval (cfgP []) 300 X0 (.call s6.f s6.args) ⟨.nil, s6.k⟩) = true := by decide +kernel
theorem from6 : fromK 64 bbs = true := by decide +kernel
theorem sum6 (σ : Sig) (C : Cfg) (hC : C.fu = Tab.fuT.get) : SummA Tryz.prog σ C s6 := SummA.of (C := cfgP []) hC.symm (okP [] σ) (exP (fun _ _ => .nil)) from6 start6
theorem awake : says true (eval (cfgP pus) 300 X0 (.call 15 []) ⟨.nil, 0⟩) = true := by decide +kernel
theorem aw {a0 a1 a2 v x0 x1 x2 x3 x4 x5 x6 n o : Int} (h : Is v n o) (C : Cfg) (hC : C.fu = Tab.fuT.get) : Summ Tryz.prog (sg a0 a1 a2 v x0 x1 x2 x3 x4 x5 x6 n o) C ⟨15, [], .one (.bool true)⟩ := by
  obtain ⟨h', hk'⟩ := says_some awake
  exact Summ.of (C := cfgP pus) (s := ⟨15, [], .one (.bool true)⟩) hC.symm (okP pus _) (exP (fun C hC => pusOK h C hC)) hk' rfl rfl
noncomputable def ldP (i : Nat) : Bool := memRes (.tup [.one (.sym .u64 (.var i)), .one (.int .i64 0)]) M.F (Nat.mul 8 M.F) (fun j => .sym .u64 (.var j)) (eval cfg0 300 ⟨0, 0, 0, none⟩ (.call M.LOAD [.one (.ptr 0 0), .one (.int .u64 (Int.ofNat (Nat.mul 8 i)))]) (memH M.F (Nat.mul 8 M.F)))
theorem ld0 : allBelow (fun i => ldP (Nat.add 0 i)) 128 = true := by decide +kernel
theorem ld1 : allBelow (fun i => ldP (Nat.add 128 i)) 128 = true := by decide +kernel
theorem ld2 : allBelow (fun i => ldP (Nat.add 256 i)) 128 = true := by decide +kernel
theorem ld3 : allBelow (fun i => ldP (Nat.add 384 i)) 128 = true := by decide +kernel
theorem ldOK (i : Nat) (hi : i < Nat.mul 8 M.F) : ldP i = true := by
  have hi : i < 512 := hi
  by_cases h0 : i < 128
  · have e : Nat.add 0 (i - 0) = i := by show 0 + (i - 0) = i; omega
    have h : ldP (Nat.add 0 (i - 0)) = true := allBelow_get ld0 (i - 0) (by omega)
    rw [e] at h
    exact h
  by_cases h1 : i < 256
  · have e : Nat.add 128 (i - 128) = i := by show 128 + (i - 128) = i; omega
    have h : ldP (Nat.add 128 (i - 128)) = true := allBelow_get ld1 (i - 128) (by omega)
    rw [e] at h
    exact h
  by_cases h2 : i < 384
  · have e : Nat.add 256 (i - 256) = i := by show 256 + (i - 256) = i; omega
    have h : ldP (Nat.add 256 (i - 256)) = true := allBelow_get ld2 (i - 256) (by omega)
    rw [e] at h
    exact h
  by_cases h3 : i < 512
  · have e : Nat.add 384 (i - 384) = i := by show 384 + (i - 384) = i; omega
    have h : ldP (Nat.add 384 (i - 384)) = true := allBelow_get ld3 (i - 384) (by omega)
    rw [e] at h
    exact h
  omega
noncomputable def stP (i : Nat) : Bool := memRes okE M.F (Nat.mul 8 M.F) (fun j => bif Nat.beq j i then .sym .u64 (.var (Nat.mul 8 M.F)) else .sym .u64 (.var j)) (eval cfg0 300 ⟨0, 0, 0, none⟩ (.call M.STORE [.one (.ptr 0 0), .one (.int .u64 (Int.ofNat (Nat.mul 8 i))), .one (.sym .u64 (.var (Nat.mul 8 M.F)))]) (memH M.F (Nat.mul 8 M.F)))
theorem st0 : allBelow (fun i => stP (Nat.add 0 i)) 128 = true := by decide +kernel
theorem st1 : allBelow (fun i => stP (Nat.add 128 i)) 128 = true := by decide +kernel
theorem st2 : allBelow (fun i => stP (Nat.add 256 i)) 128 = true := by decide +kernel
theorem st3 : allBelow (fun i => stP (Nat.add 384 i)) 128 = true := by decide +kernel
theorem stOK (i : Nat) (hi : i < Nat.mul 8 M.F) : stP i = true := by
  have hi : i < 512 := hi
  by_cases h0 : i < 128
  · have e : Nat.add 0 (i - 0) = i := by show 0 + (i - 0) = i; omega
    have h : stP (Nat.add 0 (i - 0)) = true := allBelow_get st0 (i - 0) (by omega)
    rw [e] at h
    exact h
  by_cases h1 : i < 256
  · have e : Nat.add 128 (i - 128) = i := by show 128 + (i - 128) = i; omega
    have h : stP (Nat.add 128 (i - 128)) = true := allBelow_get st1 (i - 128) (by omega)
    rw [e] at h
    exact h
  by_cases h2 : i < 384
  · have e : Nat.add 256 (i - 256) = i := by show 256 + (i - 256) = i; omega
    have h : stP (Nat.add 256 (i - 256)) = true := allBelow_get st2 (i - 256) (by omega)
    rw [e] at h
    exact h
  by_cases h3 : i < 512
  · have e : Nat.add 384 (i - 384) = i := by show 384 + (i - 384) = i; omega
    have h : stP (Nat.add 384 (i - 384)) = true := allBelow_get st3 (i - 384) (by omega)
    rw [e] at h
    exact h
  omega
theorem zr15 : memRes okE M.F (Nat.mul 8 M.F) (fun j => bif Nat.beq (Nat.div j 8) 15 then .int .u64 0 else .sym .u64 (.var j)) (eval cfg0 300 ⟨0, 0, 0, none⟩ (.call M.ZERO [.one (.ptr 0 0), .one (.int .i64 (Int.ofNat 15)), .one (.int .i64 1)]) (memH M.F (Nat.mul 8 M.F))) = true := by decide +kernel
theorem zr16 : memRes okE M.F (Nat.mul 8 M.F) (fun j => bif Nat.beq (Nat.div j 8) 16 then .int .u64 0 else .sym .u64 (.var j)) (eval cfg0 300 ⟨0, 0, 0, none⟩ (.call M.ZERO [.one (.ptr 0 0), .one (.int .i64 (Int.ofNat 16)), .one (.int .i64 1)]) (memH M.F (Nat.mul 8 M.F))) = true := by decide +kernel
theorem zr17 : memRes okE M.F (Nat.mul 8 M.F) (fun j => bif Nat.beq (Nat.div j 8) 17 then .int .u64 0 else .sym .u64 (.var j)) (eval cfg0 300 ⟨0, 0, 0, none⟩ (.call M.ZERO [.one (.ptr 0 0), .one (.int .i64 (Int.ofNat 17)), .one (.int .i64 1)]) (memH M.F (Nat.mul 8 M.F))) = true := by decide +kernel
theorem memOK : MemOK Tryz.prog cfg0 M where
  cfg := ok0
  ext := ext0
  small := by decide
  load := fun i hi => ldOK i hi
  store := fun i hi => stOK i hi
  zero := by
    intro f hf
    rcases List.mem_cons.1 hf with e | hf
    · subst e; exact zr15
    rcases List.mem_cons.1 hf with e | hf
    · subst e; exact zr16
    rcases List.mem_cons.1 hf with e | hf
    · subst e; exact zr17
    cases hf
theorem wr17 : wordsRes 64 17 (eval cfg0 300 ⟨0, 0, 0, none⟩ (.call 34 [.one (.ptr 0 0), .one (.int .i64 (Int.ofNat 17))]) (memH 64 (Nat.mul 8 64))) = true := by decide +kernel
theorem wordsOK : WordsOK Tryz.prog cfg0 34 64 [17] where
  cfg := ok0
  ext := ext0
  words := by
    intro f hf
    rcases List.mem_cons.1 hf with e | hf
    · subst e; exact ⟨by decide, by decide, wr17⟩
    cases hf
theorem okM {t : List CF} {n : List NF} {l : List SumE} {σ : Sig} (ht : Al (CFok σ) t) (hn : Al (NFok σ) n) : CfgOK Tryz.prog (cfgM t n l) σ :=
  have k := ok (cmpT t) (fun _ _ _ => none) (normT n) σ (cmpT_ok ht) (normT_ok hn)
  ⟨k.ty, k.fu, k.cmp, k.norm, k.mixed⟩
theorem exM {t : List CF} {n : List NF} {l : List SumE} {σ : Sig} (ht : Al (CFok σ) t) (hn : Al (NFok σ) n) (hl : ∀ C : Cfg, C.fu = Tab.fuT.get → Al (Summ Tryz.prog σ C) l) : ExtOK (cfgM t n l) Tryz.prog σ :=
  (ExtS.sort sortOK (ExtS.words (C := cfgM t n l) wordsOK (okM ht hn) (ExtS.mem (C := cfgM t n l) memOK (okM ht hn) (Go.Proofs.Ins13a11.extI_ok (Go.Proofs.Ins12a10.extI_ok (ExtS.gapA (sum6 σ _ rfl) rfl (ExtS.of (hl _ rfl)))))))).ok rfl
end TopS
