/- AuditBoots: boots with a shared endpoint: the law holds. No conditions beside those in its theorems. -/
import Derived.Test.YtikjmnimdlcehaaGreatBDS1A
import Derived.Test.YtikjmnimdlcehaaGreatBCS1A0
import Derived.Test.YtikjmnimdlcehaaGreatBPS2A
import Derived.Test.YtikjmnimdlcehaaGreatBDS2A
import Derived.Test.YtikjmnimdlcehaaGreatBCS2A0
import Derived.Test.YtikjmnimdlcehaaGreatBCS2A1
import Derived.Test.YtikjmnimdlcehaaGreatBPS3A
import Derived.Test.YtikjmnimdlcehaaGreatBDS3A
import Derived.Test.YtikjmnimdlcehaaGreatBCS3A0
import Derived.Test.YtikjmnimdlcehaaGreatBCS3A1
import Derived.Test.YtikjmnimdlcehaaGreatBCS3A2
import Derived.Test.YtikjmnimdlcehaaGreatBP1
import Derived.Test.YtikjmnimdlcehaaGreatBN
set_option linter.unusedVariables false
open Go Eng Go.Proofs Go.RowKit
set_option maxRecDepth 100000
namespace Boots
open Base
theorem sv_S1A {σ : Sig} (h3 : 3 ≤ σ 0) (h4 : σ 0 < 3 + 54) : ∀ C : Cfg, C.fu = Tab.fuT.get → Al (SummV Tryz.prog σ C) sS1A := fun C hC =>
  .cons (sumV_ok pV_S1A_30 h3 h4 C hC) (.cons (sumV_ok pV_S1A_31 h3 h4 C hC) (.cons (sumV_ok pV_S1A_32 h3 h4 C hC) (.cons (sumV_ok pV_S1A_33 h3 h4 C hC) .nil)))
theorem any_S1A (σ : Sig) : ∃ l, p4 3 54 sS1A l vS1A = true ∧ ∀ C : Cfg, C.fu = Tab.fuT.get → Al (Summ Tryz.prog σ C) l := by
  obtain ⟨k, hk, e⟩ := low_nat (n := 5) (by omega) (σ 3)
  match k, hk, e with
  | 0, hk, e => exact ⟨low1 0, p4_S1A_0_0, ls1 hk e⟩
  | 2, hk, e => exact ⟨low1 2, p4_S1A_2_0, ls1 hk e⟩
  | 1, hk, e =>
    obtain ⟨j, hj, e2⟩ := low_nat (n := 9) (by omega) (σ 2)
    match j, hj, e2 with
    | 0, hj, e2 => exact ⟨low2 1 9 0, p4_S1A_1_0, ls2 hk e lw2_9 (by omega) hj e2⟩
    | 1, hj, e2 => exact ⟨low2 1 9 1, p4_S1A_1_1, ls2 hk e lw2_9 (by omega) hj e2⟩
    | 2, hj, e2 => exact ⟨low2 1 9 2, p4_S1A_1_2, ls2 hk e lw2_9 (by omega) hj e2⟩
    | 3, hj, e2 => exact ⟨low2 1 9 3, p4_S1A_1_3, ls2 hk e lw2_9 (by omega) hj e2⟩
    | 4, hj, e2 => exact ⟨low2 1 9 4, p4_S1A_1_4, ls2 hk e lw2_9 (by omega) hj e2⟩
    | 5, hj, e2 => exact ⟨low2 1 9 5, p4_S1A_1_5, ls2 hk e lw2_9 (by omega) hj e2⟩
    | 6, hj, e2 => exact ⟨low2 1 9 6, p4_S1A_1_6, ls2 hk e lw2_9 (by omega) hj e2⟩
    | 7, hj, e2 => exact ⟨low2 1 9 7, p4_S1A_1_7, ls2 hk e lw2_9 (by omega) hj e2⟩
    | 8, hj, e2 => exact ⟨low2 1 9 8, p4_S1A_1_8, ls2 hk e lw2_9 (by omega) hj e2⟩
    | j + 9, hj, e2 => exact absurd hj (by omega)
  | 3, hk, e =>
    obtain ⟨j, hj, e2⟩ := low_nat (n := 5) (by omega) (σ 2)
    match j, hj, e2 with
    | 0, hj, e2 => exact ⟨low2 3 5 0, p4_S1A_3_0, ls2 hk e lw2_5 (by omega) hj e2⟩
    | 1, hj, e2 => exact ⟨low2 3 5 1, p4_S1A_3_1, ls2 hk e lw2_5 (by omega) hj e2⟩
    | 2, hj, e2 => exact ⟨low2 3 5 2, p4_S1A_3_2, ls2 hk e lw2_5 (by omega) hj e2⟩
    | 3, hj, e2 => exact ⟨low2 3 5 3, p4_S1A_3_3, ls2 hk e lw2_5 (by omega) hj e2⟩
    | 4, hj, e2 => exact ⟨low2 3 5 4, p4_S1A_3_4, ls2 hk e lw2_5 (by omega) hj e2⟩
    | j + 5, hj, e2 => exact absurd hj (by omega)
  | 4, hk, e =>
    obtain ⟨j, hj, e2⟩ := low_nat (n := 1) (by omega) (σ 2)
    match j, hj, e2 with
    | 0, hj, e2 => exact ⟨low2 4 1 0, p4_S1A_4_0, ls2 hk e lw2_1 (by omega) hj e2⟩
    | j + 1, hj, e2 => exact absurd hj (by omega)
theorem hm_S1A1 : frFits gI (fitTo (.var 1) (.var 1)) ⟨T.ofList [aC 1 1 1 true], .nil, []⟩ ⟨.nil, 0⟩ [(0, aC 0 1 1 true)] [] = true := by decide +kernel
theorem kk_S1A1 {e0 : E} {u clo : Int} {cn : Nat} (hp : p1M clo cn e0 1 1 true mS1A1 = true) (h3 : 3 ≤ u) (h4 : u < 3 + 54) (fr wh wt : Int) (he : u = e0.den fun _ => fr) (h1 : clo ≤ fr) (h2 : fr < clo + cn) (w : World) : Calls Tryz.prog 3 #[.agg #[.int .i64 fr, .int .i64 1, .int .i64 1, .bool true], .int .i64 wh, .int .i64 wt] w fun e w' => e = .returned (.bool true) ∧ Grown w w' := by
  obtain ⟨l, hp4, hl⟩ := any_S1A (sg u fr wh wt)
  have ha0 : F2 (AR rho0 (sg u fr wh wt)) [.sym .i64 (.var 1), .int .i64 1, .int .i64 1, .bool true] [.int .i64 fr, .int .i64 1, .int .i64 1, .bool true] := .cons rfl (.cons rfl (.cons rfl (.cons rfl .nil)))
  exact lawOK2 (nc := 1) (t := 1) (s := true) (st := mS1A1) (vs := vS1A) (d := dS1A1) (g := [149, 53, 97, 128, 137, 143]) (m := 150) (σ := sg u fr wh wt) h3 h4 pD_S1A1 dS1A1_c p2_S1A1 vS1A_c
    (fun ext => newOKM (e0 := e0) hp mS1A1_c hm_S1A1 h1 h2 h3 h4 he)
    p3_S1A (sv_S1A h3 h4) hp4 hl (vals := [.agg #[.int .i64 fr, .int .i64 1, .int .i64 1, .bool true], .int .i64 wh, .int .i64 wt]) (.cons ⟨_, rfl, ha0⟩ (.cons rfl (.cons rfl .nil))) w
theorem k_S1A1 (fr wh wt : Int) (h1 : 11 ≤ fr) (h2 : fr ≤ 64) (w : World) : Calls Tryz.prog 3 #[.agg #[.int .i64 fr, .int .i64 1, .int .i64 1, .bool true], .int .i64 wh, .int .i64 wt] w fun e w' => e = .returned (.bool true) ∧ Grown w w' := by
  exact kk_S1A1 (u := fr - 8) p1_S1A1_0 (by omega) (by omega) fr wh wt (den1 8 fr (by omega) (by omega) (by omega) (by omega)) (by omega) (by omega) w
theorem hm_S1A2 : frFits gI (fitTo (.var 1) (.var 1)) ⟨T.ofList [aC 1 2 1 true], .nil, []⟩ ⟨.nil, 0⟩ [(0, aC 0 2 1 true)] [] = true := by decide +kernel
theorem kk_S1A2 {e0 : E} {u clo : Int} {cn : Nat} (hp : p1M clo cn e0 2 1 true mS1A2 = true) (h3 : 3 ≤ u) (h4 : u < 3 + 54) (fr wh wt : Int) (he : u = e0.den fun _ => fr) (h1 : clo ≤ fr) (h2 : fr < clo + cn) (w : World) : Calls Tryz.prog 3 #[.agg #[.int .i64 fr, .int .i64 2, .int .i64 1, .bool true], .int .i64 wh, .int .i64 wt] w fun e w' => e = .returned (.bool true) ∧ Grown w w' := by
  obtain ⟨l, hp4, hl⟩ := any_S1A (sg u fr wh wt)
  have ha0 : F2 (AR rho0 (sg u fr wh wt)) [.sym .i64 (.var 1), .int .i64 2, .int .i64 1, .bool true] [.int .i64 fr, .int .i64 2, .int .i64 1, .bool true] := .cons rfl (.cons rfl (.cons rfl (.cons rfl .nil)))
  exact lawOK2 (nc := 2) (t := 1) (s := true) (st := mS1A2) (vs := vS1A) (d := dS1A2) (g := [152, 54, 98, 129, 138, 144]) (m := 153) (σ := sg u fr wh wt) h3 h4 pD_S1A2 dS1A2_c p2_S1A2 vS1A_c
    (fun ext => newOKM (e0 := e0) hp mS1A2_c hm_S1A2 h1 h2 h3 h4 he)
    p3_S1A (sv_S1A h3 h4) hp4 hl (vals := [.agg #[.int .i64 fr, .int .i64 2, .int .i64 1, .bool true], .int .i64 wh, .int .i64 wt]) (.cons ⟨_, rfl, ha0⟩ (.cons rfl (.cons rfl .nil))) w
theorem k_S1A2 (fr wh wt : Int) (h1 : 11 ≤ fr) (h2 : fr ≤ 64) (w : World) : Calls Tryz.prog 3 #[.agg #[.int .i64 fr, .int .i64 2, .int .i64 1, .bool true], .int .i64 wh, .int .i64 wt] w fun e w' => e = .returned (.bool true) ∧ Grown w w' := by
  exact kk_S1A2 (u := fr - 8) p1_S1A2_0 (by omega) (by omega) fr wh wt (den1 8 fr (by omega) (by omega) (by omega) (by omega)) (by omega) (by omega) w
theorem hm_S1A3 : frFits gI (fitTo (.var 1) (.var 1)) ⟨T.ofList [aC 1 3 1 true], .nil, []⟩ ⟨.nil, 0⟩ [(0, aC 0 3 1 true)] [] = true := by decide +kernel
theorem kk_S1A3 {e0 : E} {u clo : Int} {cn : Nat} (hp : p1M clo cn e0 3 1 true mS1A3 = true) (h3 : 3 ≤ u) (h4 : u < 3 + 54) (fr wh wt : Int) (he : u = e0.den fun _ => fr) (h1 : clo ≤ fr) (h2 : fr < clo + cn) (w : World) : Calls Tryz.prog 3 #[.agg #[.int .i64 fr, .int .i64 3, .int .i64 1, .bool true], .int .i64 wh, .int .i64 wt] w fun e w' => e = .returned (.bool true) ∧ Grown w w' := by
  obtain ⟨l, hp4, hl⟩ := any_S1A (sg u fr wh wt)
  have ha0 : F2 (AR rho0 (sg u fr wh wt)) [.sym .i64 (.var 1), .int .i64 3, .int .i64 1, .bool true] [.int .i64 fr, .int .i64 3, .int .i64 1, .bool true] := .cons rfl (.cons rfl (.cons rfl (.cons rfl .nil)))
  exact lawOK2 (nc := 3) (t := 1) (s := true) (st := mS1A3) (vs := vS1A) (d := dS1A3) (g := [155, 55, 99, 130, 139, 145]) (m := 156) (σ := sg u fr wh wt) h3 h4 pD_S1A3 dS1A3_c p2_S1A3 vS1A_c
    (fun ext => newOKM (e0 := e0) hp mS1A3_c hm_S1A3 h1 h2 h3 h4 he)
    p3_S1A (sv_S1A h3 h4) hp4 hl (vals := [.agg #[.int .i64 fr, .int .i64 3, .int .i64 1, .bool true], .int .i64 wh, .int .i64 wt]) (.cons ⟨_, rfl, ha0⟩ (.cons rfl (.cons rfl .nil))) w
theorem k_S1A3 (fr wh wt : Int) (h1 : 11 ≤ fr) (h2 : fr ≤ 64) (w : World) : Calls Tryz.prog 3 #[.agg #[.int .i64 fr, .int .i64 3, .int .i64 1, .bool true], .int .i64 wh, .int .i64 wt] w fun e w' => e = .returned (.bool true) ∧ Grown w w' := by
  exact kk_S1A3 (u := fr - 8) p1_S1A3_0 (by omega) (by omega) fr wh wt (den1 8 fr (by omega) (by omega) (by omega) (by omega)) (by omega) (by omega) w
theorem sv_S2A {σ : Sig} (h3 : 3 ≤ σ 0) (h4 : σ 0 < 3 + 22) : ∀ C : Cfg, C.fu = Tab.fuT.get → Al (SummV Tryz.prog σ C) sS2A := fun C hC =>
  .cons (sumV_ok pV_S2A_30 h3 h4 C hC) (.cons (sumV_ok pV_S2A_31 h3 h4 C hC) (.cons (sumV_ok pV_S2A_32 h3 h4 C hC) (.cons (sumV_ok pV_S2A_33 h3 h4 C hC) .nil)))
theorem any_S2A (σ : Sig) : ∃ l, p4 3 22 sS2A l vS2A = true ∧ ∀ C : Cfg, C.fu = Tab.fuT.get → Al (Summ Tryz.prog σ C) l := by
  obtain ⟨k, hk, e⟩ := low_nat (n := 5) (by omega) (σ 3)
  match k, hk, e with
  | 0, hk, e => exact ⟨low1 0, p4_S2A_0_0, ls1 hk e⟩
  | 2, hk, e => exact ⟨low1 2, p4_S2A_2_0, ls1 hk e⟩
  | 1, hk, e =>
    obtain ⟨j, hj, e2⟩ := low_nat (n := 18) (by omega) (σ 2)
    match j, hj, e2 with
    | 0, hj, e2 => exact ⟨low2 1 18 0, p4_S2A_1_0, ls2 hk e lw2_18 (by omega) hj e2⟩
    | 1, hj, e2 => exact ⟨low2 1 18 1, p4_S2A_1_1, ls2 hk e lw2_18 (by omega) hj e2⟩
    | 2, hj, e2 => exact ⟨low2 1 18 2, p4_S2A_1_2, ls2 hk e lw2_18 (by omega) hj e2⟩
    | 3, hj, e2 => exact ⟨low2 1 18 3, p4_S2A_1_3, ls2 hk e lw2_18 (by omega) hj e2⟩
    | 4, hj, e2 => exact ⟨low2 1 18 4, p4_S2A_1_4, ls2 hk e lw2_18 (by omega) hj e2⟩
    | 5, hj, e2 => exact ⟨low2 1 18 5, p4_S2A_1_5, ls2 hk e lw2_18 (by omega) hj e2⟩
    | 6, hj, e2 => exact ⟨low2 1 18 6, p4_S2A_1_6, ls2 hk e lw2_18 (by omega) hj e2⟩
    | 7, hj, e2 => exact ⟨low2 1 18 7, p4_S2A_1_7, ls2 hk e lw2_18 (by omega) hj e2⟩
    | 8, hj, e2 => exact ⟨low2 1 18 8, p4_S2A_1_8, ls2 hk e lw2_18 (by omega) hj e2⟩
    | 9, hj, e2 => exact ⟨low2 1 18 9, p4_S2A_1_9, ls2 hk e lw2_18 (by omega) hj e2⟩
    | 10, hj, e2 => exact ⟨low2 1 18 10, p4_S2A_1_10, ls2 hk e lw2_18 (by omega) hj e2⟩
    | 11, hj, e2 => exact ⟨low2 1 18 11, p4_S2A_1_11, ls2 hk e lw2_18 (by omega) hj e2⟩
    | 12, hj, e2 => exact ⟨low2 1 18 12, p4_S2A_1_12, ls2 hk e lw2_18 (by omega) hj e2⟩
    | 13, hj, e2 => exact ⟨low2 1 18 13, p4_S2A_1_13, ls2 hk e lw2_18 (by omega) hj e2⟩
    | 14, hj, e2 => exact ⟨low2 1 18 14, p4_S2A_1_14, ls2 hk e lw2_18 (by omega) hj e2⟩
    | 15, hj, e2 => exact ⟨low2 1 18 15, p4_S2A_1_15, ls2 hk e lw2_18 (by omega) hj e2⟩
    | 16, hj, e2 => exact ⟨low2 1 18 16, p4_S2A_1_16, ls2 hk e lw2_18 (by omega) hj e2⟩
    | 17, hj, e2 => exact ⟨low2 1 18 17, p4_S2A_1_17, ls2 hk e lw2_18 (by omega) hj e2⟩
    | j + 18, hj, e2 => exact absurd hj (by omega)
  | 3, hk, e =>
    obtain ⟨j, hj, e2⟩ := low_nat (n := 10) (by omega) (σ 2)
    match j, hj, e2 with
    | 0, hj, e2 => exact ⟨low2 3 10 0, p4_S2A_3_0, ls2 hk e lw2_10 (by omega) hj e2⟩
    | 1, hj, e2 => exact ⟨low2 3 10 1, p4_S2A_3_1, ls2 hk e lw2_10 (by omega) hj e2⟩
    | 2, hj, e2 => exact ⟨low2 3 10 2, p4_S2A_3_2, ls2 hk e lw2_10 (by omega) hj e2⟩
    | 3, hj, e2 => exact ⟨low2 3 10 3, p4_S2A_3_3, ls2 hk e lw2_10 (by omega) hj e2⟩
    | 4, hj, e2 => exact ⟨low2 3 10 4, p4_S2A_3_4, ls2 hk e lw2_10 (by omega) hj e2⟩
    | 5, hj, e2 => exact ⟨low2 3 10 5, p4_S2A_3_5, ls2 hk e lw2_10 (by omega) hj e2⟩
    | 6, hj, e2 => exact ⟨low2 3 10 6, p4_S2A_3_6, ls2 hk e lw2_10 (by omega) hj e2⟩
    | 7, hj, e2 => exact ⟨low2 3 10 7, p4_S2A_3_7, ls2 hk e lw2_10 (by omega) hj e2⟩
    | 8, hj, e2 => exact ⟨low2 3 10 8, p4_S2A_3_8, ls2 hk e lw2_10 (by omega) hj e2⟩
    | 9, hj, e2 => exact ⟨low2 3 10 9, p4_S2A_3_9, ls2 hk e lw2_10 (by omega) hj e2⟩
    | j + 10, hj, e2 => exact absurd hj (by omega)
  | 4, hk, e =>
    obtain ⟨j, hj, e2⟩ := low_nat (n := 2) (by omega) (σ 2)
    match j, hj, e2 with
    | 0, hj, e2 => exact ⟨low2 4 2 0, p4_S2A_4_0, ls2 hk e lw2_2 (by omega) hj e2⟩
    | 1, hj, e2 => exact ⟨low2 4 2 1, p4_S2A_4_1, ls2 hk e lw2_2 (by omega) hj e2⟩
    | j + 2, hj, e2 => exact absurd hj (by omega)
theorem hm_S2A1 : frFits gI (fitTo (.var 1) (.var 1)) ⟨T.ofList [aC 1 1 2 true], .nil, []⟩ ⟨.nil, 0⟩ [(0, aC 0 1 2 true)] [] = true := by decide +kernel
theorem kk_S2A1 {e0 : E} {u clo : Int} {cn : Nat} (hp : p1M clo cn e0 1 2 true mS2A1 = true) (h3 : 3 ≤ u) (h4 : u < 3 + 22) (fr wh wt : Int) (he : u = e0.den fun _ => fr) (h1 : clo ≤ fr) (h2 : fr < clo + cn) (w : World) : Calls Tryz.prog 3 #[.agg #[.int .i64 fr, .int .i64 1, .int .i64 2, .bool true], .int .i64 wh, .int .i64 wt] w fun e w' => e = .returned (.bool true) ∧ Grown w w' := by
  obtain ⟨l, hp4, hl⟩ := any_S2A (sg u fr wh wt)
  have ha0 : F2 (AR rho0 (sg u fr wh wt)) [.sym .i64 (.var 1), .int .i64 1, .int .i64 2, .bool true] [.int .i64 fr, .int .i64 1, .int .i64 2, .bool true] := .cons rfl (.cons rfl (.cons rfl (.cons rfl .nil)))
  exact lawOK4 (nc := 1) (t := 2) (s := true) (st := mS2A1) (vs := vS2A) (d := dS2A1) (g := [237, 74, 164, 213, 225, 231]) (m := 238) (σ := sg u fr wh wt) h3 h4 pD_S2A1 dS2A1_c p2_S2A1 vS2A_c
    (fun ext => newOKM (e0 := e0) hp mS2A1_c hm_S2A1 h1 h2 h3 h4 he)
    p3_S2A (sv_S2A h3 h4) hp4 hl (vals := [.agg #[.int .i64 fr, .int .i64 1, .int .i64 2, .bool true], .int .i64 wh, .int .i64 wt]) (.cons ⟨_, rfl, ha0⟩ (.cons rfl (.cons rfl .nil))) w
theorem k_S2A1 (fr wh wt : Int) (h1 : 22 ≤ fr) (h2 : fr ≤ 64) (w : World) : Calls Tryz.prog 3 #[.agg #[.int .i64 fr, .int .i64 1, .int .i64 2, .bool true], .int .i64 wh, .int .i64 wt] w fun e w' => e = .returned (.bool true) ∧ Grown w w' := by
  by_cases q0 : fr < 23
  · exact kk_S2A1 (u := 3) p1_S2A1_0 (by omega) (by omega) fr wh wt rfl (by omega) (by omega) w
  by_cases q1 : fr < 25
  · exact kk_S2A1 (u := 4) p1_S2A1_1 (by omega) (by omega) fr wh wt rfl (by omega) (by omega) w
  by_cases q2 : fr < 27
  · exact kk_S2A1 (u := 5) p1_S2A1_2 (by omega) (by omega) fr wh wt rfl (by omega) (by omega) w
  by_cases q3 : fr < 29
  · exact kk_S2A1 (u := 6) p1_S2A1_3 (by omega) (by omega) fr wh wt rfl (by omega) (by omega) w
  by_cases q4 : fr < 31
  · exact kk_S2A1 (u := 7) p1_S2A1_4 (by omega) (by omega) fr wh wt rfl (by omega) (by omega) w
  by_cases q5 : fr < 33
  · exact kk_S2A1 (u := 8) p1_S2A1_5 (by omega) (by omega) fr wh wt rfl (by omega) (by omega) w
  by_cases q6 : fr < 35
  · exact kk_S2A1 (u := 9) p1_S2A1_6 (by omega) (by omega) fr wh wt rfl (by omega) (by omega) w
  by_cases q7 : fr < 37
  · exact kk_S2A1 (u := 10) p1_S2A1_7 (by omega) (by omega) fr wh wt rfl (by omega) (by omega) w
  by_cases q8 : fr < 39
  · exact kk_S2A1 (u := 11) p1_S2A1_8 (by omega) (by omega) fr wh wt rfl (by omega) (by omega) w
  by_cases q9 : fr < 41
  · exact kk_S2A1 (u := 12) p1_S2A1_9 (by omega) (by omega) fr wh wt rfl (by omega) (by omega) w
  by_cases q10 : fr < 43
  · exact kk_S2A1 (u := 13) p1_S2A1_10 (by omega) (by omega) fr wh wt rfl (by omega) (by omega) w
  by_cases q11 : fr < 45
  · exact kk_S2A1 (u := 14) p1_S2A1_11 (by omega) (by omega) fr wh wt rfl (by omega) (by omega) w
  by_cases q12 : fr < 47
  · exact kk_S2A1 (u := 15) p1_S2A1_12 (by omega) (by omega) fr wh wt rfl (by omega) (by omega) w
  by_cases q13 : fr < 49
  · exact kk_S2A1 (u := 16) p1_S2A1_13 (by omega) (by omega) fr wh wt rfl (by omega) (by omega) w
  by_cases q14 : fr < 51
  · exact kk_S2A1 (u := 17) p1_S2A1_14 (by omega) (by omega) fr wh wt rfl (by omega) (by omega) w
  by_cases q15 : fr < 53
  · exact kk_S2A1 (u := 18) p1_S2A1_15 (by omega) (by omega) fr wh wt rfl (by omega) (by omega) w
  by_cases q16 : fr < 55
  · exact kk_S2A1 (u := 19) p1_S2A1_16 (by omega) (by omega) fr wh wt rfl (by omega) (by omega) w
  by_cases q17 : fr < 57
  · exact kk_S2A1 (u := 20) p1_S2A1_17 (by omega) (by omega) fr wh wt rfl (by omega) (by omega) w
  by_cases q18 : fr < 59
  · exact kk_S2A1 (u := 21) p1_S2A1_18 (by omega) (by omega) fr wh wt rfl (by omega) (by omega) w
  by_cases q19 : fr < 61
  · exact kk_S2A1 (u := 22) p1_S2A1_19 (by omega) (by omega) fr wh wt rfl (by omega) (by omega) w
  by_cases q20 : fr < 63
  · exact kk_S2A1 (u := 23) p1_S2A1_20 (by omega) (by omega) fr wh wt rfl (by omega) (by omega) w
  exact kk_S2A1 (u := 24) p1_S2A1_21 (by omega) (by omega) fr wh wt rfl (by omega) (by omega) w
theorem hm_S2A2 : frFits gI (fitTo (.var 1) (.var 1)) ⟨T.ofList [aC 1 2 2 true], .nil, []⟩ ⟨.nil, 0⟩ [(0, aC 0 2 2 true)] [] = true := by decide +kernel
theorem kk_S2A2 {e0 : E} {u clo : Int} {cn : Nat} (hp : p1M clo cn e0 2 2 true mS2A2 = true) (h3 : 3 ≤ u) (h4 : u < 3 + 22) (fr wh wt : Int) (he : u = e0.den fun _ => fr) (h1 : clo ≤ fr) (h2 : fr < clo + cn) (w : World) : Calls Tryz.prog 3 #[.agg #[.int .i64 fr, .int .i64 2, .int .i64 2, .bool true], .int .i64 wh, .int .i64 wt] w fun e w' => e = .returned (.bool true) ∧ Grown w w' := by
  obtain ⟨l, hp4, hl⟩ := any_S2A (sg u fr wh wt)
  have ha0 : F2 (AR rho0 (sg u fr wh wt)) [.sym .i64 (.var 1), .int .i64 2, .int .i64 2, .bool true] [.int .i64 fr, .int .i64 2, .int .i64 2, .bool true] := .cons rfl (.cons rfl (.cons rfl (.cons rfl .nil)))
  exact lawOK4 (nc := 2) (t := 2) (s := true) (st := mS2A2) (vs := vS2A) (d := dS2A2) (g := [240, 75, 165, 214, 226, 232]) (m := 241) (σ := sg u fr wh wt) h3 h4 pD_S2A2 dS2A2_c p2_S2A2 vS2A_c
    (fun ext => newOKM (e0 := e0) hp mS2A2_c hm_S2A2 h1 h2 h3 h4 he)
    p3_S2A (sv_S2A h3 h4) hp4 hl (vals := [.agg #[.int .i64 fr, .int .i64 2, .int .i64 2, .bool true], .int .i64 wh, .int .i64 wt]) (.cons ⟨_, rfl, ha0⟩ (.cons rfl (.cons rfl .nil))) w
theorem k_S2A2 (fr wh wt : Int) (h1 : 22 ≤ fr) (h2 : fr ≤ 64) (w : World) : Calls Tryz.prog 3 #[.agg #[.int .i64 fr, .int .i64 2, .int .i64 2, .bool true], .int .i64 wh, .int .i64 wt] w fun e w' => e = .returned (.bool true) ∧ Grown w w' := by
  by_cases q0 : fr < 23
  · exact kk_S2A2 (u := 3) p1_S2A2_0 (by omega) (by omega) fr wh wt rfl (by omega) (by omega) w
  by_cases q1 : fr < 25
  · exact kk_S2A2 (u := 4) p1_S2A2_1 (by omega) (by omega) fr wh wt rfl (by omega) (by omega) w
  by_cases q2 : fr < 27
  · exact kk_S2A2 (u := 5) p1_S2A2_2 (by omega) (by omega) fr wh wt rfl (by omega) (by omega) w
  by_cases q3 : fr < 29
  · exact kk_S2A2 (u := 6) p1_S2A2_3 (by omega) (by omega) fr wh wt rfl (by omega) (by omega) w
  by_cases q4 : fr < 31
  · exact kk_S2A2 (u := 7) p1_S2A2_4 (by omega) (by omega) fr wh wt rfl (by omega) (by omega) w
  by_cases q5 : fr < 33
  · exact kk_S2A2 (u := 8) p1_S2A2_5 (by omega) (by omega) fr wh wt rfl (by omega) (by omega) w
  by_cases q6 : fr < 35
  · exact kk_S2A2 (u := 9) p1_S2A2_6 (by omega) (by omega) fr wh wt rfl (by omega) (by omega) w
  by_cases q7 : fr < 37
  · exact kk_S2A2 (u := 10) p1_S2A2_7 (by omega) (by omega) fr wh wt rfl (by omega) (by omega) w
  by_cases q8 : fr < 39
  · exact kk_S2A2 (u := 11) p1_S2A2_8 (by omega) (by omega) fr wh wt rfl (by omega) (by omega) w
  by_cases q9 : fr < 41
  · exact kk_S2A2 (u := 12) p1_S2A2_9 (by omega) (by omega) fr wh wt rfl (by omega) (by omega) w
  by_cases q10 : fr < 43
  · exact kk_S2A2 (u := 13) p1_S2A2_10 (by omega) (by omega) fr wh wt rfl (by omega) (by omega) w
  by_cases q11 : fr < 45
  · exact kk_S2A2 (u := 14) p1_S2A2_11 (by omega) (by omega) fr wh wt rfl (by omega) (by omega) w
  by_cases q12 : fr < 47
  · exact kk_S2A2 (u := 15) p1_S2A2_12 (by omega) (by omega) fr wh wt rfl (by omega) (by omega) w
  by_cases q13 : fr < 49
  · exact kk_S2A2 (u := 16) p1_S2A2_13 (by omega) (by omega) fr wh wt rfl (by omega) (by omega) w
  by_cases q14 : fr < 51
  · exact kk_S2A2 (u := 17) p1_S2A2_14 (by omega) (by omega) fr wh wt rfl (by omega) (by omega) w
  by_cases q15 : fr < 53
  · exact kk_S2A2 (u := 18) p1_S2A2_15 (by omega) (by omega) fr wh wt rfl (by omega) (by omega) w
  by_cases q16 : fr < 55
  · exact kk_S2A2 (u := 19) p1_S2A2_16 (by omega) (by omega) fr wh wt rfl (by omega) (by omega) w
  by_cases q17 : fr < 57
  · exact kk_S2A2 (u := 20) p1_S2A2_17 (by omega) (by omega) fr wh wt rfl (by omega) (by omega) w
  by_cases q18 : fr < 59
  · exact kk_S2A2 (u := 21) p1_S2A2_18 (by omega) (by omega) fr wh wt rfl (by omega) (by omega) w
  by_cases q19 : fr < 61
  · exact kk_S2A2 (u := 22) p1_S2A2_19 (by omega) (by omega) fr wh wt rfl (by omega) (by omega) w
  by_cases q20 : fr < 63
  · exact kk_S2A2 (u := 23) p1_S2A2_20 (by omega) (by omega) fr wh wt rfl (by omega) (by omega) w
  exact kk_S2A2 (u := 24) p1_S2A2_21 (by omega) (by omega) fr wh wt rfl (by omega) (by omega) w
theorem hm_S2A3 : frFits gI (fitTo (.var 1) (.var 1)) ⟨T.ofList [aC 1 3 2 true], .nil, []⟩ ⟨.nil, 0⟩ [(0, aC 0 3 2 true)] [] = true := by decide +kernel
theorem kk_S2A3 {e0 : E} {u clo : Int} {cn : Nat} (hp : p1M clo cn e0 3 2 true mS2A3 = true) (h3 : 3 ≤ u) (h4 : u < 3 + 22) (fr wh wt : Int) (he : u = e0.den fun _ => fr) (h1 : clo ≤ fr) (h2 : fr < clo + cn) (w : World) : Calls Tryz.prog 3 #[.agg #[.int .i64 fr, .int .i64 3, .int .i64 2, .bool true], .int .i64 wh, .int .i64 wt] w fun e w' => e = .returned (.bool true) ∧ Grown w w' := by
  obtain ⟨l, hp4, hl⟩ := any_S2A (sg u fr wh wt)
  have ha0 : F2 (AR rho0 (sg u fr wh wt)) [.sym .i64 (.var 1), .int .i64 3, .int .i64 2, .bool true] [.int .i64 fr, .int .i64 3, .int .i64 2, .bool true] := .cons rfl (.cons rfl (.cons rfl (.cons rfl .nil)))
  exact lawOK4 (nc := 3) (t := 2) (s := true) (st := mS2A3) (vs := vS2A) (d := dS2A3) (g := [243, 76, 166, 215, 227, 233]) (m := 244) (σ := sg u fr wh wt) h3 h4 pD_S2A3 dS2A3_c p2_S2A3 vS2A_c
    (fun ext => newOKM (e0 := e0) hp mS2A3_c hm_S2A3 h1 h2 h3 h4 he)
    p3_S2A (sv_S2A h3 h4) hp4 hl (vals := [.agg #[.int .i64 fr, .int .i64 3, .int .i64 2, .bool true], .int .i64 wh, .int .i64 wt]) (.cons ⟨_, rfl, ha0⟩ (.cons rfl (.cons rfl .nil))) w
theorem k_S2A3 (fr wh wt : Int) (h1 : 22 ≤ fr) (h2 : fr ≤ 64) (w : World) : Calls Tryz.prog 3 #[.agg #[.int .i64 fr, .int .i64 3, .int .i64 2, .bool true], .int .i64 wh, .int .i64 wt] w fun e w' => e = .returned (.bool true) ∧ Grown w w' := by
  by_cases q0 : fr < 23
  · exact kk_S2A3 (u := 3) p1_S2A3_0 (by omega) (by omega) fr wh wt rfl (by omega) (by omega) w
  by_cases q1 : fr < 25
  · exact kk_S2A3 (u := 4) p1_S2A3_1 (by omega) (by omega) fr wh wt rfl (by omega) (by omega) w
  by_cases q2 : fr < 27
  · exact kk_S2A3 (u := 5) p1_S2A3_2 (by omega) (by omega) fr wh wt rfl (by omega) (by omega) w
  by_cases q3 : fr < 29
  · exact kk_S2A3 (u := 6) p1_S2A3_3 (by omega) (by omega) fr wh wt rfl (by omega) (by omega) w
  by_cases q4 : fr < 31
  · exact kk_S2A3 (u := 7) p1_S2A3_4 (by omega) (by omega) fr wh wt rfl (by omega) (by omega) w
  by_cases q5 : fr < 33
  · exact kk_S2A3 (u := 8) p1_S2A3_5 (by omega) (by omega) fr wh wt rfl (by omega) (by omega) w
  by_cases q6 : fr < 35
  · exact kk_S2A3 (u := 9) p1_S2A3_6 (by omega) (by omega) fr wh wt rfl (by omega) (by omega) w
  by_cases q7 : fr < 37
  · exact kk_S2A3 (u := 10) p1_S2A3_7 (by omega) (by omega) fr wh wt rfl (by omega) (by omega) w
  by_cases q8 : fr < 39
  · exact kk_S2A3 (u := 11) p1_S2A3_8 (by omega) (by omega) fr wh wt rfl (by omega) (by omega) w
  by_cases q9 : fr < 41
  · exact kk_S2A3 (u := 12) p1_S2A3_9 (by omega) (by omega) fr wh wt rfl (by omega) (by omega) w
  by_cases q10 : fr < 43
  · exact kk_S2A3 (u := 13) p1_S2A3_10 (by omega) (by omega) fr wh wt rfl (by omega) (by omega) w
  by_cases q11 : fr < 45
  · exact kk_S2A3 (u := 14) p1_S2A3_11 (by omega) (by omega) fr wh wt rfl (by omega) (by omega) w
  by_cases q12 : fr < 47
  · exact kk_S2A3 (u := 15) p1_S2A3_12 (by omega) (by omega) fr wh wt rfl (by omega) (by omega) w
  by_cases q13 : fr < 49
  · exact kk_S2A3 (u := 16) p1_S2A3_13 (by omega) (by omega) fr wh wt rfl (by omega) (by omega) w
  by_cases q14 : fr < 51
  · exact kk_S2A3 (u := 17) p1_S2A3_14 (by omega) (by omega) fr wh wt rfl (by omega) (by omega) w
  by_cases q15 : fr < 53
  · exact kk_S2A3 (u := 18) p1_S2A3_15 (by omega) (by omega) fr wh wt rfl (by omega) (by omega) w
  by_cases q16 : fr < 55
  · exact kk_S2A3 (u := 19) p1_S2A3_16 (by omega) (by omega) fr wh wt rfl (by omega) (by omega) w
  by_cases q17 : fr < 57
  · exact kk_S2A3 (u := 20) p1_S2A3_17 (by omega) (by omega) fr wh wt rfl (by omega) (by omega) w
  by_cases q18 : fr < 59
  · exact kk_S2A3 (u := 21) p1_S2A3_18 (by omega) (by omega) fr wh wt rfl (by omega) (by omega) w
  by_cases q19 : fr < 61
  · exact kk_S2A3 (u := 22) p1_S2A3_19 (by omega) (by omega) fr wh wt rfl (by omega) (by omega) w
  by_cases q20 : fr < 63
  · exact kk_S2A3 (u := 23) p1_S2A3_20 (by omega) (by omega) fr wh wt rfl (by omega) (by omega) w
  exact kk_S2A3 (u := 24) p1_S2A3_21 (by omega) (by omega) fr wh wt rfl (by omega) (by omega) w
theorem sv_S3A {σ : Sig} (h3 : 3 ≤ σ 0) (h4 : σ 0 < 3 + 12) : ∀ C : Cfg, C.fu = Tab.fuT.get → Al (SummV Tryz.prog σ C) sS3A := fun C hC =>
  .cons (sumV_ok pV_S3A_30 h3 h4 C hC) (.cons (sumV_ok pV_S3A_31 h3 h4 C hC) (.cons (sumV_ok pV_S3A_32 h3 h4 C hC) (.cons (sumV_ok pV_S3A_33 h3 h4 C hC) .nil)))
theorem any_S3A (σ : Sig) : ∃ l, p4 3 12 sS3A l vS3A = true ∧ ∀ C : Cfg, C.fu = Tab.fuT.get → Al (Summ Tryz.prog σ C) l := by
  obtain ⟨k, hk, e⟩ := low_nat (n := 5) (by omega) (σ 3)
  match k, hk, e with
  | 0, hk, e => exact ⟨low1 0, p4_S3A_0_0, ls1 hk e⟩
  | 2, hk, e => exact ⟨low1 2, p4_S3A_2_0, ls1 hk e⟩
  | 1, hk, e =>
    obtain ⟨j, hj, e2⟩ := low_nat (n := 27) (by omega) (σ 2)
    match j, hj, e2 with
    | 0, hj, e2 => exact ⟨low2 1 27 0, p4_S3A_1_0, ls2 hk e lw2_27 (by omega) hj e2⟩
    | 1, hj, e2 => exact ⟨low2 1 27 1, p4_S3A_1_1, ls2 hk e lw2_27 (by omega) hj e2⟩
    | 2, hj, e2 => exact ⟨low2 1 27 2, p4_S3A_1_2, ls2 hk e lw2_27 (by omega) hj e2⟩
    | 3, hj, e2 => exact ⟨low2 1 27 3, p4_S3A_1_3, ls2 hk e lw2_27 (by omega) hj e2⟩
    | 4, hj, e2 => exact ⟨low2 1 27 4, p4_S3A_1_4, ls2 hk e lw2_27 (by omega) hj e2⟩
    | 5, hj, e2 => exact ⟨low2 1 27 5, p4_S3A_1_5, ls2 hk e lw2_27 (by omega) hj e2⟩
    | 6, hj, e2 => exact ⟨low2 1 27 6, p4_S3A_1_6, ls2 hk e lw2_27 (by omega) hj e2⟩
    | 7, hj, e2 => exact ⟨low2 1 27 7, p4_S3A_1_7, ls2 hk e lw2_27 (by omega) hj e2⟩
    | 8, hj, e2 => exact ⟨low2 1 27 8, p4_S3A_1_8, ls2 hk e lw2_27 (by omega) hj e2⟩
    | 9, hj, e2 => exact ⟨low2 1 27 9, p4_S3A_1_9, ls2 hk e lw2_27 (by omega) hj e2⟩
    | 10, hj, e2 => exact ⟨low2 1 27 10, p4_S3A_1_10, ls2 hk e lw2_27 (by omega) hj e2⟩
    | 11, hj, e2 => exact ⟨low2 1 27 11, p4_S3A_1_11, ls2 hk e lw2_27 (by omega) hj e2⟩
    | 12, hj, e2 => exact ⟨low2 1 27 12, p4_S3A_1_12, ls2 hk e lw2_27 (by omega) hj e2⟩
    | 13, hj, e2 => exact ⟨low2 1 27 13, p4_S3A_1_13, ls2 hk e lw2_27 (by omega) hj e2⟩
    | 14, hj, e2 => exact ⟨low2 1 27 14, p4_S3A_1_14, ls2 hk e lw2_27 (by omega) hj e2⟩
    | 15, hj, e2 => exact ⟨low2 1 27 15, p4_S3A_1_15, ls2 hk e lw2_27 (by omega) hj e2⟩
    | 16, hj, e2 => exact ⟨low2 1 27 16, p4_S3A_1_16, ls2 hk e lw2_27 (by omega) hj e2⟩
    | 17, hj, e2 => exact ⟨low2 1 27 17, p4_S3A_1_17, ls2 hk e lw2_27 (by omega) hj e2⟩
    | 18, hj, e2 => exact ⟨low2 1 27 18, p4_S3A_1_18, ls2 hk e lw2_27 (by omega) hj e2⟩
    | 19, hj, e2 => exact ⟨low2 1 27 19, p4_S3A_1_19, ls2 hk e lw2_27 (by omega) hj e2⟩
    | 20, hj, e2 => exact ⟨low2 1 27 20, p4_S3A_1_20, ls2 hk e lw2_27 (by omega) hj e2⟩
    | 21, hj, e2 => exact ⟨low2 1 27 21, p4_S3A_1_21, ls2 hk e lw2_27 (by omega) hj e2⟩
    | 22, hj, e2 => exact ⟨low2 1 27 22, p4_S3A_1_22, ls2 hk e lw2_27 (by omega) hj e2⟩
    | 23, hj, e2 => exact ⟨low2 1 27 23, p4_S3A_1_23, ls2 hk e lw2_27 (by omega) hj e2⟩
    | 24, hj, e2 => exact ⟨low2 1 27 24, p4_S3A_1_24, ls2 hk e lw2_27 (by omega) hj e2⟩
    | 25, hj, e2 => exact ⟨low2 1 27 25, p4_S3A_1_25, ls2 hk e lw2_27 (by omega) hj e2⟩
    | 26, hj, e2 => exact ⟨low2 1 27 26, p4_S3A_1_26, ls2 hk e lw2_27 (by omega) hj e2⟩
    | j + 27, hj, e2 => exact absurd hj (by omega)
  | 3, hk, e =>
    obtain ⟨j, hj, e2⟩ := low_nat (n := 15) (by omega) (σ 2)
    match j, hj, e2 with
    | 0, hj, e2 => exact ⟨low2 3 15 0, p4_S3A_3_0, ls2 hk e lw2_15 (by omega) hj e2⟩
    | 1, hj, e2 => exact ⟨low2 3 15 1, p4_S3A_3_1, ls2 hk e lw2_15 (by omega) hj e2⟩
    | 2, hj, e2 => exact ⟨low2 3 15 2, p4_S3A_3_2, ls2 hk e lw2_15 (by omega) hj e2⟩
    | 3, hj, e2 => exact ⟨low2 3 15 3, p4_S3A_3_3, ls2 hk e lw2_15 (by omega) hj e2⟩
    | 4, hj, e2 => exact ⟨low2 3 15 4, p4_S3A_3_4, ls2 hk e lw2_15 (by omega) hj e2⟩
    | 5, hj, e2 => exact ⟨low2 3 15 5, p4_S3A_3_5, ls2 hk e lw2_15 (by omega) hj e2⟩
    | 6, hj, e2 => exact ⟨low2 3 15 6, p4_S3A_3_6, ls2 hk e lw2_15 (by omega) hj e2⟩
    | 7, hj, e2 => exact ⟨low2 3 15 7, p4_S3A_3_7, ls2 hk e lw2_15 (by omega) hj e2⟩
    | 8, hj, e2 => exact ⟨low2 3 15 8, p4_S3A_3_8, ls2 hk e lw2_15 (by omega) hj e2⟩
    | 9, hj, e2 => exact ⟨low2 3 15 9, p4_S3A_3_9, ls2 hk e lw2_15 (by omega) hj e2⟩
    | 10, hj, e2 => exact ⟨low2 3 15 10, p4_S3A_3_10, ls2 hk e lw2_15 (by omega) hj e2⟩
    | 11, hj, e2 => exact ⟨low2 3 15 11, p4_S3A_3_11, ls2 hk e lw2_15 (by omega) hj e2⟩
    | 12, hj, e2 => exact ⟨low2 3 15 12, p4_S3A_3_12, ls2 hk e lw2_15 (by omega) hj e2⟩
    | 13, hj, e2 => exact ⟨low2 3 15 13, p4_S3A_3_13, ls2 hk e lw2_15 (by omega) hj e2⟩
    | 14, hj, e2 => exact ⟨low2 3 15 14, p4_S3A_3_14, ls2 hk e lw2_15 (by omega) hj e2⟩
    | j + 15, hj, e2 => exact absurd hj (by omega)
  | 4, hk, e =>
    obtain ⟨j, hj, e2⟩ := low_nat (n := 3) (by omega) (σ 2)
    match j, hj, e2 with
    | 0, hj, e2 => exact ⟨low2 4 3 0, p4_S3A_4_0, ls2 hk e lw2_3 (by omega) hj e2⟩
    | 1, hj, e2 => exact ⟨low2 4 3 1, p4_S3A_4_1, ls2 hk e lw2_3 (by omega) hj e2⟩
    | 2, hj, e2 => exact ⟨low2 4 3 2, p4_S3A_4_2, ls2 hk e lw2_3 (by omega) hj e2⟩
    | j + 3, hj, e2 => exact absurd hj (by omega)
theorem hm_S3A1 : frFits gI (fitTo (.var 1) (.var 1)) ⟨T.ofList [aC 1 1 3 true], .nil, []⟩ ⟨.nil, 0⟩ [(0, aC 0 1 3 true)] [] = true := by decide +kernel
theorem kk_S3A1 {e0 : E} {u clo : Int} {cn : Nat} (hp : p1M clo cn e0 1 3 true mS3A1 = true) (h3 : 3 ≤ u) (h4 : u < 3 + 12) (fr wh wt : Int) (he : u = e0.den fun _ => fr) (h1 : clo ≤ fr) (h2 : fr < clo + cn) (w : World) : Calls Tryz.prog 3 #[.agg #[.int .i64 fr, .int .i64 1, .int .i64 3, .bool true], .int .i64 wh, .int .i64 wt] w fun e w' => e = .returned (.bool true) ∧ Grown w w' := by
  obtain ⟨l, hp4, hl⟩ := any_S3A (sg u fr wh wt)
  have ha0 : F2 (AR rho0 (sg u fr wh wt)) [.sym .i64 (.var 1), .int .i64 1, .int .i64 3, .bool true] [.int .i64 fr, .int .i64 1, .int .i64 3, .bool true] := .cons rfl (.cons rfl (.cons rfl (.cons rfl .nil)))
  exact lawOK4 (nc := 1) (t := 3) (s := true) (st := mS3A1) (vs := vS3A) (d := dS3A1) (g := [325, 95, 231, 298, 313, 319]) (m := 326) (σ := sg u fr wh wt) h3 h4 pD_S3A1 dS3A1_c p2_S3A1 vS3A_c
    (fun ext => newOKM (e0 := e0) hp mS3A1_c hm_S3A1 h1 h2 h3 h4 he)
    p3_S3A (sv_S3A h3 h4) hp4 hl (vals := [.agg #[.int .i64 fr, .int .i64 1, .int .i64 3, .bool true], .int .i64 wh, .int .i64 wt]) (.cons ⟨_, rfl, ha0⟩ (.cons rfl (.cons rfl .nil))) w
theorem k_S3A1 (fr wh wt : Int) (h1 : 33 ≤ fr) (h2 : fr ≤ 64) (w : World) : Calls Tryz.prog 3 #[.agg #[.int .i64 fr, .int .i64 1, .int .i64 3, .bool true], .int .i64 wh, .int .i64 wt] w fun e w' => e = .returned (.bool true) ∧ Grown w w' := by
  by_cases q0 : fr < 34
  · exact kk_S3A1 (u := 3) p1_S3A1_0 (by omega) (by omega) fr wh wt rfl (by omega) (by omega) w
  by_cases q1 : fr < 37
  · exact kk_S3A1 (u := 4) p1_S3A1_1 (by omega) (by omega) fr wh wt rfl (by omega) (by omega) w
  by_cases q2 : fr < 40
  · exact kk_S3A1 (u := 5) p1_S3A1_2 (by omega) (by omega) fr wh wt rfl (by omega) (by omega) w
  by_cases q3 : fr < 43
  · exact kk_S3A1 (u := 6) p1_S3A1_3 (by omega) (by omega) fr wh wt rfl (by omega) (by omega) w
  by_cases q4 : fr < 46
  · exact kk_S3A1 (u := 7) p1_S3A1_4 (by omega) (by omega) fr wh wt rfl (by omega) (by omega) w
  by_cases q5 : fr < 49
  · exact kk_S3A1 (u := 8) p1_S3A1_5 (by omega) (by omega) fr wh wt rfl (by omega) (by omega) w
  by_cases q6 : fr < 52
  · exact kk_S3A1 (u := 9) p1_S3A1_6 (by omega) (by omega) fr wh wt rfl (by omega) (by omega) w
  by_cases q7 : fr < 55
  · exact kk_S3A1 (u := 10) p1_S3A1_7 (by omega) (by omega) fr wh wt rfl (by omega) (by omega) w
  by_cases q8 : fr < 58
  · exact kk_S3A1 (u := 11) p1_S3A1_8 (by omega) (by omega) fr wh wt rfl (by omega) (by omega) w
  by_cases q9 : fr < 61
  · exact kk_S3A1 (u := 12) p1_S3A1_9 (by omega) (by omega) fr wh wt rfl (by omega) (by omega) w
  by_cases q10 : fr < 64
  · exact kk_S3A1 (u := 13) p1_S3A1_10 (by omega) (by omega) fr wh wt rfl (by omega) (by omega) w
  exact kk_S3A1 (u := 14) p1_S3A1_11 (by omega) (by omega) fr wh wt rfl (by omega) (by omega) w
theorem hm_S3A2 : frFits gI (fitTo (.var 1) (.var 1)) ⟨T.ofList [aC 1 2 3 true], .nil, []⟩ ⟨.nil, 0⟩ [(0, aC 0 2 3 true)] [] = true := by decide +kernel
theorem kk_S3A2 {e0 : E} {u clo : Int} {cn : Nat} (hp : p1M clo cn e0 2 3 true mS3A2 = true) (h3 : 3 ≤ u) (h4 : u < 3 + 12) (fr wh wt : Int) (he : u = e0.den fun _ => fr) (h1 : clo ≤ fr) (h2 : fr < clo + cn) (w : World) : Calls Tryz.prog 3 #[.agg #[.int .i64 fr, .int .i64 2, .int .i64 3, .bool true], .int .i64 wh, .int .i64 wt] w fun e w' => e = .returned (.bool true) ∧ Grown w w' := by
  obtain ⟨l, hp4, hl⟩ := any_S3A (sg u fr wh wt)
  have ha0 : F2 (AR rho0 (sg u fr wh wt)) [.sym .i64 (.var 1), .int .i64 2, .int .i64 3, .bool true] [.int .i64 fr, .int .i64 2, .int .i64 3, .bool true] := .cons rfl (.cons rfl (.cons rfl (.cons rfl .nil)))
  exact lawOK4 (nc := 2) (t := 3) (s := true) (st := mS3A2) (vs := vS3A) (d := dS3A2) (g := [328, 96, 232, 299, 314, 320]) (m := 329) (σ := sg u fr wh wt) h3 h4 pD_S3A2 dS3A2_c p2_S3A2 vS3A_c
    (fun ext => newOKM (e0 := e0) hp mS3A2_c hm_S3A2 h1 h2 h3 h4 he)
    p3_S3A (sv_S3A h3 h4) hp4 hl (vals := [.agg #[.int .i64 fr, .int .i64 2, .int .i64 3, .bool true], .int .i64 wh, .int .i64 wt]) (.cons ⟨_, rfl, ha0⟩ (.cons rfl (.cons rfl .nil))) w
theorem k_S3A2 (fr wh wt : Int) (h1 : 33 ≤ fr) (h2 : fr ≤ 64) (w : World) : Calls Tryz.prog 3 #[.agg #[.int .i64 fr, .int .i64 2, .int .i64 3, .bool true], .int .i64 wh, .int .i64 wt] w fun e w' => e = .returned (.bool true) ∧ Grown w w' := by
  by_cases q0 : fr < 34
  · exact kk_S3A2 (u := 3) p1_S3A2_0 (by omega) (by omega) fr wh wt rfl (by omega) (by omega) w
  by_cases q1 : fr < 37
  · exact kk_S3A2 (u := 4) p1_S3A2_1 (by omega) (by omega) fr wh wt rfl (by omega) (by omega) w
  by_cases q2 : fr < 40
  · exact kk_S3A2 (u := 5) p1_S3A2_2 (by omega) (by omega) fr wh wt rfl (by omega) (by omega) w
  by_cases q3 : fr < 43
  · exact kk_S3A2 (u := 6) p1_S3A2_3 (by omega) (by omega) fr wh wt rfl (by omega) (by omega) w
  by_cases q4 : fr < 46
  · exact kk_S3A2 (u := 7) p1_S3A2_4 (by omega) (by omega) fr wh wt rfl (by omega) (by omega) w
  by_cases q5 : fr < 49
  · exact kk_S3A2 (u := 8) p1_S3A2_5 (by omega) (by omega) fr wh wt rfl (by omega) (by omega) w
  by_cases q6 : fr < 52
  · exact kk_S3A2 (u := 9) p1_S3A2_6 (by omega) (by omega) fr wh wt rfl (by omega) (by omega) w
  by_cases q7 : fr < 55
  · exact kk_S3A2 (u := 10) p1_S3A2_7 (by omega) (by omega) fr wh wt rfl (by omega) (by omega) w
  by_cases q8 : fr < 58
  · exact kk_S3A2 (u := 11) p1_S3A2_8 (by omega) (by omega) fr wh wt rfl (by omega) (by omega) w
  by_cases q9 : fr < 61
  · exact kk_S3A2 (u := 12) p1_S3A2_9 (by omega) (by omega) fr wh wt rfl (by omega) (by omega) w
  by_cases q10 : fr < 64
  · exact kk_S3A2 (u := 13) p1_S3A2_10 (by omega) (by omega) fr wh wt rfl (by omega) (by omega) w
  exact kk_S3A2 (u := 14) p1_S3A2_11 (by omega) (by omega) fr wh wt rfl (by omega) (by omega) w
theorem hm_S3A3 : frFits gI (fitTo (.var 1) (.var 1)) ⟨T.ofList [aC 1 3 3 true], .nil, []⟩ ⟨.nil, 0⟩ [(0, aC 0 3 3 true)] [] = true := by decide +kernel
theorem kk_S3A3 {e0 : E} {u clo : Int} {cn : Nat} (hp : p1M clo cn e0 3 3 true mS3A3 = true) (h3 : 3 ≤ u) (h4 : u < 3 + 12) (fr wh wt : Int) (he : u = e0.den fun _ => fr) (h1 : clo ≤ fr) (h2 : fr < clo + cn) (w : World) : Calls Tryz.prog 3 #[.agg #[.int .i64 fr, .int .i64 3, .int .i64 3, .bool true], .int .i64 wh, .int .i64 wt] w fun e w' => e = .returned (.bool true) ∧ Grown w w' := by
  obtain ⟨l, hp4, hl⟩ := any_S3A (sg u fr wh wt)
  have ha0 : F2 (AR rho0 (sg u fr wh wt)) [.sym .i64 (.var 1), .int .i64 3, .int .i64 3, .bool true] [.int .i64 fr, .int .i64 3, .int .i64 3, .bool true] := .cons rfl (.cons rfl (.cons rfl (.cons rfl .nil)))
  exact lawOK4 (nc := 3) (t := 3) (s := true) (st := mS3A3) (vs := vS3A) (d := dS3A3) (g := [331, 97, 233, 300, 315, 321]) (m := 332) (σ := sg u fr wh wt) h3 h4 pD_S3A3 dS3A3_c p2_S3A3 vS3A_c
    (fun ext => newOKM (e0 := e0) hp mS3A3_c hm_S3A3 h1 h2 h3 h4 he)
    p3_S3A (sv_S3A h3 h4) hp4 hl (vals := [.agg #[.int .i64 fr, .int .i64 3, .int .i64 3, .bool true], .int .i64 wh, .int .i64 wt]) (.cons ⟨_, rfl, ha0⟩ (.cons rfl (.cons rfl .nil))) w
theorem k_S3A3 (fr wh wt : Int) (h1 : 33 ≤ fr) (h2 : fr ≤ 64) (w : World) : Calls Tryz.prog 3 #[.agg #[.int .i64 fr, .int .i64 3, .int .i64 3, .bool true], .int .i64 wh, .int .i64 wt] w fun e w' => e = .returned (.bool true) ∧ Grown w w' := by
  by_cases q0 : fr < 34
  · exact kk_S3A3 (u := 3) p1_S3A3_0 (by omega) (by omega) fr wh wt rfl (by omega) (by omega) w
  by_cases q1 : fr < 37
  · exact kk_S3A3 (u := 4) p1_S3A3_1 (by omega) (by omega) fr wh wt rfl (by omega) (by omega) w
  by_cases q2 : fr < 40
  · exact kk_S3A3 (u := 5) p1_S3A3_2 (by omega) (by omega) fr wh wt rfl (by omega) (by omega) w
  by_cases q3 : fr < 43
  · exact kk_S3A3 (u := 6) p1_S3A3_3 (by omega) (by omega) fr wh wt rfl (by omega) (by omega) w
  by_cases q4 : fr < 46
  · exact kk_S3A3 (u := 7) p1_S3A3_4 (by omega) (by omega) fr wh wt rfl (by omega) (by omega) w
  by_cases q5 : fr < 49
  · exact kk_S3A3 (u := 8) p1_S3A3_5 (by omega) (by omega) fr wh wt rfl (by omega) (by omega) w
  by_cases q6 : fr < 52
  · exact kk_S3A3 (u := 9) p1_S3A3_6 (by omega) (by omega) fr wh wt rfl (by omega) (by omega) w
  by_cases q7 : fr < 55
  · exact kk_S3A3 (u := 10) p1_S3A3_7 (by omega) (by omega) fr wh wt rfl (by omega) (by omega) w
  by_cases q8 : fr < 58
  · exact kk_S3A3 (u := 11) p1_S3A3_8 (by omega) (by omega) fr wh wt rfl (by omega) (by omega) w
  by_cases q9 : fr < 61
  · exact kk_S3A3 (u := 12) p1_S3A3_9 (by omega) (by omega) fr wh wt rfl (by omega) (by omega) w
  by_cases q10 : fr < 64
  · exact kk_S3A3 (u := 13) p1_S3A3_10 (by omega) (by omega) fr wh wt rfl (by omega) (by omega) w
  exact kk_S3A3 (u := 14) p1_S3A3_11 (by omega) (by omega) fr wh wt rfl (by omega) (by omega) w
end Boots
