/- AuditBoots: boots with no shared endpoint: the law holds. No conditions beside those in its theorems. -/
import Derived.Test.YtikjmnimdlcehaaGreatBDP1A
import Derived.Test.YtikjmnimdlcehaaGreatBCP1A0
import Derived.Test.YtikjmnimdlcehaaGreatBPP2A
import Derived.Test.YtikjmnimdlcehaaGreatBDP2A
import Derived.Test.YtikjmnimdlcehaaGreatBCP2A0
import Derived.Test.YtikjmnimdlcehaaGreatBCP2A1
import Derived.Test.YtikjmnimdlcehaaGreatBPP3A
import Derived.Test.YtikjmnimdlcehaaGreatBDP3A
import Derived.Test.YtikjmnimdlcehaaGreatBCP3A0
import Derived.Test.YtikjmnimdlcehaaGreatBCP3A1
import Derived.Test.YtikjmnimdlcehaaGreatBCP3A2
import Derived.Test.YtikjmnimdlcehaaGreatBP1
import Derived.Test.YtikjmnimdlcehaaGreatBN
set_option linter.unusedVariables false
open Go Eng Go.Proofs Go.RowKit
set_option maxRecDepth 100000
namespace Boots
open Base
theorem sv_P1A {σ : Sig} (h3 : 4 ≤ σ 0) (h4 : σ 0 < 4 + 54) : ∀ C : Cfg, C.fu = Tab.fuT.get → Al (SummV Tryz.prog σ C) sP1A := fun C hC =>
  .cons (sumV_ok pV_P1A_30 h3 h4 C hC) (.cons (sumV_ok pV_P1A_31 h3 h4 C hC) (.cons (sumV_ok pV_P1A_32 h3 h4 C hC) (.cons (sumV_ok pV_P1A_33 h3 h4 C hC) .nil)))
theorem any_P1A (σ : Sig) : ∃ l, p4 4 54 sP1A l vP1A = true ∧ ∀ C : Cfg, C.fu = Tab.fuT.get → Al (Summ Tryz.prog σ C) l := by
  obtain ⟨k, hk, e⟩ := low_nat (n := 5) (by omega) (σ 3)
  match k, hk, e with
  | 0, hk, e => exact ⟨low1 0, p4_P1A_0_0, ls1 hk e⟩
  | 2, hk, e => exact ⟨low1 2, p4_P1A_2_0, ls1 hk e⟩
  | 1, hk, e =>
    obtain ⟨j, hj, e2⟩ := low_nat (n := 8) (by omega) (σ 2)
    match j, hj, e2 with
    | 0, hj, e2 => exact ⟨low2 1 8 0, p4_P1A_1_0, ls2 hk e lw2_8 (by omega) hj e2⟩
    | 1, hj, e2 => exact ⟨low2 1 8 1, p4_P1A_1_1, ls2 hk e lw2_8 (by omega) hj e2⟩
    | 2, hj, e2 => exact ⟨low2 1 8 2, p4_P1A_1_2, ls2 hk e lw2_8 (by omega) hj e2⟩
    | 3, hj, e2 => exact ⟨low2 1 8 3, p4_P1A_1_3, ls2 hk e lw2_8 (by omega) hj e2⟩
    | 4, hj, e2 => exact ⟨low2 1 8 4, p4_P1A_1_4, ls2 hk e lw2_8 (by omega) hj e2⟩
    | 5, hj, e2 => exact ⟨low2 1 8 5, p4_P1A_1_5, ls2 hk e lw2_8 (by omega) hj e2⟩
    | 6, hj, e2 => exact ⟨low2 1 8 6, p4_P1A_1_6, ls2 hk e lw2_8 (by omega) hj e2⟩
    | 7, hj, e2 => exact ⟨low2 1 8 7, p4_P1A_1_7, ls2 hk e lw2_8 (by omega) hj e2⟩
    | j + 8, hj, e2 => exact absurd hj (by omega)
  | 3, hk, e =>
    obtain ⟨j, hj, e2⟩ := low_nat (n := 4) (by omega) (σ 2)
    match j, hj, e2 with
    | 0, hj, e2 => exact ⟨low2 3 4 0, p4_P1A_3_0, ls2 hk e lw2_4 (by omega) hj e2⟩
    | 1, hj, e2 => exact ⟨low2 3 4 1, p4_P1A_3_1, ls2 hk e lw2_4 (by omega) hj e2⟩
    | 2, hj, e2 => exact ⟨low2 3 4 2, p4_P1A_3_2, ls2 hk e lw2_4 (by omega) hj e2⟩
    | 3, hj, e2 => exact ⟨low2 3 4 3, p4_P1A_3_3, ls2 hk e lw2_4 (by omega) hj e2⟩
    | j + 4, hj, e2 => exact absurd hj (by omega)
  | 4, hk, e =>
    obtain ⟨j, hj, e2⟩ := low_nat (n := 1) (by omega) (σ 2)
    match j, hj, e2 with
    | 0, hj, e2 => exact ⟨low2 4 1 0, p4_P1A_4_0, ls2 hk e lw2_1 (by omega) hj e2⟩
    | j + 1, hj, e2 => exact absurd hj (by omega)
theorem hm_P1A1 : frFits gI (fitTo (.var 1) (.var 1)) ⟨T.ofList [aC 1 1 1 false], .nil, []⟩ ⟨.nil, 0⟩ [(0, aC 0 1 1 false)] [] = true := by decide +kernel
theorem kk_P1A1 {e0 : E} {u clo : Int} {cn : Nat} (hp : p1M clo cn e0 1 1 false mP1A1 = true) (h3 : 4 ≤ u) (h4 : u < 4 + 54) (fr wh wt : Int) (he : u = e0.den fun _ => fr) (h1 : clo ≤ fr) (h2 : fr < clo + cn) (w : World) : Calls Tryz.prog 3 #[.agg #[.int .i64 fr, .int .i64 1, .int .i64 1, .bool false], .int .i64 wh, .int .i64 wt] w fun e w' => e = .returned (.bool true) ∧ Grown w w' := by
  obtain ⟨l, hp4, hl⟩ := any_P1A (sg u fr wh wt)
  have ha0 : F2 (AR rho0 (sg u fr wh wt)) [.sym .i64 (.var 1), .int .i64 1, .int .i64 1, .bool false] [.int .i64 fr, .int .i64 1, .int .i64 1, .bool false] := .cons rfl (.cons rfl (.cons rfl (.cons rfl .nil)))
  exact lawOK2 (nc := 1) (t := 1) (s := false) (st := mP1A1) (vs := vP1A) (d := dP1A1) (g := [140, 49, 89, 119, 128, 134]) (m := 141) (σ := sg u fr wh wt) h3 h4 pD_P1A1 dP1A1_c p2_P1A1 vP1A_c
    (fun ext => newOKM (e0 := e0) hp mP1A1_c hm_P1A1 h1 h2 h3 h4 he)
    p3_P1A (sv_P1A h3 h4) hp4 hl (vals := [.agg #[.int .i64 fr, .int .i64 1, .int .i64 1, .bool false], .int .i64 wh, .int .i64 wt]) (.cons ⟨_, rfl, ha0⟩ (.cons rfl (.cons rfl .nil))) w
theorem k_P1A1 (fr wh wt : Int) (h1 : 11 ≤ fr) (h2 : fr ≤ 64) (w : World) : Calls Tryz.prog 3 #[.agg #[.int .i64 fr, .int .i64 1, .int .i64 1, .bool false], .int .i64 wh, .int .i64 wt] w fun e w' => e = .returned (.bool true) ∧ Grown w w' := by
  exact kk_P1A1 (u := fr - 7) p1_P1A1_0 (by omega) (by omega) fr wh wt (den1 7 fr (by omega) (by omega) (by omega) (by omega)) (by omega) (by omega) w
theorem hm_P1A2 : frFits gI (fitTo (.var 1) (.var 1)) ⟨T.ofList [aC 1 2 1 false], .nil, []⟩ ⟨.nil, 0⟩ [(0, aC 0 2 1 false)] [] = true := by decide +kernel
theorem kk_P1A2 {e0 : E} {u clo : Int} {cn : Nat} (hp : p1M clo cn e0 2 1 false mP1A2 = true) (h3 : 4 ≤ u) (h4 : u < 4 + 54) (fr wh wt : Int) (he : u = e0.den fun _ => fr) (h1 : clo ≤ fr) (h2 : fr < clo + cn) (w : World) : Calls Tryz.prog 3 #[.agg #[.int .i64 fr, .int .i64 2, .int .i64 1, .bool false], .int .i64 wh, .int .i64 wt] w fun e w' => e = .returned (.bool true) ∧ Grown w w' := by
  obtain ⟨l, hp4, hl⟩ := any_P1A (sg u fr wh wt)
  have ha0 : F2 (AR rho0 (sg u fr wh wt)) [.sym .i64 (.var 1), .int .i64 2, .int .i64 1, .bool false] [.int .i64 fr, .int .i64 2, .int .i64 1, .bool false] := .cons rfl (.cons rfl (.cons rfl (.cons rfl .nil)))
  exact lawOK2 (nc := 2) (t := 1) (s := false) (st := mP1A2) (vs := vP1A) (d := dP1A2) (g := [143, 50, 90, 120, 129, 135]) (m := 144) (σ := sg u fr wh wt) h3 h4 pD_P1A2 dP1A2_c p2_P1A2 vP1A_c
    (fun ext => newOKM (e0 := e0) hp mP1A2_c hm_P1A2 h1 h2 h3 h4 he)
    p3_P1A (sv_P1A h3 h4) hp4 hl (vals := [.agg #[.int .i64 fr, .int .i64 2, .int .i64 1, .bool false], .int .i64 wh, .int .i64 wt]) (.cons ⟨_, rfl, ha0⟩ (.cons rfl (.cons rfl .nil))) w
theorem k_P1A2 (fr wh wt : Int) (h1 : 11 ≤ fr) (h2 : fr ≤ 64) (w : World) : Calls Tryz.prog 3 #[.agg #[.int .i64 fr, .int .i64 2, .int .i64 1, .bool false], .int .i64 wh, .int .i64 wt] w fun e w' => e = .returned (.bool true) ∧ Grown w w' := by
  exact kk_P1A2 (u := fr - 7) p1_P1A2_0 (by omega) (by omega) fr wh wt (den1 7 fr (by omega) (by omega) (by omega) (by omega)) (by omega) (by omega) w
theorem hm_P1A3 : frFits gI (fitTo (.var 1) (.var 1)) ⟨T.ofList [aC 1 3 1 false], .nil, []⟩ ⟨.nil, 0⟩ [(0, aC 0 3 1 false)] [] = true := by decide +kernel
theorem kk_P1A3 {e0 : E} {u clo : Int} {cn : Nat} (hp : p1M clo cn e0 3 1 false mP1A3 = true) (h3 : 4 ≤ u) (h4 : u < 4 + 54) (fr wh wt : Int) (he : u = e0.den fun _ => fr) (h1 : clo ≤ fr) (h2 : fr < clo + cn) (w : World) : Calls Tryz.prog 3 #[.agg #[.int .i64 fr, .int .i64 3, .int .i64 1, .bool false], .int .i64 wh, .int .i64 wt] w fun e w' => e = .returned (.bool true) ∧ Grown w w' := by
  obtain ⟨l, hp4, hl⟩ := any_P1A (sg u fr wh wt)
  have ha0 : F2 (AR rho0 (sg u fr wh wt)) [.sym .i64 (.var 1), .int .i64 3, .int .i64 1, .bool false] [.int .i64 fr, .int .i64 3, .int .i64 1, .bool false] := .cons rfl (.cons rfl (.cons rfl (.cons rfl .nil)))
  exact lawOK2 (nc := 3) (t := 1) (s := false) (st := mP1A3) (vs := vP1A) (d := dP1A3) (g := [146, 51, 91, 121, 130, 136]) (m := 147) (σ := sg u fr wh wt) h3 h4 pD_P1A3 dP1A3_c p2_P1A3 vP1A_c
    (fun ext => newOKM (e0 := e0) hp mP1A3_c hm_P1A3 h1 h2 h3 h4 he)
    p3_P1A (sv_P1A h3 h4) hp4 hl (vals := [.agg #[.int .i64 fr, .int .i64 3, .int .i64 1, .bool false], .int .i64 wh, .int .i64 wt]) (.cons ⟨_, rfl, ha0⟩ (.cons rfl (.cons rfl .nil))) w
theorem k_P1A3 (fr wh wt : Int) (h1 : 11 ≤ fr) (h2 : fr ≤ 64) (w : World) : Calls Tryz.prog 3 #[.agg #[.int .i64 fr, .int .i64 3, .int .i64 1, .bool false], .int .i64 wh, .int .i64 wt] w fun e w' => e = .returned (.bool true) ∧ Grown w w' := by
  exact kk_P1A3 (u := fr - 7) p1_P1A3_0 (by omega) (by omega) fr wh wt (den1 7 fr (by omega) (by omega) (by omega) (by omega)) (by omega) (by omega) w
theorem sv_P2A {σ : Sig} (h3 : 4 ≤ σ 0) (h4 : σ 0 < 4 + 22) : ∀ C : Cfg, C.fu = Tab.fuT.get → Al (SummV Tryz.prog σ C) sP2A := fun C hC =>
  .cons (sumV_ok pV_P2A_30 h3 h4 C hC) (.cons (sumV_ok pV_P2A_31 h3 h4 C hC) (.cons (sumV_ok pV_P2A_32 h3 h4 C hC) (.cons (sumV_ok pV_P2A_33 h3 h4 C hC) .nil)))
theorem any_P2A (σ : Sig) : ∃ l, p4 4 22 sP2A l vP2A = true ∧ ∀ C : Cfg, C.fu = Tab.fuT.get → Al (Summ Tryz.prog σ C) l := by
  obtain ⟨k, hk, e⟩ := low_nat (n := 5) (by omega) (σ 3)
  match k, hk, e with
  | 0, hk, e => exact ⟨low1 0, p4_P2A_0_0, ls1 hk e⟩
  | 2, hk, e => exact ⟨low1 2, p4_P2A_2_0, ls1 hk e⟩
  | 1, hk, e =>
    obtain ⟨j, hj, e2⟩ := low_nat (n := 15) (by omega) (σ 2)
    match j, hj, e2 with
    | 0, hj, e2 => exact ⟨low2 1 15 0, p4_P2A_1_0, ls2 hk e lw2_15 (by omega) hj e2⟩
    | 1, hj, e2 => exact ⟨low2 1 15 1, p4_P2A_1_1, ls2 hk e lw2_15 (by omega) hj e2⟩
    | 2, hj, e2 => exact ⟨low2 1 15 2, p4_P2A_1_2, ls2 hk e lw2_15 (by omega) hj e2⟩
    | 3, hj, e2 => exact ⟨low2 1 15 3, p4_P2A_1_3, ls2 hk e lw2_15 (by omega) hj e2⟩
    | 4, hj, e2 => exact ⟨low2 1 15 4, p4_P2A_1_4, ls2 hk e lw2_15 (by omega) hj e2⟩
    | 5, hj, e2 => exact ⟨low2 1 15 5, p4_P2A_1_5, ls2 hk e lw2_15 (by omega) hj e2⟩
    | 6, hj, e2 => exact ⟨low2 1 15 6, p4_P2A_1_6, ls2 hk e lw2_15 (by omega) hj e2⟩
    | 7, hj, e2 => exact ⟨low2 1 15 7, p4_P2A_1_7, ls2 hk e lw2_15 (by omega) hj e2⟩
    | 8, hj, e2 => exact ⟨low2 1 15 8, p4_P2A_1_8, ls2 hk e lw2_15 (by omega) hj e2⟩
    | 9, hj, e2 => exact ⟨low2 1 15 9, p4_P2A_1_9, ls2 hk e lw2_15 (by omega) hj e2⟩
    | 10, hj, e2 => exact ⟨low2 1 15 10, p4_P2A_1_10, ls2 hk e lw2_15 (by omega) hj e2⟩
    | 11, hj, e2 => exact ⟨low2 1 15 11, p4_P2A_1_11, ls2 hk e lw2_15 (by omega) hj e2⟩
    | 12, hj, e2 => exact ⟨low2 1 15 12, p4_P2A_1_12, ls2 hk e lw2_15 (by omega) hj e2⟩
    | 13, hj, e2 => exact ⟨low2 1 15 13, p4_P2A_1_13, ls2 hk e lw2_15 (by omega) hj e2⟩
    | 14, hj, e2 => exact ⟨low2 1 15 14, p4_P2A_1_14, ls2 hk e lw2_15 (by omega) hj e2⟩
    | j + 15, hj, e2 => exact absurd hj (by omega)
  | 3, hk, e =>
    obtain ⟨j, hj, e2⟩ := low_nat (n := 9) (by omega) (σ 2)
    match j, hj, e2 with
    | 0, hj, e2 => exact ⟨low2 3 9 0, p4_P2A_3_0, ls2 hk e lw2_9 (by omega) hj e2⟩
    | 1, hj, e2 => exact ⟨low2 3 9 1, p4_P2A_3_1, ls2 hk e lw2_9 (by omega) hj e2⟩
    | 2, hj, e2 => exact ⟨low2 3 9 2, p4_P2A_3_2, ls2 hk e lw2_9 (by omega) hj e2⟩
    | 3, hj, e2 => exact ⟨low2 3 9 3, p4_P2A_3_3, ls2 hk e lw2_9 (by omega) hj e2⟩
    | 4, hj, e2 => exact ⟨low2 3 9 4, p4_P2A_3_4, ls2 hk e lw2_9 (by omega) hj e2⟩
    | 5, hj, e2 => exact ⟨low2 3 9 5, p4_P2A_3_5, ls2 hk e lw2_9 (by omega) hj e2⟩
    | 6, hj, e2 => exact ⟨low2 3 9 6, p4_P2A_3_6, ls2 hk e lw2_9 (by omega) hj e2⟩
    | 7, hj, e2 => exact ⟨low2 3 9 7, p4_P2A_3_7, ls2 hk e lw2_9 (by omega) hj e2⟩
    | 8, hj, e2 => exact ⟨low2 3 9 8, p4_P2A_3_8, ls2 hk e lw2_9 (by omega) hj e2⟩
    | j + 9, hj, e2 => exact absurd hj (by omega)
  | 4, hk, e =>
    obtain ⟨j, hj, e2⟩ := low_nat (n := 2) (by omega) (σ 2)
    match j, hj, e2 with
    | 0, hj, e2 => exact ⟨low2 4 2 0, p4_P2A_4_0, ls2 hk e lw2_2 (by omega) hj e2⟩
    | 1, hj, e2 => exact ⟨low2 4 2 1, p4_P2A_4_1, ls2 hk e lw2_2 (by omega) hj e2⟩
    | j + 2, hj, e2 => exact absurd hj (by omega)
theorem hm_P2A1 : frFits gI (fitTo (.var 1) (.var 1)) ⟨T.ofList [aC 1 1 2 false], .nil, []⟩ ⟨.nil, 0⟩ [(0, aC 0 1 2 false)] [] = true := by decide +kernel
theorem kk_P2A1 {e0 : E} {u clo : Int} {cn : Nat} (hp : p1M clo cn e0 1 2 false mP2A1 = true) (h3 : 4 ≤ u) (h4 : u < 4 + 22) (fr wh wt : Int) (he : u = e0.den fun _ => fr) (h1 : clo ≤ fr) (h2 : fr < clo + cn) (w : World) : Calls Tryz.prog 3 #[.agg #[.int .i64 fr, .int .i64 1, .int .i64 2, .bool false], .int .i64 wh, .int .i64 wt] w fun e w' => e = .returned (.bool true) ∧ Grown w w' := by
  obtain ⟨l, hp4, hl⟩ := any_P2A (sg u fr wh wt)
  have ha0 : F2 (AR rho0 (sg u fr wh wt)) [.sym .i64 (.var 1), .int .i64 1, .int .i64 2, .bool false] [.int .i64 fr, .int .i64 1, .int .i64 2, .bool false] := .cons rfl (.cons rfl (.cons rfl (.cons rfl .nil)))
  exact lawOK4 (nc := 1) (t := 2) (s := false) (st := mP2A1) (vs := vP2A) (d := dP2A1) (g := [216, 68, 148, 192, 204, 210]) (m := 217) (σ := sg u fr wh wt) h3 h4 pD_P2A1 dP2A1_c p2_P2A1 vP2A_c
    (fun ext => newOKM (e0 := e0) hp mP2A1_c hm_P2A1 h1 h2 h3 h4 he)
    p3_P2A (sv_P2A h3 h4) hp4 hl (vals := [.agg #[.int .i64 fr, .int .i64 1, .int .i64 2, .bool false], .int .i64 wh, .int .i64 wt]) (.cons ⟨_, rfl, ha0⟩ (.cons rfl (.cons rfl .nil))) w
theorem k_P2A1 (fr wh wt : Int) (h1 : 22 ≤ fr) (h2 : fr ≤ 64) (w : World) : Calls Tryz.prog 3 #[.agg #[.int .i64 fr, .int .i64 1, .int .i64 2, .bool false], .int .i64 wh, .int .i64 wt] w fun e w' => e = .returned (.bool true) ∧ Grown w w' := by
  by_cases q0 : fr < 24
  · exact kk_P2A1 (u := 4) p1_P2A1_0 (by omega) (by omega) fr wh wt rfl (by omega) (by omega) w
  by_cases q1 : fr < 26
  · exact kk_P2A1 (u := 5) p1_P2A1_1 (by omega) (by omega) fr wh wt rfl (by omega) (by omega) w
  by_cases q2 : fr < 28
  · exact kk_P2A1 (u := 6) p1_P2A1_2 (by omega) (by omega) fr wh wt rfl (by omega) (by omega) w
  by_cases q3 : fr < 30
  · exact kk_P2A1 (u := 7) p1_P2A1_3 (by omega) (by omega) fr wh wt rfl (by omega) (by omega) w
  by_cases q4 : fr < 32
  · exact kk_P2A1 (u := 8) p1_P2A1_4 (by omega) (by omega) fr wh wt rfl (by omega) (by omega) w
  by_cases q5 : fr < 34
  · exact kk_P2A1 (u := 9) p1_P2A1_5 (by omega) (by omega) fr wh wt rfl (by omega) (by omega) w
  by_cases q6 : fr < 36
  · exact kk_P2A1 (u := 10) p1_P2A1_6 (by omega) (by omega) fr wh wt rfl (by omega) (by omega) w
  by_cases q7 : fr < 38
  · exact kk_P2A1 (u := 11) p1_P2A1_7 (by omega) (by omega) fr wh wt rfl (by omega) (by omega) w
  by_cases q8 : fr < 40
  · exact kk_P2A1 (u := 12) p1_P2A1_8 (by omega) (by omega) fr wh wt rfl (by omega) (by omega) w
  by_cases q9 : fr < 42
  · exact kk_P2A1 (u := 13) p1_P2A1_9 (by omega) (by omega) fr wh wt rfl (by omega) (by omega) w
  by_cases q10 : fr < 44
  · exact kk_P2A1 (u := 14) p1_P2A1_10 (by omega) (by omega) fr wh wt rfl (by omega) (by omega) w
  by_cases q11 : fr < 46
  · exact kk_P2A1 (u := 15) p1_P2A1_11 (by omega) (by omega) fr wh wt rfl (by omega) (by omega) w
  by_cases q12 : fr < 48
  · exact kk_P2A1 (u := 16) p1_P2A1_12 (by omega) (by omega) fr wh wt rfl (by omega) (by omega) w
  by_cases q13 : fr < 50
  · exact kk_P2A1 (u := 17) p1_P2A1_13 (by omega) (by omega) fr wh wt rfl (by omega) (by omega) w
  by_cases q14 : fr < 52
  · exact kk_P2A1 (u := 18) p1_P2A1_14 (by omega) (by omega) fr wh wt rfl (by omega) (by omega) w
  by_cases q15 : fr < 54
  · exact kk_P2A1 (u := 19) p1_P2A1_15 (by omega) (by omega) fr wh wt rfl (by omega) (by omega) w
  by_cases q16 : fr < 56
  · exact kk_P2A1 (u := 20) p1_P2A1_16 (by omega) (by omega) fr wh wt rfl (by omega) (by omega) w
  by_cases q17 : fr < 58
  · exact kk_P2A1 (u := 21) p1_P2A1_17 (by omega) (by omega) fr wh wt rfl (by omega) (by omega) w
  by_cases q18 : fr < 60
  · exact kk_P2A1 (u := 22) p1_P2A1_18 (by omega) (by omega) fr wh wt rfl (by omega) (by omega) w
  by_cases q19 : fr < 62
  · exact kk_P2A1 (u := 23) p1_P2A1_19 (by omega) (by omega) fr wh wt rfl (by omega) (by omega) w
  by_cases q20 : fr < 64
  · exact kk_P2A1 (u := 24) p1_P2A1_20 (by omega) (by omega) fr wh wt rfl (by omega) (by omega) w
  exact kk_P2A1 (u := 25) p1_P2A1_21 (by omega) (by omega) fr wh wt rfl (by omega) (by omega) w
theorem hm_P2A2 : frFits gI (fitTo (.var 1) (.var 1)) ⟨T.ofList [aC 1 2 2 false], .nil, []⟩ ⟨.nil, 0⟩ [(0, aC 0 2 2 false)] [] = true := by decide +kernel
theorem kk_P2A2 {e0 : E} {u clo : Int} {cn : Nat} (hp : p1M clo cn e0 2 2 false mP2A2 = true) (h3 : 4 ≤ u) (h4 : u < 4 + 22) (fr wh wt : Int) (he : u = e0.den fun _ => fr) (h1 : clo ≤ fr) (h2 : fr < clo + cn) (w : World) : Calls Tryz.prog 3 #[.agg #[.int .i64 fr, .int .i64 2, .int .i64 2, .bool false], .int .i64 wh, .int .i64 wt] w fun e w' => e = .returned (.bool true) ∧ Grown w w' := by
  obtain ⟨l, hp4, hl⟩ := any_P2A (sg u fr wh wt)
  have ha0 : F2 (AR rho0 (sg u fr wh wt)) [.sym .i64 (.var 1), .int .i64 2, .int .i64 2, .bool false] [.int .i64 fr, .int .i64 2, .int .i64 2, .bool false] := .cons rfl (.cons rfl (.cons rfl (.cons rfl .nil)))
  exact lawOK4 (nc := 2) (t := 2) (s := false) (st := mP2A2) (vs := vP2A) (d := dP2A2) (g := [219, 69, 149, 193, 205, 211]) (m := 220) (σ := sg u fr wh wt) h3 h4 pD_P2A2 dP2A2_c p2_P2A2 vP2A_c
    (fun ext => newOKM (e0 := e0) hp mP2A2_c hm_P2A2 h1 h2 h3 h4 he)
    p3_P2A (sv_P2A h3 h4) hp4 hl (vals := [.agg #[.int .i64 fr, .int .i64 2, .int .i64 2, .bool false], .int .i64 wh, .int .i64 wt]) (.cons ⟨_, rfl, ha0⟩ (.cons rfl (.cons rfl .nil))) w
theorem k_P2A2 (fr wh wt : Int) (h1 : 22 ≤ fr) (h2 : fr ≤ 64) (w : World) : Calls Tryz.prog 3 #[.agg #[.int .i64 fr, .int .i64 2, .int .i64 2, .bool false], .int .i64 wh, .int .i64 wt] w fun e w' => e = .returned (.bool true) ∧ Grown w w' := by
  by_cases q0 : fr < 24
  · exact kk_P2A2 (u := 4) p1_P2A2_0 (by omega) (by omega) fr wh wt rfl (by omega) (by omega) w
  by_cases q1 : fr < 26
  · exact kk_P2A2 (u := 5) p1_P2A2_1 (by omega) (by omega) fr wh wt rfl (by omega) (by omega) w
  by_cases q2 : fr < 28
  · exact kk_P2A2 (u := 6) p1_P2A2_2 (by omega) (by omega) fr wh wt rfl (by omega) (by omega) w
  by_cases q3 : fr < 30
  · exact kk_P2A2 (u := 7) p1_P2A2_3 (by omega) (by omega) fr wh wt rfl (by omega) (by omega) w
  by_cases q4 : fr < 32
  · exact kk_P2A2 (u := 8) p1_P2A2_4 (by omega) (by omega) fr wh wt rfl (by omega) (by omega) w
  by_cases q5 : fr < 34
  · exact kk_P2A2 (u := 9) p1_P2A2_5 (by omega) (by omega) fr wh wt rfl (by omega) (by omega) w
  by_cases q6 : fr < 36
  · exact kk_P2A2 (u := 10) p1_P2A2_6 (by omega) (by omega) fr wh wt rfl (by omega) (by omega) w
  by_cases q7 : fr < 38
  · exact kk_P2A2 (u := 11) p1_P2A2_7 (by omega) (by omega) fr wh wt rfl (by omega) (by omega) w
  by_cases q8 : fr < 40
  · exact kk_P2A2 (u := 12) p1_P2A2_8 (by omega) (by omega) fr wh wt rfl (by omega) (by omega) w
  by_cases q9 : fr < 42
  · exact kk_P2A2 (u := 13) p1_P2A2_9 (by omega) (by omega) fr wh wt rfl (by omega) (by omega) w
  by_cases q10 : fr < 44
  · exact kk_P2A2 (u := 14) p1_P2A2_10 (by omega) (by omega) fr wh wt rfl (by omega) (by omega) w
  by_cases q11 : fr < 46
  · exact kk_P2A2 (u := 15) p1_P2A2_11 (by omega) (by omega) fr wh wt rfl (by omega) (by omega) w
  by_cases q12 : fr < 48
  · exact kk_P2A2 (u := 16) p1_P2A2_12 (by omega) (by omega) fr wh wt rfl (by omega) (by omega) w
  by_cases q13 : fr < 50
  · exact kk_P2A2 (u := 17) p1_P2A2_13 (by omega) (by omega) fr wh wt rfl (by omega) (by omega) w
  by_cases q14 : fr < 52
  · exact kk_P2A2 (u := 18) p1_P2A2_14 (by omega) (by omega) fr wh wt rfl (by omega) (by omega) w
  by_cases q15 : fr < 54
  · exact kk_P2A2 (u := 19) p1_P2A2_15 (by omega) (by omega) fr wh wt rfl (by omega) (by omega) w
  by_cases q16 : fr < 56
  · exact kk_P2A2 (u := 20) p1_P2A2_16 (by omega) (by omega) fr wh wt rfl (by omega) (by omega) w
  by_cases q17 : fr < 58
  · exact kk_P2A2 (u := 21) p1_P2A2_17 (by omega) (by omega) fr wh wt rfl (by omega) (by omega) w
  by_cases q18 : fr < 60
  · exact kk_P2A2 (u := 22) p1_P2A2_18 (by omega) (by omega) fr wh wt rfl (by omega) (by omega) w
  by_cases q19 : fr < 62
  · exact kk_P2A2 (u := 23) p1_P2A2_19 (by omega) (by omega) fr wh wt rfl (by omega) (by omega) w
  by_cases q20 : fr < 64
  · exact kk_P2A2 (u := 24) p1_P2A2_20 (by omega) (by omega) fr wh wt rfl (by omega) (by omega) w
  exact kk_P2A2 (u := 25) p1_P2A2_21 (by omega) (by omega) fr wh wt rfl (by omega) (by omega) w
theorem hm_P2A3 : frFits gI (fitTo (.var 1) (.var 1)) ⟨T.ofList [aC 1 3 2 false], .nil, []⟩ ⟨.nil, 0⟩ [(0, aC 0 3 2 false)] [] = true := by decide +kernel
theorem kk_P2A3 {e0 : E} {u clo : Int} {cn : Nat} (hp : p1M clo cn e0 3 2 false mP2A3 = true) (h3 : 4 ≤ u) (h4 : u < 4 + 22) (fr wh wt : Int) (he : u = e0.den fun _ => fr) (h1 : clo ≤ fr) (h2 : fr < clo + cn) (w : World) : Calls Tryz.prog 3 #[.agg #[.int .i64 fr, .int .i64 3, .int .i64 2, .bool false], .int .i64 wh, .int .i64 wt] w fun e w' => e = .returned (.bool true) ∧ Grown w w' := by
  obtain ⟨l, hp4, hl⟩ := any_P2A (sg u fr wh wt)
  have ha0 : F2 (AR rho0 (sg u fr wh wt)) [.sym .i64 (.var 1), .int .i64 3, .int .i64 2, .bool false] [.int .i64 fr, .int .i64 3, .int .i64 2, .bool false] := .cons rfl (.cons rfl (.cons rfl (.cons rfl .nil)))
  exact lawOK4 (nc := 3) (t := 2) (s := false) (st := mP2A3) (vs := vP2A) (d := dP2A3) (g := [222, 70, 150, 194, 206, 212]) (m := 223) (σ := sg u fr wh wt) h3 h4 pD_P2A3 dP2A3_c p2_P2A3 vP2A_c
    (fun ext => newOKM (e0 := e0) hp mP2A3_c hm_P2A3 h1 h2 h3 h4 he)
    p3_P2A (sv_P2A h3 h4) hp4 hl (vals := [.agg #[.int .i64 fr, .int .i64 3, .int .i64 2, .bool false], .int .i64 wh, .int .i64 wt]) (.cons ⟨_, rfl, ha0⟩ (.cons rfl (.cons rfl .nil))) w
theorem k_P2A3 (fr wh wt : Int) (h1 : 22 ≤ fr) (h2 : fr ≤ 64) (w : World) : Calls Tryz.prog 3 #[.agg #[.int .i64 fr, .int .i64 3, .int .i64 2, .bool false], .int .i64 wh, .int .i64 wt] w fun e w' => e = .returned (.bool true) ∧ Grown w w' := by
  by_cases q0 : fr < 24
  · exact kk_P2A3 (u := 4) p1_P2A3_0 (by omega) (by omega) fr wh wt rfl (by omega) (by omega) w
  by_cases q1 : fr < 26
  · exact kk_P2A3 (u := 5) p1_P2A3_1 (by omega) (by omega) fr wh wt rfl (by omega) (by omega) w
  by_cases q2 : fr < 28
  · exact kk_P2A3 (u := 6) p1_P2A3_2 (by omega) (by omega) fr wh wt rfl (by omega) (by omega) w
  by_cases q3 : fr < 30
  · exact kk_P2A3 (u := 7) p1_P2A3_3 (by omega) (by omega) fr wh wt rfl (by omega) (by omega) w
  by_cases q4 : fr < 32
  · exact kk_P2A3 (u := 8) p1_P2A3_4 (by omega) (by omega) fr wh wt rfl (by omega) (by omega) w
  by_cases q5 : fr < 34
  · exact kk_P2A3 (u := 9) p1_P2A3_5 (by omega) (by omega) fr wh wt rfl (by omega) (by omega) w
  by_cases q6 : fr < 36
  · exact kk_P2A3 (u := 10) p1_P2A3_6 (by omega) (by omega) fr wh wt rfl (by omega) (by omega) w
  by_cases q7 : fr < 38
  · exact kk_P2A3 (u := 11) p1_P2A3_7 (by omega) (by omega) fr wh wt rfl (by omega) (by omega) w
  by_cases q8 : fr < 40
  · exact kk_P2A3 (u := 12) p1_P2A3_8 (by omega) (by omega) fr wh wt rfl (by omega) (by omega) w
  by_cases q9 : fr < 42
  · exact kk_P2A3 (u := 13) p1_P2A3_9 (by omega) (by omega) fr wh wt rfl (by omega) (by omega) w
  by_cases q10 : fr < 44
  · exact kk_P2A3 (u := 14) p1_P2A3_10 (by omega) (by omega) fr wh wt rfl (by omega) (by omega) w
  by_cases q11 : fr < 46
  · exact kk_P2A3 (u := 15) p1_P2A3_11 (by omega) (by omega) fr wh wt rfl (by omega) (by omega) w
  by_cases q12 : fr < 48
  · exact kk_P2A3 (u := 16) p1_P2A3_12 (by omega) (by omega) fr wh wt rfl (by omega) (by omega) w
  by_cases q13 : fr < 50
  · exact kk_P2A3 (u := 17) p1_P2A3_13 (by omega) (by omega) fr wh wt rfl (by omega) (by omega) w
  by_cases q14 : fr < 52
  · exact kk_P2A3 (u := 18) p1_P2A3_14 (by omega) (by omega) fr wh wt rfl (by omega) (by omega) w
  by_cases q15 : fr < 54
  · exact kk_P2A3 (u := 19) p1_P2A3_15 (by omega) (by omega) fr wh wt rfl (by omega) (by omega) w
  by_cases q16 : fr < 56
  · exact kk_P2A3 (u := 20) p1_P2A3_16 (by omega) (by omega) fr wh wt rfl (by omega) (by omega) w
  by_cases q17 : fr < 58
  · exact kk_P2A3 (u := 21) p1_P2A3_17 (by omega) (by omega) fr wh wt rfl (by omega) (by omega) w
  by_cases q18 : fr < 60
  · exact kk_P2A3 (u := 22) p1_P2A3_18 (by omega) (by omega) fr wh wt rfl (by omega) (by omega) w
  by_cases q19 : fr < 62
  · exact kk_P2A3 (u := 23) p1_P2A3_19 (by omega) (by omega) fr wh wt rfl (by omega) (by omega) w
  by_cases q20 : fr < 64
  · exact kk_P2A3 (u := 24) p1_P2A3_20 (by omega) (by omega) fr wh wt rfl (by omega) (by omega) w
  exact kk_P2A3 (u := 25) p1_P2A3_21 (by omega) (by omega) fr wh wt rfl (by omega) (by omega) w
theorem sv_P3A {σ : Sig} (h3 : 4 ≤ σ 0) (h4 : σ 0 < 4 + 11) : ∀ C : Cfg, C.fu = Tab.fuT.get → Al (SummV Tryz.prog σ C) sP3A := fun C hC =>
  .cons (sumV_ok pV_P3A_30 h3 h4 C hC) (.cons (sumV_ok pV_P3A_31 h3 h4 C hC) (.cons (sumV_ok pV_P3A_32 h3 h4 C hC) (.cons (sumV_ok pV_P3A_33 h3 h4 C hC) .nil)))
theorem any_P3A (σ : Sig) : ∃ l, p4 4 11 sP3A l vP3A = true ∧ ∀ C : Cfg, C.fu = Tab.fuT.get → Al (Summ Tryz.prog σ C) l := by
  obtain ⟨k, hk, e⟩ := low_nat (n := 5) (by omega) (σ 3)
  match k, hk, e with
  | 0, hk, e => exact ⟨low1 0, p4_P3A_0_0, ls1 hk e⟩
  | 2, hk, e => exact ⟨low1 2, p4_P3A_2_0, ls1 hk e⟩
  | 1, hk, e =>
    obtain ⟨j, hj, e2⟩ := low_nat (n := 22) (by omega) (σ 2)
    match j, hj, e2 with
    | 0, hj, e2 => exact ⟨low2 1 22 0, p4_P3A_1_0, ls2 hk e lw2_22 (by omega) hj e2⟩
    | 1, hj, e2 => exact ⟨low2 1 22 1, p4_P3A_1_1, ls2 hk e lw2_22 (by omega) hj e2⟩
    | 2, hj, e2 => exact ⟨low2 1 22 2, p4_P3A_1_2, ls2 hk e lw2_22 (by omega) hj e2⟩
    | 3, hj, e2 => exact ⟨low2 1 22 3, p4_P3A_1_3, ls2 hk e lw2_22 (by omega) hj e2⟩
    | 4, hj, e2 => exact ⟨low2 1 22 4, p4_P3A_1_4, ls2 hk e lw2_22 (by omega) hj e2⟩
    | 5, hj, e2 => exact ⟨low2 1 22 5, p4_P3A_1_5, ls2 hk e lw2_22 (by omega) hj e2⟩
    | 6, hj, e2 => exact ⟨low2 1 22 6, p4_P3A_1_6, ls2 hk e lw2_22 (by omega) hj e2⟩
    | 7, hj, e2 => exact ⟨low2 1 22 7, p4_P3A_1_7, ls2 hk e lw2_22 (by omega) hj e2⟩
    | 8, hj, e2 => exact ⟨low2 1 22 8, p4_P3A_1_8, ls2 hk e lw2_22 (by omega) hj e2⟩
    | 9, hj, e2 => exact ⟨low2 1 22 9, p4_P3A_1_9, ls2 hk e lw2_22 (by omega) hj e2⟩
    | 10, hj, e2 => exact ⟨low2 1 22 10, p4_P3A_1_10, ls2 hk e lw2_22 (by omega) hj e2⟩
    | 11, hj, e2 => exact ⟨low2 1 22 11, p4_P3A_1_11, ls2 hk e lw2_22 (by omega) hj e2⟩
    | 12, hj, e2 => exact ⟨low2 1 22 12, p4_P3A_1_12, ls2 hk e lw2_22 (by omega) hj e2⟩
    | 13, hj, e2 => exact ⟨low2 1 22 13, p4_P3A_1_13, ls2 hk e lw2_22 (by omega) hj e2⟩
    | 14, hj, e2 => exact ⟨low2 1 22 14, p4_P3A_1_14, ls2 hk e lw2_22 (by omega) hj e2⟩
    | 15, hj, e2 => exact ⟨low2 1 22 15, p4_P3A_1_15, ls2 hk e lw2_22 (by omega) hj e2⟩
    | 16, hj, e2 => exact ⟨low2 1 22 16, p4_P3A_1_16, ls2 hk e lw2_22 (by omega) hj e2⟩
    | 17, hj, e2 => exact ⟨low2 1 22 17, p4_P3A_1_17, ls2 hk e lw2_22 (by omega) hj e2⟩
    | 18, hj, e2 => exact ⟨low2 1 22 18, p4_P3A_1_18, ls2 hk e lw2_22 (by omega) hj e2⟩
    | 19, hj, e2 => exact ⟨low2 1 22 19, p4_P3A_1_19, ls2 hk e lw2_22 (by omega) hj e2⟩
    | 20, hj, e2 => exact ⟨low2 1 22 20, p4_P3A_1_20, ls2 hk e lw2_22 (by omega) hj e2⟩
    | 21, hj, e2 => exact ⟨low2 1 22 21, p4_P3A_1_21, ls2 hk e lw2_22 (by omega) hj e2⟩
    | j + 22, hj, e2 => exact absurd hj (by omega)
  | 3, hk, e =>
    obtain ⟨j, hj, e2⟩ := low_nat (n := 14) (by omega) (σ 2)
    match j, hj, e2 with
    | 0, hj, e2 => exact ⟨low2 3 14 0, p4_P3A_3_0, ls2 hk e lw2_14 (by omega) hj e2⟩
    | 1, hj, e2 => exact ⟨low2 3 14 1, p4_P3A_3_1, ls2 hk e lw2_14 (by omega) hj e2⟩
    | 2, hj, e2 => exact ⟨low2 3 14 2, p4_P3A_3_2, ls2 hk e lw2_14 (by omega) hj e2⟩
    | 3, hj, e2 => exact ⟨low2 3 14 3, p4_P3A_3_3, ls2 hk e lw2_14 (by omega) hj e2⟩
    | 4, hj, e2 => exact ⟨low2 3 14 4, p4_P3A_3_4, ls2 hk e lw2_14 (by omega) hj e2⟩
    | 5, hj, e2 => exact ⟨low2 3 14 5, p4_P3A_3_5, ls2 hk e lw2_14 (by omega) hj e2⟩
    | 6, hj, e2 => exact ⟨low2 3 14 6, p4_P3A_3_6, ls2 hk e lw2_14 (by omega) hj e2⟩
    | 7, hj, e2 => exact ⟨low2 3 14 7, p4_P3A_3_7, ls2 hk e lw2_14 (by omega) hj e2⟩
    | 8, hj, e2 => exact ⟨low2 3 14 8, p4_P3A_3_8, ls2 hk e lw2_14 (by omega) hj e2⟩
    | 9, hj, e2 => exact ⟨low2 3 14 9, p4_P3A_3_9, ls2 hk e lw2_14 (by omega) hj e2⟩
    | 10, hj, e2 => exact ⟨low2 3 14 10, p4_P3A_3_10, ls2 hk e lw2_14 (by omega) hj e2⟩
    | 11, hj, e2 => exact ⟨low2 3 14 11, p4_P3A_3_11, ls2 hk e lw2_14 (by omega) hj e2⟩
    | 12, hj, e2 => exact ⟨low2 3 14 12, p4_P3A_3_12, ls2 hk e lw2_14 (by omega) hj e2⟩
    | 13, hj, e2 => exact ⟨low2 3 14 13, p4_P3A_3_13, ls2 hk e lw2_14 (by omega) hj e2⟩
    | j + 14, hj, e2 => exact absurd hj (by omega)
  | 4, hk, e =>
    obtain ⟨j, hj, e2⟩ := low_nat (n := 3) (by omega) (σ 2)
    match j, hj, e2 with
    | 0, hj, e2 => exact ⟨low2 4 3 0, p4_P3A_4_0, ls2 hk e lw2_3 (by omega) hj e2⟩
    | 1, hj, e2 => exact ⟨low2 4 3 1, p4_P3A_4_1, ls2 hk e lw2_3 (by omega) hj e2⟩
    | 2, hj, e2 => exact ⟨low2 4 3 2, p4_P3A_4_2, ls2 hk e lw2_3 (by omega) hj e2⟩
    | j + 3, hj, e2 => exact absurd hj (by omega)
theorem hm_P3A1 : frFits gI (fitTo (.var 1) (.var 1)) ⟨T.ofList [aC 1 1 3 false], .nil, []⟩ ⟨.nil, 0⟩ [(0, aC 0 1 3 false)] [] = true := by decide +kernel
theorem kk_P3A1 {e0 : E} {u clo : Int} {cn : Nat} (hp : p1M clo cn e0 1 3 false mP3A1 = true) (h3 : 4 ≤ u) (h4 : u < 4 + 11) (fr wh wt : Int) (he : u = e0.den fun _ => fr) (h1 : clo ≤ fr) (h2 : fr < clo + cn) (w : World) : Calls Tryz.prog 3 #[.agg #[.int .i64 fr, .int .i64 1, .int .i64 3, .bool false], .int .i64 wh, .int .i64 wt] w fun e w' => e = .returned (.bool true) ∧ Grown w w' := by
  obtain ⟨l, hp4, hl⟩ := any_P3A (sg u fr wh wt)
  have ha0 : F2 (AR rho0 (sg u fr wh wt)) [.sym .i64 (.var 1), .int .i64 1, .int .i64 3, .bool false] [.int .i64 fr, .int .i64 1, .int .i64 3, .bool false] := .cons rfl (.cons rfl (.cons rfl (.cons rfl .nil)))
  exact lawOK4 (nc := 1) (t := 3) (s := false) (st := mP3A1) (vs := vP3A) (d := dP3A1) (g := [292, 87, 207, 265, 280, 286]) (m := 293) (σ := sg u fr wh wt) h3 h4 pD_P3A1 dP3A1_c p2_P3A1 vP3A_c
    (fun ext => newOKM (e0 := e0) hp mP3A1_c hm_P3A1 h1 h2 h3 h4 he)
    p3_P3A (sv_P3A h3 h4) hp4 hl (vals := [.agg #[.int .i64 fr, .int .i64 1, .int .i64 3, .bool false], .int .i64 wh, .int .i64 wt]) (.cons ⟨_, rfl, ha0⟩ (.cons rfl (.cons rfl .nil))) w
theorem k_P3A1 (fr wh wt : Int) (h1 : 33 ≤ fr) (h2 : fr ≤ 64) (w : World) : Calls Tryz.prog 3 #[.agg #[.int .i64 fr, .int .i64 1, .int .i64 3, .bool false], .int .i64 wh, .int .i64 wt] w fun e w' => e = .returned (.bool true) ∧ Grown w w' := by
  by_cases q0 : fr < 36
  · exact kk_P3A1 (u := 4) p1_P3A1_0 (by omega) (by omega) fr wh wt rfl (by omega) (by omega) w
  by_cases q1 : fr < 39
  · exact kk_P3A1 (u := 5) p1_P3A1_1 (by omega) (by omega) fr wh wt rfl (by omega) (by omega) w
  by_cases q2 : fr < 42
  · exact kk_P3A1 (u := 6) p1_P3A1_2 (by omega) (by omega) fr wh wt rfl (by omega) (by omega) w
  by_cases q3 : fr < 45
  · exact kk_P3A1 (u := 7) p1_P3A1_3 (by omega) (by omega) fr wh wt rfl (by omega) (by omega) w
  by_cases q4 : fr < 48
  · exact kk_P3A1 (u := 8) p1_P3A1_4 (by omega) (by omega) fr wh wt rfl (by omega) (by omega) w
  by_cases q5 : fr < 51
  · exact kk_P3A1 (u := 9) p1_P3A1_5 (by omega) (by omega) fr wh wt rfl (by omega) (by omega) w
  by_cases q6 : fr < 54
  · exact kk_P3A1 (u := 10) p1_P3A1_6 (by omega) (by omega) fr wh wt rfl (by omega) (by omega) w
  by_cases q7 : fr < 57
  · exact kk_P3A1 (u := 11) p1_P3A1_7 (by omega) (by omega) fr wh wt rfl (by omega) (by omega) w
  by_cases q8 : fr < 60
  · exact kk_P3A1 (u := 12) p1_P3A1_8 (by omega) (by omega) fr wh wt rfl (by omega) (by omega) w
  by_cases q9 : fr < 63
  · exact kk_P3A1 (u := 13) p1_P3A1_9 (by omega) (by omega) fr wh wt rfl (by omega) (by omega) w
  exact kk_P3A1 (u := 14) p1_P3A1_10 (by omega) (by omega) fr wh wt rfl (by omega) (by omega) w
theorem hm_P3A2 : frFits gI (fitTo (.var 1) (.var 1)) ⟨T.ofList [aC 1 2 3 false], .nil, []⟩ ⟨.nil, 0⟩ [(0, aC 0 2 3 false)] [] = true := by decide +kernel
theorem kk_P3A2 {e0 : E} {u clo : Int} {cn : Nat} (hp : p1M clo cn e0 2 3 false mP3A2 = true) (h3 : 4 ≤ u) (h4 : u < 4 + 11) (fr wh wt : Int) (he : u = e0.den fun _ => fr) (h1 : clo ≤ fr) (h2 : fr < clo + cn) (w : World) : Calls Tryz.prog 3 #[.agg #[.int .i64 fr, .int .i64 2, .int .i64 3, .bool false], .int .i64 wh, .int .i64 wt] w fun e w' => e = .returned (.bool true) ∧ Grown w w' := by
  obtain ⟨l, hp4, hl⟩ := any_P3A (sg u fr wh wt)
  have ha0 : F2 (AR rho0 (sg u fr wh wt)) [.sym .i64 (.var 1), .int .i64 2, .int .i64 3, .bool false] [.int .i64 fr, .int .i64 2, .int .i64 3, .bool false] := .cons rfl (.cons rfl (.cons rfl (.cons rfl .nil)))
  exact lawOK4 (nc := 2) (t := 3) (s := false) (st := mP3A2) (vs := vP3A) (d := dP3A2) (g := [295, 88, 208, 266, 281, 287]) (m := 296) (σ := sg u fr wh wt) h3 h4 pD_P3A2 dP3A2_c p2_P3A2 vP3A_c
    (fun ext => newOKM (e0 := e0) hp mP3A2_c hm_P3A2 h1 h2 h3 h4 he)
    p3_P3A (sv_P3A h3 h4) hp4 hl (vals := [.agg #[.int .i64 fr, .int .i64 2, .int .i64 3, .bool false], .int .i64 wh, .int .i64 wt]) (.cons ⟨_, rfl, ha0⟩ (.cons rfl (.cons rfl .nil))) w
theorem k_P3A2 (fr wh wt : Int) (h1 : 33 ≤ fr) (h2 : fr ≤ 64) (w : World) : Calls Tryz.prog 3 #[.agg #[.int .i64 fr, .int .i64 2, .int .i64 3, .bool false], .int .i64 wh, .int .i64 wt] w fun e w' => e = .returned (.bool true) ∧ Grown w w' := by
  by_cases q0 : fr < 36
  · exact kk_P3A2 (u := 4) p1_P3A2_0 (by omega) (by omega) fr wh wt rfl (by omega) (by omega) w
  by_cases q1 : fr < 39
  · exact kk_P3A2 (u := 5) p1_P3A2_1 (by omega) (by omega) fr wh wt rfl (by omega) (by omega) w
  by_cases q2 : fr < 42
  · exact kk_P3A2 (u := 6) p1_P3A2_2 (by omega) (by omega) fr wh wt rfl (by omega) (by omega) w
  by_cases q3 : fr < 45
  · exact kk_P3A2 (u := 7) p1_P3A2_3 (by omega) (by omega) fr wh wt rfl (by omega) (by omega) w
  by_cases q4 : fr < 48
  · exact kk_P3A2 (u := 8) p1_P3A2_4 (by omega) (by omega) fr wh wt rfl (by omega) (by omega) w
  by_cases q5 : fr < 51
  · exact kk_P3A2 (u := 9) p1_P3A2_5 (by omega) (by omega) fr wh wt rfl (by omega) (by omega) w
  by_cases q6 : fr < 54
  · exact kk_P3A2 (u := 10) p1_P3A2_6 (by omega) (by omega) fr wh wt rfl (by omega) (by omega) w
  by_cases q7 : fr < 57
  · exact kk_P3A2 (u := 11) p1_P3A2_7 (by omega) (by omega) fr wh wt rfl (by omega) (by omega) w
  by_cases q8 : fr < 60
  · exact kk_P3A2 (u := 12) p1_P3A2_8 (by omega) (by omega) fr wh wt rfl (by omega) (by omega) w
  by_cases q9 : fr < 63
  · exact kk_P3A2 (u := 13) p1_P3A2_9 (by omega) (by omega) fr wh wt rfl (by omega) (by omega) w
  exact kk_P3A2 (u := 14) p1_P3A2_10 (by omega) (by omega) fr wh wt rfl (by omega) (by omega) w
theorem hm_P3A3 : frFits gI (fitTo (.var 1) (.var 1)) ⟨T.ofList [aC 1 3 3 false], .nil, []⟩ ⟨.nil, 0⟩ [(0, aC 0 3 3 false)] [] = true := by decide +kernel
theorem kk_P3A3 {e0 : E} {u clo : Int} {cn : Nat} (hp : p1M clo cn e0 3 3 false mP3A3 = true) (h3 : 4 ≤ u) (h4 : u < 4 + 11) (fr wh wt : Int) (he : u = e0.den fun _ => fr) (h1 : clo ≤ fr) (h2 : fr < clo + cn) (w : World) : Calls Tryz.prog 3 #[.agg #[.int .i64 fr, .int .i64 3, .int .i64 3, .bool false], .int .i64 wh, .int .i64 wt] w fun e w' => e = .returned (.bool true) ∧ Grown w w' := by
  obtain ⟨l, hp4, hl⟩ := any_P3A (sg u fr wh wt)
  have ha0 : F2 (AR rho0 (sg u fr wh wt)) [.sym .i64 (.var 1), .int .i64 3, .int .i64 3, .bool false] [.int .i64 fr, .int .i64 3, .int .i64 3, .bool false] := .cons rfl (.cons rfl (.cons rfl (.cons rfl .nil)))
  exact lawOK4 (nc := 3) (t := 3) (s := false) (st := mP3A3) (vs := vP3A) (d := dP3A3) (g := [298, 89, 209, 267, 282, 288]) (m := 299) (σ := sg u fr wh wt) h3 h4 pD_P3A3 dP3A3_c p2_P3A3 vP3A_c
    (fun ext => newOKM (e0 := e0) hp mP3A3_c hm_P3A3 h1 h2 h3 h4 he)
    p3_P3A (sv_P3A h3 h4) hp4 hl (vals := [.agg #[.int .i64 fr, .int .i64 3, .int .i64 3, .bool false], .int .i64 wh, .int .i64 wt]) (.cons ⟨_, rfl, ha0⟩ (.cons rfl (.cons rfl .nil))) w
theorem k_P3A3 (fr wh wt : Int) (h1 : 33 ≤ fr) (h2 : fr ≤ 64) (w : World) : Calls Tryz.prog 3 #[.agg #[.int .i64 fr, .int .i64 3, .int .i64 3, .bool false], .int .i64 wh, .int .i64 wt] w fun e w' => e = .returned (.bool true) ∧ Grown w w' := by
  by_cases q0 : fr < 36
  · exact kk_P3A3 (u := 4) p1_P3A3_0 (by omega) (by omega) fr wh wt rfl (by omega) (by omega) w
  by_cases q1 : fr < 39
  · exact kk_P3A3 (u := 5) p1_P3A3_1 (by omega) (by omega) fr wh wt rfl (by omega) (by omega) w
  by_cases q2 : fr < 42
  · exact kk_P3A3 (u := 6) p1_P3A3_2 (by omega) (by omega) fr wh wt rfl (by omega) (by omega) w
  by_cases q3 : fr < 45
  · exact kk_P3A3 (u := 7) p1_P3A3_3 (by omega) (by omega) fr wh wt rfl (by omega) (by omega) w
  by_cases q4 : fr < 48
  · exact kk_P3A3 (u := 8) p1_P3A3_4 (by omega) (by omega) fr wh wt rfl (by omega) (by omega) w
  by_cases q5 : fr < 51
  · exact kk_P3A3 (u := 9) p1_P3A3_5 (by omega) (by omega) fr wh wt rfl (by omega) (by omega) w
  by_cases q6 : fr < 54
  · exact kk_P3A3 (u := 10) p1_P3A3_6 (by omega) (by omega) fr wh wt rfl (by omega) (by omega) w
  by_cases q7 : fr < 57
  · exact kk_P3A3 (u := 11) p1_P3A3_7 (by omega) (by omega) fr wh wt rfl (by omega) (by omega) w
  by_cases q8 : fr < 60
  · exact kk_P3A3 (u := 12) p1_P3A3_8 (by omega) (by omega) fr wh wt rfl (by omega) (by omega) w
  by_cases q9 : fr < 63
  · exact kk_P3A3 (u := 13) p1_P3A3_9 (by omega) (by omega) fr wh wt rfl (by omega) (by omega) w
  exact kk_P3A3 (u := 14) p1_P3A3_10 (by omega) (by omega) fr wh wt rfl (by omega) (by omega) w
end Boots
