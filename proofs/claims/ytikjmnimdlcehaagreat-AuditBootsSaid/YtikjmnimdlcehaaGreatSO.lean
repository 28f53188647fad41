/- The sorted keys of a map of ints come out the same, whatever order the keys come in: what the summary of slices.Sorted wants. No conditions. -/
import Derived.Test.YtikjmnimdlcehaaGreatB
import Derived.Test.YtikjmnimdlcehaaGreatE12
open Go Eng Go.Proofs Go.RowKit
set_option maxRecDepth 100000
namespace Base
noncomputable def sL (c : Code) : Code := match c with | .seq a _ => a | c => c
noncomputable def sR (c : Code) : Code := match c with | .seq _ b => b | c => c
noncomputable def bB (c : Code) : Code := match c with | .block _ b => b | .loop b => b | c => c
noncomputable def bN (c : Code) : Nat := match c with | .block n _ => n | _ => 0
noncomputable def rA (c : Code) : Code := match c with | .rangeFunc _ _ a _ => a | c => c
noncomputable def rB (c : Code) : Code := match c with | .rangeFunc _ _ _ b => b | c => c
/-- what is behind the reading of a key -/
noncomputable def key3 (b : Code) : Code := sR (bB (sR (sR (bB (bB (sR b))))))
noncomputable def ap (K : Nat) (fiK : FI) : AP := ⟨167, K, Tab.u167, fiK, sL Tab.u167.body, sL (sL (sR Tab.u167.body)), bN (sR (sL (sR Tab.u167.body))), rA (bB (sR (sL (sR Tab.u167.body)))), rB (bB (sR (sL (sR Tab.u167.body)))), sR (sR Tab.u167.body), key3 fiK.body⟩
theorem kb154 : KBody cfg0 Tab.u154.body (key3 Tab.u154.body) := by
  show KBody cfg0 (.seq (.region _ #[_, _] false) (.block _ (.loop (.seq (.region _ #[_, _] false) (.seq (.cond (.tmp 7) .skip (.exit _)) (.block _ (.seq (.region _ #[_, _, _] false) _))))))) _
  exact KBody.mk rfl rfl rfl rfl rfl rfl rfl rfl rfl rfl rfl rfl rfl rfl rfl rfl rfl rfl rfl rfl rfl (ti := Tab.t135) (by kernel_rfl) rfl rfl
theorem ao154 : AOK Tryz.prog cfg0 (ap 154 Tab.u154) where
  fA := by show Tab.fuT.get 167 = some Tab.u167; kernel_rfl
  fK := by show Tab.fuT.get 154 = some Tab.u154; kernel_rfl
  bA := by kernel_rfl
  bK := kb154
  rK := by kernel_rfl
  nK := by decide +kernel
  lK := by decide +kernel
theorem so154 : SOK Tryz.prog cfg0 (ap 154 Tab.u154) 114 152 153 Tab.u114 Tab.u152 where
  app := ao154
  fS := by show Tab.fuT.get 114 = some Tab.u114; kernel_rfl
  fC := by show Tab.fuT.get 152 = some Tab.u152; kernel_rfl
  bS := by
    show SBody 152 153 (.seq (.region _ #[_] false) (.seq (.region _ #[_, _, _] false) (.seq (.region _ #[_, _] false) (.seq (.region _ #[_, _] false) .ret))))
    exact SBody.mk rfl rfl rfl rfl rfl rfl rfl rfl rfl rfl rfl rfl rfl rfl rfl rfl rfl rfl rfl rfl rfl rfl rfl rfl rfl rfl rfl rfl
  bC := by
    show CBody 167 (.seq (.region _ #[_] false) (.seq (.region _ #[_, _, _] false) .ret))
    exact CBody.mk rfl rfl rfl rfl rfl rfl rfl rfl rfl rfl rfl rfl rfl rfl
  rS := by kernel_rfl
  rC := by kernel_rfl
  nS := by decide +kernel
  nC := by decide +kernel
theorem ck154_1 : chkS cfg0 (ap 154 Tab.u154) 153 300 1 = true := by decide +kernel
theorem ck154_2 : chkS cfg0 (ap 154 Tab.u154) 153 300 2 = true := by decide +kernel
theorem ck154_3 : chkS cfg0 (ap 154 Tab.u154) 153 300 3 = true := by decide +kernel
theorem ck154_4 : chkS cfg0 (ap 154 Tab.u154) 153 300 4 = true := by decide +kernel
theorem ck154_5 : chkS cfg0 (ap 154 Tab.u154) 153 300 5 = true := by decide +kernel
theorem ck154_6_0 : chkP cfg0 (ap 154 Tab.u154) 153 300 5 0 = true := by decide +kernel
theorem ck154_6_1 : chkP cfg0 (ap 154 Tab.u154) 153 300 5 1 = true := by decide +kernel
theorem ck154_6_2 : chkP cfg0 (ap 154 Tab.u154) 153 300 5 2 = true := by decide +kernel
theorem ck154_6_3 : chkP cfg0 (ap 154 Tab.u154) 153 300 5 3 = true := by decide +kernel
theorem ck154_6_4 : chkP cfg0 (ap 154 Tab.u154) 153 300 5 4 = true := by decide +kernel
theorem ck154_6_5 : chkP cfg0 (ap 154 Tab.u154) 153 300 5 5 = true := by decide +kernel
theorem ck154_p : ∀ x, x < 5 + 1 → chkP cfg0 (ap 154 Tab.u154) 153 300 5 x = true
  | 0, _ => ck154_6_0
  | 1, _ => ck154_6_1
  | 2, _ => ck154_6_2
  | 3, _ => ck154_6_3
  | 4, _ => ck154_6_4
  | 5, _ => ck154_6_5
  | x + 6, h => absurd h (by omega)
theorem ck154_6 : chkS cfg0 (ap 154 Tab.u154) 153 300 6 = true := chkS_of ck154_p
theorem ck154 : ∀ n, 1 ≤ n → n ≤ 6 → chkS cfg0 (ap 154 Tab.u154) 153 300 n = true
  | 0, h, _ => absurd h (by omega)
  | 1, _, _ => ck154_1
  | 2, _, _ => ck154_2
  | 3, _, _ => ck154_3
  | 4, _, _ => ck154_4
  | 5, _, _ => ck154_5
  | 6, _, _ => ck154_6
  | n + 7, _, h => absurd h (by omega)
theorem sortOK154 : SortOK Tryz.prog cfg0 114 6 [154] where
  cfg := ok0
  ext := rfl
  chk := by
    intro K hK
    rcases List.mem_cons.1 hK with rfl | hK
    · exact ⟨ap 154 Tab.u154, rfl, 152, 153, _, _, 300, so154, ck154⟩
    cases hK
theorem kb166 : KBody cfg0 Tab.u166.body (key3 Tab.u166.body) := by
  show KBody cfg0 (.seq (.region _ #[_, _] false) (.block _ (.loop (.seq (.region _ #[_, _] false) (.seq (.cond (.tmp 7) .skip (.exit _)) (.block _ (.seq (.region _ #[_, _, _] false) _))))))) _
  exact KBody.mk rfl rfl rfl rfl rfl rfl rfl rfl rfl rfl rfl rfl rfl rfl rfl rfl rfl rfl rfl rfl rfl (ti := Tab.t267) (by kernel_rfl) rfl rfl
theorem ao166 : AOK Tryz.prog cfg0 (ap 166 Tab.u166) where
  fA := by show Tab.fuT.get 167 = some Tab.u167; kernel_rfl
  fK := by show Tab.fuT.get 166 = some Tab.u166; kernel_rfl
  bA := by kernel_rfl
  bK := kb166
  rK := by kernel_rfl
  nK := by decide +kernel
  lK := by decide +kernel
theorem so166 : SOK Tryz.prog cfg0 (ap 166 Tab.u166) 114 152 153 Tab.u114 Tab.u152 where
  app := ao166
  fS := by show Tab.fuT.get 114 = some Tab.u114; kernel_rfl
  fC := by show Tab.fuT.get 152 = some Tab.u152; kernel_rfl
  bS := by
    show SBody 152 153 (.seq (.region _ #[_] false) (.seq (.region _ #[_, _, _] false) (.seq (.region _ #[_, _] false) (.seq (.region _ #[_, _] false) .ret))))
    exact SBody.mk rfl rfl rfl rfl rfl rfl rfl rfl rfl rfl rfl rfl rfl rfl rfl rfl rfl rfl rfl rfl rfl rfl rfl rfl rfl rfl rfl rfl
  bC := by
    show CBody 167 (.seq (.region _ #[_] false) (.seq (.region _ #[_, _, _] false) .ret))
    exact CBody.mk rfl rfl rfl rfl rfl rfl rfl rfl rfl rfl rfl rfl rfl rfl
  rS := by kernel_rfl
  rC := by kernel_rfl
  nS := by decide +kernel
  nC := by decide +kernel
theorem ck166_1 : chkS cfg0 (ap 166 Tab.u166) 153 300 1 = true := by decide +kernel
theorem ck166_2 : chkS cfg0 (ap 166 Tab.u166) 153 300 2 = true := by decide +kernel
theorem ck166_3 : chkS cfg0 (ap 166 Tab.u166) 153 300 3 = true := by decide +kernel
theorem ck166 : ∀ n, 1 ≤ n → n ≤ 3 → chkS cfg0 (ap 166 Tab.u166) 153 300 n = true
  | 0, h, _ => absurd h (by omega)
  | 1, _, _ => ck166_1
  | 2, _, _ => ck166_2
  | 3, _, _ => ck166_3
  | n + 4, _, h => absurd h (by omega)
theorem sortOK166 : SortOK Tryz.prog cfg0 114 3 [166] where
  cfg := ok0
  ext := rfl
  chk := by
    intro K hK
    rcases List.mem_cons.1 hK with rfl | hK
    · exact ⟨ap 166 Tab.u166, rfl, 152, 153, _, _, 300, so166, ck166⟩
    cases hK
end Base
