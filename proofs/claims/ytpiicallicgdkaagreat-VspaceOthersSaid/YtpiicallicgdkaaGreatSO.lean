/- The sorted keys of a map of ints come out the same, whatever order the keys come in: what the summary of slices.Sorted wants. No conditions. -/
import Derived.Test.YtpiicallicgdkaaGreatB
open Go Eng Go.Proofs Go.RowKit
set_option maxRecDepth 100000
namespace Base
noncomputable def sL (c : Code) : Code := match c with | .seq a _ => a | c => c
noncomputable def sR (c : Code) : Code := match c with | .seq _ b => b | c => c
noncomputable def bB (c : Code) : Code := match c with | .block _ b => b | .loop b => b | c => c
noncomputable def bN (c : Code) : Nat := match c with | .block n _ => n | _ => 0
noncomputable def rA (c : Code) : Code := match c with | .rangeFunc _ _ a _ => a | c => c
noncomputable def rB (c : Code) : Code := match c with | .rangeFunc _ _ _ b => b | c => c
/-- what is behind the reading of a key -/
noncomputable def key3 (b : Code) : Code := sR (bB (sR (sR (bB (bB (sR b))))))
noncomputable def ap (K : Nat) (fiK : FI) : AP := ⟨345, K, Tab.u345, fiK, sL Tab.u345.body, sL (sL (sR Tab.u345.body)), bN (sR (sL (sR Tab.u345.body))), rA (bB (sR (sL (sR Tab.u345.body)))), rB (bB (sR (sL (sR Tab.u345.body)))), sR (sR Tab.u345.body), key3 fiK.body⟩
theorem kb340 : KBody cfg0 Tab.u340.body (key3 Tab.u340.body) := by
  show KBody cfg0 (.seq (.region _ #[_, _] false) (.block _ (.loop (.seq (.region _ #[_, _] false) (.seq (.cond (.tmp 7) .skip (.exit _)) (.block _ (.seq (.region _ #[_, _, _] false) _))))))) _
  exact KBody.mk rfl rfl rfl rfl rfl rfl rfl rfl rfl rfl rfl rfl rfl rfl rfl rfl rfl rfl rfl rfl rfl (ti := Tab.t162) (by kernel_rfl) rfl rfl
theorem ao340 : AOK Tryz.prog cfg0 (ap 340 Tab.u340) where
  fA := by show Tab.fuT.get 345 = some Tab.u345; kernel_rfl
  fK := by show Tab.fuT.get 340 = some Tab.u340; kernel_rfl
  bA := by kernel_rfl
  bK := kb340
  rK := by kernel_rfl
  nK := by decide +kernel
  lK := by decide +kernel
theorem so340 : SOK Tryz.prog cfg0 (ap 340 Tab.u340) 325 338 339 Tab.u325 Tab.u338 where
  app := ao340
  fS := by show Tab.fuT.get 325 = some Tab.u325; kernel_rfl
  fC := by show Tab.fuT.get 338 = some Tab.u338; kernel_rfl
  bS := by
    show SBody 338 339 (.seq (.region _ #[_] false) (.seq (.region _ #[_, _, _] false) (.seq (.region _ #[_, _] false) (.seq (.region _ #[_, _] false) .ret))))
    exact SBody.mk rfl rfl rfl rfl rfl rfl rfl rfl rfl rfl rfl rfl rfl rfl rfl rfl rfl rfl rfl rfl rfl rfl rfl rfl rfl rfl rfl rfl
  bC := by
    show CBody 345 (.seq (.region _ #[_] false) (.seq (.region _ #[_, _, _] false) .ret))
    exact CBody.mk rfl rfl rfl rfl rfl rfl rfl rfl rfl rfl rfl rfl rfl rfl
  rS := by kernel_rfl
  rC := by kernel_rfl
  nS := by decide +kernel
  nC := by decide +kernel
theorem ck340_1 : chkS cfg0 (ap 340 Tab.u340) 339 300 1 = true := by decide +kernel
theorem ck340_2 : chkS cfg0 (ap 340 Tab.u340) 339 300 2 = true := by decide +kernel
theorem ck340_3 : chkS cfg0 (ap 340 Tab.u340) 339 300 3 = true := by decide +kernel
theorem ck340_4 : chkS cfg0 (ap 340 Tab.u340) 339 300 4 = true := by decide +kernel
theorem ck340_5 : chkS cfg0 (ap 340 Tab.u340) 339 300 5 = true := by decide +kernel
theorem ck340 : ∀ n, 1 ≤ n → n ≤ 5 → chkS cfg0 (ap 340 Tab.u340) 339 300 n = true
  | 0, h, _ => absurd h (by omega)
  | 1, _, _ => ck340_1
  | 2, _, _ => ck340_2
  | 3, _, _ => ck340_3
  | 4, _, _ => ck340_4
  | 5, _, _ => ck340_5
  | n + 6, _, h => absurd h (by omega)
theorem sortOK : SortOK Tryz.prog cfg0 325 5 [340] where
  cfg := ok0
  ext := rfl
  chk := by
    intro K hK
    rcases List.mem_cons.1 hK with rfl | hK
    · exact ⟨ap 340 Tab.u340, rfl, 338, 339, _, _, 300, so340, ck340⟩
    cases hK
end Base
