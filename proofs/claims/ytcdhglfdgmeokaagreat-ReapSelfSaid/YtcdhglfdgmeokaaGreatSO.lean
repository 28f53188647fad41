/- The sorted keys of a map of ints come out the same, whatever order the keys come in: what the summary of slices.Sorted wants. No conditions. -/
import Derived.Test.YtcdhglfdgmeokaaGreatB
open Go Eng Go.Proofs Go.RowKit
set_option maxRecDepth 100000
namespace Base
noncomputable def sL (c : Code) : Code := match c with | .seq a _ => a | c => c
noncomputable def sR (c : Code) : Code := match c with | .seq _ b => b | c => c
noncomputable def bB (c : Code) : Code := match c with | .block _ b => b | .loop b => b | c => c
noncomputable def bN (c : Code) : Nat := match c with | .block n _ => n | _ => 0
noncomputable def rA (c : Code) : Code := match c with | .rangeFunc _ _ a _ => a | c => c
noncomputable def rB (c : Code) : Code := match c with | .rangeFunc _ _ _ b => b | c => c
/-- what is behind the reading of a key -/
noncomputable def key3 (b : Code) : Code := sR (bB (sR (sR (bB (bB (sR b))))))
noncomputable def ap (K : Nat) (fiK : FI) : AP := ⟨427, K, Tab.u427, fiK, sL Tab.u427.body, sL (sL (sR Tab.u427.body)), bN (sR (sL (sR Tab.u427.body))), rA (bB (sR (sL (sR Tab.u427.body)))), rB (bB (sR (sL (sR Tab.u427.body)))), sR (sR Tab.u427.body), key3 fiK.body⟩
theorem kb392 : KBody cfg0 Tab.u392.body (key3 Tab.u392.body) := by
  show KBody cfg0 (.seq (.region _ #[_, _] false) (.block _ (.loop (.seq (.region _ #[_, _] false) (.seq (.cond (.tmp 7) .skip (.exit _)) (.block _ (.seq (.region _ #[_, _, _] false) _))))))) _
  exact KBody.mk rfl rfl rfl rfl rfl rfl rfl rfl rfl rfl rfl rfl rfl rfl rfl rfl rfl rfl rfl rfl rfl (ti := Tab.t175) (by kernel_rfl) rfl rfl
theorem ao392 : AOK Tryz.prog cfg0 (ap 392 Tab.u392) where
  fA := by show Tab.fuT.get 427 = some Tab.u427; kernel_rfl
  fK := by show Tab.fuT.get 392 = some Tab.u392; kernel_rfl
  bA := by kernel_rfl
  bK := kb392
  rK := by kernel_rfl
  nK := by decide +kernel
  lK := by decide +kernel
theorem so392 : SOK Tryz.prog cfg0 (ap 392 Tab.u392) 314 390 391 Tab.u314 Tab.u390 where
  app := ao392
  fS := by show Tab.fuT.get 314 = some Tab.u314; kernel_rfl
  fC := by show Tab.fuT.get 390 = some Tab.u390; kernel_rfl
  bS := by
    show SBody 390 391 (.seq (.region _ #[_] false) (.seq (.region _ #[_, _, _] false) (.seq (.region _ #[_, _] false) (.seq (.region _ #[_, _] false) .ret))))
    exact SBody.mk rfl rfl rfl rfl rfl rfl rfl rfl rfl rfl rfl rfl rfl rfl rfl rfl rfl rfl rfl rfl rfl rfl rfl rfl rfl rfl rfl rfl
  bC := by
    show CBody 427 (.seq (.region _ #[_] false) (.seq (.region _ #[_, _, _] false) .ret))
    exact CBody.mk rfl rfl rfl rfl rfl rfl rfl rfl rfl rfl rfl rfl rfl rfl
  rS := by kernel_rfl
  rC := by kernel_rfl
  nS := by decide +kernel
  nC := by decide +kernel
theorem ck392_1 : chkS cfg0 (ap 392 Tab.u392) 391 300 1 = true := by decide +kernel
theorem ck392_2 : chkS cfg0 (ap 392 Tab.u392) 391 300 2 = true := by decide +kernel
theorem ck392_3 : chkS cfg0 (ap 392 Tab.u392) 391 300 3 = true := by decide +kernel
theorem ck392_4 : chkS cfg0 (ap 392 Tab.u392) 391 300 4 = true := by decide +kernel
theorem ck392_5 : chkS cfg0 (ap 392 Tab.u392) 391 300 5 = true := by decide +kernel
theorem ck392 : ∀ n, 1 ≤ n → n ≤ 5 → chkS cfg0 (ap 392 Tab.u392) 391 300 n = true
  | 0, h, _ => absurd h (by omega)
  | 1, _, _ => ck392_1
  | 2, _, _ => ck392_2
  | 3, _, _ => ck392_3
  | 4, _, _ => ck392_4
  | 5, _, _ => ck392_5
  | n + 6, _, h => absurd h (by omega)
theorem kb423 : KBody cfg0 Tab.u423.body (key3 Tab.u423.body) := by
  show KBody cfg0 (.seq (.region _ #[_, _] false) (.block _ (.loop (.seq (.region _ #[_, _] false) (.seq (.cond (.tmp 7) .skip (.exit _)) (.block _ (.seq (.region _ #[_, _, _] false) _))))))) _
  exact KBody.mk rfl rfl rfl rfl rfl rfl rfl rfl rfl rfl rfl rfl rfl rfl rfl rfl rfl rfl rfl rfl rfl (ti := Tab.t253) (by kernel_rfl) rfl rfl
theorem ao423 : AOK Tryz.prog cfg0 (ap 423 Tab.u423) where
  fA := by show Tab.fuT.get 427 = some Tab.u427; kernel_rfl
  fK := by show Tab.fuT.get 423 = some Tab.u423; kernel_rfl
  bA := by kernel_rfl
  bK := kb423
  rK := by kernel_rfl
  nK := by decide +kernel
  lK := by decide +kernel
theorem so423 : SOK Tryz.prog cfg0 (ap 423 Tab.u423) 314 390 391 Tab.u314 Tab.u390 where
  app := ao423
  fS := by show Tab.fuT.get 314 = some Tab.u314; kernel_rfl
  fC := by show Tab.fuT.get 390 = some Tab.u390; kernel_rfl
  bS := by
    show SBody 390 391 (.seq (.region _ #[_] false) (.seq (.region _ #[_, _, _] false) (.seq (.region _ #[_, _] false) (.seq (.region _ #[_, _] false) .ret))))
    exact SBody.mk rfl rfl rfl rfl rfl rfl rfl rfl rfl rfl rfl rfl rfl rfl rfl rfl rfl rfl rfl rfl rfl rfl rfl rfl rfl rfl rfl rfl
  bC := by
    show CBody 427 (.seq (.region _ #[_] false) (.seq (.region _ #[_, _, _] false) .ret))
    exact CBody.mk rfl rfl rfl rfl rfl rfl rfl rfl rfl rfl rfl rfl rfl rfl
  rS := by kernel_rfl
  rC := by kernel_rfl
  nS := by decide +kernel
  nC := by decide +kernel
theorem ck423_1 : chkS cfg0 (ap 423 Tab.u423) 391 300 1 = true := by decide +kernel
theorem ck423_2 : chkS cfg0 (ap 423 Tab.u423) 391 300 2 = true := by decide +kernel
theorem ck423_3 : chkS cfg0 (ap 423 Tab.u423) 391 300 3 = true := by decide +kernel
theorem ck423_4 : chkS cfg0 (ap 423 Tab.u423) 391 300 4 = true := by decide +kernel
theorem ck423_5 : chkS cfg0 (ap 423 Tab.u423) 391 300 5 = true := by decide +kernel
theorem ck423 : ∀ n, 1 ≤ n → n ≤ 5 → chkS cfg0 (ap 423 Tab.u423) 391 300 n = true
  | 0, h, _ => absurd h (by omega)
  | 1, _, _ => ck423_1
  | 2, _, _ => ck423_2
  | 3, _, _ => ck423_3
  | 4, _, _ => ck423_4
  | 5, _, _ => ck423_5
  | n + 6, _, h => absurd h (by omega)
theorem sortOK : SortOK Tryz.prog cfg0 314 5 [392, 423] where
  cfg := ok0
  ext := rfl
  chk := by
    intro K hK
    rcases List.mem_cons.1 hK with rfl | hK
    · exact ⟨ap 392 Tab.u392, rfl, 390, 391, _, _, 300, so392, ck392⟩
    rcases List.mem_cons.1 hK with rfl | hK
    · exact ⟨ap 423 Tab.u423, rfl, 390, 391, _, _, 300, so423, ck423⟩
    cases hK
end Base
