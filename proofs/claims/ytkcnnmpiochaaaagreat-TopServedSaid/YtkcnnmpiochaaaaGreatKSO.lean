/- The sorted keys of a map of ints come out the same, whatever order the keys come in: what the summary of slices.Sorted wants. No conditions. -/
import Derived.Test.YtkcnnmpiochaaaaGreatKB
open Go Eng Go.Proofs Go.RowKit
set_option maxRecDepth 100000
namespace Base
noncomputable def sL (c : Code) : Code := match c with | .seq a _ => a | c => c
noncomputable def sR (c : Code) : Code := match c with | .seq _ b => b | c => c
noncomputable def bB (c : Code) : Code := match c with | .block _ b => b | .loop b => b | c => c
noncomputable def bN (c : Code) : Nat := match c with | .block n _ => n | _ => 0
noncomputable def rA (c : Code) : Code := match c with | .rangeFunc _ _ a _ => a | c => c
noncomputable def rB (c : Code) : Code := match c with | .rangeFunc _ _ _ b => b | c => c
/-- what is behind the reading of a key -/
noncomputable def key3 (b : Code) : Code := sR (bB (sR (sR (bB (bB (sR b))))))
noncomputable def ap (K : Nat) (fiK : FI) : AP := ⟨275, K, Tab.u275, fiK, sL Tab.u275.body, sL (sL (sR Tab.u275.body)), bN (sR (sL (sR Tab.u275.body))), rA (bB (sR (sL (sR Tab.u275.body)))), rB (bB (sR (sL (sR Tab.u275.body)))), sR (sR Tab.u275.body), key3 fiK.body⟩
theorem kb206 : KBody cfg0 Tab.u206.body (key3 Tab.u206.body) := by
  show KBody cfg0 (.seq (.region _ #[_, _] false) (.block _ (.loop (.seq (.region _ #[_, _] false) (.seq (.cond (.tmp 7) .skip (.exit _)) (.block _ (.seq (.region _ #[_, _, _] false) _))))))) _
  exact KBody.mk rfl rfl rfl rfl rfl rfl rfl rfl rfl rfl rfl rfl rfl rfl rfl rfl rfl rfl rfl rfl rfl (ti := Tab.t233) (by kernel_rfl) rfl rfl
theorem ao206 : AOK Tryz.prog cfg0 (ap 206 Tab.u206) where
  fA := by show Tab.fuT.get 275 = some Tab.u275; kernel_rfl
  fK := by show Tab.fuT.get 206 = some Tab.u206; kernel_rfl
  bA := by kernel_rfl
  bK := kb206
  rK := by kernel_rfl
  nK := by decide +kernel
  lK := by decide +kernel
theorem so206 : SOK Tryz.prog cfg0 (ap 206 Tab.u206) 138 204 205 Tab.u138 Tab.u204 where
  app := ao206
  fS := by show Tab.fuT.get 138 = some Tab.u138; kernel_rfl
  fC := by show Tab.fuT.get 204 = some Tab.u204; kernel_rfl
  bS := by
    show SBody 204 205 (.seq (.region _ #[_] false) (.seq (.region _ #[_, _, _] false) (.seq (.region _ #[_, _] false) (.seq (.region _ #[_, _] false) .ret))))
    exact SBody.mk rfl rfl rfl rfl rfl rfl rfl rfl rfl rfl rfl rfl rfl rfl rfl rfl rfl rfl rfl rfl rfl rfl rfl rfl rfl rfl rfl rfl
  bC := by
    show CBody 275 (.seq (.region _ #[_] false) (.seq (.region _ #[_, _, _] false) .ret))
    exact CBody.mk rfl rfl rfl rfl rfl rfl rfl rfl rfl rfl rfl rfl rfl rfl
  rS := by kernel_rfl
  rC := by kernel_rfl
  nS := by decide +kernel
  nC := by decide +kernel
theorem ck206_1 : chkS cfg0 (ap 206 Tab.u206) 205 300 1 = true := by decide +kernel
theorem ck206_2 : chkS cfg0 (ap 206 Tab.u206) 205 300 2 = true := by decide +kernel
theorem ck206_3 : chkS cfg0 (ap 206 Tab.u206) 205 300 3 = true := by decide +kernel
theorem ck206_4 : chkS cfg0 (ap 206 Tab.u206) 205 300 4 = true := by decide +kernel
theorem ck206_5 : chkS cfg0 (ap 206 Tab.u206) 205 300 5 = true := by decide +kernel
theorem ck206 : ∀ n, 1 ≤ n → n ≤ 5 → chkS cfg0 (ap 206 Tab.u206) 205 300 n = true
  | 0, h, _ => absurd h (by omega)
  | 1, _, _ => ck206_1
  | 2, _, _ => ck206_2
  | 3, _, _ => ck206_3
  | 4, _, _ => ck206_4
  | 5, _, _ => ck206_5
  | n + 6, _, h => absurd h (by omega)
theorem kb274 : KBody cfg0 Tab.u274.body (key3 Tab.u274.body) := by
  show KBody cfg0 (.seq (.region _ #[_, _] false) (.block _ (.loop (.seq (.region _ #[_, _] false) (.seq (.cond (.tmp 7) .skip (.exit _)) (.block _ (.seq (.region _ #[_, _, _] false) _))))))) _
  exact KBody.mk rfl rfl rfl rfl rfl rfl rfl rfl rfl rfl rfl rfl rfl rfl rfl rfl rfl rfl rfl rfl rfl (ti := Tab.t371) (by kernel_rfl) rfl rfl
theorem ao274 : AOK Tryz.prog cfg0 (ap 274 Tab.u274) where
  fA := by show Tab.fuT.get 275 = some Tab.u275; kernel_rfl
  fK := by show Tab.fuT.get 274 = some Tab.u274; kernel_rfl
  bA := by kernel_rfl
  bK := kb274
  rK := by kernel_rfl
  nK := by decide +kernel
  lK := by decide +kernel
theorem so274 : SOK Tryz.prog cfg0 (ap 274 Tab.u274) 138 204 205 Tab.u138 Tab.u204 where
  app := ao274
  fS := by show Tab.fuT.get 138 = some Tab.u138; kernel_rfl
  fC := by show Tab.fuT.get 204 = some Tab.u204; kernel_rfl
  bS := by
    show SBody 204 205 (.seq (.region _ #[_] false) (.seq (.region _ #[_, _, _] false) (.seq (.region _ #[_, _] false) (.seq (.region _ #[_, _] false) .ret))))
    exact SBody.mk rfl rfl rfl rfl rfl rfl rfl rfl rfl rfl rfl rfl rfl rfl rfl rfl rfl rfl rfl rfl rfl rfl rfl rfl rfl rfl rfl rfl
  bC := by
    show CBody 275 (.seq (.region _ #[_] false) (.seq (.region _ #[_, _, _] false) .ret))
    exact CBody.mk rfl rfl rfl rfl rfl rfl rfl rfl rfl rfl rfl rfl rfl rfl
  rS := by kernel_rfl
  rC := by kernel_rfl
  nS := by decide +kernel
  nC := by decide +kernel
theorem ck274_1 : chkS cfg0 (ap 274 Tab.u274) 205 300 1 = true := by decide +kernel
theorem ck274_2 : chkS cfg0 (ap 274 Tab.u274) 205 300 2 = true := by decide +kernel
theorem ck274_3 : chkS cfg0 (ap 274 Tab.u274) 205 300 3 = true := by decide +kernel
theorem ck274_4 : chkS cfg0 (ap 274 Tab.u274) 205 300 4 = true := by decide +kernel
theorem ck274_5 : chkS cfg0 (ap 274 Tab.u274) 205 300 5 = true := by decide +kernel
theorem ck274 : ∀ n, 1 ≤ n → n ≤ 5 → chkS cfg0 (ap 274 Tab.u274) 205 300 n = true
  | 0, h, _ => absurd h (by omega)
  | 1, _, _ => ck274_1
  | 2, _, _ => ck274_2
  | 3, _, _ => ck274_3
  | 4, _, _ => ck274_4
  | 5, _, _ => ck274_5
  | n + 6, _, h => absurd h (by omega)
theorem sortOK : SortOK Tryz.prog cfg0 138 5 [206, 274] where
  cfg := ok0
  ext := rfl
  chk := by
    intro K hK
    rcases List.mem_cons.1 hK with rfl | hK
    · exact ⟨ap 206 Tab.u206, rfl, 204, 205, _, _, 300, so206, ck206⟩
    rcases List.mem_cons.1 hK with rfl | hK
    · exact ⟨ap 274 Tab.u274, rfl, 204, 205, _, _, 300, so274, ck274⟩
    cases hK
end Base
