/- The sorted keys of a map of ints come out the same, whatever order the keys come in: what the summary of slices.Sorted wants. No conditions. -/
import Derived.Test.YtnjinlodmjoibaaGreatB
open Go Eng Go.Proofs Go.RowKit
set_option maxRecDepth 100000
namespace Base
noncomputable def sL (c : Code) : Code := match c with | .seq a _ => a | c => c
noncomputable def sR (c : Code) : Code := match c with | .seq _ b => b | c => c
noncomputable def bB (c : Code) : Code := match c with | .block _ b => b | .loop b => b | c => c
noncomputable def bN (c : Code) : Nat := match c with | .block n _ => n | _ => 0
noncomputable def rA (c : Code) : Code := match c with | .rangeFunc _ _ a _ => a | c => c
noncomputable def rB (c : Code) : Code := match c with | .rangeFunc _ _ _ b => b | c => c
/-- what is behind the reading of a key -/
noncomputable def key3 (b : Code) : Code := sR (bB (sR (sR (bB (bB (sR b))))))
noncomputable def ap (K : Nat) (fiK : FI) : AP := ⟨420, K, Tab.u420, fiK, sL Tab.u420.body, sL (sL (sR Tab.u420.body)), bN (sR (sL (sR Tab.u420.body))), rA (bB (sR (sL (sR Tab.u420.body)))), rB (bB (sR (sL (sR Tab.u420.body)))), sR (sR Tab.u420.body), key3 fiK.body⟩
theorem kb414 : KBody cfg0 Tab.u414.body (key3 Tab.u414.body) := by
  show KBody cfg0 (.seq (.region _ #[_, _] false) (.block _ (.loop (.seq (.region _ #[_, _] false) (.seq (.cond (.tmp 7) .skip (.exit _)) (.block _ (.seq (.region _ #[_, _, _] false) _))))))) _
  exact KBody.mk rfl rfl rfl rfl rfl rfl rfl rfl rfl rfl rfl rfl rfl rfl rfl rfl rfl rfl rfl rfl rfl (ti := Tab.t129) (by kernel_rfl) rfl rfl
theorem ao414 : AOK Tryz.prog cfg0 (ap 414 Tab.u414) where
  fA := by show Tab.fuT.get 420 = some Tab.u420; kernel_rfl
  fK := by show Tab.fuT.get 414 = some Tab.u414; kernel_rfl
  bA := by kernel_rfl
  bK := kb414
  rK := by kernel_rfl
  nK := by decide +kernel
  lK := by decide +kernel
theorem so414 : SOK Tryz.prog cfg0 (ap 414 Tab.u414) 392 412 413 Tab.u392 Tab.u412 where
  app := ao414
  fS := by show Tab.fuT.get 392 = some Tab.u392; kernel_rfl
  fC := by show Tab.fuT.get 412 = some Tab.u412; kernel_rfl
  bS := by
    show SBody 412 413 (.seq (.region _ #[_] false) (.seq (.region _ #[_, _, _] false) (.seq (.region _ #[_, _] false) (.seq (.region _ #[_, _] false) .ret))))
    exact SBody.mk rfl rfl rfl rfl rfl rfl rfl rfl rfl rfl rfl rfl rfl rfl rfl rfl rfl rfl rfl rfl rfl rfl rfl rfl rfl rfl rfl rfl
  bC := by
    show CBody 420 (.seq (.region _ #[_] false) (.seq (.region _ #[_, _, _] false) .ret))
    exact CBody.mk rfl rfl rfl rfl rfl rfl rfl rfl rfl rfl rfl rfl rfl rfl
  rS := by kernel_rfl
  rC := by kernel_rfl
  nS := by decide +kernel
  nC := by decide +kernel
theorem ck414_1 : chkS cfg0 (ap 414 Tab.u414) 413 300 1 = true := by decide +kernel
theorem ck414_2 : chkS cfg0 (ap 414 Tab.u414) 413 300 2 = true := by decide +kernel
theorem ck414_3 : chkS cfg0 (ap 414 Tab.u414) 413 300 3 = true := by decide +kernel
theorem ck414_4 : chkS cfg0 (ap 414 Tab.u414) 413 300 4 = true := by decide +kernel
theorem ck414_5 : chkS cfg0 (ap 414 Tab.u414) 413 300 5 = true := by decide +kernel
theorem ck414 : ∀ n, 1 ≤ n → n ≤ 5 → chkS cfg0 (ap 414 Tab.u414) 413 300 n = true
  | 0, h, _ => absurd h (by omega)
  | 1, _, _ => ck414_1
  | 2, _, _ => ck414_2
  | 3, _, _ => ck414_3
  | 4, _, _ => ck414_4
  | 5, _, _ => ck414_5
  | n + 6, _, h => absurd h (by omega)
theorem kb446 : KBody cfg0 Tab.u446.body (key3 Tab.u446.body) := by
  show KBody cfg0 (.seq (.region _ #[_, _] false) (.block _ (.loop (.seq (.region _ #[_, _] false) (.seq (.cond (.tmp 7) .skip (.exit _)) (.block _ (.seq (.region _ #[_, _, _] false) _))))))) _
  exact KBody.mk rfl rfl rfl rfl rfl rfl rfl rfl rfl rfl rfl rfl rfl rfl rfl rfl rfl rfl rfl rfl rfl (ti := Tab.t457) (by kernel_rfl) rfl rfl
theorem ao446 : AOK Tryz.prog cfg0 (ap 446 Tab.u446) where
  fA := by show Tab.fuT.get 420 = some Tab.u420; kernel_rfl
  fK := by show Tab.fuT.get 446 = some Tab.u446; kernel_rfl
  bA := by kernel_rfl
  bK := kb446
  rK := by kernel_rfl
  nK := by decide +kernel
  lK := by decide +kernel
theorem so446 : SOK Tryz.prog cfg0 (ap 446 Tab.u446) 392 412 413 Tab.u392 Tab.u412 where
  app := ao446
  fS := by show Tab.fuT.get 392 = some Tab.u392; kernel_rfl
  fC := by show Tab.fuT.get 412 = some Tab.u412; kernel_rfl
  bS := by
    show SBody 412 413 (.seq (.region _ #[_] false) (.seq (.region _ #[_, _, _] false) (.seq (.region _ #[_, _] false) (.seq (.region _ #[_, _] false) .ret))))
    exact SBody.mk rfl rfl rfl rfl rfl rfl rfl rfl rfl rfl rfl rfl rfl rfl rfl rfl rfl rfl rfl rfl rfl rfl rfl rfl rfl rfl rfl rfl
  bC := by
    show CBody 420 (.seq (.region _ #[_] false) (.seq (.region _ #[_, _, _] false) .ret))
    exact CBody.mk rfl rfl rfl rfl rfl rfl rfl rfl rfl rfl rfl rfl rfl rfl
  rS := by kernel_rfl
  rC := by kernel_rfl
  nS := by decide +kernel
  nC := by decide +kernel
theorem ck446_1 : chkS cfg0 (ap 446 Tab.u446) 413 300 1 = true := by decide +kernel
theorem ck446_2 : chkS cfg0 (ap 446 Tab.u446) 413 300 2 = true := by decide +kernel
theorem ck446_3 : chkS cfg0 (ap 446 Tab.u446) 413 300 3 = true := by decide +kernel
theorem ck446_4 : chkS cfg0 (ap 446 Tab.u446) 413 300 4 = true := by decide +kernel
theorem ck446_5 : chkS cfg0 (ap 446 Tab.u446) 413 300 5 = true := by decide +kernel
theorem ck446 : ∀ n, 1 ≤ n → n ≤ 5 → chkS cfg0 (ap 446 Tab.u446) 413 300 n = true
  | 0, h, _ => absurd h (by omega)
  | 1, _, _ => ck446_1
  | 2, _, _ => ck446_2
  | 3, _, _ => ck446_3
  | 4, _, _ => ck446_4
  | 5, _, _ => ck446_5
  | n + 6, _, h => absurd h (by omega)
theorem sortOK : SortOK Tryz.prog cfg0 392 5 [414, 446] where
  cfg := ok0
  ext := rfl
  chk := by
    intro K hK
    rcases List.mem_cons.1 hK with rfl | hK
    · exact ⟨ap 414 Tab.u414, rfl, 412, 413, _, _, 300, so414, ck414⟩
    rcases List.mem_cons.1 hK with rfl | hK
    · exact ⟨ap 446 Tab.u446, rfl, 412, 413, _, _, 300, so446, ck446⟩
    cases hK
end Base
