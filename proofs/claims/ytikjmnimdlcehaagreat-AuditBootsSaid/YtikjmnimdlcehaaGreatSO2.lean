/- The sorted keys of the map of nodes, up to six keys: what the summary of slices.Sorted wants. No conditions. -/
import Derived.Test.YtikjmnimdlcehaaGreatSO
open Go Eng Go.Proofs Go.RowKit
set_option maxRecDepth 100000
namespace Base
theorem ck166_4 : chkS cfg0 (ap 166 Tab.u166) 153 300 4 = true := by decide +kernel
theorem ck166_5 : chkS cfg0 (ap 166 Tab.u166) 153 300 5 = true := by decide +kernel
theorem ck166_6_0 : chkP cfg0 (ap 166 Tab.u166) 153 300 5 0 = true := by decide +kernel
theorem ck166_6_1 : chkP cfg0 (ap 166 Tab.u166) 153 300 5 1 = true := by decide +kernel
theorem ck166_6_2 : chkP cfg0 (ap 166 Tab.u166) 153 300 5 2 = true := by decide +kernel
theorem ck166_6_3 : chkP cfg0 (ap 166 Tab.u166) 153 300 5 3 = true := by decide +kernel
theorem ck166_6_4 : chkP cfg0 (ap 166 Tab.u166) 153 300 5 4 = true := by decide +kernel
theorem ck166_6_5 : chkP cfg0 (ap 166 Tab.u166) 153 300 5 5 = true := by decide +kernel
theorem ck166_p : ∀ x, x < 5 + 1 → chkP cfg0 (ap 166 Tab.u166) 153 300 5 x = true
  | 0, _ => ck166_6_0
  | 1, _ => ck166_6_1
  | 2, _ => ck166_6_2
  | 3, _ => ck166_6_3
  | 4, _ => ck166_6_4
  | 5, _ => ck166_6_5
  | x + 6, h => absurd h (by omega)
theorem ck166_6 : chkS cfg0 (ap 166 Tab.u166) 153 300 6 = true := chkS_of ck166_p
theorem ck166x : ∀ n, 1 ≤ n → n ≤ 6 → chkS cfg0 (ap 166 Tab.u166) 153 300 n = true
  | 0, h, _ => absurd h (by omega)
  | 1, _, _ => ck166_1
  | 2, _, _ => ck166_2
  | 3, _, _ => ck166_3
  | 4, _, _ => ck166_4
  | 5, _, _ => ck166_5
  | 6, _, _ => ck166_6
  | n + 7, _, h => absurd h (by omega)
theorem sortOK166x : SortOK Tryz.prog cfg0 114 6 [166] where
  cfg := ok0
  ext := rfl
  chk := by
    intro K hK
    rcases List.mem_cons.1 hK with rfl | hK
    · exact ⟨ap 166 Tab.u166, rfl, 152, 153, _, _, 300, so166, ck166x⟩
    cases hK
end Base
