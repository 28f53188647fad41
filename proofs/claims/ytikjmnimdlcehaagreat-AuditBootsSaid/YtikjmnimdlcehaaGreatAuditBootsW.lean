/- AuditBoots: a call of the law returns true. No conditions beside those in its theorems. -/
import Derived.Test.YtikjmnimdlcehaaGreatBWP
import Derived.Test.YtikjmnimdlcehaaGreatBWS
set_option linter.unusedVariables false
open Go Eng Go.Proofs Go.RowKit
set_option maxRecDepth 100000
namespace auditBootsW
open Base Boots
theorem walk (l0 : List Value) (wh wt : Int) (h0 : Flat.Cells [.n .i64, .n .i64, .n .i64, .b] l0) (w : World) : Calls Tryz.prog 3 #[.agg l0.toArray, .int .i64 wh, .int .i64 wt] w fun e w' => e = .returned (.bool true) ∧ Grown w w' := by
  obtain _ | ⟨_, h0⟩ := h0
  rename_i fr _ _
  obtain _ | ⟨_, h0⟩ := h0
  rename_i co _ _
  obtain _ | ⟨_, h0⟩ := h0
  rename_i th _ _
  obtain _ | _ | h0 := h0
  rename_i s _
  cases h0
  have hS : F2 (AVR rho0 (sn fr co th wh wt)) (aN (.sym .i64 (.var 2)) s) [.agg #[.int .i64 fr, .int .i64 co, .int .i64 th, .bool s], .int .i64 wh, .int .i64 wt] := .cons ⟨_, rfl, .cons rfl (.cons rfl (.cons rfl (.cons rfl .nil)))⟩ (.cons rfl (.cons rfl .nil))
  by_cases t1 : th ≥ 1
  · have f1 : CFok (sn fr co th wh wt) ⟨.geq, .var 2, .lit 1, true⟩ := decide_eq_true t1
    by_cases t2 : th ≤ 3
    · have f2 : CFok (sn fr co th wh wt) ⟨.leq, .var 2, .lit 3, true⟩ := decide_eq_true t2
      by_cases c1 : co ≥ 1
      · have f3 : CFok (sn fr co th wh wt) ⟨.geq, .var 1, .lit 1, true⟩ := decide_eq_true c1
        by_cases c2 : co ≤ 3
        · have f4 : CFok (sn fr co th wh wt) ⟨.leq, .var 1, .lit 3, true⟩ := decide_eq_true c2
          rcases (show th = 1 ∨ th = 2 ∨ th = 3 by omega) with rfl | rfl | rfl
          · have hT : F2 (AVR rho0 (sn fr co 1 wh wt)) (aN (.int .i64 1) s) [.agg #[.int .i64 fr, .int .i64 co, .int .i64 1, .bool s], .int .i64 wh, .int .i64 wt] := .cons ⟨_, rfl, .cons rfl (.cons rfl (.cons rfl (.cons rfl .nil)))⟩ (.cons rfl (.cons rfl .nil))
            by_cases g1 : fr ≥ 11
            · have f5 : CFok (sn fr co 1 wh wt) ⟨.geq, .var 0, .lit 11, true⟩ := decide_eq_true g1
              by_cases g2 : fr ≤ 64
              · rcases (show co = 1 ∨ co = 2 ∨ co = 3 by omega) with rfl | rfl | rfl
                · cases s
                  · exact k_P1A1 fr wh wt g1 g2 w
                  · exact k_S1A1 fr wh wt g1 g2 w
                · cases s
                  · exact k_P1A2 fr wh wt g1 g2 w
                  · exact k_S1A2 fr wh wt g1 g2 w
                · cases s
                  · exact k_P1A3 fr wh wt g1 g2 w
                  · exact k_S1A3 fr wh wt g1 g2 w
              · exact leafN (rN6_1 s) (.cons f3 (.cons f4 (.cons f5 (.cons (show CFok _ ⟨.leq, .var 0, .lit 64, false⟩ from decide_eq_false g2) .nil)))) hT w
            · exact leafN (rN5_1 s) (.cons f3 (.cons f4 (.cons (show CFok _ ⟨.geq, .var 0, .lit 11, false⟩ from decide_eq_false g1) .nil))) hT w
          · have hT : F2 (AVR rho0 (sn fr co 2 wh wt)) (aN (.int .i64 2) s) [.agg #[.int .i64 fr, .int .i64 co, .int .i64 2, .bool s], .int .i64 wh, .int .i64 wt] := .cons ⟨_, rfl, .cons rfl (.cons rfl (.cons rfl (.cons rfl .nil)))⟩ (.cons rfl (.cons rfl .nil))
            by_cases g1 : fr ≥ 22
            · have f5 : CFok (sn fr co 2 wh wt) ⟨.geq, .var 0, .lit 22, true⟩ := decide_eq_true g1
              by_cases g2 : fr ≤ 64
              · rcases (show co = 1 ∨ co = 2 ∨ co = 3 by omega) with rfl | rfl | rfl
                · cases s
                  · exact k_P2A1 fr wh wt g1 g2 w
                  · exact k_S2A1 fr wh wt g1 g2 w
                · cases s
                  · exact k_P2A2 fr wh wt g1 g2 w
                  · exact k_S2A2 fr wh wt g1 g2 w
                · cases s
                  · exact k_P2A3 fr wh wt g1 g2 w
                  · exact k_S2A3 fr wh wt g1 g2 w
              · exact leafN (rN6_2 s) (.cons f3 (.cons f4 (.cons f5 (.cons (show CFok _ ⟨.leq, .var 0, .lit 64, false⟩ from decide_eq_false g2) .nil)))) hT w
            · exact leafN (rN5_2 s) (.cons f3 (.cons f4 (.cons (show CFok _ ⟨.geq, .var 0, .lit 22, false⟩ from decide_eq_false g1) .nil))) hT w
          · have hT : F2 (AVR rho0 (sn fr co 3 wh wt)) (aN (.int .i64 3) s) [.agg #[.int .i64 fr, .int .i64 co, .int .i64 3, .bool s], .int .i64 wh, .int .i64 wt] := .cons ⟨_, rfl, .cons rfl (.cons rfl (.cons rfl (.cons rfl .nil)))⟩ (.cons rfl (.cons rfl .nil))
            by_cases g1 : fr ≥ 33
            · have f5 : CFok (sn fr co 3 wh wt) ⟨.geq, .var 0, .lit 33, true⟩ := decide_eq_true g1
              by_cases g2 : fr ≤ 64
              · rcases (show co = 1 ∨ co = 2 ∨ co = 3 by omega) with rfl | rfl | rfl
                · cases s
                  · exact k_P3A1 fr wh wt g1 g2 w
                  · exact k_S3A1 fr wh wt g1 g2 w
                · cases s
                  · exact k_P3A2 fr wh wt g1 g2 w
                  · exact k_S3A2 fr wh wt g1 g2 w
                · cases s
                  · exact k_P3A3 fr wh wt g1 g2 w
                  · exact k_S3A3 fr wh wt g1 g2 w
              · exact leafN (rN6_3 s) (.cons f3 (.cons f4 (.cons f5 (.cons (show CFok _ ⟨.leq, .var 0, .lit 64, false⟩ from decide_eq_false g2) .nil)))) hT w
            · exact leafN (rN5_3 s) (.cons f3 (.cons f4 (.cons (show CFok _ ⟨.geq, .var 0, .lit 33, false⟩ from decide_eq_false g1) .nil))) hT w
        · exact leafN (rN4 s) (.cons f1 (.cons f2 (.cons f3 (.cons (show CFok (sn fr co th wh wt) ⟨.leq, .var 1, .lit 3, false⟩ from decide_eq_false c2) .nil)))) hS w
      · exact leafN (rN3 s) (.cons f1 (.cons f2 (.cons (show CFok (sn fr co th wh wt) ⟨.geq, .var 1, .lit 1, false⟩ from decide_eq_false c1) .nil))) hS w
    · exact leafN (rN2 s) (.cons f1 (.cons (show CFok (sn fr co th wh wt) ⟨.leq, .var 2, .lit 3, false⟩ from decide_eq_false t2) .nil)) hS w
  · exact leafN (rN1 s) (.cons (show CFok (sn fr co th wh wt) ⟨.geq, .var 2, .lit 1, false⟩ from decide_eq_false t1) .nil) hS w
end auditBootsW
