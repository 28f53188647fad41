/- AuditBoots: what New answers, and the law up to the view: 1 threads, a shared endpoint. No conditions. -/
import Derived.Test.YtikjmnimdlcehaaGreatBG
set_option linter.unusedVariables false
open Go Eng Go.Proofs Go.RowKit
set_option maxRecDepth 100000
namespace Boots
open Base
noncomputable def dS1A1 : Dn := ⟨.tup [.one (.ptr 35 0), .one (.fsl 32 0 1 1), .one (.int .i64 0)], [(1, hb1), (2, hb153), (3, hb3), (4, hb154), (5, hb221), (6, hb6), (7, hb156), (8, hb157), (9, hb158), (10, hb222), (11, hb223), (12, hb161), (13, hb162), (14, hb163), (15, hb164), (16, hb165), (17, hb210), (18, hb224), (19, hb16), (20, hb167), (21, hb225), (22, hb63), (23, hb64), (24, hb226), (25, hb192), (26, hb193), (27, hb194), (28, hb195), (29, hb227), (30, hb197), (31, hb198), (32, hb58), (33, hb228), (34, hb58), (35, hb177)], 36⟩
theorem dS1A1_c : dS1A1.closed = true := by decide +kernel
theorem pD_S1A1 : pD 3 54 mS1A1 dS1A1 [533, 3, 4, 6, 7, 8, 9, 10, 11, 12, 13, 14, 15, 16, 17, 18, 19, 20, 21, 22, 49, 72, 142, 161, 195, 215, 235, 255, 275, 295, 375, 440, 489, 509, 531, 532] 534 = true := by decide +kernel
theorem p2_S1A1 : p22 3 54 1 1 true dS1A1 vS1A [149, 53, 97, 128, 137, 143] 150 = true := by decide +kernel
noncomputable def dS1A2 : Dn := ⟨.tup [.one (.ptr 36 0), .one (.fsl 33 0 1 1), .one (.int .i64 0)], [(1, hb1), (2, hb178), (3, hb3), (4, hb3), (5, hb179), (6, hb229), (7, hb30), (8, hb181), (9, hb182), (10, hb183), (11, hb230), (12, hb231), (13, hb186), (14, hb187), (15, hb163), (16, hb164), (17, hb188), (18, hb232), (19, hb233), (20, hb190), (21, hb167), (22, hb225), (23, hb63), (24, hb64), (25, hb234), (26, hb213), (27, hb214), (28, hb215), (29, hb216), (30, hb235), (31, hb218), (32, hb219), (33, hb58), (34, hb236), (35, hb58), (36, hb199)], 37⟩
theorem dS1A2_c : dS1A2.closed = true := by decide +kernel
theorem pD_S1A2 : pD 3 54 mS1A2 dS1A2 [536, 3, 4, 6, 9, 10, 11, 12, 13, 14, 15, 16, 17, 18, 19, 20, 21, 22, 23, 24, 25, 52, 75, 145, 164, 198, 218, 238, 258, 278, 298, 378, 443, 492, 512, 534, 535] 537 = true := by decide +kernel
theorem p2_S1A2 : p22 3 54 2 1 true dS1A2 vS1A [152, 54, 98, 129, 138, 144] 153 = true := by decide +kernel
noncomputable def dS1A3 : Dn := ⟨.tup [.one (.ptr 37 0), .one (.fsl 34 0 1 1), .one (.int .i64 0)], [(1, hb1), (2, hb200), (3, hb3), (4, hb3), (5, hb3), (6, hb201), (7, hb237), (8, hb44), (9, hb203), (10, hb204), (11, hb205), (12, hb238), (13, hb239), (14, hb208), (15, hb209), (16, hb163), (17, hb164), (18, hb47), (19, hb240), (20, hb241), (21, hb211), (22, hb167), (23, hb225), (24, hb63), (25, hb64), (26, hb242), (27, hb243), (28, hb244), (29, hb245), (30, hb246), (31, hb247), (32, hb248), (33, hb249), (34, hb58), (35, hb250), (36, hb58), (37, hb220)], 38⟩
theorem dS1A3_c : dS1A3.closed = true := by decide +kernel
theorem pD_S1A3 : pD 3 54 mS1A3 dS1A3 [539, 3, 4, 6, 9, 12, 13, 14, 15, 16, 17, 18, 19, 20, 21, 22, 23, 24, 25, 26, 27, 28, 55, 78, 148, 167, 201, 221, 241, 261, 281, 301, 381, 446, 495, 515, 537, 538] 540 = true := by decide +kernel
theorem p2_S1A3 : p22 3 54 3 1 true dS1A3 vS1A [155, 55, 99, 130, 139, 145] 156 = true := by decide +kernel
theorem pV_S1A_30 : pV 3 54 sS1A_30 = true := by decide +kernel
theorem pV_S1A_31 : pV 3 54 sS1A_31 = true := by decide +kernel
theorem pV_S1A_32 : pV 3 54 sS1A_32 = true := by decide +kernel
theorem pV_S1A_33 : pV 3 54 sS1A_33 = true := by decide +kernel
theorem p3_S1A : p3 3 54 sS1A vS1A = true := by decide +kernel
end Boots
