/- AuditBoots: what New answers, and the law up to the view: 1 threads, no shared endpoint. No conditions. -/
import Derived.Test.YtikjmnimdlcehaaGreatBG
set_option linter.unusedVariables false
open Go Eng Go.Proofs Go.RowKit
set_option maxRecDepth 100000
namespace Boots
open Base
noncomputable def dP1A1 : Dn := ⟨.tup [.one (.ptr 33 0), .one (.fsl 31 0 1 1), .one (.int .i64 0)], [(1, hb1), (2, hb153), (3, hb3), (4, hb154), (5, hb155), (6, hb6), (7, hb156), (8, hb157), (9, hb158), (10, hb159), (11, hb160), (12, hb161), (13, hb162), (14, hb163), (15, hb164), (16, hb165), (17, hb166), (18, hb11), (19, hb16), (20, hb167), (21, hb168), (22, hb24), (23, hb169), (24, hb170), (25, hb171), (26, hb172), (27, hb173), (28, hb174), (29, hb175), (30, hb176), (31, hb58), (32, hb58), (33, hb177)], 34⟩
theorem dP1A1_c : dP1A1.closed = true := by decide +kernel
theorem pD_P1A1 : pD 4 54 mP1A1 dP1A1 [486, 3, 4, 6, 7, 8, 9, 10, 11, 12, 13, 14, 15, 16, 17, 18, 19, 20, 21, 22, 49, 72, 135, 169, 189, 209, 229, 249, 269, 349, 414, 463, 484, 485] 487 = true := by decide +kernel
theorem p2_P1A1 : p22 4 54 1 1 false dP1A1 vP1A [140, 49, 89, 119, 128, 134] 141 = true := by decide +kernel
noncomputable def dP1A2 : Dn := ⟨.tup [.one (.ptr 34 0), .one (.fsl 32 0 1 1), .one (.int .i64 0)], [(1, hb1), (2, hb178), (3, hb3), (4, hb3), (5, hb179), (6, hb180), (7, hb30), (8, hb181), (9, hb182), (10, hb183), (11, hb184), (12, hb185), (13, hb186), (14, hb187), (15, hb163), (16, hb164), (17, hb188), (18, hb189), (19, hb11), (20, hb190), (21, hb167), (22, hb168), (23, hb24), (24, hb191), (25, hb192), (26, hb193), (27, hb194), (28, hb195), (29, hb196), (30, hb197), (31, hb198), (32, hb58), (33, hb58), (34, hb199)], 35⟩
theorem dP1A2_c : dP1A2.closed = true := by decide +kernel
theorem pD_P1A2 : pD 4 54 mP1A2 dP1A2 [489, 3, 4, 6, 9, 10, 11, 12, 13, 14, 15, 16, 17, 18, 19, 20, 21, 22, 23, 24, 25, 52, 75, 138, 172, 192, 212, 232, 252, 272, 352, 417, 466, 487, 488] 490 = true := by decide +kernel
theorem p2_P1A2 : p22 4 54 2 1 false dP1A2 vP1A [143, 50, 90, 120, 129, 135] 144 = true := by decide +kernel
noncomputable def dP1A3 : Dn := ⟨.tup [.one (.ptr 35 0), .one (.fsl 33 0 1 1), .one (.int .i64 0)], [(1, hb1), (2, hb200), (3, hb3), (4, hb3), (5, hb3), (6, hb201), (7, hb202), (8, hb44), (9, hb203), (10, hb204), (11, hb205), (12, hb206), (13, hb207), (14, hb208), (15, hb209), (16, hb163), (17, hb164), (18, hb47), (19, hb210), (20, hb11), (21, hb211), (22, hb167), (23, hb168), (24, hb24), (25, hb212), (26, hb213), (27, hb214), (28, hb215), (29, hb216), (30, hb217), (31, hb218), (32, hb219), (33, hb58), (34, hb58), (35, hb220)], 36⟩
theorem dP1A3_c : dP1A3.closed = true := by decide +kernel
theorem pD_P1A3 : pD 4 54 mP1A3 dP1A3 [492, 3, 4, 6, 9, 12, 13, 14, 15, 16, 17, 18, 19, 20, 21, 22, 23, 24, 25, 26, 27, 28, 55, 78, 141, 175, 195, 215, 235, 255, 275, 355, 420, 469, 490, 491] 493 = true := by decide +kernel
theorem p2_P1A3 : p22 4 54 3 1 false dP1A3 vP1A [146, 51, 91, 121, 130, 136] 147 = true := by decide +kernel
theorem pV_P1A_30 : pV 4 54 sP1A_30 = true := by decide +kernel
theorem pV_P1A_31 : pV 4 54 sP1A_31 = true := by decide +kernel
theorem pV_P1A_32 : pV 4 54 sP1A_32 = true := by decide +kernel
theorem pV_P1A_33 : pV 4 54 sP1A_33 = true := by decide +kernel
theorem p3_P1A : p3 4 54 sP1A vP1A = true := by decide +kernel
end Boots
