/- AuditBoots: what New answers, and the law up to the view: 2 threads, no shared endpoint. No conditions. -/
import Derived.Test.YtikjmnimdlcehaaGreatBG
import Derived.Test.YtikjmnimdlcehaaGreatBM4
set_option linter.unusedVariables false
open Go Eng Go.Proofs Go.RowKit
set_option maxRecDepth 100000
namespace Boots
open Base
noncomputable def dP2A1 : Dn := ⟨.tup [.one (.ptr 42 0), .one (.fsl 40 0 2 1), .one (.int .i64 0)], [(1, hb1), (2, hb153), (3, hb3), (4, hb154), (5, hb251), (6, hb6), (7, hb156), (8, hb252), (9, hb158), (10, hb253), (11, hb254), (12, hb161), (13, hb162), (14, hb255), (15, hb256), (16, hb165), (17, hb257), (18, hb11), (19, hb16), (20, hb167), (21, hb258), (22, hb259), (23, hb260), (24, hb83), (25, hb261), (26, hb213), (27, hb214), (28, hb215), (29, hb216), (30, hb262), (31, hb218), (32, hb219), (33, hb263), (34, hb264), (35, hb265), (36, hb266), (37, hb267), (38, hb268), (39, hb269), (40, hb97), (41, hb97), (42, hb177)], 43⟩
theorem dP2A1_c : dP2A1.closed = true := by decide +kernel
theorem pD_P2A1 : pD 4 22 mP2A1 dP2A1 [945, 3, 4, 6, 7, 8, 9, 10, 11, 12, 13, 14, 15, 16, 17, 18, 19, 20, 21, 22, 49, 72, 142, 169, 267, 301, 321, 341, 361, 381, 401, 481, 546, 627, 647, 667, 687, 707, 787, 852, 901, 943, 944] 946 = true := by decide +kernel
theorem p2_P2A1 : p24 4 22 1 2 false dP2A1 vP2A [216, 68, 148, 192, 204, 210] 217 = true := by decide +kernel
noncomputable def dP2A2 : Dn := ⟨.tup [.one (.ptr 43 0), .one (.fsl 41 0 2 1), .one (.int .i64 0)], [(1, hb1), (2, hb178), (3, hb3), (4, hb3), (5, hb179), (6, hb270), (7, hb30), (8, hb181), (9, hb271), (10, hb183), (11, hb272), (12, hb273), (13, hb186), (14, hb187), (15, hb255), (16, hb256), (17, hb188), (18, hb274), (19, hb11), (20, hb190), (21, hb167), (22, hb258), (23, hb259), (24, hb260), (25, hb83), (26, hb275), (27, hb243), (28, hb244), (29, hb245), (30, hb246), (31, hb276), (32, hb248), (33, hb249), (34, hb277), (35, hb278), (36, hb279), (37, hb280), (38, hb281), (39, hb282), (40, hb283), (41, hb97), (42, hb97), (43, hb199)], 44⟩
theorem dP2A2_c : dP2A2.closed = true := by decide +kernel
theorem pD_P2A2 : pD 4 22 mP2A2 dP2A2 [948, 3, 4, 6, 9, 10, 11, 12, 13, 14, 15, 16, 17, 18, 19, 20, 21, 22, 23, 24, 25, 52, 75, 145, 172, 270, 304, 324, 344, 364, 384, 404, 484, 549, 630, 650, 670, 690, 710, 790, 855, 904, 946, 947] 949 = true := by decide +kernel
theorem p2_P2A2 : p24 4 22 2 2 false dP2A2 vP2A [219, 69, 149, 193, 205, 211] 220 = true := by decide +kernel
noncomputable def dP2A3 : Dn := ⟨.tup [.one (.ptr 44 0), .one (.fsl 42 0 2 1), .one (.int .i64 0)], [(1, hb1), (2, hb200), (3, hb3), (4, hb3), (5, hb3), (6, hb201), (7, hb284), (8, hb44), (9, hb203), (10, hb285), (11, hb205), (12, hb286), (13, hb287), (14, hb208), (15, hb209), (16, hb255), (17, hb256), (18, hb47), (19, hb288), (20, hb11), (21, hb211), (22, hb167), (23, hb258), (24, hb259), (25, hb260), (26, hb83), (27, hb289), (28, hb290), (29, hb291), (30, hb292), (31, hb293), (32, hb294), (33, hb295), (34, hb296), (35, hb297), (36, hb298), (37, hb299), (38, hb300), (39, hb301), (40, hb302), (41, hb303), (42, hb97), (43, hb97), (44, hb220)], 45⟩
theorem dP2A3_c : dP2A3.closed = true := by decide +kernel
theorem pD_P2A3 : pD 4 22 mP2A3 dP2A3 [951, 3, 4, 6, 9, 12, 13, 14, 15, 16, 17, 18, 19, 20, 21, 22, 23, 24, 25, 26, 27, 28, 55, 78, 148, 175, 273, 307, 327, 347, 367, 387, 407, 487, 552, 633, 653, 673, 693, 713, 793, 858, 907, 949, 950] 952 = true := by decide +kernel
theorem p2_P2A3 : p24 4 22 3 2 false dP2A3 vP2A [222, 70, 150, 194, 206, 212] 223 = true := by decide +kernel
theorem pV_P2A_30 : pV 4 22 sP2A_30 = true := by decide +kernel
theorem pV_P2A_31 : pV 4 22 sP2A_31 = true := by decide +kernel
theorem pV_P2A_32 : pV 4 22 sP2A_32 = true := by decide +kernel
theorem pV_P2A_33 : pV 4 22 sP2A_33 = true := by decide +kernel
theorem p3_P2A : p3 4 22 sP2A vP2A = true := by decide +kernel
end Boots
