/- AuditBoots: what New answers, and the law up to the view: 2 threads, a shared endpoint. No conditions. -/
import Derived.Test.YtikjmnimdlcehaaGreatBG
import Derived.Test.YtikjmnimdlcehaaGreatBM4
set_option linter.unusedVariables false
open Go Eng Go.Proofs Go.RowKit
set_option maxRecDepth 100000
namespace Boots
open Base
noncomputable def dS2A1 : Dn := ⟨.tup [.one (.ptr 46 0), .one (.fsl 41 0 2 1), .one (.int .i64 0)], [(1, hb1), (2, hb153), (3, hb3), (4, hb154), (5, hb304), (6, hb6), (7, hb156), (8, hb252), (9, hb158), (10, hb305), (11, hb306), (12, hb161), (13, hb162), (14, hb255), (15, hb256), (16, hb165), (17, hb307), (18, hb308), (19, hb16), (20, hb167), (21, hb309), (22, hb310), (23, hb311), (24, hb63), (25, hb102), (26, hb312), (27, hb243), (28, hb244), (29, hb245), (30, hb246), (31, hb276), (32, hb248), (33, hb249), (34, hb277), (35, hb278), (36, hb279), (37, hb280), (38, hb313), (39, hb282), (40, hb283), (41, hb97), (42, hb314), (43, hb315), (44, hb316), (45, hb97), (46, hb177)], 47⟩
theorem dS2A1_c : dS2A1.closed = true := by decide +kernel
theorem pD_S2A1 : pD 3 22 mS2A1 dS2A1 [1134, 3, 4, 6, 7, 8, 9, 10, 11, 12, 13, 14, 15, 16, 17, 18, 19, 20, 21, 22, 49, 72, 142, 169, 251, 298, 332, 352, 372, 392, 412, 432, 512, 577, 658, 678, 698, 718, 738, 818, 883, 932, 952, 1022, 1090, 1132, 1133] 1135 = true := by decide +kernel
theorem p2_S2A1 : p24 3 22 1 2 true dS2A1 vS2A [237, 74, 164, 213, 225, 231] 238 = true := by decide +kernel
noncomputable def dS2A2 : Dn := ⟨.tup [.one (.ptr 47 0), .one (.fsl 42 0 2 1), .one (.int .i64 0)], [(1, hb1), (2, hb178), (3, hb3), (4, hb3), (5, hb179), (6, hb317), (7, hb30), (8, hb181), (9, hb271), (10, hb183), (11, hb318), (12, hb319), (13, hb186), (14, hb187), (15, hb255), (16, hb256), (17, hb188), (18, hb320), (19, hb321), (20, hb190), (21, hb167), (22, hb309), (23, hb310), (24, hb311), (25, hb63), (26, hb102), (27, hb322), (28, hb290), (29, hb291), (30, hb292), (31, hb293), (32, hb294), (33, hb295), (34, hb296), (35, hb297), (36, hb298), (37, hb299), (38, hb300), (39, hb323), (40, hb302), (41, hb303), (42, hb97), (43, hb324), (44, hb325), (45, hb326), (46, hb97), (47, hb199)], 48⟩
theorem dS2A2_c : dS2A2.closed = true := by decide +kernel
theorem pD_S2A2 : pD 3 22 mS2A2 dS2A2 [1137, 3, 4, 6, 9, 10, 11, 12, 13, 14, 15, 16, 17, 18, 19, 20, 21, 22, 23, 24, 25, 52, 75, 145, 172, 254, 301, 335, 355, 375, 395, 415, 435, 515, 580, 661, 681, 701, 721, 741, 821, 886, 935, 955, 1025, 1093, 1135, 1136] 1138 = true := by decide +kernel
theorem p2_S2A2 : p24 3 22 2 2 true dS2A2 vS2A [240, 75, 165, 214, 226, 232] 241 = true := by decide +kernel
noncomputable def dS2A3 : Dn := ⟨.tup [.one (.ptr 48 0), .one (.fsl 43 0 2 1), .one (.int .i64 0)], [(1, hb1), (2, hb200), (3, hb3), (4, hb3), (5, hb3), (6, hb201), (7, hb327), (8, hb44), (9, hb203), (10, hb285), (11, hb205), (12, hb328), (13, hb329), (14, hb208), (15, hb209), (16, hb255), (17, hb256), (18, hb47), (19, hb330), (20, hb331), (21, hb211), (22, hb167), (23, hb309), (24, hb310), (25, hb311), (26, hb63), (27, hb102), (28, hb332), (29, hb333), (30, hb334), (31, hb335), (32, hb336), (33, hb337), (34, hb338), (35, hb339), (36, hb340), (37, hb341), (38, hb342), (39, hb343), (40, hb344), (41, hb345), (42, hb346), (43, hb97), (44, hb347), (45, hb348), (46, hb349), (47, hb97), (48, hb220)], 49⟩
theorem dS2A3_c : dS2A3.closed = true := by decide +kernel
theorem pD_S2A3 : pD 3 22 mS2A3 dS2A3 [1140, 3, 4, 6, 9, 12, 13, 14, 15, 16, 17, 18, 19, 20, 21, 22, 23, 24, 25, 26, 27, 28, 55, 78, 148, 175, 257, 304, 338, 358, 378, 398, 418, 438, 518, 583, 664, 684, 704, 724, 744, 824, 889, 938, 958, 1028, 1096, 1138, 1139] 1141 = true := by decide +kernel
theorem p2_S2A3 : p24 3 22 3 2 true dS2A3 vS2A [243, 76, 166, 215, 227, 233] 244 = true := by decide +kernel
theorem pV_S2A_30 : pV 3 22 sS2A_30 = true := by decide +kernel
theorem pV_S2A_31 : pV 3 22 sS2A_31 = true := by decide +kernel
theorem pV_S2A_32 : pV 3 22 sS2A_32 = true := by decide +kernel
theorem pV_S2A_33 : pV 3 22 sS2A_33 = true := by decide +kernel
theorem p3_S2A : p3 3 22 sS2A vS2A = true := by decide +kernel
end Boots
