/- AuditBoots: what New answers, and the law up to the view: 3 threads, a shared endpoint. No conditions. -/
import Derived.Test.YtikjmnimdlcehaaGreatBG
import Derived.Test.YtikjmnimdlcehaaGreatBM4
set_option linter.unusedVariables false
open Go Eng Go.Proofs Go.RowKit
set_option maxRecDepth 100000
namespace Boots
open Base
noncomputable def dS3A1 : Dn := ⟨.tup [.one (.ptr 57 0), .one (.fsl 50 0 3 1), .one (.int .i64 0)], [(1, hb1), (2, hb153), (3, hb3), (4, hb154), (5, hb411), (6, hb6), (7, hb156), (8, hb351), (9, hb158), (10, hb412), (11, hb413), (12, hb161), (13, hb162), (14, hb354), (15, hb355), (16, hb165), (17, hb414), (18, hb415), (19, hb16), (20, hb167), (21, hb416), (22, hb417), (23, hb418), (24, hb419), (25, hb420), (26, hb63), (27, hb140), (28, hb421), (29, hb333), (30, hb334), (31, hb335), (32, hb336), (33, hb337), (34, hb338), (35, hb339), (36, hb340), (37, hb341), (38, hb342), (39, hb343), (40, hb376), (41, hb345), (42, hb346), (43, hb377), (44, hb378), (45, hb379), (46, hb380), (47, hb422), (48, hb382), (49, hb383), (50, hb135), (51, hb423), (52, hb424), (53, hb425), (54, hb426), (55, hb427), (56, hb135), (57, hb177)], 58⟩
theorem dS3A1_c : dS3A1.closed = true := by decide +kernel
theorem pD_S3A1 : pD 3 12 mS3A1 dS3A1 [1760, 3, 4, 6, 7, 8, 9, 10, 11, 12, 13, 14, 15, 16, 17, 18, 19, 20, 21, 22, 49, 72, 142, 169, 251, 282, 376, 460, 494, 514, 534, 554, 574, 594, 674, 739, 820, 840, 860, 880, 900, 980, 1045, 1126, 1146, 1166, 1186, 1206, 1286, 1351, 1400, 1420, 1490, 1558, 1627, 1695, 1758, 1759] 1761 = true := by decide +kernel
theorem p2_S3A1 : p24 3 12 1 3 true dS3A1 vS3A [325, 95, 231, 298, 313, 319] 326 = true := by decide +kernel
noncomputable def dS3A2 : Dn := ⟨.tup [.one (.ptr 58 0), .one (.fsl 51 0 3 1), .one (.int .i64 0)], [(1, hb1), (2, hb178), (3, hb3), (4, hb3), (5, hb179), (6, hb428), (7, hb30), (8, hb181), (9, hb371), (10, hb183), (11, hb429), (12, hb430), (13, hb186), (14, hb187), (15, hb354), (16, hb355), (17, hb188), (18, hb431), (19, hb432), (20, hb190), (21, hb167), (22, hb416), (23, hb417), (24, hb418), (25, hb419), (26, hb420), (27, hb63), (28, hb140), (29, hb433), (30, hb390), (31, hb391), (32, hb392), (33, hb393), (34, hb394), (35, hb395), (36, hb396), (37, hb397), (38, hb398), (39, hb399), (40, hb400), (41, hb401), (42, hb402), (43, hb403), (44, hb404), (45, hb405), (46, hb406), (47, hb407), (48, hb434), (49, hb409), (50, hb410), (51, hb135), (52, hb435), (53, hb436), (54, hb437), (55, hb438), (56, hb439), (57, hb135), (58, hb199)], 59⟩
theorem dS3A2_c : dS3A2.closed = true := by decide +kernel
theorem pD_S3A2 : pD 3 12 mS3A2 dS3A2 [1763, 3, 4, 6, 9, 10, 11, 12, 13, 14, 15, 16, 17, 18, 19, 20, 21, 22, 23, 24, 25, 52, 75, 145, 172, 254, 285, 379, 463, 497, 517, 537, 557, 577, 597, 677, 742, 823, 843, 863, 883, 903, 983, 1048, 1129, 1149, 1169, 1189, 1209, 1289, 1354, 1403, 1423, 1493, 1561, 1630, 1698, 1761, 1762] 1764 = true := by decide +kernel
theorem p2_S3A2 : p24 3 12 2 3 true dS3A2 vS3A [328, 96, 232, 299, 314, 320] 329 = true := by decide +kernel
noncomputable def dS3A3 : Dn := ⟨.tup [.one (.ptr 59 0), .one (.fsl 52 0 3 1), .one (.int .i64 0)], [(1, hb1), (2, hb200), (3, hb3), (4, hb3), (5, hb3), (6, hb201), (7, hb440), (8, hb44), (9, hb203), (10, hb385), (11, hb205), (12, hb441), (13, hb442), (14, hb208), (15, hb209), (16, hb354), (17, hb355), (18, hb47), (19, hb443), (20, hb444), (21, hb211), (22, hb167), (23, hb416), (24, hb417), (25, hb418), (26, hb419), (27, hb420), (28, hb63), (29, hb140), (30, hb445), (31, hb446), (32, hb447), (33, hb448), (34, hb449), (35, hb450), (36, hb451), (37, hb452), (38, hb453), (39, hb454), (40, hb455), (41, hb456), (42, hb457), (43, hb458), (44, hb459), (45, hb460), (46, hb461), (47, hb462), (48, hb463), (49, hb464), (50, hb465), (51, hb466), (52, hb135), (53, hb467), (54, hb468), (55, hb469), (56, hb470), (57, hb471), (58, hb135), (59, hb220)], 60⟩
theorem dS3A3_c : dS3A3.closed = true := by decide +kernel
theorem pD_S3A3 : pD 3 12 mS3A3 dS3A3 [1766, 3, 4, 6, 9, 12, 13, 14, 15, 16, 17, 18, 19, 20, 21, 22, 23, 24, 25, 26, 27, 28, 55, 78, 148, 175, 257, 288, 382, 466, 500, 520, 540, 560, 580, 600, 680, 745, 826, 846, 866, 886, 906, 986, 1051, 1132, 1152, 1172, 1192, 1212, 1292, 1357, 1406, 1426, 1496, 1564, 1633, 1701, 1764, 1765] 1767 = true := by decide +kernel
theorem p2_S3A3 : p24 3 12 3 3 true dS3A3 vS3A [331, 97, 233, 300, 315, 321] 332 = true := by decide +kernel
theorem pV_S3A_30 : pV 3 12 sS3A_30 = true := by decide +kernel
theorem pV_S3A_31 : pV 3 12 sS3A_31 = true := by decide +kernel
theorem pV_S3A_32 : pV 3 12 sS3A_32 = true := by decide +kernel
theorem pV_S3A_33 : pV 3 12 sS3A_33 = true := by decide +kernel
theorem p3_S3A : p3 3 12 sS3A vS3A = true := by decide +kernel
end Boots
