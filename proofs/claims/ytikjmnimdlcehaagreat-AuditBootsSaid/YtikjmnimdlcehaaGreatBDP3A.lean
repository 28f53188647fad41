/- AuditBoots: what New answers, and the law up to the view: 3 threads, no shared endpoint. No conditions. -/
import Derived.Test.YtikjmnimdlcehaaGreatBG
import Derived.Test.YtikjmnimdlcehaaGreatBM4
set_option linter.unusedVariables false
open Go Eng Go.Proofs Go.RowKit
set_option maxRecDepth 100000
namespace Boots
open Base
noncomputable def dP3A1 : Dn := ⟨.tup [.one (.ptr 51 0), .one (.fsl 49 0 3 1), .one (.int .i64 0)], [(1, hb1), (2, hb153), (3, hb3), (4, hb154), (5, hb350), (6, hb6), (7, hb156), (8, hb351), (9, hb158), (10, hb352), (11, hb353), (12, hb161), (13, hb162), (14, hb354), (15, hb355), (16, hb165), (17, hb356), (18, hb11), (19, hb16), (20, hb167), (21, hb357), (22, hb259), (23, hb358), (24, hb359), (25, hb360), (26, hb121), (27, hb361), (28, hb290), (29, hb291), (30, hb292), (31, hb293), (32, hb294), (33, hb295), (34, hb296), (35, hb297), (36, hb298), (37, hb299), (38, hb300), (39, hb362), (40, hb302), (41, hb303), (42, hb363), (43, hb364), (44, hb365), (45, hb366), (46, hb367), (47, hb368), (48, hb369), (49, hb135), (50, hb135), (51, hb177)], 52⟩
theorem dP3A1_c : dP3A1.closed = true := by decide +kernel
theorem pD_P3A1 : pD 4 11 mP3A1 dP3A1 [1429, 3, 4, 6, 7, 8, 9, 10, 11, 12, 13, 14, 15, 16, 17, 18, 19, 20, 21, 22, 49, 72, 142, 169, 251, 282, 424, 458, 478, 498, 518, 538, 558, 638, 703, 784, 804, 824, 844, 864, 944, 1009, 1090, 1110, 1130, 1150, 1170, 1250, 1315, 1364, 1427, 1428] 1430 = true := by decide +kernel
theorem p2_P3A1 : p24 4 11 1 3 false dP3A1 vP3A [292, 87, 207, 265, 280, 286] 293 = true := by decide +kernel
noncomputable def dP3A2 : Dn := ⟨.tup [.one (.ptr 52 0), .one (.fsl 50 0 3 1), .one (.int .i64 0)], [(1, hb1), (2, hb178), (3, hb3), (4, hb3), (5, hb179), (6, hb370), (7, hb30), (8, hb181), (9, hb371), (10, hb183), (11, hb372), (12, hb373), (13, hb186), (14, hb187), (15, hb354), (16, hb355), (17, hb188), (18, hb374), (19, hb11), (20, hb190), (21, hb167), (22, hb357), (23, hb259), (24, hb358), (25, hb359), (26, hb360), (27, hb121), (28, hb375), (29, hb333), (30, hb334), (31, hb335), (32, hb336), (33, hb337), (34, hb338), (35, hb339), (36, hb340), (37, hb341), (38, hb342), (39, hb343), (40, hb376), (41, hb345), (42, hb346), (43, hb377), (44, hb378), (45, hb379), (46, hb380), (47, hb381), (48, hb382), (49, hb383), (50, hb135), (51, hb135), (52, hb199)], 53⟩
theorem dP3A2_c : dP3A2.closed = true := by decide +kernel
theorem pD_P3A2 : pD 4 11 mP3A2 dP3A2 [1432, 3, 4, 6, 9, 10, 11, 12, 13, 14, 15, 16, 17, 18, 19, 20, 21, 22, 23, 24, 25, 52, 75, 145, 172, 254, 285, 427, 461, 481, 501, 521, 541, 561, 641, 706, 787, 807, 827, 847, 867, 947, 1012, 1093, 1113, 1133, 1153, 1173, 1253, 1318, 1367, 1430, 1431] 1433 = true := by decide +kernel
theorem p2_P3A2 : p24 4 11 2 3 false dP3A2 vP3A [295, 88, 208, 266, 281, 287] 296 = true := by decide +kernel
noncomputable def dP3A3 : Dn := ⟨.tup [.one (.ptr 53 0), .one (.fsl 51 0 3 1), .one (.int .i64 0)], [(1, hb1), (2, hb200), (3, hb3), (4, hb3), (5, hb3), (6, hb201), (7, hb384), (8, hb44), (9, hb203), (10, hb385), (11, hb205), (12, hb386), (13, hb387), (14, hb208), (15, hb209), (16, hb354), (17, hb355), (18, hb47), (19, hb388), (20, hb11), (21, hb211), (22, hb167), (23, hb357), (24, hb259), (25, hb358), (26, hb359), (27, hb360), (28, hb121), (29, hb389), (30, hb390), (31, hb391), (32, hb392), (33, hb393), (34, hb394), (35, hb395), (36, hb396), (37, hb397), (38, hb398), (39, hb399), (40, hb400), (41, hb401), (42, hb402), (43, hb403), (44, hb404), (45, hb405), (46, hb406), (47, hb407), (48, hb408), (49, hb409), (50, hb410), (51, hb135), (52, hb135), (53, hb220)], 54⟩
theorem dP3A3_c : dP3A3.closed = true := by decide +kernel
theorem pD_P3A3 : pD 4 11 mP3A3 dP3A3 [1435, 3, 4, 6, 9, 12, 13, 14, 15, 16, 17, 18, 19, 20, 21, 22, 23, 24, 25, 26, 27, 28, 55, 78, 148, 175, 257, 288, 430, 464, 484, 504, 524, 544, 564, 644, 709, 790, 810, 830, 850, 870, 950, 1015, 1096, 1116, 1136, 1156, 1176, 1256, 1321, 1370, 1433, 1434] 1436 = true := by decide +kernel
theorem p2_P3A3 : p24 4 11 3 3 false dP3A3 vP3A [298, 89, 209, 267, 282, 288] 299 = true := by decide +kernel
theorem pV_P3A_30 : pV 4 11 sP3A_30 = true := by decide +kernel
theorem pV_P3A_31 : pV 4 11 sP3A_31 = true := by decide +kernel
theorem pV_P3A_32 : pV 4 11 sP3A_32 = true := by decide +kernel
theorem pV_P3A_33 : pV 4 11 sP3A_33 = true := by decide +kernel
theorem p3_P3A : p3 4 11 sP3A vP3A = true := by decide +kernel
end Boots
