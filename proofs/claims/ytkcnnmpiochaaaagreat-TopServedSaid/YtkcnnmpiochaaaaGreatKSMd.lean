/- TopServed: the heap behind a boot, its memory as words: what is evaluated in. No conditions beside those in its theorems. -/
import Derived.Test.YtkcnnmpiochaaaaGreatKSO
import Derived.Test.YtkcnnmpiochaaaaGreatKSP
import Derived.Test.YtkcnnmpiochaaaaGreatKInsS12a10
import Derived.Test.YtkcnnmpiochaaaaGreatKInsS13a11
set_option linter.unusedVariables false
open Go Eng Go.Proofs Go.RowKit
namespace TopS
open Base
noncomputable def unrle (l : List (Nat × A)) : List A := @List.rec (Nat × A) (fun _ => List A) [] (fun p _ r => @Nat.rec (fun _ => List A) r (fun _ r => p.2 :: r) p.1) l
noncomputable def cl (l : List (Nat × A)) (n : Nat) (f : Bool) (s : Option Nat) : Blk := .cells (T.ofList (unrle l)) n f s
noncomputable def bb0 : List (Nat × Blk) := [(68, .vm (T.ofList (unrle [(512, .int .u64 0)])) 512 []),
 (69, cl [(1, .slice 68 0 64 64)] 1 true none),
 (70, cl [(1, .fsl 76 0 2 3)] 1 true none),
 (72, cl [(3, .int .i64 0), (2, .bool false), (3, .int .i64 0), (2, .bool false), (4, .int .i64 0), (2, .bool false), (3, .int .i64 0), (2, .bool false), (4, .int .i64 0), (2, .bool false), (3, .int .i64 0), (2, .bool false), (4, .int .i64 0), (2, .bool false), (3, .int .i64 0), (2, .bool false), (1, .int .i64 0)] 44 true none),
 (73, cl [(1, .int .i64 (-1)), (1, .int .i64 0), (1, .ptr 72 0)] 3 false (some 76)),
 (75, cl [(3, .int .i64 0), (2, .bool false), (3, .int .i64 0), (2, .bool false), (4, .int .i64 0), (2, .bool false), (3, .int .i64 0), (2, .bool false), (4, .int .i64 0), (2, .bool false), (3, .int .i64 0), (2, .bool false), (4, .int .i64 0), (2, .bool false), (3, .int .i64 0), (2, .bool false), (1, .int .i64 0)] 44 true none),
 (76, cl [(1, .int .i64 (-1)), (1, .int .i64 0), (1, .ptr 72 0), (1, .int .i64 (-1)), (1, .int .i64 0), (1, .ptr 75 0)] 6 false (some 73)),
 (77, cl [(1, .int .i64 64), (2, .int .i64 1), (3, .int .i64 0), (4, .int .i64 1), (3, .int .i64 0), (4, .int .i64 1), (23, .int .i64 0), (1, .int .i64 1), (24, .int .i64 0), (1, .fsl 367 0 11 9)] 66 true none),
 (78, cl [(2, .int .i64 0)] 2 true none),
 (79, cl [(1, .ptr 69 0), (1, .ptr 70 0), (1, .ptr 77 0), (1, .ptr 85 0), (1, .ptr 86 0), (1, .ptr 88 0), (1, .ptr 89 0), (1, .ptr 91 0), (1, .slice 78 0 2 2)] 9 true none),
 (80, .map [⟨.one (.int .i64 1), .one (.slice 118 0 3 3), 0⟩, ⟨.one (.int .i64 2), .one (.slice 141 0 16 16), 1⟩, ⟨.one (.int .i64 8), .one (.slice 211 0 3 3), 2⟩, ⟨.one (.int .i64 9), .one (.slice 238 0 16 16), 3⟩] 4),
 (81, cl [(1, .map 80)] 1 true none),
 (82, cl [(3, .int .i64 0), (1, .ptr 1091 0), (1, .ptr 401 0)] 5 true none),
 (83, .map [⟨.agg [.int .i64 2, .int .i64 1], .one (.ptr 401 0), 0⟩, ⟨.agg [.int .i64 2, .int .i64 2], .one (.ptr 421 0), 1⟩, ⟨.agg [.int .i64 2, .int .i64 3], .one (.ptr 441 0), 2⟩, ⟨.agg [.int .i64 2, .int .i64 4], .one (.ptr 461 0), 3⟩, ⟨.agg [.int .i64 2, .int .i64 5], .one (.ptr 481 0), 4⟩, ⟨.agg [.int .i64 2, .int .i64 6], .one (.ptr 501 0), 5⟩, ⟨.agg [.int .i64 1, .int .i64 0], .one (.ptr 581 0), 6⟩, ⟨.agg [.int .i64 1, .int .i64 1], .one (.ptr 646 0), 7⟩, ⟨.agg [.int .i64 9, .int .i64 1], .one (.ptr 727 0), 8⟩, ⟨.agg [.int .i64 9, .int .i64 2], .one (.ptr 747 0), 9⟩, ⟨.agg [.int .i64 9, .int .i64 3], .one (.ptr 767 0), 10⟩, ⟨.agg [.int .i64 9, .int .i64 4], .one (.ptr 787 0), 11⟩, ⟨.agg [.int .i64 9, .int .i64 6], .one (.ptr 807 0), 12⟩, ⟨.agg [.int .i64 8, .int .i64 0], .one (.ptr 887 0), 13⟩, ⟨.agg [.int .i64 8, .int .i64 1], .one (.ptr 952 0), 14⟩, ⟨.agg [.int .i64 2, .int .i64 7], .one (.ptr 1021 0), 15⟩, ⟨.agg [.int .i64 9, .int .i64 7], .one (.ptr 1091 0), 16⟩, ⟨.agg [.int .i64 8, .int .i64 2], .one (.ptr 1159 0), 17⟩] 18),
 (84, cl [(1, .ptr 82 0), (1, .map 83)] 2 true none),
 (85, cl [(1, .ptr 81 0), (1, .ptr 84 0)] 2 true none),
 (86, cl [(1, .int .i64 7), (1, .bool false), (1, .int .i64 0), (1, .int .i64 6), (3, .int .i64 0), (1, .int .i64 1), (2, .int .i64 0), (1, .int .i64 14), (1, .bool false), (1, .int .i64 13), (3, .int .i64 0), (1, .int .i64 4), (4, .int .i64 0), (1, .bool false), (9, .int .i64 0), (1, .bool false), (9, .int .i64 0), (1, .bool false), (9, .int .i64 0), (1, .bool false), (9, .int .i64 0), (1, .bool false), (9, .int .i64 0), (1, .bool false), (9, .int .i64 0), (1, .int .i64 1), (2, .int .i64 0), (1, .int .i64 1), (27, .int .i64 0)] 112 true none),
 (87, .map [⟨.one (.int .i64 1), .agg [.int .i64 1, .int .i64 1, .int .i64 1, .int .u64 0, .int .u64 0, .int .u64 0, .int .u64 0, .int .u64 0, .bool false, .int .i64 0, .int .i64 0, .int .u64 0, .int .u64 0, .int .u64 0, .int .u64 0, .int .u64 0, .int .i64 4096, .int .i64 4096, .bool false, .bool false, .bool false, .bool false, .int .u64 0, .int .u64 0], 0⟩, ⟨.one (.int .i64 8), .agg [.int .i64 8, .int .i64 1, .int .i64 1, .int .u64 0, .int .u64 0, .int .u64 0, .int .u64 0, .int .u64 0, .bool false, .int .i64 0, .int .i64 0, .int .u64 0, .int .u64 0, .int .u64 0, .int .u64 0, .int .u64 0, .int .i64 4096, .int .i64 4096, .bool false, .bool false, .bool false, .bool false, .int .u64 0, .int .u64 0], 1⟩] 2),
 (88, cl [(1, .map 87)] 1 true none),
 (89, cl [(1, .nils), (1, .fsl 1201 0 2 1), (6, .nils)] 8 true none)]
noncomputable def bb1 : List (Nat × Blk) := [(90, .map [⟨.one (.int .i64 15), .one (.ptr 320 0), 0⟩] 1),
 (91, cl [(1, .map 90)] 1 true none),
 (118, cl [(2, .int .i64 2), (1, .int .i64 0), (1, .int .u64 0), (1, .int .i64 0), (1, .int .i64 8), (2, .int .i64 0), (1, .int .i64 5), (1, .int .i64 6), (1, .int .i64 0), (1, .int .u64 0), (7, .int .i64 0), (1, .int .u64 0), (4, .int .i64 0)] 24 true none),
 (141, cl [(3, .int .i64 0), (1, .int .u64 0), (4, .int .i64 0), (2, .int .i64 2), (1, .int .i64 0), (1, .int .u64 0), (1, .int .i64 0), (1, .int .i64 8), (2, .int .i64 0), (1, .int .i64 9), (1, .int .i64 1), (1, .int .i64 0), (1, .int .u64 0), (4, .int .i64 0), (1, .int .i64 1), (1, .int .i64 16), (1, .int .i64 0), (1, .int .u64 0), (4, .int .i64 0), (1, .int .i64 5), (1, .int .i64 6), (1, .int .i64 0), (1, .int .u64 0), (4, .int .i64 0), (1, .int .i64 7), (2, .int .i64 0), (1, .int .u64 0), (4, .int .i64 0), (1, .int .i64 6), (1, .int .i64 7), (1, .int .i64 0), (1, .int .u64 0), (4, .int .i64 0), (1, .int .i64 8), (1, .int .i64 15), (1, .int .i64 7), (1, .int .u64 0), (7, .int .i64 0), (1, .int .u64 0), (7, .int .i64 0), (1, .int .u64 0), (7, .int .i64 0), (1, .int .u64 0), (7, .int .i64 0), (1, .int .u64 0), (7, .int .i64 0), (1, .int .u64 0), (7, .int .i64 0), (1, .int .u64 0), (7, .int .i64 0), (1, .int .u64 0), (7, .int .i64 0), (1, .int .u64 0), (4, .int .i64 0)] 128 true none),
 (211, cl [(1, .int .i64 2), (1, .int .i64 9), (1, .int .i64 0), (1, .int .u64 0), (1, .int .i64 0), (1, .int .i64 8), (2, .int .i64 0), (1, .int .i64 5), (1, .int .i64 13), (1, .int .i64 0), (1, .int .u64 0), (4, .int .i64 0), (1, .int .i64 8), (1, .int .i64 15), (1, .int .i64 7), (1, .int .u64 102), (4, .int .i64 0)] 24 true none),
 (238, cl [(3, .int .i64 0), (1, .int .u64 0), (4, .int .i64 0), (1, .int .i64 2), (1, .int .i64 9), (1, .int .i64 0), (1, .int .u64 0), (1, .int .i64 0), (1, .int .i64 8), (2, .int .i64 0), (1, .int .i64 9), (1, .int .i64 8), (1, .int .i64 0), (1, .int .u64 0), (4, .int .i64 0), (1, .int .i64 1), (1, .int .i64 40), (1, .int .i64 0), (1, .int .u64 0), (4, .int .i64 0), (1, .int .i64 5), (1, .int .i64 13), (1, .int .i64 0), (1, .int .u64 0), (7, .int .i64 0), (1, .int .u64 0), (4, .int .i64 0), (1, .int .i64 6), (1, .int .i64 14), (1, .int .i64 0), (1, .int .u64 0), (4, .int .i64 0), (1, .int .i64 8), (1, .int .i64 15), (1, .int .i64 7), (1, .int .u64 2), (7, .int .i64 0), (1, .int .u64 0), (7, .int .i64 0), (1, .int .u64 0), (7, .int .i64 0), (1, .int .u64 0), (7, .int .i64 0), (1, .int .u64 0), (7, .int .i64 0), (1, .int .u64 0), (7, .int .i64 0), (1, .int .u64 0), (7, .int .i64 0), (1, .int .u64 0), (7, .int .i64 0), (1, .int .u64 0), (4, .int .i64 0)] 128 true none),
 (320, cl [(1, .nils), (1, .bool false)] 2 true none),
 (343, cl [(1, .int .i64 1), (1, .int .i64 9), (2, .int .i64 0), (1, .int .i64 1), (4, .int .i64 0), (2, .int .i64 2), (1, .int .i64 4), (1, .int .i64 1), (1, .int .i64 4), (4, .int .i64 0), (1, .int .i64 6), (1, .int .i64 5), (1, .int .i64 0), (1, .int .i64 5), (1, .int .i64 1), (4, .int .i64 0), (1, .int .i64 7), (1, .int .i64 6), (1, .int .i64 0), (1, .int .i64 6), (1, .int .i64 1), (4, .int .i64 0), (1, .int .i64 8), (1, .int .i64 9), (1, .int .i64 0), (1, .int .i64 7), (1, .int .i64 1), (4, .int .i64 0), (1, .int .i64 9), (1, .int .i64 2), (1, .int .i64 4), (1, .int .i64 8), (1, .int .i64 4), (4, .int .i64 0), (1, .int .i64 13), (1, .int .i64 5), (1, .int .i64 0), (1, .int .i64 12), (1, .int .i64 1), (4, .int .i64 0), (1, .int .i64 14), (1, .int .i64 6), (1, .int .i64 0), (1, .int .i64 13), (1, .int .i64 1), (4, .int .i64 0), (1, .int .i64 15), (1, .int .i64 8), (1, .int .i64 0), (1, .int .i64 14), (1, .int .i64 1), (4, .int .i64 0), (1, .int .i64 16), (1, .int .i64 1), (1, .int .i64 24), (1, .int .i64 15), (1, .int .i64 24), (4, .int .i64 0)] 90 false (some 367)),
 (367, cl [(1, .int .i64 1), (1, .int .i64 9), (2, .int .i64 0), (1, .int .i64 1), (4, .int .i64 0), (2, .int .i64 2), (1, .int .i64 4), (1, .int .i64 1), (1, .int .i64 4), (4, .int .i64 0), (1, .int .i64 6), (1, .int .i64 5), (1, .int .i64 0), (1, .int .i64 5), (1, .int .i64 1), (4, .int .i64 0), (1, .int .i64 7), (1, .int .i64 6), (1, .int .i64 0), (1, .int .i64 6), (1, .int .i64 1), (4, .int .i64 0), (1, .int .i64 8), (1, .int .i64 9), (1, .int .i64 0), (1, .int .i64 7), (1, .int .i64 1), (4, .int .i64 0), (1, .int .i64 9), (1, .int .i64 2), (1, .int .i64 4), (1, .int .i64 8), (1, .int .i64 4), (4, .int .i64 0), (1, .int .i64 13), (1, .int .i64 5), (1, .int .i64 0), (1, .int .i64 12), (1, .int .i64 1), (4, .int .i64 0), (1, .int .i64 14), (1, .int .i64 6), (1, .int .i64 0), (1, .int .i64 13), (1, .int .i64 1), (4, .int .i64 0), (1, .int .i64 15), (1, .int .i64 8), (1, .int .i64 0), (1, .int .i64 14), (1, .int .i64 1), (4, .int .i64 0), (1, .int .i64 16), (1, .int .i64 1), (1, .int .i64 24), (1, .int .i64 15), (1, .int .i64 24), (4, .int .i64 0), (1, .int .i64 40), (1, .int .i64 1), (1, .int .i64 24), (1, .int .i64 39), (1, .int .i64 24), (4, .int .i64 0)] 99 false (some 343)),
 (401, cl [(1, .int .i64 2), (1, .int .i64 1), (1, .int .i64 0), (1, .ptr 82 0), (1, .ptr 581 0)] 5 true none),
 (421, cl [(2, .int .i64 2), (1, .int .i64 0), (1, .ptr 581 0), (1, .ptr 441 0)] 5 true none),
 (441, cl [(1, .int .i64 2), (1, .int .i64 3), (1, .int .i64 0), (1, .ptr 421 0), (1, .ptr 461 0)] 5 true none),
 (461, cl [(1, .int .i64 2), (1, .int .i64 4), (1, .int .i64 0), (1, .ptr 441 0), (1, .ptr 646 0)] 5 true none),
 (481, cl [(1, .int .i64 2), (1, .int .i64 5), (1, .int .i64 0), (1, .ptr 646 0), (1, .ptr 501 0)] 5 true none),
 (501, cl [(1, .int .i64 2), (1, .int .i64 6), (1, .int .i64 0), (1, .ptr 481 0), (1, .ptr 727 0)] 5 true none),
 (581, cl [(1, .int .i64 1), (1, .int .i64 0), (1, .int .i64 1), (1, .ptr 401 0), (1, .ptr 421 0)] 5 true none),
 (646, cl [(3, .int .i64 1), (1, .ptr 461 0), (1, .ptr 481 0)] 5 true none),
 (695, cl [(1, .int .i64 1)] 1 false (some 1001)),
 (727, cl [(1, .int .i64 9), (1, .int .i64 1), (1, .int .i64 0), (1, .ptr 501 0), (1, .ptr 887 0)] 5 true none),
 (747, cl [(1, .int .i64 9), (1, .int .i64 2), (1, .int .i64 0), (1, .ptr 887 0), (1, .ptr 767 0)] 5 true none)]
noncomputable def bb2 : List (Nat × Blk) := [(767, cl [(1, .int .i64 9), (1, .int .i64 3), (1, .int .i64 0), (1, .ptr 747 0), (1, .ptr 787 0)] 5 true none),
 (787, cl [(1, .int .i64 9), (1, .int .i64 4), (1, .int .i64 0), (1, .ptr 767 0), (1, .ptr 952 0)] 5 true none),
 (807, cl [(1, .int .i64 9), (1, .int .i64 6), (1, .int .i64 0), (1, .ptr 952 0), (1, .ptr 1021 0)] 5 true none),
 (887, cl [(1, .int .i64 8), (1, .int .i64 0), (1, .int .i64 1), (1, .ptr 727 0), (1, .ptr 747 0)] 5 true none),
 (952, cl [(1, .int .i64 8), (2, .int .i64 1), (1, .ptr 787 0), (1, .ptr 807 0)] 5 true none),
 (1001, cl [(1, .int .i64 1), (1, .int .i64 8)] 2 false (some 695)),
 (1021, cl [(1, .int .i64 2), (1, .int .i64 7), (1, .int .i64 0), (1, .ptr 807 0), (1, .ptr 1159 0)] 5 true none),
 (1091, cl [(1, .int .i64 9), (1, .int .i64 7), (1, .int .i64 1), (1, .ptr 1159 0), (1, .ptr 82 0)] 5 true none),
 (1159, cl [(1, .int .i64 8), (1, .int .i64 2), (1, .int .i64 1), (1, .ptr 1021 0), (1, .ptr 1091 0)] 5 true none),
 (1180, cl [(1, .int .i64 1)] 1 false (some 1201)),
 (1201, cl [(1, .int .i64 1), (1, .int .i64 8)] 2 false (some 1180)),
 (1202, cl [(1, .ptr 79 0)] 1 true none),
 (1203, cl [(1, .ptr 1202 0), (1, .fsl 1001 0 2 1), (1, .nils)] 3 true none)]
noncomputable def bbs : List (Nat × Blk) := app bb0 (app bb1 (bb2))
noncomputable def args6 : List AV := [.agg [.int .i64 64, .int .i64 2, .int .i64 2, .bool true]]
noncomputable def s6 : SumA := ⟨6, args6, .one (.ptr 1203 0), 64, bbs, 1204⟩
noncomputable def cfgP (l : List SumE) : Cfg := { ty := Tab.tyT.get, fu := Tab.fuT.get, cmp := fun _ _ _ => none, ext := extS 138 5 [206, 274] (extT l) }
noncomputable def M : MemF := ⟨166, 165, 98, 64, [15, 16, 17]⟩
noncomputable def cfgM (t : List CF) (n : List NF) (l : List SumE) : Cfg := { ty := Tab.tyT.get, fu := Tab.fuT.get, cmp := cmpT t, norm := normT n, pa := fun f => Nat.beq f 172, ext := extS 138 5 [206, 274] (extW (normT n) (cmpT t) 34 64 [17] (extM (normT n) (cmpT t) M (Go.Proofs.Ins13a11.extI (Go.Proofs.Ins12a10.extI (extA s6 (extT l)))))) }
end TopS
