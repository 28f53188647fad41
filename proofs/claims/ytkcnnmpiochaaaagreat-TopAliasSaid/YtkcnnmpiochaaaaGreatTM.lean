/- TopAlias: the heap behind a boot, its memory as words, and how it is read and written. No conditions beside those in its theorems. -/
import Derived.Test.YtkcnnmpiochaaaaGreatSO
import Derived.Test.YtkcnnmpiochaaaaGreatTP
import Derived.Test.YtkcnnmpiochaaaaGreatInsS6
import Derived.Test.YtkcnnmpiochaaaaGreatInsS7
import Derived.Test.YtkcnnmpiochaaaaGreatInsS8
set_option linter.unusedVariables false
open Go Eng Go.Proofs Go.RowKit
namespace TopA
open Base
noncomputable def unrle (l : List (Nat × A)) : List A := @List.rec (Nat × A) (fun _ => List A) [] (fun p _ r => @Nat.rec (fun _ => List A) r (fun _ r => p.2 :: r) p.1) l
noncomputable def cl (l : List (Nat × A)) (n : Nat) (f : Bool) (s : Option Nat) : Blk := .cells (T.ofList (unrle l)) n f s
noncomputable def bb0 : List (Nat × Blk) := [(68, .vm (T.ofList (unrle [(264, .int .u64 0)])) 264 []),
 (69, cl [(1, .slice 68 0 33 33)] 1 true none),
 (70, cl [(1, .fsl 73 0 1 3)] 1 true none),
 (72, cl [(3, .int .i64 0), (2, .bool false), (3, .int .i64 0), (2, .bool false), (4, .int .i64 0), (2, .bool false), (3, .int .i64 0), (2, .bool false), (4, .int .i64 0), (2, .bool false), (3, .int .i64 0), (2, .bool false), (4, .int .i64 0), (2, .bool false), (3, .int .i64 0), (2, .bool false), (1, .int .i64 0)] 44 true none),
 (73, cl [(1, .int .i64 (-1)), (1, .int .i64 0), (1, .ptr 72 0)] 3 false none),
 (74, cl [(1, .int .i64 33), (2, .int .i64 1), (3, .int .i64 0), (3, .int .i64 1), (56, .int .i64 0), (1, .fsl 201 0 5 9)] 66 true none),
 (75, cl [(1, .int .i64 0)] 1 true none),
 (76, cl [(1, .ptr 69 0), (1, .ptr 70 0), (1, .ptr 74 0), (1, .ptr 82 0), (1, .ptr 83 0), (1, .ptr 85 0), (1, .ptr 86 0), (1, .ptr 88 0), (1, .slice 75 0 1 1)] 9 true none),
 (77, .map [⟨.one (.int .i64 1), .one (.slice 115 0 3 3), 0⟩, ⟨.one (.int .i64 2), .one (.slice 138 0 16 16), 1⟩] 2),
 (78, cl [(1, .map 77)] 1 true none),
 (79, cl [(3, .int .i64 0), (1, .ptr 335 0), (1, .ptr 235 0)] 5 true none),
 (80, .map [⟨.agg [.int .i64 2, .int .i64 1], .one (.ptr 235 0), 0⟩, ⟨.agg [.int .i64 2, .int .i64 2], .one (.ptr 255 0), 1⟩, ⟨.agg [.int .i64 2, .int .i64 3], .one (.ptr 275 0), 2⟩, ⟨.agg [.int .i64 2, .int .i64 4], .one (.ptr 295 0), 3⟩, ⟨.agg [.int .i64 2, .int .i64 5], .one (.ptr 315 0), 4⟩, ⟨.agg [.int .i64 2, .int .i64 6], .one (.ptr 335 0), 5⟩, ⟨.agg [.int .i64 1, .int .i64 0], .one (.ptr 415 0), 6⟩, ⟨.agg [.int .i64 1, .int .i64 1], .one (.ptr 480 0), 7⟩] 8),
 (81, cl [(1, .ptr 79 0), (1, .map 80)] 2 true none),
 (82, cl [(1, .ptr 78 0), (1, .ptr 81 0)] 2 true none),
 (83, cl [(1, .int .i64 7), (1, .bool false), (1, .int .i64 0), (1, .int .i64 6), (3, .int .i64 0), (1, .int .i64 1), (3, .int .i64 0), (1, .bool false), (9, .int .i64 0), (1, .bool false), (9, .int .i64 0), (1, .bool false), (9, .int .i64 0), (1, .bool false), (9, .int .i64 0), (1, .bool false), (9, .int .i64 0), (1, .bool false), (9, .int .i64 0), (1, .bool false), (9, .int .i64 0), (1, .int .i64 1), (30, .int .i64 0)] 112 true none),
 (84, .map [⟨.one (.int .i64 1), .agg [.int .i64 1, .int .i64 1, .int .i64 1, .int .u64 0, .int .u64 0, .int .u64 0, .int .u64 0, .int .u64 0, .bool false, .int .i64 0, .int .i64 0, .int .u64 0, .int .u64 0, .int .u64 0, .int .u64 0, .int .u64 0, .int .i64 4096, .int .i64 4096, .bool false, .bool false, .bool false, .bool false, .int .u64 0, .int .u64 0], 0⟩] 1),
 (85, cl [(1, .map 84)] 1 true none),
 (86, cl [(1, .nils), (1, .fsl 550 0 1 1), (6, .nils)] 8 true none),
 (87, .map [] 0),
 (88, cl [(1, .map 87)] 1 true none)]
noncomputable def bb1 : List (Nat × Blk) := [(115, cl [(2, .int .i64 2), (1, .int .i64 0), (1, .int .u64 0), (1, .int .i64 0), (1, .int .i64 8), (2, .int .i64 0), (1, .int .i64 5), (1, .int .i64 6), (1, .int .i64 0), (1, .int .u64 0), (7, .int .i64 0), (1, .int .u64 0), (4, .int .i64 0)] 24 true none),
 (138, cl [(3, .int .i64 0), (1, .int .u64 0), (4, .int .i64 0), (2, .int .i64 2), (1, .int .i64 0), (1, .int .u64 0), (1, .int .i64 0), (1, .int .i64 8), (2, .int .i64 0), (1, .int .i64 9), (1, .int .i64 1), (1, .int .i64 0), (1, .int .u64 0), (4, .int .i64 0), (1, .int .i64 1), (1, .int .i64 8), (1, .int .i64 0), (1, .int .u64 0), (4, .int .i64 0), (1, .int .i64 5), (1, .int .i64 6), (1, .int .i64 0), (1, .int .u64 0), (4, .int .i64 0), (1, .int .i64 7), (2, .int .i64 0), (1, .int .u64 0), (4, .int .i64 0), (1, .int .i64 6), (1, .int .i64 7), (1, .int .i64 0), (1, .int .u64 0), (7, .int .i64 0), (1, .int .u64 0), (7, .int .i64 0), (1, .int .u64 0), (7, .int .i64 0), (1, .int .u64 0), (7, .int .i64 0), (1, .int .u64 0), (7, .int .i64 0), (1, .int .u64 0), (7, .int .i64 0), (1, .int .u64 0), (7, .int .i64 0), (1, .int .u64 0), (7, .int .i64 0), (1, .int .u64 0), (7, .int .i64 0), (1, .int .u64 0), (4, .int .i64 0)] 128 true none),
 (177, cl [(1, .int .i64 1), (1, .int .i64 9), (2, .int .i64 0), (1, .int .i64 1), (4, .int .i64 0), (2, .int .i64 2), (1, .int .i64 4), (1, .int .i64 1), (1, .int .i64 4), (4, .int .i64 0), (1, .int .i64 6), (1, .int .i64 5), (1, .int .i64 0), (1, .int .i64 5), (1, .int .i64 1), (4, .int .i64 0), (1, .int .i64 7), (1, .int .i64 6), (1, .int .i64 0), (1, .int .i64 6), (1, .int .i64 1), (4, .int .i64 0)] 36 false (some 201)),
 (201, cl [(1, .int .i64 1), (1, .int .i64 9), (2, .int .i64 0), (1, .int .i64 1), (4, .int .i64 0), (2, .int .i64 2), (1, .int .i64 4), (1, .int .i64 1), (1, .int .i64 4), (4, .int .i64 0), (1, .int .i64 6), (1, .int .i64 5), (1, .int .i64 0), (1, .int .i64 5), (1, .int .i64 1), (4, .int .i64 0), (1, .int .i64 7), (1, .int .i64 6), (1, .int .i64 0), (1, .int .i64 6), (1, .int .i64 1), (4, .int .i64 0), (1, .int .i64 8), (1, .int .i64 1), (1, .int .i64 26), (1, .int .i64 7), (1, .int .i64 26), (4, .int .i64 0)] 45 false (some 177)),
 (235, cl [(1, .int .i64 2), (1, .int .i64 1), (1, .int .i64 0), (1, .ptr 79 0), (1, .ptr 415 0)] 5 true none),
 (255, cl [(2, .int .i64 2), (1, .int .i64 0), (1, .ptr 415 0), (1, .ptr 275 0)] 5 true none),
 (275, cl [(1, .int .i64 2), (1, .int .i64 3), (1, .int .i64 0), (1, .ptr 255 0), (1, .ptr 295 0)] 5 true none),
 (295, cl [(1, .int .i64 2), (1, .int .i64 4), (1, .int .i64 0), (1, .ptr 275 0), (1, .ptr 480 0)] 5 true none),
 (315, cl [(1, .int .i64 2), (1, .int .i64 5), (1, .int .i64 0), (1, .ptr 480 0), (1, .ptr 335 0)] 5 true none),
 (335, cl [(1, .int .i64 2), (1, .int .i64 6), (1, .int .i64 0), (1, .ptr 315 0), (1, .ptr 79 0)] 5 true none),
 (415, cl [(1, .int .i64 1), (1, .int .i64 0), (1, .int .i64 1), (1, .ptr 235 0), (1, .ptr 255 0)] 5 true none),
 (480, cl [(3, .int .i64 1), (1, .ptr 295 0), (1, .ptr 315 0)] 5 true none),
 (529, cl [(1, .int .i64 1)] 1 false none),
 (550, cl [(1, .int .i64 1)] 1 false none),
 (551, cl [(1, .ptr 76 0)] 1 true none),
 (552, cl [(1, .ptr 551 0), (1, .fsl 529 0 1 1), (1, .nils)] 3 true none)]
noncomputable def bbs : List (Nat × Blk) := app bb0 (bb1)
noncomputable def args6 : List AV := [.agg [.int .i64 33, .int .i64 1, .int .i64 1, .bool false]]
noncomputable def s6 : SumA := ⟨6, args6, .one (.ptr 552 0), 64, bbs, 553⟩
noncomputable def cfgP (l : List SumE) : Cfg := { ty := Tab.tyT.get, fu := Tab.fuT.get, cmp := fun _ _ _ => none, ext := extS 138 5 [206, 274] (extT l) }
theorem okP (l : List SumE) (σ : Sig) : CfgOK Tryz.prog (cfgP l) σ := ok _ _ _ σ (fun _ _ _ _ h => nomatch h) (fun _ _ h => nomatch h)
theorem exP {l : List SumE} {σ : Sig} (hl : ∀ C : Cfg, C.fu = Tab.fuT.get → Al (Summ Tryz.prog σ C) l) : ExtOK (cfgP l) Tryz.prog σ := (ExtS.sort sortOK (ExtS.of (hl _ rfl))).ok rfl
theorem start6 : snapA s6.v s6.next s6.bl (eval (cfgP []) 300 X0 (.call s6.f s6.args) ⟨.nil, s6.k⟩) = true := by decide +kernel
theorem from6 : fromK 64 bbs = true := by decide +kernel
theorem sum6 (σ : Sig) (C : Cfg) (hC : C.fu = Tab.fuT.get) : SummA Tryz.prog σ C s6 := SummA.of (C := cfgP []) hC.symm (okP [] σ) (exP (fun _ _ => .nil)) from6 start6
theorem awake : says true (eval (cfgP pus) 300 X0 (.call 15 []) ⟨.nil, 0⟩) = true := by decide +kernel
theorem aw (σ : Sig) (C : Cfg) (hC : C.fu = Tab.fuT.get) : Summ Tryz.prog σ C ⟨15, [], .one (.bool true)⟩ := by
  obtain ⟨h', hk'⟩ := says_some awake
  exact Summ.of (C := cfgP pus) (s := ⟨15, [], .one (.bool true)⟩) hC.symm (okP pus σ) (exP (fun C hC => pusOK σ C hC)) hk' rfl rfl
noncomputable def M : MemF := ⟨166, 165, 98, 33, [7, 8, 9, 10]⟩
theorem ldOK : allBelow (fun i => memRes (.tup [.one (.sym .u64 (.var i)), .one (.int .i64 0)]) M.F (Nat.mul 8 M.F) (fun j => .sym .u64 (.var j)) (eval cfg0 300 ⟨0, 0, 0, none⟩ (.call M.LOAD [.one (.ptr 0 0), .one (.int .u64 (Int.ofNat (Nat.mul 8 i)))]) (memH M.F (Nat.mul 8 M.F)))) (Nat.mul 8 M.F) = true := by decide +kernel
theorem stOK : allBelow (fun i => memRes okE M.F (Nat.mul 8 M.F) (fun j => bif Nat.beq j i then .sym .u64 (.var (Nat.mul 8 M.F)) else .sym .u64 (.var j)) (eval cfg0 300 ⟨0, 0, 0, none⟩ (.call M.STORE [.one (.ptr 0 0), .one (.int .u64 (Int.ofNat (Nat.mul 8 i))), .one (.sym .u64 (.var (Nat.mul 8 M.F)))]) (memH M.F (Nat.mul 8 M.F)))) (Nat.mul 8 M.F) = true := by decide +kernel
theorem zr7 : memRes okE M.F (Nat.mul 8 M.F) (fun j => bif Nat.beq (Nat.div j 8) 7 then .int .u64 0 else .sym .u64 (.var j)) (eval cfg0 300 ⟨0, 0, 0, none⟩ (.call M.ZERO [.one (.ptr 0 0), .one (.int .i64 (Int.ofNat 7)), .one (.int .i64 1)]) (memH M.F (Nat.mul 8 M.F))) = true := by decide +kernel
theorem zr8 : memRes okE M.F (Nat.mul 8 M.F) (fun j => bif Nat.beq (Nat.div j 8) 8 then .int .u64 0 else .sym .u64 (.var j)) (eval cfg0 300 ⟨0, 0, 0, none⟩ (.call M.ZERO [.one (.ptr 0 0), .one (.int .i64 (Int.ofNat 8)), .one (.int .i64 1)]) (memH M.F (Nat.mul 8 M.F))) = true := by decide +kernel
theorem zr9 : memRes okE M.F (Nat.mul 8 M.F) (fun j => bif Nat.beq (Nat.div j 8) 9 then .int .u64 0 else .sym .u64 (.var j)) (eval cfg0 300 ⟨0, 0, 0, none⟩ (.call M.ZERO [.one (.ptr 0 0), .one (.int .i64 (Int.ofNat 9)), .one (.int .i64 1)]) (memH M.F (Nat.mul 8 M.F))) = true := by decide +kernel
theorem zr10 : memRes okE M.F (Nat.mul 8 M.F) (fun j => bif Nat.beq (Nat.div j 8) 10 then .int .u64 0 else .sym .u64 (.var j)) (eval cfg0 300 ⟨0, 0, 0, none⟩ (.call M.ZERO [.one (.ptr 0 0), .one (.int .i64 (Int.ofNat 10)), .one (.int .i64 1)]) (memH M.F (Nat.mul 8 M.F))) = true := by decide +kernel
theorem memOK : MemOK Tryz.prog cfg0 M where
  cfg := ok0
  ext := ext0
  small := by decide
  load := fun i hi => allBelow_get ldOK i hi
  store := fun i hi => allBelow_get stOK i hi
  zero := by
    intro f hf
    rcases List.mem_cons.1 hf with e | hf
    · subst e; exact zr7
    rcases List.mem_cons.1 hf with e | hf
    · subst e; exact zr8
    rcases List.mem_cons.1 hf with e | hf
    · subst e; exact zr9
    rcases List.mem_cons.1 hf with e | hf
    · subst e; exact zr10
    cases hf
noncomputable def cfgM (t : List CF) (n : List NF) (l : List SumE) : Cfg := { ty := Tab.tyT.get, fu := Tab.fuT.get, cmp := cmpT t, norm := normT n, ext := extS 138 5 [206, 274] (extM (normT n) (cmpT t) M (Go.Proofs.Ins8.extI (Go.Proofs.Ins7.extI (Go.Proofs.Ins6.extI (extA s6 (extT l)))))) }
theorem okM {t : List CF} {n : List NF} {l : List SumE} {σ : Sig} (ht : Al (CFok σ) t) (hn : Al (NFok σ) n) : CfgOK Tryz.prog (cfgM t n l) σ := ok _ _ _ σ (cmpT_ok ht) (normT_ok hn)
theorem exM {t : List CF} {n : List NF} {l : List SumE} {σ : Sig} (ht : Al (CFok σ) t) (hn : Al (NFok σ) n) (hl : ∀ C : Cfg, C.fu = Tab.fuT.get → Al (Summ Tryz.prog σ C) l) : ExtOK (cfgM t n l) Tryz.prog σ :=
  (ExtS.sort sortOK (ExtS.mem (C := cfgM t n l) memOK (okM ht hn) (Go.Proofs.Ins8.extI_ok (Go.Proofs.Ins7.extI_ok (Go.Proofs.Ins6.extI_ok (ExtS.gapA (sum6 σ _ rfl) rfl (ExtS.of (hl _ rfl)))))))).ok rfl
end TopA
