/- VspaceOthers: its places by number, the cases of its loop, and the facts that each wants. No conditions beside those in its theorems. -/
import Derived.Test.YtpiicallicgdkaaGreatVOS
set_option linter.unusedVariables false
open Go Eng Go.Proofs Go.RowKit
namespace VO
open Base
/-- the heaps: 0: table 25 is not mapped; d + 1: it is mapped at place d of level 1 -/
noncomputable def lst (q : Nat) : List (Nat × Blk) := @Nat.rec (fun _ => List (Nat × Blk)) lU (fun d _ => lM (Nat.add 40 d) (Nat.sub 159 d)) q
def pgC (e : E) : List CF := [⟨.geq, e, .lit 0, true⟩, ⟨.geq, e, .lit 512, false⟩, ⟨.lss, e, .lit 0, false⟩, ⟨.lss, e, .lit 512, true⟩]
def pgN (e : E) (d : Nat) : List NF := [⟨.bin .quo .i64 e (.lit 64), Int.ofNat d⟩, ⟨.bin .rem .i64 (.bin .quo .i64 (.bin .quo .i64 e (.lit 8)) (.lit 8)) (.lit 8), Int.ofNat d⟩]
def pg2 (e : E) (d : Nat) : List NF := [⟨.bin .rem .i64 (.bin .quo .i64 e (.lit 8)) (.lit 8), Int.ofNat d⟩]
def pv : E := .conv .i64 (.bin .quo .u64 (.var 8) (.lit 64))
def sC (q : Nat) : List CF := @Nat.rec (fun _ => List CF) [] (fun _ _ => pgC (.var 0)) q
def sN (q : Nat) : List NF := @Nat.rec (fun _ => List NF) [] (fun d _ => pgN (.var 0) d) q
noncomputable def K (q : Nat) (o : Out) (q' : Nat) (e0 : E) (cells : List A) (t : List CF) (n : List NF) : Prop :=
  ∀ v0 v7 : AV, sumC o e0 (lst q') Lc [0, 7] (bodyR cells (app t (sC q)) (app n (sN q)) v0 v7 (lst q)) = (true, [v0, v7].map some)
noncomputable section
def cOther : List A := [.sym .i64 (.var 1), .sym .i64 (.var 2), .sym .i64 (.var 3), .sym .i64 (.var 4), .sym .i64 (.var 5), .sym .i64 (.var 6), .sym .i64 (.var 7), .sym .u64 (.var 8)]
def tOther : List CF := [⟨.eql, .var 1, .lit 0, false⟩, ⟨.eql, .var 1, .lit 1, false⟩, ⟨.eql, .var 1, .lit 2, false⟩, ⟨.eql, .var 1, .lit 3, false⟩, ⟨.eql, .var 1, .lit 8, false⟩]
def cA (k : Int) : List A := [.int .i64 k, .sym .i64 (.var 2), .sym .i64 (.var 3), .sym .i64 (.var 4), .sym .i64 (.var 5), .sym .i64 (.var 6), .sym .i64 (.var 7), .sym .u64 (.var 8)]
def tA (i : Int) (b : Bool) : List CF := [⟨.eql, .var 4, .lit 2, false⟩, ⟨.eql, .var 5, .lit i, b⟩]
def cB (k : Int) : List A := [.int .i64 k, .sym .i64 (.var 2), .sym .i64 (.var 3), .int .i64 2, .sym .i64 (.var 5), .sym .i64 (.var 6), .sym .i64 (.var 7), .sym .u64 (.var 8)]
def tB (i : Int) : List CF := [⟨.eql, .var 5, .lit i, false⟩]
def cMine (k i : Int) : List A := [.int .i64 k, .sym .i64 (.var 2), .sym .i64 (.var 3), .int .i64 2, .int .i64 i, .sym .i64 (.var 6), .sym .i64 (.var 7), .sym .u64 (.var 8)]
def tHigh : List CF := [⟨.geq, .var 8, .lit 32768, true⟩]
def tLow : List CF := [⟨.geq, .var 8, .lit 32768, false⟩]
def tUnal : List CF := [⟨.geq, .var 8, .lit 32768, false⟩, ⟨.neq, .bin .rem .u64 (.var 8) (.lit 64), .lit 0, true⟩]
def nAl : List NF := [⟨.bin .rem .u64 (.var 8) (.lit 64), 0⟩]
def tSmall : List CF := [⟨.geq, .var 8, .lit 32768, false⟩, ⟨.lss, .var 2, .lit 1, true⟩, ⟨.geq, .var 2, .lit 1, false⟩, ⟨.geq, .var 2, .lit 2, false⟩]
def tGreat : List CF := [⟨.geq, .var 8, .lit 32768, false⟩, ⟨.lss, .var 2, .lit 1, false⟩, ⟨.gtr, .var 2, .lit 3, true⟩, ⟨.geq, .var 2, .lit 1, true⟩, ⟨.geq, .var 2, .lit 2, true⟩, ⟨.leq, .var 2, .lit 3, false⟩]
def cMF (n : Nat) : List A := [.int .i64 2, .int .i64 (Int.ofNat (Nat.succ n)), .sym .i64 (.var 3), .int .i64 2, .int .i64 11, .sym .i64 (.var 6), .sym .i64 (.var 7), .sym .u64 (.var 8)]
def cF : List A := [.int .i64 8, .sym .i64 (.var 2), .sym .i64 (.var 3), .sym .i64 (.var 4), .sym .i64 (.var 5), .sym .i64 (.var 6), .sym .i64 (.var 7), .sym .u64 (.var 8)]
def cFc (c : Int) : List A := [.int .i64 8, .sym .i64 (.var 2), .int .i64 c, .sym .i64 (.var 4), .sym .i64 (.var 5), .sym .i64 (.var 6), .sym .i64 (.var 7), .sym .u64 (.var 8)]
def tCneg : List CF := [⟨.lss, .var 3, .lit 0, true⟩, ⟨.geq, .var 3, .lit 0, false⟩]
def tCout : List CF := [⟨.lss, .var 3, .lit 0, false⟩, ⟨.geq, .var 3, .lit 2, true⟩, ⟨.geq, .var 3, .lit 0, true⟩, ⟨.lss, .var 3, .lit 2, false⟩]
def tNneg : List CF := [⟨.lss, .var 2, .lit 0, true⟩]
def tNout : List CF := [⟨.lss, .var 2, .lit 0, false⟩, ⟨.geq, .var 2, .lit 512, true⟩]
def pLow : List CF := app tLow (pgC pv)
def pAl (d : Nat) : List NF := app nAl (pgN pv d)
def pAl2 (d e : Nat) : List NF := app (pAl d) (pg2 pv e)
def fN2 (d e : Nat) : List NF := app (pgN (.var 2) d) (pg2 (.var 2) e)
end
end VO
