/- VspaceOthers: the call answers true, of any acts. No conditions beside those in its theorems. -/
import Derived.Test.YtpiicallicgdkaaGreatVOG
import Derived.Test.YtpiicallicgdkaaGreatA38
set_option linter.unusedVariables false
open Go Eng Go.Proofs Go.RowKit
namespace VO
open Base
set_option maxRecDepth 100000
noncomputable def cT (c : Code) : Code := match c with | .cond _ a _ => a | c => c
noncomputable def r1a : Code := sL r1
noncomputable def c2 : Code := cT (sR r1)
theorem eqA : c0 = .seq r0 (.seq (.seq r1a (.cond (.tmp 14) c2 .skip)) (nest preL p11)) := by kernel_rfl
theorem eqB : p11 = .seq (.seq r11 (.block 0 (.loop lb))) tail := by kernel_rfl
theorem eqC : lb = .seq (.seq r12 (.cond (.tmp 54) .skip (.exit 0))) (.seq (.block 1 (.seq r14 body)) r13) := by kernel_rfl
def ops14 : Array Oper := #[{ dst := some 57, op := Op.move (Operand.tmp 0), type := 84, pos := "law.go:316", after := #[], guard := none }, { dst := some 58, op := Op.move (Operand.tmp 7), type := 3, pos := "law.go:316", after := #[], guard := none }, { dst := some 59, op := Op.indexAddr 84 (Operand.tmp 57) (Operand.tmp 58), type := 0, pos := "law.go:316", after := #[{ on := 0, ground := Ground.data }, { on := 1, ground := Ground.data }], guard := none }, { dst := some 60, op := Op.load 87 (Operand.tmp 59), type := 87, pos := "law.go:316", after := #[{ on := 2, ground := Ground.data }], guard := none }, { dst := some 8, op := Op.alloc 87, type := 0, pos := "law.go:316", after := #[], guard := none }, { dst := none, op := Op.store 87 (Operand.tmp 8) (Operand.tmp 60), type := 0, pos := "law.go:316", after := #[{ on := 4, ground := Ground.data }, { on := 3, ground := Ground.data }, { on := 0, ground := Ground.phase }, { on := 1, ground := Ground.phase }, { on := 2, ground := Ground.phase }, { on := 3, ground := Ground.phase }, { on := 4, ground := Ground.phase }], guard := none }]
theorem eq14 : r14 = .region 14 ops14 false := by kernel_rfl
noncomputable def cfgT : Cfg := cfgW [s20] [] [] [⟨38, [], .one (.bool true)⟩]
abbrev VS (off ln cp : Nat) : AV := .one (.slice 0 off ln cp)
theorem run0 (v0 : AV) (h : H) : sumT [0] 99 (eval (cfgV [] []) 300 X6 (.code r0 (frOf [(0, v0)])) h) = some (h, [v0].map some, [], none) := by kernel_rfl
theorem run1 (off ln cp : Nat) (h : H) : sumT [0] 14 (eval (cfgV [] []) 300 X6 (.code r1a (frOf [(0, VS off ln cp)])) h) = some (h, [VS off ln cp].map some, [], some (.one (.bool (iltb 40 (Int.ofNat ln))))) := by kernel_rfl
theorem run2 (v0 : AV) : sumC .ret (.lit 0) [(0, .dead)] [(2, .one (.bool true))] [] (eval cfgT 300 X6 (.code c2 (frOf [(0, v0)])) (heapOf [(0, .dead)] 1)) = (true, [].map some) := by kernel_rfl
theorem pre (v0 : AV) : sumC .norm (.lit 0) lU Lc [0] (evs (cfgV [] []) 300 X6 preL (frOf [(0, v0)]) (heapOf [(0, .dead)] 1)) = (true, [v0].map some) := by kernel_rfl
noncomputable def Lc7 : List (Nat × AV) := (7, .one (.int .i64 (Int.ofNat 0))) :: Lc
theorem run11 (v0 : AV) : sumC .norm (.lit 0) lU Lc7 [0] (eval (cfgV [] []) 300 X6 (.code r11 (frOf ((0, v0) :: Lc))) (heapOf lU 3646)) = (true, [v0].map some) := by kernel_rfl
theorem run12 (off ln cp i : Nat) (h : H) : sumT [0, 7, 3, 5, 6] 54 (eval (cfgV [] []) 300 X6 (.code r12 (frOf (LL (VS off ln cp) (.one (.int .i64 (Int.ofNat i)))))) h) =
    some (h, [VS off ln cp, .one (.int .i64 (Int.ofNat i)), .one (.ptr 107 0), .one (.ptr 3645 0), .one (.int .i64 0)].map some, [], some (.one (.bool (iltb (Int.ofNat i) (Int.ofNat ln))))) := by kernel_rfl
theorem run13_0 (v0 : AV) (i : Nat) : sumC .norm (.var 0) (lst 0) Lc [0, 7] (eval (cfgV [] []) 300 X6 (.code r13 (frOf (LL v0 (.one (.int .i64 (Int.ofNat i)))))) (heapOf (lst 0) 3646)) = (true, [v0, .one (.int .i64 (wrapF .i64 (iadd (Int.ofNat i) 1)))].map some) := by kernel_rfl
theorem run13_1 (v0 : AV) (i : Nat) : sumC .norm (.var 0) (lst 1) Lc [0, 7] (eval (cfgV [] []) 300 X6 (.code r13 (frOf (LL v0 (.one (.int .i64 (Int.ofNat i)))))) (heapOf (lst 1) 3646)) = (true, [v0, .one (.int .i64 (wrapF .i64 (iadd (Int.ofNat i) 1)))].map some) := by kernel_rfl
theorem run13_2 (v0 : AV) (i : Nat) : sumC .norm (.var 0) (lst 2) Lc [0, 7] (eval (cfgV [] []) 300 X6 (.code r13 (frOf (LL v0 (.one (.int .i64 (Int.ofNat i)))))) (heapOf (lst 2) 3646)) = (true, [v0, .one (.int .i64 (wrapF .i64 (iadd (Int.ofNat i) 1)))].map some) := by kernel_rfl
theorem run13_3 (v0 : AV) (i : Nat) : sumC .norm (.var 0) (lst 3) Lc [0, 7] (eval (cfgV [] []) 300 X6 (.code r13 (frOf (LL v0 (.one (.int .i64 (Int.ofNat i)))))) (heapOf (lst 3) 3646)) = (true, [v0, .one (.int .i64 (wrapF .i64 (iadd (Int.ofNat i) 1)))].map some) := by kernel_rfl
theorem run13_4 (v0 : AV) (i : Nat) : sumC .norm (.var 0) (lst 4) Lc [0, 7] (eval (cfgV [] []) 300 X6 (.code r13 (frOf (LL v0 (.one (.int .i64 (Int.ofNat i)))))) (heapOf (lst 4) 3646)) = (true, [v0, .one (.int .i64 (wrapF .i64 (iadd (Int.ofNat i) 1)))].map some) := by kernel_rfl
theorem run13_5 (v0 : AV) (i : Nat) : sumC .norm (.var 0) (lst 5) Lc [0, 7] (eval (cfgV [] []) 300 X6 (.code r13 (frOf (LL v0 (.one (.int .i64 (Int.ofNat i)))))) (heapOf (lst 5) 3646)) = (true, [v0, .one (.int .i64 (wrapF .i64 (iadd (Int.ofNat i) 1)))].map some) := by kernel_rfl
theorem run13_6 (v0 : AV) (i : Nat) : sumC .norm (.var 0) (lst 6) Lc [0, 7] (eval (cfgV [] []) 300 X6 (.code r13 (frOf (LL v0 (.one (.int .i64 (Int.ofNat i)))))) (heapOf (lst 6) 3646)) = (true, [v0, .one (.int .i64 (wrapF .i64 (iadd (Int.ofNat i) 1)))].map some) := by kernel_rfl
theorem run13_7 (v0 : AV) (i : Nat) : sumC .norm (.var 0) (lst 7) Lc [0, 7] (eval (cfgV [] []) 300 X6 (.code r13 (frOf (LL v0 (.one (.int .i64 (Int.ofNat i)))))) (heapOf (lst 7) 3646)) = (true, [v0, .one (.int .i64 (wrapF .i64 (iadd (Int.ofNat i) 1)))].map some) := by kernel_rfl
theorem run13_8 (v0 : AV) (i : Nat) : sumC .norm (.var 0) (lst 8) Lc [0, 7] (eval (cfgV [] []) 300 X6 (.code r13 (frOf (LL v0 (.one (.int .i64 (Int.ofNat i)))))) (heapOf (lst 8) 3646)) = (true, [v0, .one (.int .i64 (wrapF .i64 (iadd (Int.ofNat i) 1)))].map some) := by kernel_rfl
theorem run13 : ∀ q : Nat, q < 9 → ∀ (v0 : AV) (i : Nat), sumC .norm (.var 0) (lst q) Lc [0, 7] (eval (cfgV [] []) 300 X6 (.code r13 (frOf (LL v0 (.one (.int .i64 (Int.ofNat i)))))) (heapOf (lst q) 3646)) = (true, [v0, .one (.int .i64 (wrapF .i64 (iadd (Int.ofNat i) 1)))].map some)
  | 0, _ => run13_0
  | 1, _ => run13_1
  | 2, _ => run13_2
  | 3, _ => run13_3
  | 4, _ => run13_4
  | 5, _ => run13_5
  | 6, _ => run13_6
  | 7, _ => run13_7
  | 8, _ => run13_8
  | q + 9, h => absurd h (by omega)
theorem tl0 (v0 v7 : AV) : sumC .ret (.lit 0) [(0, .dead)] [(2, .one (.bool true))] [] (eval cfgT 300 X6 (.code tail (frOf (LL v0 v7))) (heapOf (lst 0) 3646)) = (true, [].map some) := by kernel_rfl
theorem tl1 (v0 v7 : AV) : sumC .ret (.lit 0) [(0, .dead)] [(2, .one (.bool true))] [] (eval cfgT 300 X6 (.code tail (frOf (LL v0 v7))) (heapOf (lst 1) 3646)) = (true, [].map some) := by kernel_rfl
theorem tl2 (v0 v7 : AV) : sumC .ret (.lit 0) [(0, .dead)] [(2, .one (.bool true))] [] (eval cfgT 300 X6 (.code tail (frOf (LL v0 v7))) (heapOf (lst 2) 3646)) = (true, [].map some) := by kernel_rfl
theorem tl3 (v0 v7 : AV) : sumC .ret (.lit 0) [(0, .dead)] [(2, .one (.bool true))] [] (eval cfgT 300 X6 (.code tail (frOf (LL v0 v7))) (heapOf (lst 3) 3646)) = (true, [].map some) := by kernel_rfl
theorem tl4 (v0 v7 : AV) : sumC .ret (.lit 0) [(0, .dead)] [(2, .one (.bool true))] [] (eval cfgT 300 X6 (.code tail (frOf (LL v0 v7))) (heapOf (lst 4) 3646)) = (true, [].map some) := by kernel_rfl
theorem tl5 (v0 v7 : AV) : sumC .ret (.lit 0) [(0, .dead)] [(2, .one (.bool true))] [] (eval cfgT 300 X6 (.code tail (frOf (LL v0 v7))) (heapOf (lst 5) 3646)) = (true, [].map some) := by kernel_rfl
theorem tl6 (v0 v7 : AV) : sumC .ret (.lit 0) [(0, .dead)] [(2, .one (.bool true))] [] (eval cfgT 300 X6 (.code tail (frOf (LL v0 v7))) (heapOf (lst 6) 3646)) = (true, [].map some) := by kernel_rfl
theorem tl7 (v0 v7 : AV) : sumC .ret (.lit 0) [(0, .dead)] [(2, .one (.bool true))] [] (eval cfgT 300 X6 (.code tail (frOf (LL v0 v7))) (heapOf (lst 7) 3646)) = (true, [].map some) := by kernel_rfl
theorem tl8 (v0 v7 : AV) : sumC .ret (.lit 0) [(0, .dead)] [(2, .one (.bool true))] [] (eval cfgT 300 X6 (.code tail (frOf (LL v0 v7))) (heapOf (lst 8) 3646)) = (true, [].map some) := by kernel_rfl
theorem tl : ∀ q : Nat, q < 9 → ∀ v0 v7 : AV, sumC .ret (.lit 0) [(0, .dead)] [(2, .one (.bool true))] [] (eval cfgT 300 X6 (.code tail (frOf (LL v0 v7))) (heapOf (lst q) 3646)) = (true, [].map some)
  | 0, _ => tl0
  | 1, _ => tl1
  | 2, _ => tl2
  | 3, _ => tl3
  | 4, _ => tl4
  | 5, _ => tl5
  | 6, _ => tl6
  | 7, _ => tl7
  | 8, _ => tl8
  | q + 9, h => absurd h (by omega)
theorem okV (σ : Sig) : CfgOK Tryz.prog (cfgV [] []) σ := okW .nil .nil
theorem exV (σ : Sig) : ExtOK (cfgV [] []) Tryz.prog σ := extW (gs20 σ) (fun C hC => puVOK σ C hC)
theorem okT (σ : Sig) : CfgOK Tryz.prog cfgT σ := okW .nil .nil
theorem exT (σ : Sig) : ExtOK cfgT Tryz.prog σ := extW (gs20 σ) (fun C hC => .cons (aw38 σ C hC) .nil)
theorem ilt_nat (i n : Nat) : iltb (Int.ofNat i) (Int.ofNat n) = decide (i < n) := by
  show Nat.ble (i + 1) n = _
  by_cases h : i < n
  · rw [decide_eq_true h]; exact Nat.ble_eq_true_of_le h
  · rw [decide_eq_false h]
    cases hb : Nat.ble (i + 1) n with
    | false => rfl
    | true => exact absurd (Nat.le_of_ble_eq_true hb) h
section
variable {W : World} {r off ln cp : Nat} {a : Act} {w : World}
abbrev Zw (W : World) : Nat → Prop := fun x => x < W.heap.size
abbrev Fr (r : Nat) : List (Nat × Nat × Nat) := [(0, (r, 0))]
theorem hF (r q : Nat) : (Fr r).all (fun p => hasKey (lst q) p.1) = true := by
  show (hasKey (lst q) 0 && true) = true
  rw [key0 q]; rfl
def Done (W : World) : Ending → World → Prop := fun e w' => e = .returned (.bool true) ∧ Stays (Zw W) W w'
theorem fin {n : Nat} {x : Int} (h : At cfg0 143 12 (Zw W) (Fr r) [(0, .dead)] n x [(2, .one (.bool true))] a w) (hs : Stays (Zw W) W w) : bodyPost Tryz.prog Tryz.f6 (Done W) .ret a w := by
  have h1 := h (fun _ => x) rfl
  obtain ⟨ρ, v, h2, h3, _⟩ := h1.get (t := 2) rfl (by decide)
  have h4 : v = .bool true := h3
  subst h4
  refine ⟨h1.defers, _, results1 (t := 2) rfl, ?_, hs⟩
  congr 1
  simp [Array.getD_eq_getD_getElem?, h2]
theorem lt_sz {t s : Nat} (h : 143 ≤ s) (ht : t < 143) : t < s := Nat.lt_of_lt_of_le ht h
theorem run14 {i : Nat} {vs : List Value} (h0 : a.tmps[0]? = some (.slice (some ⟨r, off, none⟩) ln cp)) (h7 : a.tmps[7]? = some (.int .i64 (Int.ofNat i))) (hi : i < ln) (hsz : 143 ≤ a.tmps.size) (hvl : vs.length = 8)
    (hv : ∀ (j : Nat) (v : Value), vs[j]? = some v → w.cell? ⟨r, off + i * 8 + j, none⟩ = some v) (h1 : ∀ v ∈ vs, v.oneCell' = true) :
    ∃ a', CodeR Tryz.prog r14 (bare 6) a w .norm a' (push w (.cells vs.toArray 87)) ∧ 143 ≤ a'.tmps.size ∧ a'.defers = a.defers ∧ a'.tmps[8]? = some (.pointer (some ⟨w.heap.size, 0, none⟩)) ∧ ∀ t, t < 12 → t ≠ 8 → a'.tmps[t]? = a.tmps[t]? := by
  have hc := ok0 (fun _ => 0)
  obtain ⟨a1, e1⟩ : ∃ x : Act, x = a.put (some 57) (.slice (some ⟨r, off, none⟩) ln cp) := ⟨_, rfl⟩
  obtain ⟨a2, e2⟩ : ∃ x, x = a1.put (some 58) (.int .i64 (Int.ofNat i)) := ⟨_, rfl⟩
  obtain ⟨a3, e3⟩ : ∃ x, x = a2.put (some 59) (.pointer (some ⟨r, off + i * 8, none⟩)) := ⟨_, rfl⟩
  obtain ⟨a4, e4⟩ : ∃ x, x = a3.put (some 60) (.agg vs.toArray) := ⟨_, rfl⟩
  obtain ⟨a5, e5⟩ : ∃ x, x = a4.put (some 8) (.pointer (some ⟨w.heap.size, 0, none⟩)) := ⟨_, rfl⟩
  have s1 : a1.tmps.size = a.tmps.size := by rw [e1]; exact put_size'
  have s2 : a2.tmps.size = a.tmps.size := by rw [e2]; exact put_size'.trans s1
  have s3 : a3.tmps.size = a.tmps.size := by rw [e3]; exact put_size'.trans s2
  have s4 : a4.tmps.size = a.tmps.size := by rw [e4]; exact put_size'.trans s3
  have s5 : a5.tmps.size = a.tmps.size := by rw [e5]; exact put_size'.trans s4
  have v1 : a.eval (.tmp 0) = .slice (some ⟨r, off, none⟩) ln cp := eval_tmp h0
  have v2 : a1.eval (.tmp 7) = .int .i64 (Int.ofNat i) := by rw [e1, eval_put_ne (by decide)]; exact eval_tmp h7
  have v3 : a2.eval (.tmp 57) = .slice (some ⟨r, off, none⟩) ln cp := by rw [e2, eval_put_ne (by decide), e1, eval_put_self (lt_sz hsz (by decide))]
  have v4 : a2.eval (.tmp 58) = .int .i64 (Int.ofNat i) := by rw [e2, eval_put_self (lt_sz (s1 ▸ hsz) (by decide))]
  have v5 : a3.eval (.tmp 59) = .pointer (some ⟨r, off + i * 8, none⟩) := by rw [e3, eval_put_self (lt_sz (s2 ▸ hsz) (by decide))]
  have v6 : a5.eval (.tmp 8) = .pointer (some ⟨w.heap.size, 0, none⟩) := by rw [e5, eval_put_self (lt_sz (s4 ▸ hsz) (by decide))]
  have v7 : a5.eval (.tmp 60) = .agg vs.toArray := by rw [e5, eval_put_ne (by decide), e4, eval_put_self (lt_sz (s3 ▸ hsz) (by decide))]
  obtain ⟨zs, hz, d5⟩ := does_alloc (b := bare 6) (a := a4) (w := w) (o := ops14[4]'(by decide)) (t := 87) (ti := Tab.t87) hc rfl (by show Tab.tyT.get 87 = some Tab.t87; kernel_rfl)
  have d1 : Does Tryz.prog (ops14[0]'(by decide)) (bare 6) a w (.slice (some ⟨r, off, none⟩) ln cp) w := by have := does_move (P := Tryz.prog) (b := bare 6) (a := a) (w := w) (o := ops14[0]'(by decide)) (x := .tmp 0) rfl; rw [v1] at this; exact this
  have d2 : Does Tryz.prog (ops14[1]'(by decide)) (bare 6) a1 w (.int .i64 (Int.ofNat i)) w := by have := does_move (P := Tryz.prog) (b := bare 6) (a := a1) (w := w) (o := ops14[1]'(by decide)) (x := .tmp 7) rfl; rw [v2] at this; exact this
  have d3 : Does Tryz.prog (ops14[2]'(by decide)) (bare 6) a2 w (.pointer (some ⟨r, off + i * 8, none⟩)) w :=
    does_indexAddr (b := bare 6) (o := ops14[2]'(by decide)) (ti := Tab.t84) (ei := Tab.t87) (e := 87) hc rfl (by show Tab.tyT.get 84 = some Tab.t84; kernel_rfl) rfl (by show Tab.tyT.get 87 = some Tab.t87; kernel_rfl) v3 v4 hi
  have d4 : Does Tryz.prog (ops14[3]'(by decide)) (bare 6) a3 w (.agg vs.toArray) w :=
    does_loadN (b := bare 6) (o := ops14[3]'(by decide)) (t := 87) (ti := Tab.t87) hc rfl (by show Tab.tyT.get 87 = some Tab.t87; kernel_rfl) rfl hvl v5 hv
  have d6 := does_storeNew (b := bare 6) (o := ops14[5]'(by decide)) (t := 87) (ti := Tab.t87) (w0 := w) hc rfl (by show Tab.tyT.get 87 = some Tab.t87; kernel_rfl) hvl hz v6 v7 h1
  refine ⟨a5, ?_, s5 ▸ hsz, ?_, ?_, ?_⟩
  · rw [eq14]
    refine regionR (.cons (o := ops14[0]'(by decide)) rfl rfl d1 ?_)
    show RunOps _ _ _ 1 (a.put (some 57) _) _ _ _
    rw [← e1]
    refine .cons (o := ops14[1]'(by decide)) rfl rfl d2 ?_
    show RunOps _ _ _ 2 (a1.put (some 58) _) _ _ _
    rw [← e2]
    refine .cons (o := ops14[2]'(by decide)) rfl rfl d3 ?_
    show RunOps _ _ _ 3 (a2.put (some 59) _) _ _ _
    rw [← e3]
    refine .cons (o := ops14[3]'(by decide)) rfl rfl d4 ?_
    show RunOps _ _ _ 4 (a3.put (some 60) _) _ _ _
    rw [← e4]
    refine .cons (o := ops14[4]'(by decide)) rfl rfl d5 ?_
    show RunOps _ _ _ 5 (a4.put (some 8) _) _ _ _
    rw [← e5]
    refine .cons (o := ops14[5]'(by decide)) rfl rfl d6 ?_
    exact .nil
  · rw [e5, e4, e3, e2, e1]; rfl
  · rw [e5]; exact put_get_self (lt_sz (s4 ▸ hsz) (by decide))
  · intro t ht ht8
    rw [e5, put_get_ne ht8, e4, put_get_ne (Nat.ne_of_lt (Nat.lt_of_lt_of_le ht (by decide))), e3, put_get_ne (Nat.ne_of_lt (Nat.lt_of_lt_of_le ht (by decide))), e2, put_get_ne (Nat.ne_of_lt (Nat.lt_of_lt_of_le ht (by decide))), e1, put_get_ne (Nat.ne_of_lt (Nat.lt_of_lt_of_le ht (by decide)))]
def at7 (a : Act) : Nat := match a.tmps[7]? with | some (Value.int _ i) => i.toNat | _ => 0
def Loop (W : World) (r off ln cp : Nat) (a : Act) (w : World) : Prop := ∃ i : Nat, i ≤ ln ∧ (∃ q page, okq q page ∧ Inv (Zw W) (Fr r) q page (VS off ln cp) (.one (.int .i64 (Int.ofNat i))) a w) ∧ Stays (Zw W) W w
theorem at7_of {q : Nat} {page : Int} {v0 : AV} {i : Nat} (h : Inv (Zw W) (Fr r) q page v0 (.one (.int .i64 (Int.ofNat i))) a w) : a.tmps[7]? = some (.int .i64 (Int.ofNat i)) ∧ at7 a = i := by
  obtain ⟨ρ, v, h2, h3, _⟩ := (h (fun _ => page) rfl).get (t := 7) rfl (by decide)
  have h4 : v = .int .i64 (Int.ofNat i) := h3
  subst h4
  refine ⟨h2, ?_⟩
  unfold at7
  rw [h2]
  rfl
/-- an element of the acts, as its cells say -/
def Elem (W : World) (r off i : Nat) : Prop := ∃ d n m a0 a1 b0 b1 va : Int, 0 ≤ va ∧ ∀ (j : Nat) (v : Value), [Value.int .i64 d, .int .i64 n, .int .i64 m, .int .i64 a0, .int .i64 a1, .int .i64 b0, .int .i64 b1, .int .u64 va][j]? = some v → W.cell? ⟨r, off + i * 8 + j, none⟩ = some v
theorem cell_stays (hs : Stays (Zw W) W w) (hr : r < W.heap.size) (o : Nat) : w.cell? ⟨r, o, none⟩ = W.cell? ⟨r, o, none⟩ := by
  unfold World.cell?
  rw [show w.heap[r]? = W.heap[r]? from hs.heap r hr]
theorem pushed {q i : Nat} {page d n m a0 a1 b0 b1 va : Int} (hq : okq q page) (hva : 0 ≤ va) {a' : Act} (hA : AtS cfg0 143 12 (Zw W) (Fr r) (lst q) 3646 (LL (VS off ln cp) (.one (.int .i64 (Int.ofNat i)))) (sg page d n m a0 a1 b0 b1 va) a w)
    (hsz : 143 ≤ a'.tmps.size) (hd : a'.defers = a.defers) (h8 : a'.tmps[8]? = some (.pointer (some ⟨w.heap.size, 0, none⟩))) (hk : ∀ t, t < 12 → t ≠ 8 → a'.tmps[t]? = a.tmps[t]?) :
    Given (Zw W) (Fr r) (VS off ln cp) (.one (.int .i64 (Int.ofNat i))) a' (push w (.cells [Value.int .i64 d, .int .i64 n, .int .i64 m, .int .i64 a0, .int .i64 a1, .int .i64 b0, .int .i64 b1, .int .u64 va].toArray 87)) q page d n m a0 a1 b0 b1 va := by
  refine ⟨hq, hF r, fun q => keeps0 q _ _ _, fun q => keeps7 q _, hva, fun cells hl hc => ?_⟩
  have := AtS.push (t := 8) (ty := 87) (a' := a') hA hc hsz hd h8 (fun p hp hp8 hpn ρ hf => by
    have hg : ∃ v, (tableOf (LL (VS off ln cp) (.one (.int .i64 (Int.ofNat i))))).get p.1 = some v ∧ v = p.2 := by
      rcases List.mem_cons.1 hp with e | hp
      · rw [e]; exact ⟨_, rfl, rfl⟩
      rcases List.mem_cons.1 hp with e | hp
      · rw [e]; exact ⟨_, rfl, rfl⟩
      rcases List.mem_cons.1 hp with e | hp
      · rw [e]; exact ⟨_, rfl, rfl⟩
      rcases List.mem_cons.1 hp with e | hp
      · rw [e]; exact ⟨_, rfl, rfl⟩
      rcases List.mem_cons.1 hp with e | hp
      · rw [e]; exact ⟨_, rfl, rfl⟩
      · cases hp
    obtain ⟨v, hv, rfl⟩ := hg
    obtain ⟨v', h1, h2⟩ := hf.pt p.1 p.2 hpn hv
    exact ⟨v', by rw [hk p.1 hpn hp8]; exact h1, h2⟩)
  rw [hl] at this
  exact this
theorem keepsV (q : Nat) (v0 v7 : AV) (h0 : Keeps (hasKey (lst q)) v0) (h7 : Keeps (hasKey (lst q)) v7) : ∀ v ∈ [v0, v7], Keeps (hasKey (lst q)) v := by
  intro v hv
  rcases List.mem_cons.1 hv with e | hv
  · rw [e]; exact h0
  rcases List.mem_cons.1 hv with e | hv
  · rw [e]; exact h7
  · cases hv
theorem keeps1 (q : Nat) (v0 : AV) (h0 : Keeps (hasKey (lst q)) v0) : ∀ v ∈ [v0], Keeps (hasKey (lst q)) v := by
  intro v hv
  rcases List.mem_cons.1 hv with e | hv
  · rw [e]; exact h0
  · cases hv
theorem ended {q : Nat} {σ : Sig} {v0 v7 : AV} (hq : q < 9) (hA : AtS cfg0 143 12 (Zw W) (Fr r) (lst q) 3646 (LL v0 v7) σ a w) (hs : Stays (Zw W) W w) : WB Tryz.prog (bare 6) tail (bodyPost Tryz.prog Tryz.f6 (Done W)) a w := by
  refine (AtS.code (X := X6) (fi := Tab.u6) (C := cfg0) (vs := []) (n' := 1) (tl q hq v0 v7) (by intro v hv; cases hv) rfl rfl rfl rfl (okT σ) (exT σ) fu6 rfl rfl rfl hA).mono fun e a' w' ⟨e1, e2, e3⟩ => ?_
  subst e1
  exact fin e2 (hs.trans e3)
theorem round (hr : r < W.heap.size) (hln : ln ≤ 40) (hel : ∀ i, i < ln → Elem W r off i) (a : Act) (w : World) (hI : Loop W r off ln cp a w) :
    WB Tryz.prog (bare 6) lb (Exit.then (fun a' w' => Loop W r off ln cp a' w' ∧ ln - at7 a' < ln - at7 a) (Exit.inBlock 0 (Exit.then (WB Tryz.prog (bare 6) tail (bodyPost Tryz.prog Tryz.f6 (Done W))) (bodyPost Tryz.prog Tryz.f6 (Done W))))) a w := by
  obtain ⟨i, hi, ⟨q, page, hq, hAt⟩, hst⟩ := hI
  obtain ⟨g7, hm⟩ := at7_of hAt
  rw [eqC]
  by_cases hlt : i < ln
  · obtain ⟨d, n, m, a0, a1, b0, b1, va, hva, hcell⟩ := hel i hlt
    have hA := hAt (sg page d n m a0 a1 b0 b1 va) rfl
    refine WB.seq (WB.seq ((AtS.test (X := X6) (fi := Tab.u6) (C := cfg0) (run12 off ln cp i _) rfl (okV _) (exV _) fu6 rfl rfl rfl hA).mono ?_))
    rintro e a1' w1 ⟨rfl, h1, s1, ht⟩
    obtain ⟨ρ, x, hx1, hx2⟩ := ht _ rfl (by decide)
    have hx3 : x = .bool (iltb (Int.ofNat i) (Int.ofNat ln)) := hx2
    rw [ilt_nat, decide_eq_true hlt] at hx3
    subst hx3
    refine WB.cond (t := true) (eval_tmp hx1) (WB.of_wp (wp_skip ?_))
    have st1 := hst.trans s1
    refine WB.seq (WB.block (WB.seq ?_))
    obtain ⟨ρ0, x0, k1, ⟨r', S, k2, k3⟩, k4⟩ := h1.get (t := 0) rfl (by decide)
    have k5 := (k4 (0, (r, 0)) (by simp)).symm.trans k2
    cases k5
    subst k3
    obtain ⟨ρ7, x7, l1, l2, _⟩ := h1.get (t := 7) rfl (by decide)
    have l3 : x7 = .int .i64 (Int.ofNat i) := l2
    subst l3
    obtain ⟨a2, z1, z2, z3, z4, z5⟩ := run14 (w := w1) k1 l1 hlt h1.size (vs := [Value.int .i64 d, .int .i64 n, .int .i64 m, .int .i64 a0, .int .i64 a1, .int .i64 b0, .int .i64 b1, .int .u64 va]) rfl
      (fun j v hj => by rw [cell_stays st1 hr]; exact hcell j v hj) (by intro v hv; simp at hv; rcases hv with e | e | e | e | e | e | e | e <;> (rw [e]; rfl))
    refine WB.of_codeR rfl z1 ?_
    have hG := pushed hq hva h1 z2 z3 z4 z5
    refine (step hG).mono ?_
    rintro e a3 w3 ⟨he, ⟨q', page', hq', hAt'⟩, s3⟩
    have st3 : Stays (Zw W) W w3 := (st1.trans (Stays.push (fun r h => Nat.lt_of_lt_of_le h st1.size) _ _)).trans s3
    have next : WB Tryz.prog (bare 6) r13 (Exit.then (fun a' w' => Loop W r off ln cp a' w' ∧ ln - at7 a' < ln - at7 a) (Exit.inBlock 0 (Exit.then (WB Tryz.prog (bare 6) tail (bodyPost Tryz.prog Tryz.f6 (Done W))) (bodyPost Tryz.prog Tryz.f6 (Done W))))) a3 w3 := by
      refine (AtS.code (X := X6) (fi := Tab.u6) (C := cfg0) (vs := [VS off ln cp, .one (.int .i64 (wrapF .i64 (iadd (Int.ofNat i) 1)))]) (run13 q' hq'.1 _ i) (keepsV q' _ _ (keeps0 q' _ _ _) (keeps7 q' _)) (lcOK q') (clQ q' hq'.1) (hF r q') rfl (okV (fun _ => page')) (exV _) fu6 rfl rfl rfl (hAt' (fun _ => page') rfl)).mono ?_
      rintro e a4 w4 ⟨rfl, h4, s4⟩
      have hw : wrapF .i64 (iadd (Int.ofNat i) 1) = Int.ofNat (i + 1) := by
        rw [wrapF_eq, iadd_eq, IntWalk.i64_in _ (by simp only [Int.ofNat_eq_natCast]; omega)]
        rfl
      rw [hw] at h4
      have h5 : Inv (Zw W) (Fr r) q' page' (VS off ln cp) (.one (.int .i64 (Int.ofNat (i + 1)))) a4 w4 := h4
      have := (at7_of h5).2
      exact ⟨⟨i + 1, hlt, ⟨q', page', hq', h5⟩, st3.trans s4⟩, by omega⟩
    rcases he with rfl | rfl
    · exact next
    · exact next
  · have hA := hAt (fun _ => page) rfl
    refine WB.seq (WB.seq ((AtS.test (X := X6) (fi := Tab.u6) (C := cfg0) (run12 off ln cp i _) rfl (okV _) (exV _) fu6 rfl rfl rfl hA).mono ?_))
    rintro e a1' w1 ⟨rfl, h1, s1, ht⟩
    obtain ⟨ρ, x, hx1, hx2⟩ := ht _ rfl (by decide)
    have hx3 : x = .bool (iltb (Int.ofNat i) (Int.ofNat ln)) := hx2
    rw [ilt_nat, decide_eq_false hlt] at hx3
    subst hx3
    refine WB.cond (t := false) (eval_tmp hx1) (WB.of_wp (wp_exit ?_))
    exact ended hq.1 h1 (hst.trans s1)
theorem walk (hr : r < W.heap.size) (hel : ∀ i, i < ln → Elem W r off i) : Calls Tryz.prog 6 #[.slice (some ⟨r, off, none⟩) ln cp] W (Done W) := by
  refine WB.calls (fn := Tryz.f6) Tryz.func6 (c := c0) (by kernel_rfl) ?_
  obtain ⟨a0, ea⟩ : ∃ x : Act, x = { tmps := #[.slice (some ⟨r, off, none⟩) ln cp] ++ Array.replicate (Tryz.f6.ntmps - (#[Value.slice (some ⟨r, off, none⟩) ln cp]).size) undef, defers := [] } := ⟨_, rfl⟩
  rw [← ea]
  have hs0 : AtS cfg0 143 12 (Zw W) (Fr r) [(0, .dead)] 1 [(0, VS off ln cp)] (fun _ => 0) a0 W := by
    refine AtS.init ?_ hr ?_ ?_
    · rw [ea]; simp
    · rw [ea, show Tryz.f6.ntmps = 143 by kernel_rfl]; simp
    · rw [ea]
  rw [eqA]
  refine WB.seq ((AtS.test (X := X6) (fi := Tab.u6) (C := cfg0) (run0 (VS off ln cp) _) rfl (okV _) (exV _) fu6 rfl rfl rfl hs0).mono ?_)
  rintro e a1 w1 ⟨rfl, h1, s1, _⟩
  refine WB.seq (WB.seq ((AtS.test (X := X6) (fi := Tab.u6) (C := cfg0) (run1 off ln cp _) rfl (okV _) (exV _) fu6 rfl rfl rfl h1).mono ?_))
  rintro e a2 w2 ⟨rfl, h2, s2, ht⟩
  have st2 := s1.trans s2
  obtain ⟨ρ, x, hx1, hx2⟩ := ht _ rfl (by decide)
  have hx3 : x = .bool (iltb (Int.ofNat 40) (Int.ofNat ln)) := hx2
  rw [ilt_nat] at hx3
  subst hx3
  by_cases hgt : 40 < ln
  · rw [decide_eq_true hgt] at hx1
    refine WB.cond (t := true) (eval_tmp hx1) ?_
    refine (AtS.code (X := X6) (fi := Tab.u6) (C := cfg0) (vs := []) (n' := 1) (run2 (VS off ln cp)) (by intro v hv; cases hv) rfl rfl rfl rfl (okT _) (exT _) fu6 rfl rfl rfl h2).mono fun e a' w' ⟨e1, e2, e3⟩ => ?_
    subst e1
    exact fin e2 (st2.trans e3)
  rw [decide_eq_false hgt] at hx1
  refine WB.cond (t := false) (eval_tmp hx1) (WB.of_wp (wp_skip ?_))
  refine AtS.chain (X := X6) (fi := Tab.u6) (C := cfg0) (vs := [VS off ln cp]) (pre (VS off ln cp)) (keeps1 0 _ (keeps0 0 _ _ _)) (lcOK 0) clU (hF r 0) rfl (okV _) (exV _) fu6 rfl rfl rfl h2 fun a3 w3 h3 s3 => ?_
  rw [eqB]
  refine WB.seq (WB.seq ((AtS.code (X := X6) (fi := Tab.u6) (C := cfg0) (vs := [VS off ln cp]) (run11 (VS off ln cp)) (keeps1 0 _ (keeps0 0 _ _ _)) (by decide +kernel) clU (hF r 0) rfl (okV _) (exV _) fu6 rfl rfl rfl (h3 (fun _ => 0) rfl)).mono ?_))
  rintro e a4 w4 ⟨rfl, h4, s4⟩
  refine WB.block (WB.loop (Loop W r off ln cp) (fun a _ => ln - at7 a) ⟨0, Nat.zero_le _, ⟨0, 0, ⟨by decide, fun h => absurd h (by decide)⟩, h4⟩, (st2.trans s3).trans s4⟩ fun a w hI => round hr (by omega) hel a w hI)
end
noncomputable def lstN : List SumE := ⟨38, [], .one (.bool true)⟩ :: puV
theorem runNil : says true (eval (cfgW [s20] [] [] lstN) 300 X0 (.call 6 [.one .nils]) ⟨.nil, 0⟩) = true := by decide +kernel
theorem runEmp : says true (eval (cfgW [s20] [] [] lstN) 300 X0 (.call 6 [.one .emp]) ⟨.nil, 0⟩) = true := by decide +kernel
theorem plainCall {x : AV} {v : Value} (hk : says true (eval (cfgW [s20] [] [] lstN) 300 X0 (.call 6 [x]) ⟨.nil, 0⟩) = true) (ha : AVR rho0 (fun _ => 0) x v) (W : World) : Calls Tryz.prog 6 #[v] W (Done W) := by
  obtain ⟨h', hk'⟩ := says_some hk
  refine (calls_eval (okW (σ := fun _ => 0) .nil .nil) (extW (gs20 _) (fun C hC => .cons (aw38 _ C hC) (puVOK _ C hC))) hk' (.cons ha .nil) W).mono ?_
  rintro e w' ⟨v', rfl, ⟨ρ, hv⟩, h1, h2, h3, h4, h5, h6⟩
  exact ⟨congrArg _ hv, ⟨h1, h2, h3, h4, h5, h6⟩⟩
theorem nilCall (W : World) : Calls Tryz.prog 6 #[.slice none 0 0] W (Done W) := plainCall runNil rfl W
theorem empCall (W : World) (a : Addr) (cp : Nat) : Calls Tryz.prog 6 #[.slice (some a) 0 cp] W (Done W) := plainCall runEmp ⟨a, cp, rfl⟩ W
end VO
