/- Constants, bits and fits: what they give. No conditions beside those in its theorems. -/
import Derived.Test.YtgmdginjikhamaaAO8
set_option linter.unusedSimpArgs false
namespace Go.Proofs.AO
open Go.RowKit Go.Maps Go.Shelf
attribute [local go_sem] Oper.semAt_some
set_option linter.unusedVariables false
set_option maxRecDepth 100000
set_option maxHeartbeats 2000000
/-- boxes of these types, and what lay below n₀, lie as they lay -/
def KpT (T : TypeId → Prop) (n₀ : Nat) (W W' : World) : Prop := Below n₀ W W' ∧ W.heap.size ≤ W'.heap.size ∧ ∀ (b : Nat) (cs : Array Value) (t : TypeId), T t → W.heap[b]? = some (.cells cs t (0, 0)) → W'.heap[b]? = some (.cells cs t (0, 0))
section
variable {T : TypeId → Prop} {n₀ : Nat}
theorem KpT.trans {A B C : World} (h : KpT T n₀ A B) (k : KpT T n₀ B C) : KpT T n₀ A C := ⟨h.1.trans k.1, Nat.le_trans h.2.1 k.2.1, fun b cs t ht hb => k.2.2 b cs t ht (h.2.2 b cs t ht hb)⟩
theorem KpT.up {A B : World} (hn : n₀ ≤ A.heap.size) (h : Up A B) : KpT T n₀ A B :=
  ⟨⟨h.os, h.tape, h.output, h.size, fun k hk => h.block k (by omega)⟩, h.size, fun b cs t _ hb => h.heap hb⟩
theorem KpT.refl (A : World) : KpT T n₀ A A := ⟨Below.refl _ _, Nat.le_refl _, fun _ _ _ _ h => h⟩
theorem KpT.kb {w : World} (hn : n₀ ≤ w.heap.size) (X : World) (l : Nat) (o o' : Obj) (hl : w.heap.size ≤ l) (hx : X.heap[l]? = some o) (hc : o.isCells = false) (_ : o.isWalk = false) : KpT T n₀ X (X.putObj l o') :=
  ⟨(Below.refl _ X).grown (grownBy_putObj' X l o') (by have := (Array.getElem?_eq_some_iff.1 hx).1; omega) (fun k e => by cases e; omega), (grownBy_putObj' X l o').size, fun b cs t _ hb => cells_grown hb (grownBy_putObj' X l o') fun r e => by cases e; exact ⟨o, hx, hc⟩⟩
end
abbrev T66 : TypeId → Prop := fun t => t = 66
theorem bits_any (x : Int) (W : World) : Calls Try.prog 68 #[.int .u64 x] W fun e w' => e = .returned (.func (.func 80) #[] #[.pointer (some ⟨W.heap.size, 0, none⟩)]) ∧ w' = W.alloc (.cells #[.int .u64 x] 66) := by
  go_enter Try.func68, Try.ntmps68
  go_wp2
  go_ret
  exact ⟨rfl, rfl⟩
theorem bits1_in (n : Nat) (hn : 1 ≤ n) (l Bs n₀ : Nat) (x : Int) (W : World) (hn₀ : n₀ ≤ W.heap.size) (J Jx : List Int → World → Prop)
    (hY : ∀ pre x W, J pre W → pre.length < 64 → YieldAt Fence.wide (n - 1) Try.prog l #[.int .i64 x] W fun e W' =>
      (e = .returned (.bool true) ∧ J (pre ++ [x]) W' ∧ KpT T66 n₀ W W') ∨ (e = .returned (.bool false) ∧ Jx (pre ++ [x]) W'))
    (hB : W.heap[Bs]? = some (.cells #[.int .u64 x] 66 (0, 0))) (h0 : J [] W) :
    CallsIn Fence.wide n Try.prog 80 #[.func (.yield l) #[] #[], .pointer (some ⟨Bs, 0, none⟩)] W fun e W' => (∃ v, e = .returned v) ∧
      ((∃ ys : List Int, True ∧ J ys W') ∨ (∃ pre : List Int, True ∧ Jx pre W')) := by
  refine callsIn_of_wp Try.func80 rfl trivial ?_ rfl
  simp only [Try.ntmps80, List.size_toArray, List.length_cons, List.length_nil, Nat.reduceAdd, Nat.reduceSub, Array.replicate_succ, Array.replicate_zero, List.push_toArray, List.append_toArray, List.nil_append, List.cons_append]
  gi_wp2
  gi_loopw [4] (fun i wr => ∃ k : Nat, k ≤ 64 ∧ i = .int .i64 k ∧ (∃ pre : List Int, pre.length ≤ k ∧ J pre wr) ∧ KpT T66 n₀ W wr) (fun i _ => 64 - (intOf i).toNat)
  case atStart => exact ⟨0, Nat.zero_le _, rfl, ⟨[], by simp, h0⟩, KpT.refl _⟩
  case round =>
    obtain ⟨k, hk, rfl, ⟨pre, hpre, hJs⟩, hkw⟩ := hrel
    have hc := cell_of_row _ _ 0 _ _ _ (hkw.2.2 _ _ _ rfl hB)
    by_cases hlt : k < 64
    · have hy0 := hY pre k wr hJs (by omega)
      obtain ⟨fn, tmps, assign, body, hy, hR⟩ := hy0
      gi_wp2
      · refine hR.mono ?_
        rintro e W3 (⟨rfl, hJ3, hk3⟩ | ⟨rfl, hJx3⟩)
        · gi_wp2
          go_roundw
          case rel => exact ⟨k + 1, by omega, by go_num, ⟨_, by simp; omega, hJ3⟩, hkw.trans hk3⟩
          case measure => simp [intOf]; omega
        · gi_wp2
          refine bodyPost_ret (results_none rfl _ _ _) rfl ?_
          exact ⟨⟨_, rfl⟩, .inr ⟨_, trivial, hJx3⟩⟩
      · refine ⟨fun _ h => (by cases h), ?_⟩
        gi_wp2
        go_roundw
        case rel => exact ⟨k + 1, by omega, by go_num, ⟨pre, by omega, hJs⟩, hkw⟩
        case measure => simp [intOf]; omega
    · obtain rfl : k = 64 := by omega
      gi_wp2
      go_end0
      exact ⟨⟨_, rfl⟩, .inl ⟨_, trivial, hJs⟩⟩
theorem bits_stops (n : Nat) (hn : 1 ≤ n) (Bs n₀ : Nat) (x : Int) (w : World) (hn₀ : n₀ ≤ w.heap.size) (hBs : Bs < w.heap.size) (hB : w.heap[Bs]? = some (.cells #[.int .u64 x] 66 (0, 0))) :
    SeqStopsK Fence.wide n Try.prog 80 #[.pointer (some ⟨Bs, 0, none⟩)] (fun x : Int => #[.int .i64 x]) (KpT T66 n₀) (fun _ => True) (fun _ => True) 64 w := fun l J Jx W hW _ _ hY h0 =>
  bits1_in n hn l Bs n₀ x W (Nat.le_trans hn₀ hW.size) J Jx hY ((hW.block Bs hBs).trans hB) h0
theorem Up.set {W w : World} (h : Up W w) {b : Nat} (hb : W.heap.size ≤ b) (v : Value) : Up W (w.setCell ⟨b, 0, none⟩ v) := h.grow (grownBy_setCell' w b v) (fun k e => by cases e; exact hb)
theorem KpT.set {T : TypeId → Prop} {n₀ : Nat} {w : World} {b : Nat} {t : TypeId} {v : Value} (hv : Boxed w b t v) (ht : ¬ T t) (hb : n₀ ≤ b) (u : Value) : KpT T n₀ w (w.setCell ⟨b, 0, none⟩ u) := by
  refine ⟨(Below.refl n₀ w).setCell (p := ⟨b, 0, none⟩) hb u, (grownBy_setCell' w b u).size, fun k cs t' h1 h2 => ?_⟩
  refine ((grownBy_setCell' w b u).block k (Array.getElem?_eq_some_iff.1 h2).1 fun e => ?_).trans h2
  cases e
  rw [show w.heap[b]? = _ from hv] at h2
  cases h2
  exact ht h1
theorem Boxed.grown {A B : World} {b : Nat} {t : TypeId} {v : Value} {row : Option Nat} (h : Boxed A b t v) (hg : A.grownBy B row) (hr : ∀ r, row = some r → ∃ o : Obj, A.heap[r]? = some o ∧ o.isCells = false) : Boxed B b t v := cells_grown h hg hr
/-- between two rounds of Fits -/
structure Fi (W : World) (y : Int) (w : World) : Prop where
  r : ∃ r, Boxed w (W.heap.size + 1) 4 (.bool r)
  y : Boxed w W.heap.size 3 (.int .i64 y)
  up : Up W w
  sz : W.heap.size + 3 ≤ w.heap.size
theorem Fi.own {β : Type} (W : World) (y : Int) {B : Nat} (hB : W.heap.size ≤ B) : OwnFrom B (fun (_ : β) w => Fi W y w) := fun s X Y row hs hg hr => by
  obtain ⟨⟨r, h1⟩, h2, h3, h4⟩ := hs
  have hr' : ∀ r, row = some r → ∃ o : Obj, X.heap[r]? = some o ∧ o.isCells = false := fun r e => (hr r e).2
  exact ⟨⟨r, cells_grown h1 hg hr'⟩, cells_grown h2 hg hr', h3.grow hg (fun k e => Nat.le_trans hB (hr k e).1), Nat.le_trans h4 hg.size⟩
theorem Fi.set {W : World} {y : Int} {w : World} (h : Fi W y w) (r : Bool) : Fi W y (w.setCell ⟨W.heap.size + 1, 0, none⟩ (.bool r)) := by
  obtain ⟨⟨r0, h1⟩, h2, h3, h4⟩ := h
  exact ⟨⟨r, h1.set _⟩, h2.other (by omega) _, h3.set (by omega) _, Nat.le_trans h4 (grownBy_setCell' w _ _).size⟩
theorem results_cell4 {fn : Func} {p : Tmp} (h : fn.results = #[.cell p 4]) (tmps : Array Value) (w : World) (b : Nat) (r : Bool) (hp : tmps.getD p undef = .pointer (some ⟨b, 0, none⟩)) (hc : w.cell? ⟨b, 0, none⟩ = some (.bool r)) :
    (results fn tmps).run Try.prog w = .ok (.bool r) w := by
  have hp' : tmps[p]?.getD undef = .pointer (some ⟨b, 0, none⟩) := by simpa using hp
  simp [results, h, hp', asAddr, go_sem, hc]
theorem Fi.put {W : World} {y : Int} {X : World} {D : Nat} {o : Obj} (h : Fi W y X) (hK : X.heap[D]? = some o) (hc : o.isCells = false) (hD : W.heap.size ≤ D) (o' : Obj) : Fi W y (X.putObj D o') :=
  Fi.own (β := Unit) W y hD () X _ (some D) h (grownBy_putObj' X D o') (fun r e => by cases e; exact ⟨Nat.le_refl _, o, hK, hc⟩)
theorem fits_any (x y : Int) (W : World) : Calls Try.prog 46 #[.int .u64 x, .int .i64 y] W fun e w' => AB e ∧ Up W w' := by
  refine (callsIn_wide (n := 6)).1 (callsIn_of_wp_marks Try.func46 rfl trivial ?_ rfl)
  simp only [Try.ntmps46, List.size_toArray, List.length_cons, List.length_nil, Nat.reduceAdd, Nat.reduceSub, Array.replicate_succ, Array.replicate_zero, List.push_toArray, List.append_toArray, List.nil_append, List.cons_append]
  rw [wpIn_wide]
  go_wp2_with (go_at_call 68; refine (bits_any x _).mono ?_; rintro e w' ⟨rfl, rfl⟩)
  obtain ⟨V0, hV0⟩ : ∃ V, V = (((W.alloc (.cells #[.int .i64 y] 3)).alloc (.cells #[.bool false] 4)).alloc (.cells #[.int .u64 x] 66)) := ⟨_, rfl⟩
  rw [← hV0]
  have e1 := size_alloc W (.cells #[.int .i64 y] 3)
  have e2 := size_alloc (W.alloc (.cells #[.int .i64 y] 3)) (.cells #[.bool false] 4)
  have e3 := size_alloc ((W.alloc (.cells #[.int .i64 y] 3)).alloc (.cells #[.bool false] 4)) (.cells #[.int .u64 x] 66)
  have b0 : Boxed V0 W.heap.size 3 (.int .i64 y) := by rw [hV0]; exact ((Boxed.new W 3 _).alloc _).alloc _
  have b1 : Boxed V0 (W.heap.size + 1) 4 (.bool false) := by rw [hV0, ← e1]; exact (Boxed.new _ 4 _).alloc _
  have b2 : Boxed V0 (W.heap.size + 1 + 1) 66 (.int .u64 x) := by rw [hV0, show W.heap.size + 1 + 1 = ((W.alloc (.cells #[.int .i64 y] 3)).alloc (.cells #[.bool false] 4)).heap.size by omega]; exact Boxed.new _ 66 _
  have u0 : Up W V0 := by rw [hV0]; exact (Up.alloc _ _ _).trans ((Up.alloc _ _ _).trans (Up.alloc _ _ _))
  rw [← hV0] at e3
  have hs0 : V0.heap.size = W.heap.size + 3 := by omega
  clear hV0 e3 e2 e1
  rw [← wpIn_wide (n := 5)]
  refine wpIn_rangeFunc_ownG rfl (by omega) (gf := 80) (lb := #[.pointer (some ⟨W.heap.size + 1 + 1, 0, none⟩)]) rfl trivial (enters_of Try.func80 (by kernel_rfl) rfl)
    (bits_stops 4 (by omega) (W.heap.size + 1 + 1) W.heap.size x V0 (by omega) (by omega) b2) KpT.trans (KpT.kb (by omega)) (Below.refl _ _) (fun _ => rfl)
    (fun _ w => Fi W y w) (fun c _ w => c = .ret ∧ Fi W y w) (Fi.own W y (by omega)) (fun c s A B row hs hg hr => ⟨hs.1, Fi.own (β := Unit) W y (by omega) () A B row hs.2 hg hr⟩) ⟨⟨_, b1⟩, b0, u0, by omega⟩
    (fun z => { tmps := #[.int .u64 x, .int .i64 y, undef, .pointer (some ⟨W.heap.size, 0, none⟩), .pointer (some ⟨W.heap.size + 1, 0, none⟩), .int .i64 z, .int .u64 x, .func (.func 80) #[] #[.pointer (some ⟨W.heap.size + 1 + 1, 0, none⟩)], .int .i64 z, undef, undef, undef], defers := [] }) ?assign ?body ?done ?stop
  case assign =>
    intro l z X K hK
    gi_wp2
    exact hK
  case body =>
    rintro l pre z X hF hlen
    obtain ⟨r0, hr0⟩ := hF.r
    have hy := hF.y.cell
    have hc := hr0.cell
    have hf := hr0.frozen
    gi_wp2
    · exact ⟨(KeepsOthers.setCell _ _ _).from _, rfl, hF.set false⟩
    · exact ⟨KeepsFrom.refl _ _, KpT.refl _, hF⟩
  case done =>
    rintro D xs X hD _ hF hK
    obtain ⟨r0, hr0⟩ := hF.r
    have hc := hr0.cell
    have hf := hr0.frozen
    go_wp2
    have hK' := (KeepsOthers.setCell X ⟨W.heap.size + 1, 0, none⟩ (.bool true)).same D _ hK rfl
    have hG := (hF.set true).put hK' rfl (by omega) (.deferred none)
    obtain ⟨r1, hr1⟩ := hG.r
    refine ⟨by simp, .inl ⟨_, _, rfl, run_takeDeferred hK', ?_⟩⟩
    exact ⟨_, results_cell4 rfl _ _ _ _ rfl hr1.cell, ⟨_, rfl⟩, hG.up⟩
  case stop =>
    rintro D c pre X hD _ ⟨rfl, hF⟩ hK
    obtain ⟨r0, hr0⟩ := hF.r
    have hc := hr0.cell
    gi_wp2
    have hG := hF.put hK rfl (by omega) (.deferred none)
    obtain ⟨r1, hr1⟩ := hG.r
    refine ⟨by simp, .inl ⟨_, _, rfl, run_takeDeferred hK, ?_⟩⟩
    exact ⟨_, results_cell4 rfl _ _ _ _ rfl hr1.cell, ⟨_, rfl⟩, hG.up⟩
end Go.Proofs.AO
