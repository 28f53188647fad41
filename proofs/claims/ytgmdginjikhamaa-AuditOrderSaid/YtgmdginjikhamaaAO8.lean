/- audit.objects gives a row of ones own. No conditions beside those in its theorems. -/
import Derived.Test.YtgmdginjikhamaaAO7
set_option linter.unusedSimpArgs false
namespace Go.Proofs.AO
open Go.RowKit Go.Maps Go.Shelf
attribute [local go_sem] Oper.semAt_some
set_option linter.unusedVariables false
set_option maxRecDepth 100000
set_option maxHeartbeats 2000000
theorem Own.grown {A B : World} {base m : Nat} {v : Value} {row : Option Nat} (h : Own A base v m) (hg : A.grownBy B row) (hr : ∀ r, row = some r → ∃ o : Obj, A.heap[r]? = some o ∧ o.isCells = false) : Own B base v m := by
  obtain ⟨d, h1, h2⟩ := h
  refine ⟨d, h1, h2.kept hg ?_⟩
  rcases h2.2 with ⟨rfl, _⟩ | ⟨g, cap, cur, rfl, _, hgb, _⟩
  · exact .inl rfl
  · refine .inr fun e' => ?_
    obtain ⟨o, ho, hc⟩ := hr g (by simpa [Value.ownBlock] using e'.symm)
    rw [hgb] at ho; cases ho; cases hc
theorem cells_grown {A B : World} {k : Nat} {cs : Array Value} {t : TypeId} {row : Option Nat} (h : A.heap[k]? = some (.cells cs t (0, 0))) (hg : A.grownBy B row) (hr : ∀ r, row = some r → ∃ o : Obj, A.heap[r]? = some o ∧ o.isCells = false) : B.heap[k]? = some (.cells cs t (0, 0)) := by
  refine (hg.block k (Array.getElem?_eq_some_iff.1 h).1 fun e => ?_).trans h
  obtain ⟨o, ho, hc⟩ := hr k e.symm
  rw [h] at ho; cases ho; cases hc
def ob9 (z : Nat → Int) : Array Value := #[.int .i64 (z 0), .int .i64 (z 1), .int .i64 (z 2), .int .i64 (z 3), .int .i64 (z 4), .int .i64 (z 5), .int .i64 (z 6), .int .i64 (z 7), .int .i64 (z 8)]
/-- between two rounds of objects -/
def Io (W : World) (pre : List OO) (w : World) : Prop := (∃ v, Boxed w (W.heap.size + 1) 35 v ∧ Own w (W.heap.size + 2) v (2 * pre.length)) ∧ Up W w ∧ W.heap.size + 3 ≤ w.heap.size
theorem Io.own (W : World) {B : Nat} (hB : W.heap.size ≤ B) : OwnFrom B (Io W) := fun s X Y row hs hg hr => by
  obtain ⟨⟨v, h1, h2⟩, h3, h4⟩ := hs
  have hr' : ∀ r, row = some r → ∃ o : Obj, X.heap[r]? = some o ∧ o.isCells = false := fun r e => (hr r e).2
  exact ⟨⟨v, cells_grown h1 hg hr', h2.grown hg hr'⟩, h3.grow hg (fun k e => Nat.le_trans hB (hr k e).1), Nat.le_trans h4 hg.size⟩
/-- the boxes of the two variables -/
def Axo (W : World) (A : Array Value) (ao : Option Addr) (no co : Nat) (x : OO) (a' : Act) (w : World) : Prop :=
  ∃ Ba Bb, w.heap[Ba]? = some (.cells (ob9 x.1) 47 (0, 0)) ∧ w.heap[Bb]? = some (.cells (ob9 x.2) 47 (0, 0)) ∧ ∃ pa pb : Value, pa = .pointer (some ⟨Ba, 0, none⟩) ∧ pb = .pointer (some ⟨Bb, 0, none⟩) ∧ a' = { tmps := #[.agg A, .pointer (some ⟨W.heap.size, 0, none⟩), .slice none 0 0, .pointer (some ⟨W.heap.size + 1, 0, none⟩), pa, pb, undef, .pointer (some ⟨W.heap.size, 0, none⟩), .slice ao no co, .func (.func 42) #[] #[.pointer (some ⟨W.heap.size + 1 + 1, 0, none⟩)], objV x.1, objV x.2, undef, undef, undef, undef, undef, undef, undef, undef, undef, undef, undef, undef, undef, undef, undef, undef, undef, undef, undef, undef, undef, undef, undef, undef, undef, undef, undef, undef, undef, undef, undef, undef, undef, undef, undef, undef, undef, undef, undef, undef, undef, undef, undef, undef, undef, undef, undef, undef, undef, undef, undef, undef, undef, undef, undef, undef, undef, undef, undef, undef, undef, undef, undef, undef, undef, undef, undef, undef, undef, undef, undef, undef, undef, undef, undef, undef, undef, undef, undef, undef, undef, undef, undef, undef, undef, undef, undef, undef, undef, undef, undef, undef, undef, undef, undef, undef], defers := [] }
theorem KeepsFrom.up {b : Nat} {A B : World} (h : Up A B) : KeepsFrom b A B := ⟨h.size, fun k o _ hk _ => h.heap hk⟩
theorem Io.up {W A B : World} {pre : List OO} (h : Io W pre A) (u : Up A B) : Io W pre B := by
  obtain ⟨⟨v, h1, h2⟩, h3, h4⟩ := h
  exact ⟨⟨v, u.heap h1, h2.heap fun k hk _ => u.block k hk⟩, h3.trans u, Nat.le_trans h4 u.size⟩
/-- within a round of objects -/
structure So (W X : World) (b : Nat) (w : World) (v : Value) (m Ba : Nat) (ca : Array Value) (Bb : Nat) (cb : Array Value) : Prop where
  xa : w.heap[Ba]? = some (.cells ca 47 (0, 0))
  xb : w.heap[Bb]? = some (.cells cb 47 (0, 0))
  bx : Boxed w (W.heap.size + 1) 35 v
  own : Own w (W.heap.size + 2) v m
  up : Up W w
  sz : W.heap.size + 3 ≤ w.heap.size
  kf : KeepsFrom b X w
  kp : Kp47 W.heap.size X w
theorem So.of {W X : World} {b : Nat} {w w' : World} {v : Value} {m Ba : Nat} {ca : Array Value} {Bb : Nat} {cb : Array Value} (s : So W X b w v m Ba ca Bb cb) (u : Up w w') : So W X b w' v m Ba ca Bb cb :=
  ⟨u.heap s.xa, u.heap s.xb, u.heap s.bx, s.own.heap fun k hk _ => u.block k hk, s.up.trans u, Nat.le_trans s.sz u.size, s.kf.trans (KeepsFrom.up u), s.kp.trans (Kp47.up s.up.size u)⟩
theorem So.ca {W X : World} {b : Nat} {w : World} {v : Value} {m Ba : Nat} {ca : Array Value} {Bb : Nat} {cb : Array Value} (s : So W X b w v m Ba ca Bb cb) (j : Nat) : w.cell? ⟨Ba, j, none⟩ = ca[j]? := cell_of_row _ _ _ _ _ _ s.xa
theorem So.cb {W X : World} {b : Nat} {w : World} {v : Value} {m Ba : Nat} {ca : Array Value} {Bb : Nat} {cb : Array Value} (s : So W X b w v m Ba ca Bb cb) (j : Nat) : w.cell? ⟨Bb, j, none⟩ = cb[j]? := cell_of_row _ _ _ _ _ _ s.xb
/-- 'l = append(l, ..)' at a box: what is no box of it lies as it lay -/
theorem app_keep {w w1 : World} {B k : Nat} {v v' : Value} {tmp : Obj} {cs : Array Value} {t : TypeId} {n₀ size m : Nat} {xs : List Value} (hv : Boxed w B 35 v) (hrow : w.ownsRow n₀ 38 size v m xs) (hgrow : (w.alloc tmp).grownBy w1 v.ownBlock)
    (hk : w.heap[k]? = some (.cells cs t (0, 0))) (ht : t ≠ 35) (ht2 : t ≠ 38) : (w1.setCell ⟨B, 0, none⟩ v').heap[k]? = some (.cells cs t (0, 0)) := by
  have hlt := (Array.getElem?_eq_some_iff.1 hk).1
  have h1 : (w.alloc tmp).heap[k]? = some (.cells cs t (0, 0)) := (Up.push w tmp).heap hk
  have h2 : w1.heap[k]? = some (.cells cs t (0, 0)) := by
    refine (hgrow.block k (Array.getElem?_eq_some_iff.1 h1).1 fun e' => ?_).trans h1
    rcases hrow.2 with ⟨rfl, _⟩ | ⟨g, cap, cur, rfl, _, hgb, _⟩
    · simp [Value.ownBlock] at e'
    · obtain rfl : k = g := by simpa [Value.ownBlock] using e'
      rw [hk] at hgb
      cases hgb
      exact ht2 rfl
  rw [Below.heap_setCell _ _ _ k ?_]
  · exact h2
  · intro e'
    subst e'
    rw [show w.heap[k]? = _ from hv] at hk
    cases hk
    exact ht rfl
theorem low_row {w : World} {b b' e size n : Nat} {v : Value} {xs : List Value} (h : w.ownsRow b e size v n xs) (hb : b' ≤ b) : w.ownsRow b' e size v n xs := by
  refine ⟨h.1, ?_⟩
  rcases h.2 with h | ⟨g, cap, cur, h1, h2, h3⟩
  · exact .inl h
  · exact .inr ⟨g, cap, cur, h1, by omega, h3⟩
theorem So.app {W X : World} {b : Nat} {w w1 : World} {v v' : Value} {m Ba : Nat} {ca : Array Value} {Bb : Nat} {cb : Array Value} (s : So W X b w v m Ba ca Bb cb) {tmp : Obj} {d : List F3} (hd : d.length ≤ m) (hrow : w.ownsRow (W.heap.size + 2) 38 3 v d.length (d.flatMap enc3)) {f : F3}
    (hown : w1.ownsRow (W.heap.size + 2) 38 3 v' (d.length + 1) (d.flatMap enc3 ++ enc3 f)) (hgrow : (w.alloc tmp).grownBy w1 v.ownBlock) :
    Boxed w1 (W.heap.size + 1) 35 v ∧ So W X b (w1.setCell ⟨W.heap.size + 1, 0, none⟩ v') v' (m + 1) Ba ca Bb cb := by
  have hsz := s.sz
  obtain ⟨q1, q2, q3, q4, q5⟩ := s.bx.appended (n₀ := W.heap.size + 1) (t := 35) (e := 38) (by decide) (low_row hrow (by omega)) (by omega) (Nat.le_refl _) (low_row hown (by omega)) hgrow
  refine ⟨q1, ?_⟩
  have hup : Up W (w1.setCell ⟨W.heap.size + 1, 0, none⟩ v') :=
    ⟨q5.os.trans s.up.os, q5.tape.trans s.up.tape, q5.output.trans s.up.output, Nat.le_trans s.up.size q5.size, fun k hk => (q5.block k (by omega)).trans (s.up.block k hk)⟩
  refine ⟨app_keep s.bx hrow hgrow s.xa (by decide) (by decide), app_keep s.bx hrow hgrow s.xb (by decide) (by decide), q2, ?_, hup, Nat.le_trans hsz q5.size, s.kf.trans (q4.from b), s.kp.trans ⟨⟨q5.os, q5.tape, q5.output, q5.size, fun k hk => q5.block k (by omega)⟩, q5.size, fun k cs t ht hk => app_keep s.bx hrow hgrow hk (by rcases ht with rfl | rfl <;> decide) (by rcases ht with rfl | rfl <;> decide)⟩⟩
  refine ⟨d ++ [f], by simp; omega, ?_⟩
  have e1 : (d ++ [f]).flatMap enc3 = d.flatMap enc3 ++ enc3 f := by simp
  have e2 : (d ++ [f]).length = d.length + 1 := by simp
  rw [e1, e2]
  exact hown.kept (grownBy_setCell' w1 _ v') (.inr (q1.not_row (by decide) hown).symm)
theorem untyped_ex (x0 x1 x2 x3 x4 x5 x6 x7 x8 y0 y1 y2 y3 y4 y5 y6 y7 y8 : Int) (W : World) : Calls Try.prog 31 #[.agg #[.int .i64 x0, .int .i64 x1, .int .i64 x2, .int .i64 x3, .int .i64 x4, .int .i64 x5, .int .i64 x6, .int .i64 x7, .int .i64 x8], .agg #[.int .i64 y0, .int .i64 y1, .int .i64 y2, .int .i64 y3, .int .i64 y4, .int .i64 y5, .int .i64 y6, .int .i64 y7, .int .i64 y8]] W fun e w' => AB e ∧ Up W w' := untyped_any (fun j => match j with | 0 => x0 | 1 => x1 | 2 => x2 | 3 => x3 | 4 => x4 | 5 => x5 | 6 => x6 | 7 => x7 | _ => x8) (fun j => match j with | 0 => y0 | 1 => y1 | 2 => y2 | 3 => y3 | 4 => y4 | 5 => y5 | 6 => y6 | 7 => y7 | _ => y8) W
theorem So.grow {W X : World} {b : Nat} {w : World} {v : Value} {m m' Ba : Nat} {ca : Array Value} {Bb : Nat} {cb : Array Value} (s : So W X b w v m Ba ca Bb cb) (h : m ≤ m') : So W X b w v m' Ba ca Bb cb := by
  obtain ⟨d, q1, q2⟩ := s.own
  exact ⟨s.xa, s.xb, s.bx, ⟨d, Nat.le_trans q1 h, q2⟩, s.up, s.sz, s.kf, s.kp⟩
theorem arm_apI {F : Fence} {n : Nat} {ops : Array Oper} {rest : List Oper} {o : Oper} {a : Act} {w0 w2 : World} {Q : Exit → Act → World → Prop} (hgd : o.guard = none) (s x : Operand) (ho : o.op = .call { callee := .builtin .append, args := #[s, x], argTypes := #[35, 35] })
    {base m : Nat} {v : Value} (hown : Own w0 base v m) (hm : m ≤ 100000) (hb : base ≤ w0.heap.size) (f1 f2 f3 : Int) (hw : w2 = w0.alloc (.cells #[.int .i64 f1, .int .i64 f2, .int .i64 f3] 38)) (hs : a.eval s = v) {K : Nat} (hx : a.eval x = .slice (some ⟨K, 0, none⟩) 1 1) (hK : K = w0.heap.size)
    (h : ∀ (v' : Value) (w1 : World) (d : List F3), d.length ≤ m → w0.ownsRow base 38 3 v d.length (d.flatMap enc3) → w1.ownsRow base 38 3 v' (d.length + 1) (d.flatMap enc3 ++ enc3 (f1, f2, f3)) → w2.grownBy w1 v.ownBlock → wpListIn F n Try.prog ops Q rest (a.put o.dst v') w1) :
    wpListIn F n Try.prog ops Q (o :: rest) a w2 := by
  subst hw hK
  obtain ⟨d, hd, hr⟩ := hown
  obtain ⟨i, hi, hz0, hz1, hz2⟩ := info_parts info38
  refine wpListIn_append_own _ hgd s x 35 ho base 38 i _ 3 24 Try.underlying35 hi hz0 hz1 hz2 rfl (by decide) v d.length _ hs (hr.alloc _) ⟨w0.heap.size, 0, none⟩ 1 1 (enc3 (f1, f2, f3)) hx rfl ?_ ?_ (by unfold maxLen; omega) (by omega) (by rw [size_alloc]; omega) ?_
  · intro j u hj
    match j, hj with
    | 0, hj => cases hj; exact cell_new' _ _ _ _ _ rfl
    | 1, hj => cases hj; exact cell_new' _ _ _ _ _ rfl
    | 2, hj => cases hj; exact cell_new' _ _ _ _ _ rfl
  · intro u hu
    simp [enc3] at hu
    rcases hu with rfl | rfl | rfl <;> rfl
  · intro v' w' h1 h2 _
    exact h v' w' d hd hr h1 h2
/-- the slots of objects within a round -/
def FrO (W : World) (A : Array Value) (ao : Option Addr) (no co Ba Bb : Nat) (t6 : Value) (a' : Act) : Prop := ∃ u : Nat → Value, a' = { tmps := #[.agg A, .pointer (some ⟨W.heap.size, 0, none⟩), .slice none 0 0, .pointer (some ⟨W.heap.size + 1, 0, none⟩), .pointer (some ⟨Ba, 0, none⟩), .pointer (some ⟨Bb, 0, none⟩), t6, .pointer (some ⟨W.heap.size, 0, none⟩), .slice ao no co, .func (.func 42) #[] #[.pointer (some ⟨W.heap.size + 1 + 1, 0, none⟩)], u 10, u 11, u 12, u 13, u 14, u 15, u 16, u 17, u 18, u 19, u 20, u 21, u 22, u 23, u 24, u 25, u 26, u 27, u 28, u 29, u 30, u 31, u 32, u 33, u 34, u 35, u 36, u 37, u 38, u 39, u 40, u 41, u 42, u 43, u 44, u 45, u 46, u 47, u 48, u 49, u 50, u 51, u 52, u 53, u 54, u 55, u 56, u 57, u 58, u 59, u 60, u 61, u 62, u 63, u 64, u 65, u 66, u 67, u 68, u 69, u 70, u 71, u 72, u 73, u 74, u 75, u 76, u 77, u 78, u 79, u 80, u 81, u 82, u 83, u 84, u 85, u 86, u 87, u 88, u 89, u 90, u 91, u 92, u 93, u 94, u 95, u 96, u 97, u 98, u 99, u 100, u 101, u 102, u 103, u 104, u 105, u 106, u 107], defers := [] }
theorem FrO.mk {W : World} {A : Array Value} {ao : Option Addr} {no co Ba Bb : Nat} {t6 : Value} {a' : Act} (h : a' = { tmps := #[.agg A, .pointer (some ⟨W.heap.size, 0, none⟩), .slice none 0 0, .pointer (some ⟨W.heap.size + 1, 0, none⟩), .pointer (some ⟨Ba, 0, none⟩), .pointer (some ⟨Bb, 0, none⟩), t6, .pointer (some ⟨W.heap.size, 0, none⟩), .slice ao no co, .func (.func 42) #[] #[.pointer (some ⟨W.heap.size + 1 + 1, 0, none⟩)], a'.tmps.getD 10 undef, a'.tmps.getD 11 undef, a'.tmps.getD 12 undef, a'.tmps.getD 13 undef, a'.tmps.getD 14 undef, a'.tmps.getD 15 undef, a'.tmps.getD 16 undef, a'.tmps.getD 17 undef, a'.tmps.getD 18 undef, a'.tmps.getD 19 undef, a'.tmps.getD 20 undef, a'.tmps.getD 21 undef, a'.tmps.getD 22 undef, a'.tmps.getD 23 undef, a'.tmps.getD 24 undef, a'.tmps.getD 25 undef, a'.tmps.getD 26 undef, a'.tmps.getD 27 undef, a'.tmps.getD 28 undef, a'.tmps.getD 29 undef, a'.tmps.getD 30 undef, a'.tmps.getD 31 undef, a'.tmps.getD 32 undef, a'.tmps.getD 33 undef, a'.tmps.getD 34 undef, a'.tmps.getD 35 undef, a'.tmps.getD 36 undef, a'.tmps.getD 37 undef, a'.tmps.getD 38 undef, a'.tmps.getD 39 undef, a'.tmps.getD 40 undef, a'.tmps.getD 41 undef, a'.tmps.getD 42 undef, a'.tmps.getD 43 undef, a'.tmps.getD 44 undef, a'.tmps.getD 45 undef, a'.tmps.getD 46 undef, a'.tmps.getD 47 undef, a'.tmps.getD 48 undef, a'.tmps.getD 49 undef, a'.tmps.getD 50 undef, a'.tmps.getD 51 undef, a'.tmps.getD 52 undef, a'.tmps.getD 53 undef, a'.tmps.getD 54 undef, a'.tmps.getD 55 undef, a'.tmps.getD 56 undef, a'.tmps.getD 57 undef, a'.tmps.getD 58 undef, a'.tmps.getD 59 undef, a'.tmps.getD 60 undef, a'.tmps.getD 61 undef, a'.tmps.getD 62 undef, a'.tmps.getD 63 undef, a'.tmps.getD 64 undef, a'.tmps.getD 65 undef, a'.tmps.getD 66 undef, a'.tmps.getD 67 undef, a'.tmps.getD 68 undef, a'.tmps.getD 69 undef, a'.tmps.getD 70 undef, a'.tmps.getD 71 undef, a'.tmps.getD 72 undef, a'.tmps.getD 73 undef, a'.tmps.getD 74 undef, a'.tmps.getD 75 undef, a'.tmps.getD 76 undef, a'.tmps.getD 77 undef, a'.tmps.getD 78 undef, a'.tmps.getD 79 undef, a'.tmps.getD 80 undef, a'.tmps.getD 81 undef, a'.tmps.getD 82 undef, a'.tmps.getD 83 undef, a'.tmps.getD 84 undef, a'.tmps.getD 85 undef, a'.tmps.getD 86 undef, a'.tmps.getD 87 undef, a'.tmps.getD 88 undef, a'.tmps.getD 89 undef, a'.tmps.getD 90 undef, a'.tmps.getD 91 undef, a'.tmps.getD 92 undef, a'.tmps.getD 93 undef, a'.tmps.getD 94 undef, a'.tmps.getD 95 undef, a'.tmps.getD 96 undef, a'.tmps.getD 97 undef, a'.tmps.getD 98 undef, a'.tmps.getD 99 undef, a'.tmps.getD 100 undef, a'.tmps.getD 101 undef, a'.tmps.getD 102 undef, a'.tmps.getD 103 undef, a'.tmps.getD 104 undef, a'.tmps.getD 105 undef, a'.tmps.getD 106 undef, a'.tmps.getD 107 undef], defers := [] }) : FrO W A ao no co Ba Bb t6 a' := ⟨fun j => a'.tmps.getD j undef, h⟩
theorem wpIn_cut {F : Fence} {n : Nat} {P : Program} {c d : Code} {Q : Exit → Act → World → Prop} {a : Act} {w : World} (M : Act → World → Prop) (h1 : c.wpIn F n P (Exit.then M (fun _ _ _ => False)) a w) (h2 : ∀ a' w', M a' w' → d.wpIn F n P Q a' w') : (c.seq d).wpIn F n P Q a w := by
  refine wpIn_seq (wpIn_mono h1 ?_)
  intro e a' w' h
  cases e <;> first | exact h2 _ _ h | exact h.elim
theorem objects_any (A : Array Value) (ao : Option Addr) (no co : Nat) (zo : Nat → Nat → Int) (W : World) (hno : no ≤ 40) (h0 : A[0]? = some (.slice ao no co))
    (ho : Rw 9 W ao no fun j t => .int .i64 (zo j t)) :
    Calls Try.prog 14 #[.agg A] W (Gv W 3200) := by
  have hbl : ∀ b off, ao = some ⟨b, off, none⟩ → 0 < no → b < W.heap.size := fun b off e h => by
    obtain ⟨b', off', e', h1⟩ := ho 0 h
    rw [e] at e'
    cases e'
    exact World.block_lt_of_cell? W _ (h1 0 (by omega))
  refine (callsIn_wide (n := 6)).1 (callsIn_of_wp_marks Try.func14 rfl trivial ?_ rfl)
  simp only [Try.ntmps14, List.size_toArray, List.length_cons, List.length_nil, Nat.reduceAdd, Nat.reduceSub, Array.replicate_succ, Array.replicate_zero, List.push_toArray, List.append_toArray, List.nil_append, List.cons_append]
  rw [wpIn_wide]
  go_wp2_with (go_at_call 29; refine (pairs_any ao no co _).mono ?_; rintro e w' ⟨rfl, rfl⟩)
  obtain ⟨V0, hV0⟩ : ∃ V, V = (((W.alloc (.cells A 32)).alloc (.cells #[.slice none 0 0] 35)).alloc (.cells #[.slice ao no co] 22)) := ⟨_, rfl⟩
  rw [← hV0]
  have e1 := size_alloc W (.cells A 32)
  have e2 := size_alloc (W.alloc (.cells A 32)) (.cells #[.slice none 0 0] 35)
  have e3 := size_alloc ((W.alloc (.cells A 32)).alloc (.cells #[.slice none 0 0] 35)) (.cells #[.slice ao no co] 22)
  rw [← hV0] at e3
  have u3 : Up ((W.alloc (.cells A 32)).alloc (.cells #[.slice none 0 0] 35)) V0 := by rw [hV0]; exact Up.alloc _ _ _
  have u0 : Up W V0 := (Up.alloc _ _ _).trans ((Up.alloc _ _ _).trans u3)
  have hb1 : Boxed V0 (W.heap.size + 1) 35 (.slice none 0 0) := u3.heap (by rw [← e1]; exact heap_alloc_last _ _)
  have hb2 : V0.heap[W.heap.size + 1 + 1]? = some (.cells #[.slice ao no co] 22 (0, 0)) := by rw [hV0, show W.heap.size + 1 + 1 = ((W.alloc (.cells A 32)).alloc (.cells #[.slice none 0 0] 35)).heap.size by omega]; exact heap_alloc_last _ _
  have hs0 : V0.heap.size = W.heap.size + 3 := by omega
  clear hV0 u3 e3 e2 e1
  rw [← wpIn_wide (n := 5)]
  refine wpIn_rangeFunc_ownH rfl (by omega) (gf := 42) (lb := #[.pointer (some ⟨W.heap.size + 1 + 1, 0, none⟩)]) rfl trivial (enters_of Try.func42 (by kernel_rfl) rfl)
    (pairs_stops 4 (by omega) (W.heap.size + 1 + 1) W.heap.size ao no co zo hno V0 (by omega) (by omega) hbl hb2 (ho.up u0)) Kp47.trans ?kb (Below.refl _ _) (fun _ => rfl)
    (Io W) (fun _ _ _ => False) (Io.own W (by omega)) (fun _ _ _ _ _ hs _ _ => hs) ⟨⟨_, hb1, Own.nil _ _⟩, u0, by omega⟩ (Axo W A ao no co) ?ax ?assign ?body ?done ?stop
  case kb =>
    intro X l o o' hl hx hc _
    refine ⟨(Below.refl _ X).grown (grownBy_putObj' X l o') (by have := (Array.getElem?_eq_some_iff.1 hx).1; omega) (fun k e => by cases e; omega), (grownBy_putObj' X l o').size, fun b cs t _ hb => cells_grown hb (grownBy_putObj' X l o') fun r e => by cases e; exact ⟨o, hx, hc⟩⟩
  case ax =>
    rintro x a' _ X Y row ⟨Ba, Bb, h1, h2, h3⟩ hg hr
    exact ⟨Ba, Bb, cells_grown h1 hg (fun r e => (hr r e).2), cells_grown h2 hg (fun r e => (hr r e).2), h3⟩
  case assign =>
    intro l pre x X K hi hK
    simp only [encO, objV]
    gi_wp2
    have hu : Up X ((X.alloc (.cells (ob9 x.1) 47)).alloc (.cells (ob9 x.2) 47)) := (Up.alloc _ _ _).trans (Up.alloc _ _ _)
    exact hK _ _ (KeepsFrom.up hu) (Kp47.up hi.2.1.size hu) (hi.up hu) ⟨_, _, (Up.alloc _ _ _).heap (heap_alloc_last _ _), by rw [← size_alloc X (.cells (ob9 x.1) 47)]; exact heap_alloc_last _ _, _, _, rfl, rfl, rfl⟩
  case body =>
    rw [hs0]
    rintro l pre x _ X hl ⟨r, hr⟩ ⟨⟨v, hv, hown⟩, hu, hsz⟩ ⟨Ba, Bb, hBa, hBb, _, _, rfl, rfl, rfl⟩ hlen
    obtain ⟨z1, z2⟩ := x
    have s0 : So W X (W.heap.size + 3) X v (2 * pre.length) Ba (ob9 z1) Bb (ob9 z2) := ⟨hBa, hBb, hv, hown, hu, hsz, KeepsFrom.refl _ _, Kp47.refl _⟩
    have ha := s0.ca
    have hb := s0.cb
    have hc := s0.bx.cell
    have h30 : Fence.wide.fn 30 := trivial
    have h31 : Fence.wide.fn 31 := trivial
    simp only [ob9] at ha hb
    clear hBa hBb hown hu hsz hv
    refine wpIn_block ?_
    refine wpIn_cut (fun a' w' => FrO W A ao no co Ba Bb undef a' ∧ ∃ v', So W X (W.heap.size + 3) w' v' (2 * pre.length + 1) Ba (ob9 z1) Bb (ob9 z2)) ?p1 ?rest
    case p1 =>
      gi_wp2_with (first
        | (gi_at_call 30; refine (CallsIn.inRound l (callsIn_wide.2 (meet_any _ _ _ _ _))).mono ?_; rintro e w' ⟨⟨r, rfl⟩, hv⟩; have s1 := So.of ‹So _ _ _ _ _ _ _ _ _ _› hv; have ha1 := s1.ca; have hb1 := s1.cb; simp only [ob9] at ha1 hb1; have hc1 := s1.bx.cell)
        | (gi_at_call 31; refine (CallsIn.inRound l (callsIn_wide.2 (untyped_ex _ _ _ _ _ _ _ _ _ _ _ _ _ _ _ _ _ _ _))).mono ?_; rintro e w' ⟨⟨r, rfl⟩, hv⟩; have s1 := So.of ‹So _ _ _ _ _ _ _ _ _ _› hv; have ha1 := s1.ca; have hb1 := s1.cb; simp only [ob9] at ha1 hb1; have hc1 := s1.bx.cell)
        | (gi_at_builtin; refine arm_apI rfl _ _ rfl (So.own ‹So _ _ _ _ _ _ _ _ _ _›) (by omega) (by have := So.sz ‹So _ _ _ _ _ _ _ _ _ _›; omega) _ _ _ rfl rfl rfl rfl ?_; intro v' w1 d hd hrow hown' hgrow; obtain ⟨g', cap', rfl⟩ := ownsRow_succ hown'; obtain ⟨hv1, s2⟩ := So.app ‹So _ _ _ _ _ _ _ _ _ _› hd hrow hown' hgrow; have hc1 := hv1.cell; have hf1 := hv1.frozen))
      all_goals exact ⟨FrO.mk rfl, _, So.grow ‹So _ _ _ _ _ _ _ _ _ _› (by omega)⟩
    case rest =>
      clear s0 ha hb hc
      rintro _ Y ⟨⟨u, rfl⟩, v, s0⟩
      have ha := s0.ca
      have hb := s0.cb
      have hc := s0.bx.cell
      simp only [ob9] at ha hb
      refine wpIn_cut (fun a' w' => (∃ r, FrO W A ao no co Ba Bb (.bool r) a') ∧ w' = Y) ?p2 ?p3
      case p2 =>
        gi_wp2
        all_goals exact ⟨⟨_, FrO.mk rfl⟩, trivial⟩
      case p3 =>
        rintro _ _ ⟨⟨rb, u, rfl⟩, rfl⟩
        gi_wp2_with (first
        | (gi_at_call 30; refine (CallsIn.inRound l (callsIn_wide.2 (meet_any _ _ _ _ _))).mono ?_; rintro e w' ⟨⟨r, rfl⟩, hv⟩; have s1 := So.of ‹So _ _ _ _ _ _ _ _ _ _› hv; have ha1 := s1.ca; have hb1 := s1.cb; simp only [ob9] at ha1 hb1; have hc1 := s1.bx.cell)
        | (gi_at_call 31; refine (CallsIn.inRound l (callsIn_wide.2 (untyped_ex _ _ _ _ _ _ _ _ _ _ _ _ _ _ _ _ _ _ _))).mono ?_; rintro e w' ⟨⟨r, rfl⟩, hv⟩; have s1 := So.of ‹So _ _ _ _ _ _ _ _ _ _› hv; have ha1 := s1.ca; have hb1 := s1.cb; simp only [ob9] at ha1 hb1; have hc1 := s1.bx.cell)
        | (gi_at_builtin; refine arm_apI rfl _ _ rfl (So.own ‹So _ _ _ _ _ _ _ _ _ _›) (by omega) (by have := So.sz ‹So _ _ _ _ _ _ _ _ _ _›; omega) _ _ _ rfl rfl rfl rfl ?_; intro v' w1 d hd hrow hown' hgrow; obtain ⟨g', cap', rfl⟩ := ownsRow_succ hown'; obtain ⟨hv1, s2⟩ := So.app ‹So _ _ _ _ _ _ _ _ _ _› hd hrow hown' hgrow; have hc1 := hv1.cell; have hf1 := hv1.frozen))
        all_goals (have s9 := So.grow (m' := 2 * (pre ++ [(z1, z2)]).length) ‹So _ _ _ _ _ _ _ _ _ _› (by simp; omega); exact ⟨s9.kf, s9.kp, ⟨_, s9.bx, s9.own⟩, s9.up, s9.sz⟩)
  case done =>
    rintro D xs X hD hx ⟨⟨v, hv, hown⟩, hu, hsz⟩ hK
    have hc := hv.cell
    go_wp2
    refine ⟨by simp, .inl ⟨_, _, rfl, run_takeDeferred hK, ?_⟩⟩
    have hg := grownBy_putObj' X D (.deferred none)
    obtain ⟨d, q1, q2⟩ := hown.grown hg (fun r e => by cases e; exact ⟨_, hK, rfl⟩)
    exact ⟨_, results_tmp rfl _ _ _, v, rfl, ⟨d, by omega, low_row q2 (by omega)⟩, hu.grow hg (fun k e => by cases e; omega)⟩
  case stop => intro D c pre X _ _ h _; exact h.elim
end Go.Proofs.AO
