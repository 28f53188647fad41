/- The shelfs sort, laid for findings. No conditions beside those in its theorems. -/
import Derived.Test.YtgmdginjikhamaaAO14
import Derived.Test.YtgmdginjikhamaaRG2
import Derived.Shelf.SlSortCmp.WholeK
import Derived.Deep.RegionWith
set_option linter.unusedSimpArgs false
namespace Go.Proofs
open Go.Shelf
def Try.laysSlF06_ren : Go.Shelf.Ren := ⟨fun | 6 => 18 | 15 => 35 | 14 => 34 | 28 => 58 | 29 => 59 | 20 => 50 | 21 => 51 | 22 => 52 | 23 => 53 | 24 => 54 | 25 => 55 | 26 => 56 | 27 => 57 | 46 => 70 | 47 => 71 | 48 => 72 | 49 => 73 | 50 => 74 | 57 => 81 | n => n, fun | 22 => 35 | 24 => 38 | 25 => 53 | 3 => 3 | 39 => 96 | 0 => 0 | 53 => 119 | 55 => 66 | 4 => 4 | 46 => 112 | 45 => 111 | 50 => 116 | 5 => 5 | 9 => 9 | 66 => 138 | 70 => 142 | 76 => 147 | 77 => 148 | n => n, fun | n => n⟩
theorem Try.laysSlF06 : Go.Proofs.SlLaysF0.n6 Try.prog Try.laysSlF06_ren := {
  mixed := by kernel_rfl
  f6 := ⟨Try.f18.name, by decide, Try.func18.trans (congrArg some (by kernel_rfl))⟩
  f14 := ⟨Try.f34.name, by decide, Try.func34.trans (congrArg some (by kernel_rfl))⟩
  f15 := Try.func35.trans (congrArg some (by kernel_rfl))
  f20 := ⟨Try.f50.name, by decide, Try.func50.trans (congrArg some (by kernel_rfl))⟩
  f21 := ⟨Try.f51.name, by decide, Try.func51.trans (congrArg some (by kernel_rfl))⟩
  f22 := ⟨Try.f52.name, by decide, Try.func52.trans (congrArg some (by kernel_rfl))⟩
  f23 := ⟨Try.f53.name, by decide, Try.func53.trans (congrArg some (by kernel_rfl))⟩
  f24 := ⟨Try.f54.name, by decide, Try.func54.trans (congrArg some (by kernel_rfl))⟩
  f25 := ⟨Try.f55.name, by decide, Try.func55.trans (congrArg some (by kernel_rfl))⟩
  f26 := ⟨Try.f56.name, by decide, Try.func56.trans (congrArg some (by kernel_rfl))⟩
  f27 := ⟨Try.f57.name, by decide, Try.func57.trans (congrArg some (by kernel_rfl))⟩
  f28 := Try.func58.trans (congrArg some (by kernel_rfl))
  f29 := Try.func59.trans (congrArg some (by kernel_rfl))
  f46 := ⟨Try.f70.name, by decide, Try.func70.trans (congrArg some (by kernel_rfl))⟩
  f47 := Try.func71.trans (congrArg some (by kernel_rfl))
  f48 := Try.func72.trans (congrArg some (by kernel_rfl))
  f49 := ⟨Try.f73.name, by decide, Try.func73.trans (congrArg some (by kernel_rfl))⟩
  f50 := ⟨Try.f74.name, by decide, Try.func74.trans (congrArg some (by kernel_rfl))⟩
  f57 := ⟨Try.f81.name, by decide, Try.func81.trans (congrArg some (by kernel_rfl))⟩
  t0 := Try.underlying0
  a0 := Try.isAgg0
  z0 := Try.sizeOf0
  v0 := Try.zeroValue0
  t3 := Try.underlying3
  a3 := Try.isAgg3
  z3 := Try.sizeOf3
  v3 := Try.zeroValue3
  t4 := Try.underlying4
  a4 := Try.isAgg4
  z4 := Try.sizeOf4
  v4 := Try.zeroValue4
  t5 := Try.underlying5
  a5 := Try.isAgg5
  z5 := Try.sizeOf5
  v5 := Try.zeroValue5
  t9 := Try.underlying9
  a9 := Try.isAgg9
  z9 := Try.sizeOf9
  v9 := Try.zeroValue9
  t22 := Try.underlying35
  a22 := Try.isAgg35
  z22 := Try.sizeOf35
  v22 := Try.zeroValue35
  t25 := Try.underlying53
  a25 := Try.isAgg53
  z25 := Try.sizeOf53
  v25 := Try.zeroValue53
  t39 := Try.underlying96
  a39 := Try.isAgg96
  z39 := Try.sizeOf96
  v39 := Try.zeroValue96
  t45 := Try.underlying111
  a45 := Try.isAgg111
  z45 := Try.sizeOf111
  v45 := Try.zeroValue111
  t46 := Try.underlying112
  a46 := Try.isAgg112
  z46 := Try.sizeOf112
  v46 := Try.zeroValue112
  t50 := Try.underlying116
  a50 := Try.isAgg116
  z50 := Try.sizeOf116
  v50 := Try.zeroValue116
  t53 := Try.underlying119
  a53 := Try.isAgg119
  z53 := Try.sizeOf119
  v53 := Try.zeroValue119
  t55 := Try.underlying66
  a55 := Try.isAgg66
  z55 := Try.sizeOf66
  v55 := Try.zeroValue66
  t66 := Try.underlying138
  a66 := Try.isAgg138
  z66 := Try.sizeOf138
  v66 := Try.zeroValue138
  t70 := Try.underlying142
  a70 := Try.isAgg142
  z70 := Try.sizeOf142
  v70 := Try.zeroValue142
  t76 := Try.underlying147
  a76 := Try.isAgg147
  z76 := Try.sizeOf147
  v76 := Try.zeroValue147
  t77 := Try.underlying148
  a77 := Try.isAgg148
  z77 := Try.sizeOf148
  v77 := Try.zeroValue148 }
end Go.Proofs
namespace Go.Proofs.AO
open Go.RowKit Go.Maps Go.Shelf Go.Lib Go.Sort
set_option linter.unusedVariables false
set_option maxRecDepth 100000
set_option maxHeartbeats 1000000
def cmpI (x y : Int) : Int := if x < y then -1 else if y < x then 1 else 0
theorem isNaN_f (x : Int) (W : World) : Calls Try.prog 36 #[.int .i64 x] W fun e w' => e = .returned (.bool false) ∧ w' = W := by
  go_enter Try.func36, Try.ntmps36
  go_wp2
  all_goals go_ret
  all_goals exact ⟨by simp, rfl⟩
theorem compare_f (x y : Int) (W : World) : Calls Try.prog 21 #[.int .i64 x, .int .i64 y] W fun e w' => e = .returned (.int .i64 (cmpI x y)) ∧ w' = W := by
  unfold cmpI
  go_enter Try.func21, Try.ntmps21
  go_wp2_with (go_at_call 36; refine (isNaN_f _ _).mono ?_; rintro e w' ⟨rfl, rfl⟩)
  all_goals go_ret
  all_goals exact ⟨by simp [*], rfl⟩
def orI (x y z : Int) : Int := if x = 0 then (if y = 0 then z else y) else x
theorem or_f (x y z : Int) (b cap : Nat) (W : World) (h0 : W.cell? ⟨b, 0, none⟩ = some (.int .i64 x)) (h1 : W.cell? ⟨b, 1, none⟩ = some (.int .i64 y)) (h2 : W.cell? ⟨b, 2, none⟩ = some (.int .i64 z)) :
    Calls Try.prog 20 #[.slice (some ⟨b, 0, none⟩) 3 cap] W fun e w' => e = .returned (.int .i64 (orI x y z)) ∧ w' = W := by
  unfold orI
  go_enter Try.func20, Try.ntmps20
  go_wp2
  go_loop [8] (fun i => ∃ k : Nat, k ≤ 3 ∧ i = .int .i64 k ∧ (1 ≤ k → x = 0) ∧ (2 ≤ k → y = 0) ∧ (3 ≤ k → z = 0)) (fun i => 3 - (intOf i).toNat)
  case atStart => exact ⟨0, Nat.zero_le _, rfl, by omega, by omega, by omega⟩
  case round =>
    obtain ⟨k, hk, rfl, a1, a2, a3⟩ := hrel
    have hh : k = 0 ∨ k = 1 ∨ k = 2 ∨ k = 3 := by omega
    rcases hh with rfl | rfl | rfl | rfl
    · by_cases hv : x = 0
      · subst hv
        go_wp2
        go_round
        case rel => exact ⟨1, by omega, by go_num, fun _ => trivial, by omega, by omega⟩
        case measure => simp [intOf]
      · go_wp2
        all_goals first
          | (go_ret; exact ⟨by simp, rfl⟩)
          | exact absurd (by omega) hv
    · have hx := a1 (by omega)
      subst hx
      by_cases hv : y = 0
      · subst hv
        go_wp2
        go_round
        case rel => exact ⟨2, by omega, by go_num, fun _ => trivial, fun _ => trivial, by omega⟩
        case measure => simp [intOf]
      · go_wp2
        all_goals first
          | (go_ret; exact ⟨by simp, rfl⟩)
          | exact absurd (by omega) hv
    · have hx := a1 (by omega)
      have hy := a2 (by omega)
      subst hx hy
      by_cases hv : z = 0
      · subst hv
        go_wp2
        go_round
        case rel => exact ⟨3, by omega, by go_num, fun _ => trivial, fun _ => trivial, fun _ => trivial⟩
        case measure => simp [intOf]
      · go_wp2
        all_goals first
          | (go_ret; exact ⟨by simp, rfl⟩)
          | exact absurd (by omega) hv
    · have hx := a1 (by omega)
      have hy := a2 (by omega)
      have hz := a3 (by omega)
      subst hx hy hz
      go_wp2
      all_goals (go_ret; exact ⟨by simp, rfl⟩)
theorem act22 (a : Act) (h : a.tmps.size = 22) (hd : a.defers = []) : ∃ u : Nat → Value, (∀ i, a.eval (.tmp i) = u i) ∧ a = { tmps := #[u 0, u 1, u 2, u 3, u 4, u 5, u 6, u 7, u 8, u 9, u 10, u 11, u 12, u 13, u 14, u 15, u 16, u 17, u 18, u 19, u 20, u 21], defers := [] } := by
  refine ⟨fun i => a.eval (.tmp i), fun _ => rfl, ?_⟩
  obtain ⟨ts, ds⟩ := a
  simp only at h hd
  subst hd
  congr 1
  refine Array.ext_getElem? fun i => ?_
  match i with
  | 0 => simp [Act.eval, show 0 < ts.size by omega]
  | 1 => simp [Act.eval, show 1 < ts.size by omega]
  | 2 => simp [Act.eval, show 2 < ts.size by omega]
  | 3 => simp [Act.eval, show 3 < ts.size by omega]
  | 4 => simp [Act.eval, show 4 < ts.size by omega]
  | 5 => simp [Act.eval, show 5 < ts.size by omega]
  | 6 => simp [Act.eval, show 6 < ts.size by omega]
  | 7 => simp [Act.eval, show 7 < ts.size by omega]
  | 8 => simp [Act.eval, show 8 < ts.size by omega]
  | 9 => simp [Act.eval, show 9 < ts.size by omega]
  | 10 => simp [Act.eval, show 10 < ts.size by omega]
  | 11 => simp [Act.eval, show 11 < ts.size by omega]
  | 12 => simp [Act.eval, show 12 < ts.size by omega]
  | 13 => simp [Act.eval, show 13 < ts.size by omega]
  | 14 => simp [Act.eval, show 14 < ts.size by omega]
  | 15 => simp [Act.eval, show 15 < ts.size by omega]
  | 16 => simp [Act.eval, show 16 < ts.size by omega]
  | 17 => simp [Act.eval, show 17 < ts.size by omega]
  | 18 => simp [Act.eval, show 18 < ts.size by omega]
  | 19 => simp [Act.eval, show 19 < ts.size by omega]
  | 20 => simp [Act.eval, show 20 < ts.size by omega]
  | 21 => simp [Act.eval, show 21 < ts.size by omega]
  | i + 22 => rw [Array.getElem?_eq_none (by omega), Array.getElem?_eq_none (by simp)]
def nth3 (x : F3) : Nat → Int | 0 => x.1 | 1 => x.2.1 | _ => x.2.2
/-- what the operations of the closure yield -/
def Fo (W : World) (xs ys : Nat → Int) (i : Nat) (v : Value) (w : World) : Prop :=
  match i with
  | 0 => v = .pointer (some ⟨W.heap.size, 0, none⟩) | 1 => v = .int .i64 (xs 0) | 2 => v = .pointer (some ⟨W.heap.size + 1, 0, none⟩) | 3 => v = .int .i64 (ys 0) | 4 => v = .int .i64 (cmpI (xs 0) (ys 0))
  | 5 => v = .pointer (some ⟨W.heap.size, 1, none⟩) | 6 => v = .int .i64 (xs 1) | 7 => v = .pointer (some ⟨W.heap.size + 1, 1, none⟩) | 8 => v = .int .i64 (ys 1) | 9 => v = .int .i64 (cmpI (xs 1) (ys 1))
  | 10 => v = .pointer (some ⟨W.heap.size, 2, none⟩) | 11 => v = .int .i64 (xs 2) | 12 => v = .pointer (some ⟨W.heap.size + 1, 2, none⟩) | 13 => v = .int .i64 (ys 2) | 14 => v = .int .i64 (cmpI (xs 2) (ys 2))
  | 15 => ∃ K, v = .slice (some ⟨K, 0, none⟩) 3 3 ∧ ∀ j, j < 3 → w.cell? ⟨K, j, none⟩ = some (.int .i64 (cmpI (xs j) (ys j)))
  | _ => v = .int .i64 (orI (cmpI (xs 0) (ys 0)) (cmpI (xs 1) (ys 1)) (cmpI (xs 2) (ys 2)))
theorem Fo.up {W w w' : World} {xs ys : Nat → Int} {i : Nat} {v : Value} (u : Up w w') (h : Fo W xs ys i v w) : Fo W xs ys i v w' := by
  unfold Fo at h ⊢
  split at h <;> first | exact h | (obtain ⟨K, q1, q2⟩ := h; exact ⟨K, q1, fun j hj => u.keeps (q2 j hj)⟩)
theorem grow_alloc (w : World) (os : Array Obj) (q : Nat) (o : Obj) : (grow (w.drewN q) os).alloc o = grow (w.drewN q) (os ++ #[o]) := by
  rw [alloc_eq_grow, grow_grow]
theorem fa38 (b j : Nat) (hj : j < 3) (w : World) : (Instr.fieldAt 38 (.pointer (some ⟨b, 0, none⟩)) j).run Try.prog w = .ok (.pointer (some ⟨b, j, none⟩)) w := by
  have h : j = 0 ∨ j = 1 ∨ j = 2 := by omega
  rcases h with rfl | rfl | rfl
  · simp [go_sem, Try.underlying38]
  · simp [go_sem, Try.underlying38]
  · simp [go_sem, Try.underlying38]
theorem clo19 (x y : F3) (W : World) : Calls Try.prog 19 #[.agg (enc3 x).toArray, .agg (enc3 y).toArray] W fun e w' => e = .returned (.int .i64 (orI (cmpI x.1 y.1) (cmpI x.2.1 y.2.1) (cmpI x.2.2 y.2.2))) ∧ ∃ q os', w' = grow (W.drewN q) os' := by
  obtain ⟨i3, h3, h3z, h3s, _⟩ := info_parts (show (Try.prog.info? 3).map (fun i => (i.zero, i.size, i.bytes)) = some (some (.int .i64 0), 1, 8) by kernel_rfl)
  obtain ⟨xs, hxs⟩ : ∃ xs, xs = nth3 x := ⟨_, rfl⟩
  obtain ⟨ys, hys⟩ : ∃ ys, ys = nth3 y := ⟨_, rfl⟩
  have ex : enc3 x = [.int .i64 (xs 0), .int .i64 (xs 1), .int .i64 (xs 2)] := by rw [hxs]; rfl
  have ey : enc3 y = [.int .i64 (ys 0), .int .i64 (ys 1), .int .i64 (ys 2)] := by rw [hys]; rfl
  have er : orI (cmpI x.1 y.1) (cmpI x.2.1 y.2.1) (cmpI x.2.2 y.2.2) = orI (cmpI (xs 0) (ys 0)) (cmpI (xs 1) (ys 1)) (cmpI (xs 2) (ys 2)) := by rw [hxs, hys]; rfl
  rw [ex, ey, er]
  clear hxs hys ex ey er
  go_enter Try.func19, Try.ntmps19
  go_wp2
  obtain ⟨W0, hW0⟩ : ∃ V, V = ((W.alloc (.cells #[.int .i64 (xs 0), .int .i64 (xs 1), .int .i64 (xs 2)] 38)).alloc (.cells #[.int .i64 (ys 0), .int .i64 (ys 1), .int .i64 (ys 2)] 38)).drew := ⟨_, rfl⟩
  have bx : ∀ j, W0.cell? ⟨W.heap.size, j, none⟩ = #[Value.int .i64 (xs 0), .int .i64 (xs 1), .int .i64 (xs 2)][j]? := fun j => by rw [hW0]; exact cell_of_row _ _ _ _ _ _ (box2a _ _ _ _ _)
  have by_ : ∀ j, W0.cell? ⟨W.heap.size + 1, j, none⟩ = #[Value.int .i64 (ys 0), .int .i64 (ys 1), .int .i64 (ys 2)][j]? := fun j => by rw [hW0]; exact cell_of_row _ _ _ _ _ _ (box2b _ _ _ _ _)
  refine wp_region_any (by kernel_rfl) ?_
  refine wpAny_vals 22 [(2, .pointer (some ⟨W.heap.size, 0, none⟩)), (3, .pointer (some ⟨W.heap.size + 1, 0, none⟩))] (Fo W xs ys) (fun w => Up W0 w ∧ ∃ q os, w = grow (W.drewN q) os) (by kernel_rfl) ?step ?done (ready_of (by kernel_rfl)) _ _ rfl rfl (by simp [Act.eval]) ?start
  case start => rw [hW0]; exact ⟨Up.refl _, 1, _, by rw [alloc_eq_grow, alloc_eq_grow, grow_grow]; rfl⟩
  case step =>
    intro i o ho a w hsz hb hS hd
    have hi : i < 18 := (Array.getElem?_eq_some_iff.1 ho).1
    have hp2 : a.eval (.tmp 2) = .pointer (some ⟨W.heap.size, 0, none⟩) := hb (2, _) (by simp)
    have hp3 : a.eval (.tmp 3) = .pointer (some ⟨W.heap.size + 1, 0, none⟩) := hb (3, _) (by simp)
    have cx : ∀ j, j < 3 → w.cell? ⟨W.heap.size, j, none⟩ = some (.int .i64 (xs j)) := fun j hj => hS.1.keeps (by rw [bx]; match j, hj with | 0, _ => rfl | 1, _ => rfl | 2, _ => rfl)
    have cy : ∀ j, j < 3 → w.cell? ⟨W.heap.size + 1, j, none⟩ = some (.int .i64 (ys j)) := fun j hj => hS.1.keeps (by rw [by_]; match j, hj with | 0, _ => rfl | 1, _ => rfl | 2, _ => rfl)
    have fa : ∀ (K : Act → World → Prop) (o : Oper) (j t : Nat), o.op = .fieldAddr 38 (.tmp t) j → j < 3 → ∀ b, a.eval (.tmp t) = .pointer (some ⟨b, 0, none⟩) → K (a.put o.dst (.pointer (some ⟨b, j, none⟩))) w → ∀ Q, o.wp Try.prog a w K Q := by
      intro K o j t ho hj b hb hk Q
      unfold Oper.wp
      have := fa38 b j hj w
      simp only [execOp, ho, hb, Sem.run_bind, Sem.run_pure, Result.andThen_ok, this, Oper.upon_value]
      exact hk
    have ld : ∀ (K : Act → World → Prop) (o : Oper) (t : Nat) (b j : Nat) (v : Value), o.op = .load 3 (.tmp t) → a.eval (.tmp t) = .pointer (some ⟨b, j, none⟩) → w.cell? ⟨b, j, none⟩ = some v → K (a.put o.dst v) w → ∀ Q, o.wp Try.prog a w K Q := by
      intro K o t b j v ho hb hc hk Q
      unfold Oper.wp
      simp only [execOp, ho, hb]
      simp [hc, go_sem]
      exact hk
    match i, hi with
    | 0, _ => cases ho; exact fa _ _ 0 2 rfl (by omega) _ hp2 ⟨_, rfl, hS, rfl, fun _ _ h => h⟩ _
    | 1, _ => cases ho; exact ld _ _ 5 _ 0 _ rfl (by have := hd 0 _ rfl rfl 5 rfl; exact this) (cx 0 (by omega)) ⟨_, rfl, hS, rfl, fun _ _ h => h⟩ _
    | 2, _ => cases ho; exact fa _ _ 0 3 rfl (by omega) _ hp3 ⟨_, rfl, hS, rfl, fun _ _ h => h⟩ _
    | 3, _ => cases ho; exact ld _ _ 7 _ 0 _ rfl (by have := hd 2 _ rfl rfl 7 rfl; exact this) (cy 0 (by omega)) ⟨_, rfl, hS, rfl, fun _ _ h => h⟩ _
    | 4, _ =>
      cases ho
      have e1 : a.eval (.tmp 6) = .int .i64 (xs 0) := by have := hd 1 _ rfl rfl 6 rfl; exact this
      have e2 : a.eval (.tmp 8) = .int .i64 (ys 0) := by have := hd 3 _ rfl rfl 8 rfl; exact this
      refine op_call 21 _ _ rfl #[.int .i64 (xs 0), .int .i64 (ys 0)] (by simp [e1, e2]) (enters_of Try.func21 (by kernel_rfl) rfl) ((compare_f _ _ w).mono ?_)
      rintro e w' ⟨rfl, rfl⟩
      exact ⟨_, rfl, _, rfl, hS, rfl, fun _ _ h => h⟩
    | 5, _ => cases ho; exact fa _ _ 1 2 rfl (by omega) _ hp2 ⟨_, rfl, hS, rfl, fun _ _ h => h⟩ _
    | 6, _ => cases ho; exact ld _ _ 10 _ 1 _ rfl (by have := hd 5 _ rfl rfl 10 rfl; exact this) (cx 1 (by omega)) ⟨_, rfl, hS, rfl, fun _ _ h => h⟩ _
    | 7, _ => cases ho; exact fa _ _ 1 3 rfl (by omega) _ hp3 ⟨_, rfl, hS, rfl, fun _ _ h => h⟩ _
    | 8, _ => cases ho; exact ld _ _ 12 _ 1 _ rfl (by have := hd 7 _ rfl rfl 12 rfl; exact this) (cy 1 (by omega)) ⟨_, rfl, hS, rfl, fun _ _ h => h⟩ _
    | 9, _ =>
      cases ho
      have e1 : a.eval (.tmp 11) = .int .i64 (xs 1) := by have := hd 6 _ rfl rfl 11 rfl; exact this
      have e2 : a.eval (.tmp 13) = .int .i64 (ys 1) := by have := hd 8 _ rfl rfl 13 rfl; exact this
      refine op_call 21 _ _ rfl #[.int .i64 (xs 1), .int .i64 (ys 1)] (by simp [e1, e2]) (enters_of Try.func21 (by kernel_rfl) rfl) ((compare_f _ _ w).mono ?_)
      rintro e w' ⟨rfl, rfl⟩
      exact ⟨_, rfl, _, rfl, hS, rfl, fun _ _ h => h⟩
    | 10, _ => cases ho; exact fa _ _ 2 2 rfl (by omega) _ hp2 ⟨_, rfl, hS, rfl, fun _ _ h => h⟩ _
    | 11, _ => cases ho; exact ld _ _ 15 _ 2 _ rfl (by have := hd 10 _ rfl rfl 15 rfl; exact this) (cx 2 (by omega)) ⟨_, rfl, hS, rfl, fun _ _ h => h⟩ _
    | 12, _ => cases ho; exact fa _ _ 2 3 rfl (by omega) _ hp3 ⟨_, rfl, hS, rfl, fun _ _ h => h⟩ _
    | 13, _ => cases ho; exact ld _ _ 17 _ 2 _ rfl (by have := hd 12 _ rfl rfl 17 rfl; exact this) (cy 2 (by omega)) ⟨_, rfl, hS, rfl, fun _ _ h => h⟩ _
    | 14, _ =>
      cases ho
      have e1 : a.eval (.tmp 16) = .int .i64 (xs 2) := by have := hd 11 _ rfl rfl 16 rfl; exact this
      have e2 : a.eval (.tmp 18) = .int .i64 (ys 2) := by have := hd 13 _ rfl rfl 18 rfl; exact this
      refine op_call 21 _ _ rfl #[.int .i64 (xs 2), .int .i64 (ys 2)] (by simp [e1, e2]) (enters_of Try.func21 (by kernel_rfl) rfl) ((compare_f _ _ w).mono ?_)
      rintro e w' ⟨rfl, rfl⟩
      exact ⟨_, rfl, _, rfl, hS, rfl, fun _ _ h => h⟩
    | 15, _ =>
      cases ho
      have g0 : a.eval (.tmp 9) = .int .i64 (cmpI (xs 0) (ys 0)) := by have := hd 4 _ rfl rfl 9 rfl; exact this
      have g1 : a.eval (.tmp 14) = .int .i64 (cmpI (xs 1) (ys 1)) := by have := hd 9 _ rfl rfl 14 rfl; exact this
      have g2 : a.eval (.tmp 19) = .int .i64 (cmpI (xs 2) (ys 2)) := by have := hd 14 _ rfl rfl 19 rfl; exact this
      refine op_buildSlice 30 3 3 _ rfl #[.int .i64 (cmpI (xs 0) (ys 0)), .int .i64 (cmpI (xs 1) (ys 1)), .int .i64 (cmpI (xs 2) (ys 2))] i3 (.int .i64 0) Try.underlying30 h3 h3z (by rw [h3s]; decide) (by rw [h3s]; decide) (by
        rw [h3s]
        simp only [List.map_toArray, List.map_cons, List.map_nil, g0, g1, g2]
        kernel_rfl) ?_
      have u := Up.alloc w #[.int .i64 (cmpI (xs 0) (ys 0)), .int .i64 (cmpI (xs 1) (ys 1)), .int .i64 (cmpI (xs 2) (ys 2))] 3
      obtain ⟨hu, q, os, hq⟩ := hS
      refine ⟨_, rfl, ⟨hu.trans u, q, _, by rw [hq]; exact grow_alloc _ _ _ _⟩, ⟨_, rfl, fun j hj => ?_⟩, fun j v h => h.up u⟩
      rw [cell_new]
      match j, hj with
      | 0, _ => rfl
      | 1, _ => rfl
      | 2, _ => rfl
    | 16, _ =>
      cases ho
      obtain ⟨K, q1, q2⟩ : ∃ K, a.eval (.tmp 20) = .slice (some ⟨K, 0, none⟩) 3 3 ∧ ∀ j, j < 3 → w.cell? ⟨K, j, none⟩ = some (.int .i64 (cmpI (xs j) (ys j))) := hd 15 _ rfl rfl 20 rfl
      refine op_call 20 _ _ rfl #[.slice (some ⟨K, 0, none⟩) 3 3] (by simp [q1]) (enters_of Try.func20 (by kernel_rfl) rfl) ((or_f _ _ _ K 3 w (q2 0 (by omega)) (q2 1 (by omega)) (q2 2 (by omega))).mono ?_)
      rintro e w' ⟨rfl, rfl⟩
      exact ⟨_, rfl, _, rfl, hS, rfl, fun _ _ h => h⟩
    | 17, _ =>
      cases ho
      have g : a.eval (.tmp 21) = .int .i64 (orI (cmpI (xs 0) (ys 0)) (cmpI (xs 1) (ys 1)) (cmpI (xs 2) (ys 2))) := by have := hd 16 _ rfl rfl 21 rfl; exact this
      exact op_assign _ rfl ⟨_, rfl, hS, g, fun _ _ h => h⟩
  case done =>
    intro a w hsz hdf hb hS hF
    have hl : a.eval (.tmp 4) = .int .i64 (orI (cmpI (xs 0) (ys 0)) (cmpI (xs 1) (ys 1)) (cmpI (xs 2) (ys 2))) := hF 17 _ 4 rfl rfl
    obtain ⟨u, hu, rfl⟩ := act22 a hsz hdf
    rw [hu] at hl
    obtain ⟨hu2, q, os, hq⟩ := hS
    go_wp2
    go_ret
    exact ⟨rfl, q, os, rfl⟩
end Go.Proofs.AO
