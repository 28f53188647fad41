/- pte.Decode; a memory in one list; plain walks. No conditions beside those in its theorems. -/
import Derived.Test.YtgmdginjikhamaaSC
import Derived.Test.YtgmdginjikhamaaSD
import Derived.Scope
import Derived.Test.YtgmdginjikhamaaSX5
import Derived.Deep.QuietTactic
import Derived.BigQuiet
set_option linter.unusedSimpArgs false
namespace Go.Proofs.AO
open Go.RowKit Go.Maps Go.Shelf Go.Sort
set_option linter.unusedVariables false
set_option linter.unusedSimpArgs false
set_option maxRecDepth 100000
set_option maxHeartbeats 4000000
/-- the loop of pte.Decode -/
structure Dl (W w : World) (x k B5 : Nat) (F : Nat) : Prop where
  up : Up W w
  res : Bx5 W w W.heap.size (.bool false) (.bool false) (.bool false) (.bool false) (.int .i64 0)
  lt5 : W.heap.size + 2 ≤ B5
  e : ∀ j, j < 4 → w.cell? ⟨W.heap.size + 1, j, none⟩ = some (.bool (tb x j k))
  e4 : w.cell? ⟨W.heap.size + 1, 4, none⟩ = some (.int .i64 0)
  ez : ∀ j, w.frozen? ⟨W.heap.size + 1, j, none⟩ = false
  p : ∀ j, j < 4 → w.cell? ⟨B5, j, none⟩ = some (pv (W.heap.size + 1) j)
  f : F = fr x k
  g : good x k
theorem Dl.of {W w w' : World} {x k B5 F : Nat} (h : Dl W w x k B5 F) (u : Up w w') : Dl W w' x k B5 F :=
  ⟨h.up.trans u, h.res.up u, h.lt5, fun j hj => u.keeps (h.e j hj), u.keeps h.e4, fun j => by
    have hlt : W.heap.size + 1 < w.heap.size := World.block_lt_of_cell? w _ h.e4
    have := h.ez j
    unfold World.frozen? at this ⊢
    rw [show w'.heap[W.heap.size + 1]? = w.heap[W.heap.size + 1]? from u.block _ hlt]
    exact this, fun j hj => u.keeps (h.p j hj), h.f, h.g⟩
theorem addr_ne {b i j : Nat} (h : i ≠ j) : (⟨b, i, none⟩ : Addr) ≠ ⟨b, j, none⟩ := fun e => h (congrArg Addr.off e)
theorem noGoto_ret {Q : Exit → Act → World → Prop} {a : Act} {w : World} (h : Q Exit.ret a w) : Exit.noGoto Q Exit.ret a w := h
theorem Up.set1 {W w : World} (h : Up W w) {b j : Nat} (hb : W.heap.size ≤ b) (v : Value) : Up W (w.setCell ⟨b, j, none⟩ v) := up_setCells b hb [v] j w h
theorem frz_set (w : World) (a b : Addr) (v : Value) : (w.setCell a v).frozen? b = w.frozen? b := World.frozen?_setCell ..
theorem Bx5.other {W w : World} {b c o : Nat} {v0 v1 v2 v3 v4 : Value} (h : Bx5 W w b v0 v1 v2 v3 v4) (hc : c ≠ b) (v : Value) : Bx5 W (w.setCell ⟨c, o, none⟩ v) b v0 v1 v2 v3 v4 :=
  have k : ∀ j, (w.setCell ⟨c, o, none⟩ v).cell? ⟨b, j, none⟩ = w.cell? ⟨b, j, none⟩ := fun j => World.cell?_setCell_other _ _ _ _ (fun e => hc (by cases e; rfl))
  ⟨h.ge, by simpa [World.setCell] using h.lt, (k 0).trans h.c0, (k 1).trans h.c1, (k 2).trans h.c2, (k 3).trans h.c3, (k 4).trans h.c4, fun j => (frz_set _ _ _ _).trans (h.z j)⟩
theorem Dl.put {W w : World} {x k B5 F : Nat} {v old : Value} (h : Dl W w x k B5 F) (hold : w.cell? ⟨W.heap.size + 1, k, none⟩ = some old) (hk4 : k < 4) (ht : ∀ j, j < 4 → .bool (tb x j (k + 1)) = if j = k then v else .bool (tb x j k)) (f : fr x (k + 1) = fr x k) (g : good x (k + 1)) :
    Dl W (w.setCell ⟨W.heap.size + 1, k, none⟩ v) x (k + 1) B5 F := by
  refine ⟨h.up.set1 (by omega) _, h.res.other (by omega) _, h.lt5, fun j hj => ?_, ?_, fun j => (frz_set _ _ _ _).trans (h.ez j), fun j hj => ?_, h.f.trans f.symm, g⟩
  · rw [ht j hj]
    by_cases e : j = k
    · subst e
      rw [if_pos rfl]
      exact World.cell?_setCell_same _ _ _ hold
    · rw [if_neg e, World.cell?_setCell_other _ _ _ _ (addr_ne (by omega))]
      exact h.e j hj
  · rw [World.cell?_setCell_other _ _ _ _ (addr_ne (by omega))]
    exact h.e4
  · rw [World.cell?_setCell_other _ _ _ _ (fun e => by have h1 := congrArg Addr.block e; have h2 := h.lt5; simp at h1; omega)]
    exact h.p j hj
theorem Dl.fin {W w : World} {x B5 F : Nat} (h : Dl W w x 64 B5 F) : Up W (w.setCell ⟨W.heap.size + 1, 4, none⟩ (.int .i64 F)) ∧ Bx5 W (w.setCell ⟨W.heap.size + 1, 4, none⟩ (.int .i64 F)) W.heap.size (.bool false) (.bool false) (.bool false) (.bool false) (.int .i64 0) ∧
    Bx5 W (w.setCell ⟨W.heap.size + 1, 4, none⟩ (.int .i64 F)) (W.heap.size + 1) (.bool (tb x 0 64)) (.bool (tb x 1 64)) (.bool (tb x 2 64)) (.bool (tb x 3 64)) (.int .i64 F) := by
  have o : ∀ j, j < 4 → (w.setCell ⟨W.heap.size + 1, 4, none⟩ (.int .i64 F)).cell? ⟨W.heap.size + 1, j, none⟩ = some (.bool (tb x j 64)) := fun j hj => by
    rw [World.cell?_setCell_other _ _ _ _ (addr_ne (by omega))]
    exact h.e j hj
  have hlt : W.heap.size + 1 < w.heap.size := World.block_lt_of_cell? w _ h.e4
  exact ⟨h.up.set1 (by omega) _, h.res.other (by omega) _, ⟨by omega, by simpa [World.setCell] using hlt, o 0 (by omega), o 1 (by omega), o 2 (by omega), o 3 (by omega), World.cell?_setCell_same _ _ _ h.e4, fun j => (frz_set _ _ _ _).trans (h.ez j)⟩⟩
set_option maxHeartbeats 4000000 in
theorem decP (x : Nat) (hx : x < 2 ^ 64) (W : World) : Calls Try.prog 40 #[.int .u64 x] W fun e w' => e = .returned (.tuple #[dE x, .int .i64 (dF x)]) ∧ Up W w' := by
  have u1 : Up W (W.alloc (.cells #[.bool false, .bool false, .bool false, .bool false, .int .i64 0] 59)) := Up.alloc W _ _
  go_enter Try.func40, Try.ntmps40
  go_wp2
  refine wp_scope_straight ?_
  go_wp2_with (first
    | (go_at_call 61; refine (flags_f (W.heap.size + 1) _).mono ?_; rintro e w1 ⟨rfl, hu1⟩))
  have u2 : Up W ((W.alloc (.cells #[.bool false, .bool false, .bool false, .bool false, .int .i64 0] 59)).alloc (.cells #[.bool false, .bool false, .bool false, .bool false, .int .i64 0] 59)) := u1.trans (Up.alloc _ _ _)
  have s1 : (W.alloc (.cells #[.bool false, .bool false, .bool false, .bool false, .int .i64 0] 59)).heap.size = W.heap.size + 1 := by show (W.heap.push _).size = _; simp
  have B0 := (Bx5.made W (.bool false) (.bool false) (.bool false) (.bool false) (.int .i64 0)).up (Up.alloc (W.alloc (.cells #[.bool false, .bool false, .bool false, .bool false, .int .i64 0] 59)) #[.bool false, .bool false, .bool false, .bool false, .int .i64 0] 59)
  have B1 := Bx5.made (W.alloc (.cells #[.bool false, .bool false, .bool false, .bool false, .int .i64 0] 59)) (.bool false) (.bool false) (.bool false) (.bool false) (.int .i64 0)
  rw [s1] at B1
  have u4 := u2.trans (hu1.trans (Up.alloc w1 #[pv (W.heap.size + 1) 0, pv (W.heap.size + 1) 1, pv (W.heap.size + 1) 2, pv (W.heap.size + 1) 3] 123))
  have B0' := B0.up (hu1.trans (Up.alloc w1 #[pv (W.heap.size + 1) 0, pv (W.heap.size + 1) 1, pv (W.heap.size + 1) 2, pv (W.heap.size + 1) 3] 123))
  have B1' := B1.up (hu1.trans (Up.alloc w1 #[pv (W.heap.size + 1) 0, pv (W.heap.size + 1) 1, pv (W.heap.size + 1) 2, pv (W.heap.size + 1) 3] 123))
  have hB5 : W.heap.size + 2 ≤ w1.heap.size := by
    have h1 := hu1.size
    have h2 : ((W.alloc (.cells #[.bool false, .bool false, .bool false, .bool false, .int .i64 0] 59)).alloc (.cells #[.bool false, .bool false, .bool false, .bool false, .int .i64 0] 59)).heap.size = W.heap.size + 2 := by show ((W.heap.push _).push _).size = _; simp
    omega
  have D0 : Dl W (w1.alloc (.cells #[pv (W.heap.size + 1) 0, pv (W.heap.size + 1) 1, pv (W.heap.size + 1) 2, pv (W.heap.size + 1) 3] 123)) x 0 w1.heap.size 0 := by
    refine ⟨u4, B0', hB5, fun j hj => ?_, B1'.c4, B1'.z, fun j hj => ?_, ?_, ?_⟩
    · match j, hj with
      | 0, _ => exact B1'.c0
      | 1, _ => exact B1'.c1
      | 2, _ => exact B1'.c2
      | 3, _ => exact B1'.c3
    · rw [cell_new]
      match j, hj with
      | 0, _ => rfl
      | 1, _ => rfl
      | 2, _ => rfl
      | 3, _ => rfl
    · simp [fr, Nat.mod_one]
    · simp [good, fr, Nat.mod_one]
  generalize w1.heap.size = B5 at D0 ⊢
  clear B0 B1 B0' B1' u4 u2 u1 s1 hB5
  refine wp_label ?_
  go_wp2
  go_loopw [6, 11] (fun F i w' => ∃ k F' : Nat, k ≤ 64 ∧ i = .int .i64 k ∧ F = .int .u64 F' ∧ Dl W w' x k B5 F') (fun _ i _ => 64 - (intOf i).toNat)
  case atStart => exact ⟨0, 0, by omega, rfl, rfl, D0⟩
  case round =>
    clear D0
    obtain ⟨k, F, hk, rfl, rfl, D⟩ := hrel
    by_cases hlt : k < 64
    · have hbit : x / 2 ^ k % 2 = 0 ∨ x / 2 ^ k % 2 = 1 := by omega
      have hF := fun W => field_1 x k hx hlt W
      rcases hbit with hbit | hbit
      · rw [hbit] at hF
        go_wp2_with (first | (go_at_call 62; refine (hF _).mono ?_; rintro e w' ⟨rfl, rfl⟩))
        go_roundw
        case rel =>
          obtain ⟨g, f, t⟩ := step0 x k hbit D.g
          exact ⟨k + 1, F, by omega, by go_num, rfl, ⟨D.up, D.res, D.lt5, fun j hj => by rw [t j hj]; exact D.e j hj, D.e4, D.ez, D.p, D.f.trans f.symm, g⟩⟩
        case measure => simp [intOf]; omega
      · rw [hbit] at hF
        by_cases h4 : k < 4
        · have p := D.p k h4
          have e := D.e k h4
          have z := D.ez k
          go_wp2_with (first | (go_at_call 62; refine (hF _).mono ?_; rintro e w' ⟨rfl, rfl⟩))
          go_roundw
          case rel =>
            obtain ⟨g, f, t⟩ := step1 x k h4 hbit D.g
            refine ⟨k + 1, F, by omega, by go_num, rfl, D.put (v := .bool true) e h4 ?_ f g⟩
            intro j hj
            rw [t j hj]
            split <;> rfl
          case measure => simp [intOf]; omega
        · by_cases h8 : 8 ≤ k ∧ k < 14
          · obtain ⟨m, rfl⟩ : ∃ m, k = m + 8 := ⟨k - 8, by omega⟩
            obtain ⟨g, f, hlt2, t⟩ := step2 x (m + 8) h8.1 h8.2 hbit D.g
            rw [show m + 8 - 8 = m by omega] at f hlt2
            rw [← D.f] at f hlt2
            go_wp2_with (first
              | (go_at_call 62; refine (hF _).mono ?_; rintro e w' ⟨rfl, rfl⟩)
              | (go_at_call 63; refine (with_1 F m (by omega) hlt2 _).mono ?_; rintro e w' ⟨rfl, hu⟩; have D2 := D.of hu))
            go_roundw
            case rel => exact ⟨m + 8 + 1, F + 2 ^ m, by omega, by go_num, rfl, ⟨D2.up, D2.res, D2.lt5, fun j hj => by rw [t j hj]; exact D2.e j hj, D2.e4, D2.ez, D2.p, f.symm, g⟩⟩
            case measure => simp [intOf]; omega
          · have hbad := bad_bit x k (by omega) hbit
            have c0 := D.res.c0
            have c1 := D.res.c1
            have c2 := D.res.c2
            have c3 := D.res.c3
            have c4 := D.res.c4
            have z0 := D.res.z 0
            have z1 := D.res.z 1
            have z2 := D.res.z 2
            have z3 := D.res.z 3
            have z4 := D.res.z 4
            by_cases h7 : 8 ≤ k
            · have h14 : 14 ≤ k := by omega
              go_wp2_with (first | (go_at_call 62; refine (hF _).mono ?_; rintro e w' ⟨rfl, rfl⟩))
              refine noGoto_ret ?_
              obtain ⟨g0, g1, g2, g3, g4, g5⟩ := D.res.set' D.up (.bool false) (.bool false) (.bool false) (.bool false) (.int .i64 0)
              refine bodyPost_ret (res59 rfl _ _ W.heap.size _ _ _ _ _ rfl (by with_reducible exact g1) (by with_reducible exact g2) (by with_reducible exact g3) (by with_reducible exact g4) (by with_reducible exact g5)) rfl ⟨?_, by with_reducible exact g0⟩
              rw [hbad.1, hbad.2]
              rfl
            · have h7' : k < 8 := by omega
              go_wp2_with (first | (go_at_call 62; refine (hF _).mono ?_; rintro e w' ⟨rfl, rfl⟩))

              obtain ⟨g0, g1, g2, g3, g4, g5⟩ := D.res.set' D.up (.bool false) (.bool false) (.bool false) (.bool false) (.int .i64 0)
              refine bodyPost_ret (res59 rfl _ _ W.heap.size _ _ _ _ _ rfl (by with_reducible exact g1) (by with_reducible exact g2) (by with_reducible exact g3) (by with_reducible exact g4) (by with_reducible exact g5)) rfl ⟨?_, by with_reducible exact g0⟩
              rw [hbad.1, hbad.2]
              rfl
    · obtain rfl : k = 64 := by omega
      have hend := good_end x hx D.g
      rw [← D.f] at hend
      have hF64 : F < 64 := by rw [D.f]; unfold fr; exact Nat.mod_lt _ (by decide)
      obtain ⟨uf, Br, Be⟩ := D.fin
      have e4 := D.e4
      have z4 := D.ez 4
      have c0 := Be.c0
      have c1 := Be.c1
      have c2 := Be.c2
      have c3 := Be.c3
      have c4 := Be.c4
      have hF63 : (F : Int) ≤ 63 := by omega
      have hm := fun W => mayP (tb x 0 64) (tb x 1 64) (tb x 2 64) (tb x 3 64) F hF64 W
      cases hmay : mayE (tb x 0 64) (tb x 1 64) (tb x 2 64) (tb x 3 64) F
      all_goals
        (rw [hmay] at hm hend
         go_wp2_with (first
           | (go_at_call 64; refine (hm _).mono ?_; rintro e w3 ⟨rfl, hu3⟩; have b2 := Be.up hu3; have b3 := Br.up hu3; have d0 := b2.c0; have d1 := b2.c1; have d2 := b2.c2; have d3 := b2.c3; have d4 := b2.c4; have e0 := b3.c0; have e1 := b3.c1; have e2 := b3.c2; have e3 := b3.c3; have e4 := b3.c4; have z0 := b3.z 0; have z1 := b3.z 1; have z2 := b3.z 2; have z3 := b3.z 3; have z4 := b3.z 4; have u3 := uf.trans hu3)))
      · refine noGoto_ret ?_
        obtain ⟨g0, g1, g2, g3, g4, g5⟩ := b3.set' u3 (.bool false) (.bool false) (.bool false) (.bool false) (.int .i64 0)
        refine bodyPost_ret (res59 rfl _ _ W.heap.size _ _ _ _ _ rfl (by with_reducible exact g1) (by with_reducible exact g2) (by with_reducible exact g3) (by with_reducible exact g4) (by with_reducible exact g5)) rfl ⟨?_, by with_reducible exact g0⟩
        have h1 := congrArg Prod.fst hend
        have h2 := congrArg Prod.snd hend
        simp at h1 h2
        rw [← h1, ← h2]
        rfl
      · refine noGoto_ret ?_
        obtain ⟨g0, g1, g2, g3, g4, g5⟩ := b3.set' u3 (.bool (tb x 0 64)) (.bool (tb x 1 64)) (.bool (tb x 2 64)) (.bool (tb x 3 64)) (.int .i64 F)
        refine bodyPost_ret (res59 rfl _ _ W.heap.size _ _ _ _ _ rfl (by with_reducible exact g1) (by with_reducible exact g2) (by with_reducible exact g3) (by with_reducible exact g4) (by with_reducible exact g5)) rfl ⟨?_, by with_reducible exact g0⟩
        have h1 := congrArg Prod.fst hend
        have h2 := congrArg Prod.snd hend
        simp at h1 h2
        rw [← h1, ← h2]
        rfl
end Go.Proofs.AO
namespace Go.Proofs.AO
open Go.RowKit Go.Maps Go.Shelf Go.Sort
set_option linter.unusedVariables false
set_option linter.unusedSimpArgs false
set_option maxRecDepth 100000
set_option maxHeartbeats 1000000
/-- a memory of n frames: all words in one list -/
structure Me (w : World) (M B n cp : Nat) (wd : Nat → Nat) : Prop where
  n64 : n ≤ 64
  row : w.cell? ⟨M, 0, none⟩ = some (.slice (some ⟨B, 0, none⟩) (8 * n) cp)
  at_ : ∀ j, j < 8 * n → w.cell? ⟨B, j, none⟩ = some (.int .u64 (wd j))
  wf : ∀ j, wd j < 2 ^ 64
theorem Me.up {w w' : World} {M B n cp : Nat} {wd : Nat → Nat} (h : Me w M B n cp wd) (u : Up w w') : Me w' M B n cp wd := ⟨h.n64, u.keeps h.row, fun j hj => u.keeps (h.at_ j hj), h.wf⟩
theorem frames_f (M B n cp : Nat) (wd : Nat → Nat) (W : World) (h : Me W M B n cp wd) : Calls Try.prog 67 #[.pointer (some ⟨M, 0, none⟩)] W fun e w' => e = .returned (.int .i64 n) ∧ w' = W := by
  have h1 := h.row
  have h2 := h.n64
  go_enter Try.func67, Try.ntmps67
  go_wp2
  go_ret
  refine ⟨?_, rfl⟩
  first | rfl | (simp; done) | (simp; omega)
/-- one step of a walk: the frame that a word tells, if it is valid, within n frames, and a leaf or none as is wanted -/
def nx (n : Nat) (want : Bool) (w : Nat) : Option Nat := if w ≠ 0 ∧ dOk w = true ∧ dl w = want ∧ w / 256 % 64 < n then some (w / 256 % 64) else none
/-- the word that a walk ends at: none where it fails -/
def wk (n : Nat) (wd : Nat → Nat) (root page : Int) : Option Nat :=
  if 0 ≤ root ∧ root < n ∧ 0 ≤ page ∧ page < 512 then
    match nx n false (wd (8 * root.toNat + (ix page 1).toNat)) with
    | none => none
    | some f1 => match nx n false (wd (8 * f1 + (ix page 2).toNat)) with
      | none => none
      | some f2 => match nx n true (wd (8 * f2 + (ix page 3).toNat)) with
        | none => none
        | some _ => some (wd (8 * f2 + (ix page 3).toNat))
  else none
end Go.Proofs.AO
namespace Go.Proofs.AO
open Go.RowKit Go.Maps Go.Shelf Go.Sort
set_option linter.unusedVariables false
set_option linter.unusedSimpArgs false
set_option maxRecDepth 100000
set_option maxHeartbeats 2000000
/-- what the operations of At's round yield -/
def Fa (W : World) (M B n cp fr lv x : Nat) (page : Int) (i : Nat) (v : Value) (w : World) : Prop :=
  match i with
  | 0 | 1 | 2 => v = .pointer (some ⟨M, 0, none⟩)
  | 3 => v = .slice (some ⟨B, 0, none⟩) (8 * n) cp
  | 4 => v = .int .i64 fr
  | 5 => v = .int .i64 (8 * (fr : Int))
  | 6 => v = .int .i64 page
  | 7 => v = .int .i64 lv
  | 8 => v = .int .i64 (ix page lv)
  | 9 => v = .int .i64 (8 * (fr : Int) + ix page lv)
  | 10 => v = .pointer (some ⟨B, 8 * fr + (ix page lv).toNat, none⟩)
  | 11 => v = .int .u64 x
  | 12 | 13 => v = .tuple #[dE x, .int .i64 (dF x)]
  | 14 => v = dE x
  | 15 | 18 => v = .int .i64 (dF x)
  | 16 => ∃ b, v = .pointer (some ⟨b, 0, none⟩) ∧ W.heap.size ≤ b ∧ b < w.heap.size ∧ w.there b 0 5 ∧ ∀ j, w.frozen? ⟨b, j, none⟩ = false
  | _ => True
def Na (W : World) (x : Nat) (i : Nat) (a : Act) (w : World) : Prop :=
  ∃ b v0 v1 v2 v3 v4, a.eval (.tmp 12) = .pointer (some ⟨b, 0, none⟩) ∧ dE x = .agg #[v0, v1, v2, v3, v4] ∧ Bx5 W w b v0 v1 v2 v3 v4
theorem Na.keep {W : World} {x : Nat} {j : Nat} {a : Act} {w : World} (h : Na W x j a w) {d : Nat} (hd : d ≠ 12) (v : Value) : Na W x j (a.put (some d) v) w := by
  obtain ⟨b, v0, v1, v2, v3, v4, h1, h2, h3⟩ := h
  refine ⟨b, v0, v1, v2, v3, v4, ?_, h2, h3⟩
  rw [eval_put_ne]
  · exact h1
  · intro e he hed
    cases he
    exact hd hed
theorem setCells_size (b : Nat) : ∀ (vs : List Value) (o : Nat) (w : World), (w.setCells b o vs).heap.size = w.heap.size
  | [], _, _ => rfl
  | v :: r, o, w => by
    rw [World.setCells, setCells_size b r (o + 1)]
    simp only [World.setCell, Array.size_modify]
theorem there_up {w w' : World} (u : Up w w') {b n : Nat} (hb : b < w.heap.size) (h : w.there b 0 n) : w'.there b 0 n := fun j hj => by
  have := h j hj
  rw [show w'.cell? ⟨b, 0 + j, none⟩ = w.cell? ⟨b, 0 + j, none⟩ from u.cell hb, show w'.frozen? ⟨b, 0 + j, none⟩ = w.frozen? ⟨b, 0 + j, none⟩ from u.fz _ hb]
  exact this
theorem Fa.up {W : World} {M B n cp fr lv x : Nat} {page : Int} {j : Nat} {v : Value} {w w' : World} (h : Fa W M B n cp fr lv x page j v w) (u : Up w w') : Fa W M B n cp fr lv x page j v w' := by
  unfold Fa at h ⊢
  split at h
  all_goals try exact h
  obtain ⟨b, h1, h2, h3, h4, h5⟩ := h
  exact ⟨b, h1, h2, Nat.lt_of_lt_of_le h3 u.size, there_up u h3 h4, fun j => (u.fz _ h3).trans (h5 j)⟩
theorem Fa.set {W : World} {M B n cp fr lv x : Nat} {page : Int} {j : Nat} {v : Value} {w : World} (h : Fa W M B n cp fr lv x page j v w) (g o : Nat) (vs : List Value) : Fa W M B n cp fr lv x page j v (w.setCells g o vs) := by
  unfold Fa at h ⊢
  split at h
  all_goals try exact h
  obtain ⟨b, h1, h2, h3, h4, h5⟩ := h
  exact ⟨b, h1, h2, by rw [setCells_size]; exact h3, World.there_setCells h4 _ _ _, fun j => (World.frozen?_setCells ..).trans (h5 j)⟩
theorem dE_agg (x : Int) : ∃ v0 v1 v2 v3 v4, dE x = .agg #[v0, v1, v2, v3, v4] ∧ (#[v0, v1, v2, v3, v4] : Array Value).all (·.oneCell') = true := by
  unfold dE
  split
  · exact ⟨_, _, _, _, _, rfl, by simp [Value.oneCell']⟩
  · split
    · exact ⟨_, _, _, _, _, rfl, by simp [Value.oneCell']⟩
    · exact ⟨_, _, _, _, _, rfl, by simp [Value.oneCell']⟩
theorem Bx5.stored {W w : World} {b : Nat} (h1 : W.heap.size ≤ b) (h2 : b < w.heap.size) (h : w.there b 0 5) (hz : ∀ j, w.frozen? ⟨b, j, none⟩ = false) (v0 v1 v2 v3 v4 : Value) : Bx5 W (w.setCells b 0 [v0, v1, v2, v3, v4]) b v0 v1 v2 v3 v4 := by
  have k := fun j hj => set5 w b v0 v1 v2 v3 v4 (fun j hj => by have := (h j hj).1; rwa [Nat.zero_add] at this) j hj
  refine ⟨h1, by rw [setCells_size]; exact h2, k 0 (by omega), k 1 (by omega), k 2 (by omega), k 3 (by omega), k 4 (by omega), fun j => (World.frozen?_setCells ..).trans (hz j)⟩
theorem wrapI (x : Int) (h0 : -9223372036854775808 ≤ x) (h1 : x ≤ 9223372036854775807) : IntKind.i64.wrap x = x := by
  rw [IntKind.wrap_i64]; omega
theorem act92 (a : Act) (h : a.tmps.size = 92) (hd : a.defers = []) : ∃ u : Nat → Value, (∀ i, a.eval (.tmp i) = u i) ∧ a = { tmps := #[u 0, u 1, u 2, u 3, u 4, u 5, u 6, u 7, u 8, u 9, u 10, u 11, u 12, u 13, u 14, u 15, u 16, u 17, u 18, u 19, u 20, u 21, u 22, u 23, u 24, u 25, u 26, u 27, u 28, u 29, u 30, u 31, u 32, u 33, u 34, u 35, u 36, u 37, u 38, u 39, u 40, u 41, u 42, u 43, u 44, u 45, u 46, u 47, u 48, u 49, u 50, u 51, u 52, u 53, u 54, u 55, u 56, u 57, u 58, u 59, u 60, u 61, u 62, u 63, u 64, u 65, u 66, u 67, u 68, u 69, u 70, u 71, u 72, u 73, u 74, u 75, u 76, u 77, u 78, u 79, u 80, u 81, u 82, u 83, u 84, u 85, u 86, u 87, u 88, u 89, u 90, u 91], defers := [] } := by
  refine ⟨fun i => a.eval (.tmp i), fun _ => rfl, ?_⟩
  obtain ⟨ts, ds⟩ := a
  simp only at h hd
  subst hd
  congr 1
  refine Array.ext_getElem? fun i => ?_
  match i with
  | 0 => simp [Act.eval, show 0 < ts.size by omega]
  | 1 => simp [Act.eval, show 1 < ts.size by omega]
  | 2 => simp [Act.eval, show 2 < ts.size by omega]
  | 3 => simp [Act.eval, show 3 < ts.size by omega]
  | 4 => simp [Act.eval, show 4 < ts.size by omega]
  | 5 => simp [Act.eval, show 5 < ts.size by omega]
  | 6 => simp [Act.eval, show 6 < ts.size by omega]
  | 7 => simp [Act.eval, show 7 < ts.size by omega]
  | 8 => simp [Act.eval, show 8 < ts.size by omega]
  | 9 => simp [Act.eval, show 9 < ts.size by omega]
  | 10 => simp [Act.eval, show 10 < ts.size by omega]
  | 11 => simp [Act.eval, show 11 < ts.size by omega]
  | 12 => simp [Act.eval, show 12 < ts.size by omega]
  | 13 => simp [Act.eval, show 13 < ts.size by omega]
  | 14 => simp [Act.eval, show 14 < ts.size by omega]
  | 15 => simp [Act.eval, show 15 < ts.size by omega]
  | 16 => simp [Act.eval, show 16 < ts.size by omega]
  | 17 => simp [Act.eval, show 17 < ts.size by omega]
  | 18 => simp [Act.eval, show 18 < ts.size by omega]
  | 19 => simp [Act.eval, show 19 < ts.size by omega]
  | 20 => simp [Act.eval, show 20 < ts.size by omega]
  | 21 => simp [Act.eval, show 21 < ts.size by omega]
  | 22 => simp [Act.eval, show 22 < ts.size by omega]
  | 23 => simp [Act.eval, show 23 < ts.size by omega]
  | 24 => simp [Act.eval, show 24 < ts.size by omega]
  | 25 => simp [Act.eval, show 25 < ts.size by omega]
  | 26 => simp [Act.eval, show 26 < ts.size by omega]
  | 27 => simp [Act.eval, show 27 < ts.size by omega]
  | 28 => simp [Act.eval, show 28 < ts.size by omega]
  | 29 => simp [Act.eval, show 29 < ts.size by omega]
  | 30 => simp [Act.eval, show 30 < ts.size by omega]
  | 31 => simp [Act.eval, show 31 < ts.size by omega]
  | 32 => simp [Act.eval, show 32 < ts.size by omega]
  | 33 => simp [Act.eval, show 33 < ts.size by omega]
  | 34 => simp [Act.eval, show 34 < ts.size by omega]
  | 35 => simp [Act.eval, show 35 < ts.size by omega]
  | 36 => simp [Act.eval, show 36 < ts.size by omega]
  | 37 => simp [Act.eval, show 37 < ts.size by omega]
  | 38 => simp [Act.eval, show 38 < ts.size by omega]
  | 39 => simp [Act.eval, show 39 < ts.size by omega]
  | 40 => simp [Act.eval, show 40 < ts.size by omega]
  | 41 => simp [Act.eval, show 41 < ts.size by omega]
  | 42 => simp [Act.eval, show 42 < ts.size by omega]
  | 43 => simp [Act.eval, show 43 < ts.size by omega]
  | 44 => simp [Act.eval, show 44 < ts.size by omega]
  | 45 => simp [Act.eval, show 45 < ts.size by omega]
  | 46 => simp [Act.eval, show 46 < ts.size by omega]
  | 47 => simp [Act.eval, show 47 < ts.size by omega]
  | 48 => simp [Act.eval, show 48 < ts.size by omega]
  | 49 => simp [Act.eval, show 49 < ts.size by omega]
  | 50 => simp [Act.eval, show 50 < ts.size by omega]
  | 51 => simp [Act.eval, show 51 < ts.size by omega]
  | 52 => simp [Act.eval, show 52 < ts.size by omega]
  | 53 => simp [Act.eval, show 53 < ts.size by omega]
  | 54 => simp [Act.eval, show 54 < ts.size by omega]
  | 55 => simp [Act.eval, show 55 < ts.size by omega]
  | 56 => simp [Act.eval, show 56 < ts.size by omega]
  | 57 => simp [Act.eval, show 57 < ts.size by omega]
  | 58 => simp [Act.eval, show 58 < ts.size by omega]
  | 59 => simp [Act.eval, show 59 < ts.size by omega]
  | 60 => simp [Act.eval, show 60 < ts.size by omega]
  | 61 => simp [Act.eval, show 61 < ts.size by omega]
  | 62 => simp [Act.eval, show 62 < ts.size by omega]
  | 63 => simp [Act.eval, show 63 < ts.size by omega]
  | 64 => simp [Act.eval, show 64 < ts.size by omega]
  | 65 => simp [Act.eval, show 65 < ts.size by omega]
  | 66 => simp [Act.eval, show 66 < ts.size by omega]
  | 67 => simp [Act.eval, show 67 < ts.size by omega]
  | 68 => simp [Act.eval, show 68 < ts.size by omega]
  | 69 => simp [Act.eval, show 69 < ts.size by omega]
  | 70 => simp [Act.eval, show 70 < ts.size by omega]
  | 71 => simp [Act.eval, show 71 < ts.size by omega]
  | 72 => simp [Act.eval, show 72 < ts.size by omega]
  | 73 => simp [Act.eval, show 73 < ts.size by omega]
  | 74 => simp [Act.eval, show 74 < ts.size by omega]
  | 75 => simp [Act.eval, show 75 < ts.size by omega]
  | 76 => simp [Act.eval, show 76 < ts.size by omega]
  | 77 => simp [Act.eval, show 77 < ts.size by omega]
  | 78 => simp [Act.eval, show 78 < ts.size by omega]
  | 79 => simp [Act.eval, show 79 < ts.size by omega]
  | 80 => simp [Act.eval, show 80 < ts.size by omega]
  | 81 => simp [Act.eval, show 81 < ts.size by omega]
  | 82 => simp [Act.eval, show 82 < ts.size by omega]
  | 83 => simp [Act.eval, show 83 < ts.size by omega]
  | 84 => simp [Act.eval, show 84 < ts.size by omega]
  | 85 => simp [Act.eval, show 85 < ts.size by omega]
  | 86 => simp [Act.eval, show 86 < ts.size by omega]
  | 87 => simp [Act.eval, show 87 < ts.size by omega]
  | 88 => simp [Act.eval, show 88 < ts.size by omega]
  | 89 => simp [Act.eval, show 89 < ts.size by omega]
  | 90 => simp [Act.eval, show 90 < ts.size by omega]
  | 91 => simp [Act.eval, show 91 < ts.size by omega]
  | i + 92 => rw [Array.getElem?_eq_none (by omega), Array.getElem?_eq_none (by simp)]
/-- a word's entry, by cases -/
theorem dE_cases (n x : Nat) (want : Bool) : (∃ l r y f, dE x = En false l r y f ∧ nx n want x = none ∧ (dF x = 0 ∨ dF x = 5)) ∨ (dF x = 0 ∧ dE x = En true (dl x) (dr x) (dx x) ((x / 256 % 64 : Nat) : Int) ∧ x ≠ 0 ∧ dOk x = true) := by
  unfold dE dF nx
  by_cases hz : x = 0
  · subst hz
    exact .inl ⟨_, _, _, _, rfl, by simp, .inl rfl⟩
  · have hz' : ¬ (x : Int) = 0 := by omega
    cases hk : dOk (x : Int) with
    | false => exact .inl ⟨false, false, false, 0, by simp [hz', hz], by simp, .inr (by simp [hz', hz])⟩
    | true => exact .inr ⟨by simp, by simp [hz', hz], hz, rfl⟩
end Go.Proofs.AO
namespace Go.Proofs.AO
open Go.RowKit Go.Maps Go.Shelf Go.Sort
set_option linter.unusedVariables false
set_option linter.unusedSimpArgs false
set_option maxRecDepth 100000
set_option maxHeartbeats 2000000
/-- the frame of the last table -/
def wk2 (n : Nat) (wd : Nat → Nat) (root page : Int) : Option Nat :=
  if 0 ≤ root ∧ root < n ∧ 0 ≤ page ∧ page < 512 then
    match nx n false (wd (8 * root.toNat + (ix page 1).toNat)) with
    | none => none
    | some f1 => nx n false (wd (8 * f1 + (ix page 2).toNat))
  else none
theorem nx_some {n : Nat} {b : Bool} {w f : Nat} (h : nx n b w = some f) : w ≠ 0 ∧ dOk w = true ∧ dl w = b ∧ f < n ∧ f = w / 256 % 64 ∧ f < 64 := by
  unfold nx at h
  split at h
  · rename_i hc
    cases h
    exact ⟨hc.1, hc.2.1, hc.2.2.1, hc.2.2.2, rfl, Nat.mod_lt _ (by decide)⟩
  · cases h
theorem wk2_some {n : Nat} {wd : Nat → Nat} {root page : Int} {f : Nat} (h : wk2 n wd root page = some f) : f < n ∧ f < 64 := by
  unfold wk2 at h
  split at h
  · split at h
    · cases h
    · exact ⟨(nx_some h).2.2.2.1, (nx_some h).2.2.2.2.2⟩
  · cases h
theorem ix_in (p : Int) (lv : Nat) (h : 0 ≤ p ∧ p < 512) : 0 ≤ ix p lv ∧ ix p lv ≤ 7 := by
  unfold ix
  rw [if_pos h]
  omega
def AtP (W : World) (n : Nat) (wd : Nat → Nat) (root page : Int) (e : Ending) (w' : World) : Prop :=
  ∃ v f : Int, e = .returned (.tuple #[.int .u64 v, .int .i64 f]) ∧ Up W w' ∧ (match wk2 n wd root page with | some f2 => f = 0 ∧ v = 64 * f2 + 8 * ix page 3 | none => f ≠ 0)
/-- the frame of the table on a level -/
def lvl (n : Nat) (wd : Nat → Nat) (root page : Int) (lv f : Nat) : Prop :=
  (lv = 1 ∧ (f : Int) = root) ∨ (lv = 2 ∧ nx n false (wd (8 * root.toNat + (ix page 1).toNat)) = some f) ∨ (lv = 3 ∧ wk2 n wd root page = some f)
theorem lvl_none {n : Nat} {wd : Nat → Nat} {root page : Int} {lv f : Nat} (hin : 0 ≤ root ∧ root < n ∧ 0 ≤ page ∧ page < 512) (h : lvl n wd root page lv f) (h1 : 1 ≤ lv) (h2 : lv ≤ 2) (hx : nx n false (wd (8 * f + (ix page lv).toNat)) = none) : wk2 n wd root page = none := by
  unfold wk2
  rw [if_pos hin]
  rcases h with ⟨rfl, h⟩ | ⟨rfl, h⟩ | ⟨rfl, h⟩
  · rw [show f = root.toNat by omega] at hx
    rw [hx]
  · rw [h]
    exact hx
  · omega
theorem lvl_some {n : Nat} {wd : Nat → Nat} {root page : Int} {lv f g : Nat} (hin : 0 ≤ root ∧ root < n ∧ 0 ≤ page ∧ page < 512) (h : lvl n wd root page lv f) (h1 : 1 ≤ lv) (h2 : lv ≤ 2) (hx : nx n false (wd (8 * f + (ix page lv).toNat)) = some g) : lvl n wd root page (lv + 1) g := by
  rcases h with ⟨rfl, h⟩ | ⟨rfl, h⟩ | ⟨rfl, h⟩
  · rw [show f = root.toNat by omega] at hx
    exact .inr (.inl ⟨rfl, hx⟩)
  · refine .inr (.inr ⟨rfl, ?_⟩)
    unfold wk2
    rw [if_pos hin, h]
    exact hx
  · omega
theorem Up.drewN (w : World) (k : Nat) : Up w (w.drewN k) := ⟨rfl, rfl, rfl, Nat.le_refl _, fun _ _ => rfl⟩
end Go.Proofs.AO
