/- ref3.Decode; the plain law of both decoders. No conditions beside those in its theorems. -/
import Derived.Test.YtgmdginjikhamaaSC
set_option linter.unusedSimpArgs false
namespace Go.Proofs.AO
open Go.RowKit Go.Maps Go.Shelf Go.Sort
set_option linter.unusedVariables false
set_option linter.unusedSimpArgs false
set_option maxRecDepth 100000
set_option maxHeartbeats 1000000
theorem mayR (l r x : Bool) (f : Int) (h0 : 0 ≤ f) (h1 : f < 64) (W : World) : Calls Try.prog 78 #[En true l r x f] W fun e w' => e = .returned (.bool (l == (r || x))) ∧ Up W w' := by
  have c := fun j => cell_new W #[.bool true, .bool l, .bool r, .bool x, .int .i64 f] 59 j
  have c0 := c 0
  have c1 := c 1
  have c2 := c 2
  have c3 := c 3
  have c4 := c 4
  clear c
  have up : Up W (W.alloc (.cells #[.bool true, .bool l, .bool r, .bool x, .int .i64 f] 59)) := Up.alloc W _ _
  cases l <;> cases r <;> cases x
  all_goals
    (go_enter Try.func78, Try.ntmps78
     go_wp2)
  all_goals go_ret
  all_goals exact ⟨by simp, up⟩
def nb (b : Bool) : Int := if b then 1 else 0
theorem wordR (l r x : Bool) (f : Int) (h0 : 0 ≤ f) (h1 : f < 64) (W : World) : Calls Try.prog 79 #[En true l r x f] W fun e w' => e = .returned (.int .u64 (1 + 256 * f + 2 * nb l + 4 * nb r + 8 * nb x)) ∧ Up W w' := by
  have c := fun j => cell_new W #[.bool true, .bool l, .bool r, .bool x, .int .i64 f] 59 j
  have c0 := c 0
  have c1 := c 1
  have c2 := c 2
  have c3 := c 3
  have c4 := c 4
  clear c
  have up : Up W (W.alloc (.cells #[.bool true, .bool l, .bool r, .bool x, .int .i64 f] 59)) := Up.alloc W _ _
  cases l <;> cases r <;> cases x
  all_goals
    (go_enter Try.func79, Try.ntmps79
     go_wp2)
  all_goals go_ret
  all_goals refine ⟨?_, up⟩
  all_goals (simp [nb]; try omega)
def dl (w : Int) : Bool := w / 2 % 2 == 1
def dr (w : Int) : Bool := w / 4 % 2 == 1
def dx (w : Int) : Bool := w / 8 % 2 == 1
def dOk (w : Int) : Bool := (dl w == (dr w || dx w)) && decide (1 + 256 * (w / 256 % 64) + 2 * nb (dl w) + 4 * nb (dr w) + 8 * nb (dx w) = w)
def dE (w : Int) : Value := if w = 0 then En false false false false 0 else if dOk w then En true (dl w) (dr w) (dx w) (w / 256 % 64) else En false false false false 0
def dF (w : Int) : Int := if w = 0 ∨ dOk w then 0 else 5
theorem set5 (w : World) (b : Nat) (v0 v1 v2 v3 v4 : Value) (h : ∀ j, j < 5 → (w.cell? ⟨b, j, none⟩).isSome = true) (j : Nat) (hj : j < 5) :
    (w.setCells b 0 [v0, v1, v2, v3, v4]).cell? ⟨b, j, none⟩ = [v0, v1, v2, v3, v4][j]? := by
  have := World.cell?_setCells_in b [v0, v1, v2, v3, v4] 0 w (fun j hj => by rw [Nat.zero_add]; exact h j hj) j hj
  rw [Nat.zero_add] at this
  rw [this]
  exact (List.getElem?_eq_getElem hj).symm
/-- the box of an entry that is returned -/
structure Bx5 (W w : World) (b : Nat) (v0 v1 v2 v3 v4 : Value) : Prop where
  ge : W.heap.size ≤ b
  lt : b < w.heap.size
  c0 : w.cell? ⟨b, 0, none⟩ = some v0
  c1 : w.cell? ⟨b, 1, none⟩ = some v1
  c2 : w.cell? ⟨b, 2, none⟩ = some v2
  c3 : w.cell? ⟨b, 3, none⟩ = some v3
  c4 : w.cell? ⟨b, 4, none⟩ = some v4
  z : ∀ j, w.frozen? ⟨b, j, none⟩ = false
theorem Bx5.up {W w w' : World} {b : Nat} {v0 v1 v2 v3 v4 : Value} (h : Bx5 W w b v0 v1 v2 v3 v4) (u : Up w w') : Bx5 W w' b v0 v1 v2 v3 v4 :=
  ⟨h.ge, Nat.lt_of_lt_of_le h.lt u.size, u.keeps h.c0, u.keeps h.c1, u.keeps h.c2, u.keeps h.c3, u.keeps h.c4, fun j => by
    have := h.z j
    unfold World.frozen? at this ⊢
    rw [show w'.heap[b]? = w.heap[b]? from u.block b h.lt]
    exact this⟩
theorem Bx5.made (W : World) (v0 v1 v2 v3 v4 : Value) : Bx5 W (W.alloc (.cells #[v0, v1, v2, v3, v4] 59)) W.heap.size v0 v1 v2 v3 v4 :=
  ⟨Nat.le_refl _, by show _ < (W.heap.push _).size; simp, cell_new _ _ _ 0, cell_new _ _ _ 1, cell_new _ _ _ 2, cell_new _ _ _ 3, cell_new _ _ _ 4, fun j => by unfold World.frozen?; rw [heap_alloc_last]; simp⟩
theorem Bx5.low {W W0 w : World} {b : Nat} {v0 v1 v2 v3 v4 : Value} (h : Bx5 W w b v0 v1 v2 v3 v4) (h0 : W0.heap.size ≤ W.heap.size) : Bx5 W0 w b v0 v1 v2 v3 v4 := ⟨Nat.le_trans h0 h.ge, h.lt, h.c0, h.c1, h.c2, h.c3, h.c4, h.z⟩
theorem Bx5.set {W w : World} {b : Nat} {v0 v1 v2 v3 v4 : Value} (h : Bx5 W w b v0 v1 v2 v3 v4) (u : Up W w) (u0 u1 u2 u3 u4 : Value) :
    Up W (w.setCells b 0 [u0, u1, u2, u3, u4]) ∧ ∀ j, j < 5 → (w.setCells b 0 [u0, u1, u2, u3, u4]).cell? ⟨b, j, none⟩ = [u0, u1, u2, u3, u4][j]? :=
  ⟨up_setCells b h.ge _ 0 w u, set5 w b u0 u1 u2 u3 u4 fun j hj => by
    match j, hj with
    | 0, _ => rw [h.c0]; rfl
    | 1, _ => rw [h.c1]; rfl
    | 2, _ => rw [h.c2]; rfl
    | 3, _ => rw [h.c3]; rfl
    | 4, _ => rw [h.c4]; rfl⟩
def Hid (p : Prop) : Prop := p
theorem Bx5.set' {W w : World} {b : Nat} {v0 v1 v2 v3 v4 : Value} (h : Bx5 W w b v0 v1 v2 v3 v4) (u : Up W w) (u0 u1 u2 u3 u4 : Value) :
    Up W (((((w.setCell ⟨b, 0, none⟩ u0).setCell ⟨b, 1, none⟩ u1).setCell ⟨b, 2, none⟩ u2).setCell ⟨b, 3, none⟩ u3).setCell ⟨b, 4, none⟩ u4) ∧
    (((((w.setCell ⟨b, 0, none⟩ u0).setCell ⟨b, 1, none⟩ u1).setCell ⟨b, 2, none⟩ u2).setCell ⟨b, 3, none⟩ u3).setCell ⟨b, 4, none⟩ u4).cell? ⟨b, 0, none⟩ = some u0 ∧
    (((((w.setCell ⟨b, 0, none⟩ u0).setCell ⟨b, 1, none⟩ u1).setCell ⟨b, 2, none⟩ u2).setCell ⟨b, 3, none⟩ u3).setCell ⟨b, 4, none⟩ u4).cell? ⟨b, 1, none⟩ = some u1 ∧
    (((((w.setCell ⟨b, 0, none⟩ u0).setCell ⟨b, 1, none⟩ u1).setCell ⟨b, 2, none⟩ u2).setCell ⟨b, 3, none⟩ u3).setCell ⟨b, 4, none⟩ u4).cell? ⟨b, 2, none⟩ = some u2 ∧
    (((((w.setCell ⟨b, 0, none⟩ u0).setCell ⟨b, 1, none⟩ u1).setCell ⟨b, 2, none⟩ u2).setCell ⟨b, 3, none⟩ u3).setCell ⟨b, 4, none⟩ u4).cell? ⟨b, 3, none⟩ = some u3 ∧
    (((((w.setCell ⟨b, 0, none⟩ u0).setCell ⟨b, 1, none⟩ u1).setCell ⟨b, 2, none⟩ u2).setCell ⟨b, 3, none⟩ u3).setCell ⟨b, 4, none⟩ u4).cell? ⟨b, 4, none⟩ = some u4 := by
  have := h.set u u0 u1 u2 u3 u4
  exact ⟨this.1, this.2 0 (by omega), this.2 1 (by omega), this.2 2 (by omega), this.2 3 (by omega), this.2 4 (by omega)⟩
set_option maxHeartbeats 20000000 in
theorem decR (w : Int) (h0 : 0 ≤ w) (hw : w ≤ 18446744073709551615) (W : World) : Calls Try.prog 66 #[.int .u64 w] W fun e w' => e = .returned (.tuple #[dE w, .int .i64 (dF w)]) ∧ Up W w' := by
  have u1 : Up W (W.alloc (.cells #[.bool false, .bool false, .bool false, .bool false, .int .i64 0] 59)) := Up.alloc W _ _
  have B1 := Bx5.made W (.bool false) (.bool false) (.bool false) (.bool false) (.int .i64 0)
  by_cases hz : w = 0
  · subst hz
    have c0 := B1.c0
    have c1 := B1.c1
    have c2 := B1.c2
    have c3 := B1.c3
    have c4 := B1.c4
    go_enter Try.func66, Try.ntmps66
    go_wp2
    refine bodyPost_ret (res59 rfl _ _ W.heap.size _ _ _ _ _ rfl c0 c1 c2 c3 c4) rfl ?_
    exact ⟨rfl, u1⟩
  · have q0 : 0 ≤ w / 256 % 64 := by omega
    have q1 : w / 256 % 64 < 64 := by omega
    have s1 : (W.alloc (.cells #[.bool false, .bool false, .bool false, .bool false, .int .i64 0] 59)).heap.size = W.heap.size + 1 := by show (W.heap.push _).size = _; simp
    have key : ∀ l r x : Bool, ∃ _ : Unit, Bx5 W ((W.alloc (.cells #[.bool false, .bool false, .bool false, .bool false, .int .i64 0] 59)).alloc (.cells #[.bool true, .bool l, .bool r, .bool x, .int .i64 (w / 256 % 64)] 59)) (W.heap.size + 1) (.bool true) (.bool l) (.bool r) (.bool x) (.int .i64 (w / 256 % 64)) ∧
        Bx5 W ((W.alloc (.cells #[.bool false, .bool false, .bool false, .bool false, .int .i64 0] 59)).alloc (.cells #[.bool true, .bool l, .bool r, .bool x, .int .i64 (w / 256 % 64)] 59)) W.heap.size (.bool false) (.bool false) (.bool false) (.bool false) (.int .i64 0) ∧
        Up W ((W.alloc (.cells #[.bool false, .bool false, .bool false, .bool false, .int .i64 0] 59)).alloc (.cells #[.bool true, .bool l, .bool r, .bool x, .int .i64 (w / 256 % 64)] 59)) := by
      intro l r x
      have B2 := Bx5.made (W.alloc (.cells #[.bool false, .bool false, .bool false, .bool false, .int .i64 0] 59)) (.bool true) (.bool l) (.bool r) (.bool x) (.int .i64 (w / 256 % 64))
      rw [s1] at B2
      exact ⟨(), B2.low u1.size, B1.up (Up.alloc _ _ _), u1.trans (Up.alloc _ _ _)⟩
    have h2 : w / 2 % 2 = 0 ∨ w / 2 % 2 = 1 := by omega
    have h4 : w / 4 % 2 = 0 ∨ w / 4 % 2 = 1 := by omega
    have h8 : w / 8 % 2 = 0 ∨ w / 8 % 2 = 1 := by omega
    obtain ⟨_, B2, B3, u2⟩ := key (dl w) (dr w) (dx w)
    clear key
    rcases h2 with h2 | h2 <;> rcases h4 with h4 | h4 <;> rcases h8 with h8 | h8
    all_goals
      (simp only [dl, dr, dx, h2, h4, h8, show ((0 : Int) == 1) = false from rfl, show ((1 : Int) == 1) = true from rfl] at B2 B3 u2
       have c0 := B2.c0
       have c1 := B2.c1
       have c2 := B2.c2
       have c3 := B2.c3
       have c4 := B2.c4
       obtain ⟨V, hV, hw79⟩ : ∃ V, Hid (V = 1 + 256 * (w / 256 % 64) + 2 * nb (dl w) + 4 * nb (dr w) + 8 * nb (dx w)) ∧ ∀ W, Calls Try.prog 79 #[En true (dl w) (dr w) (dx w) (w / 256 % 64)] W fun e w' => e = .returned (.int .u64 V) ∧ Up W w' := ⟨_, rfl, fun W => wordR _ _ _ _ q0 q1 W⟩
       simp only [dl, dr, dx, h2, h4, h8, show ((0 : Int) == 1) = false from rfl, show ((1 : Int) == 1) = true from rfl] at hw79
       have hm := fun W => mayR (dl w) (dr w) (dx w) (w / 256 % 64) q0 q1 W
       simp only [dl, dr, dx, h2, h4, h8, show ((0 : Int) == 1) = false from rfl, show ((1 : Int) == 1) = true from rfl] at hm
       obtain ⟨N, hN, hNv⟩ : ∃ N, (V != w) = N ∧ Hid (N = (V != w)) := ⟨_, rfl, rfl⟩
       have hk : Hid (dOk w = ((dl w == (dr w || dx w)) && !(V != w))) := by
         show dOk w = _
         unfold dOk
         rw [show V = _ from hV]
         congr 1
         simp [bne]
         try rfl
       clear B1 u1 s1
       cases N
       all_goals
         (go_enter Try.func66, Try.ntmps66
          go_wp2_with (first
            | (go_at_call 78; refine (hm _).mono ?_; rintro e w3 ⟨rfl, hu3⟩; have b2 := B2.up hu3; have b3 := B3.up hu3; have d0 := b2.c0; have d1 := b2.c1; have d2 := b2.c2; have d3 := b2.c3; have d4 := b2.c4; have e0 := b3.c0; have e1 := b3.c1; have e2 := b3.c2; have e3 := b3.c3; have e4 := b3.c4; have z0 := b3.z 0; have z1 := b3.z 1; have z2 := b3.z 2; have z3 := b3.z 3; have z4 := b3.z 4; have u3 := u2.trans hu3; clear c0 c1 c2 c3 c4)
            | (go_at_call 79; refine (hw79 _).mono ?_; rintro e w4 ⟨rfl, hu4⟩; have b4 := b2.up hu4; have b5 := b3.up hu4; clear d0 d1 d2 d3 d4 e0 e1 e2 e3 e4 z0 z1 z2 z3 z4; have d0 := b4.c0; have d1 := b4.c1; have d2 := b4.c2; have d3 := b4.c3; have d4 := b4.c4; have e0 := b5.c0; have e1 := b5.c1; have e2 := b5.c2; have e3 := b5.c3; have e4 := b5.c4; have z0 := b5.z 0; have z1 := b5.z 1; have z2 := b5.z 2; have z3 := b5.z 3; have z4 := b5.z 4; have u4 := u3.trans hu4)))
       all_goals
         (unfold Hid at hk
          first
           | (have u5 := u4
              first
                | (obtain ⟨g0, g1, g2, g3, g4, g5⟩ := b5.set' u4 (.bool false) (.bool false) (.bool false) (.bool false) (.int .i64 0)
                   refine bodyPost_ret (res59 rfl _ _ W.heap.size _ _ _ _ _ rfl (by with_reducible exact g1) (by with_reducible exact g2) (by with_reducible exact g3) (by with_reducible exact g4) (by with_reducible exact g5)) rfl ⟨?_, by with_reducible exact g0⟩
                   simp [dE, dF, hk, hN, hz, dl, dr, dx, h2, h4, h8]
                   done)
                | (obtain ⟨g0, g1, g2, g3, g4, g5⟩ := b5.set' u4 _ _ _ _ _
                   refine bodyPost_ret (res59 rfl _ _ W.heap.size _ _ _ _ _ rfl (by with_reducible exact g1) (by with_reducible exact g2) (by with_reducible exact g3) (by with_reducible exact g4) (by with_reducible exact g5)) rfl ⟨?_, by with_reducible exact g0⟩
                   simp [dE, dF, hk, hN, hz, dl, dr, dx, h2, h4, h8]
                   done))
           | (have u5 := u3
              obtain ⟨g0, g1, g2, g3, g4, g5⟩ := b3.set' u3 (.bool false) (.bool false) (.bool false) (.bool false) (.int .i64 0)
              refine bodyPost_ret (res59 rfl _ _ W.heap.size _ _ _ _ _ rfl (by with_reducible exact g1) (by with_reducible exact g2) (by with_reducible exact g3) (by with_reducible exact g4) (by with_reducible exact g5)) rfl ⟨?_, by with_reducible exact g0⟩
              simp [dE, dF, hk, hN, hz, dl, dr, dx, h2, h4, h8]
              done)
           | trace_state
           | skip))
end Go.Proofs.AO
namespace Go.Proofs.AO
set_option linter.unusedVariables false
set_option maxHeartbeats 1000000
set_option linter.unusedSimpArgs false
def tb (w j k : Nat) : Bool := decide (j < k) && (w / 2 ^ j % 2 == 1)
def fr (w k : Nat) : Nat := w / 256 % 2 ^ (min k 14 - 8)
def good (w k : Nat) : Prop := w % 2 ^ k = w % 2 ^ (min k 4) + 256 * fr w k
theorem mod_succ (x k : Nat) : x % 2 ^ (k + 1) = x % 2 ^ k + 2 ^ k * (x / 2 ^ k % 2) := Nat.mod_pow_succ
theorem step0 (x k : Nat) (hb : x / 2 ^ k % 2 = 0) (hg : good x k) : good x (k + 1) ∧ fr x (k + 1) = fr x k ∧ ∀ j, j < 4 → tb x j (k + 1) = tb x j k := by
  have hm := mod_succ x k
  rw [hb, Nat.mul_zero, Nat.add_zero] at hm
  have hf : fr x (k + 1) = fr x k := by
    unfold fr
    by_cases h : 8 ≤ k ∧ k < 14
    · have : k = 8 ∨ k = 9 ∨ k = 10 ∨ k = 11 ∨ k = 12 ∨ k = 13 := by omega
      rcases this with rfl | rfl | rfl | rfl | rfl | rfl <;> simp at hb ⊢ <;> omega
    · rw [show min (k + 1) 14 - 8 = min k 14 - 8 by omega]
  refine ⟨?_, hf, fun j hj => ?_⟩
  · unfold good at hg ⊢
    rw [hm, hf, hg]
    by_cases h : k < 4
    · have : k = 0 ∨ k = 1 ∨ k = 2 ∨ k = 3 := by omega
      rcases this with rfl | rfl | rfl | rfl <;> simp at hb ⊢ <;> omega
    · rw [show min (k + 1) 4 = min k 4 by omega]
      exact Nat.add_zero _
  · unfold tb
    by_cases h : j = k
    · subst h; simp [hb]
    · rw [show decide (j < k + 1) = decide (j < k) by simp; omega]
theorem step1 (x k : Nat) (hk : k < 4) (hb : x / 2 ^ k % 2 = 1) (hg : good x k) : good x (k + 1) ∧ fr x (k + 1) = fr x k ∧ ∀ j, j < 4 → tb x j (k + 1) = if j = k then true else tb x j k := by
  have : k = 0 ∨ k = 1 ∨ k = 2 ∨ k = 3 := by omega
  have hf : fr x (k + 1) = fr x k := by unfold fr; rw [show min (k + 1) 14 - 8 = min k 14 - 8 by omega]
  refine ⟨?_, hf, fun j hj => ?_⟩
  · unfold good fr at *
    rcases this with rfl | rfl | rfl | rfl <;> simp at hb hg ⊢ <;> omega
  · unfold tb
    by_cases h : j = k
    · subst h; simp [hb]
    · rw [if_neg h, show decide (j < k + 1) = decide (j < k) by simp; omega]
theorem step2 (x k : Nat) (h8 : 8 ≤ k) (h14 : k < 14) (hb : x / 2 ^ k % 2 = 1) (hg : good x k) : good x (k + 1) ∧ fr x (k + 1) = fr x k + 2 ^ (k - 8) ∧ fr x k < 2 ^ (k - 8) ∧ ∀ j, j < 4 → tb x j (k + 1) = tb x j k := by
  have : k = 8 ∨ k = 9 ∨ k = 10 ∨ k = 11 ∨ k = 12 ∨ k = 13 := by omega
  refine ⟨?_, ?_, ?_, fun j hj => ?_⟩
  · unfold good fr at *
    rcases this with rfl | rfl | rfl | rfl | rfl | rfl <;> simp at hb hg ⊢ <;> omega
  · unfold fr
    rcases this with rfl | rfl | rfl | rfl | rfl | rfl <;> simp at hb ⊢ <;> omega
  · unfold fr
    rw [show min k 14 - 8 = k - 8 by omega]
    exact Nat.mod_lt _ (Nat.pos_of_ne_zero (by simp))
  · unfold tb
    rw [show decide (j < k + 1) = decide (j < k) by simp; omega]
theorem nb_le (b : Bool) : 0 ≤ nb b ∧ nb b ≤ 1 := by cases b <;> simp [nb]
theorem bad_bit (x k : Nat) (h : 4 ≤ k ∧ k < 8 ∨ 14 ≤ k) (hb : x / 2 ^ k % 2 = 1) : dE x = En false false false false 0 ∧ dF x = 5 := by
  have hx : (x : Int) ≠ 0 := by
    intro e
    have : x = 0 := by omega
    subst this
    simp at hb
  have hno : dOk (x : Int) = false := by
    unfold dOk
    rw [Bool.and_eq_false_iff]
    right
    apply decide_eq_false
    intro e
    have a1 := nb_le (dl x)
    have a2 := nb_le (dr x)
    have a3 := nb_le (dx x)
    rcases h with h | h
    · have : k = 4 ∨ k = 5 ∨ k = 6 ∨ k = 7 := by omega
      rcases this with rfl | rfl | rfl | rfl <;> simp at hb <;> omega
    · have h1 : 2 ^ k ≤ x := by
        rcases Nat.lt_or_ge x (2 ^ k) with h2 | h2
        · rw [Nat.div_eq_of_lt h2] at hb; simp at hb
        · exact h2
      have h2 : 2 ^ 14 ≤ 2 ^ k := Nat.pow_le_pow_right (by omega) h
      omega
  have hx2 : x ≠ 0 := by omega
  simp [dE, dF, hx2, hno]
theorem good_end (x : Nat) (hx : x < 2 ^ 64) (hg : good x 64) :
    (if mayE (tb x 0 64) (tb x 1 64) (tb x 2 64) (tb x 3 64) (fr x 64) then (En (tb x 0 64) (tb x 1 64) (tb x 2 64) (tb x 3 64) ((fr x 64 : Nat) : Int), (0 : Int)) else (En false false false false 0, 5)) = (dE x, dF x) := by
  have e0 : x = x % 16 + 256 * (x / 256 % 64) := by
    unfold good fr at hg
    simp at hg
    rw [Nat.mod_eq_of_lt hx] at hg
    exact hg
  have f0 : fr x 64 = x / 256 % 64 := by simp [fr]
  have b0 : x % 2 = 0 ∨ x % 2 = 1 := by omega
  have b1 : x / 2 % 2 = 0 ∨ x / 2 % 2 = 1 := by omega
  have b2 : x / 4 % 2 = 0 ∨ x / 4 % 2 = 1 := by omega
  have b3 : x / 8 % 2 = 0 ∨ x / 8 % 2 = 1 := by omega
  have i1 : (x : Int) / 2 % 2 = ((x / 2 % 2 : Nat) : Int) := by omega
  have i2 : (x : Int) / 4 % 2 = ((x / 4 % 2 : Nat) : Int) := by omega
  have i3 : (x : Int) / 8 % 2 = ((x / 8 % 2 : Nat) : Int) := by omega
  have i4 : (x : Int) / 256 % 64 = ((x / 256 % 64 : Nat) : Int) := by omega
  rw [f0]
  rcases b0 with b0 | b0 <;> rcases b1 with b1 | b1 <;> rcases b2 with b2 | b2 <;> rcases b3 with b3 | b3
  all_goals
    (by_cases hz : x = 0
     · subst hz; simp [tb, mayE, dE, dF] at *
     · have hz' : (x : Int) ≠ 0 := by omega
       simp only [tb, mayE, dE, dF, dOk, dl, dr, dx, i1, i2, i3, i4, b0, b1, b2, b3, nb]
       simp [b0, b1, b2, b3, hz, hz']
       all_goals (repeat' split)
       all_goals first | rfl | omega | (exfalso; omega))
end Go.Proofs.AO
