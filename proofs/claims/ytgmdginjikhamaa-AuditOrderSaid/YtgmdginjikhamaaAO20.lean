/- AuditOrder returns true wherever it is called with a view. No conditions beside those in its theorems. -/
import Derived.Test.YtgmdginjikhamaaAO19
import Derived.Test.YtgmdginjikhamaaAW
set_option linter.unusedSimpArgs false
namespace Go.Proofs.AO
open Go.RowKit Go.Maps Go.Shelf Go.Lib Go.Sort
set_option linter.unusedVariables false
set_option maxRecDepth 100000
set_option maxHeartbeats 4000000
theorem awake_any (W : World) : Calls Try.prog 6 #[] W fun e w' => e = .returned (.bool true) ∧ Up W w' := (AW.true6 W).mono fun e w' ⟨h, h1, h2, h3, h4, h5⟩ => ⟨h, h3, h4, h5, h1, h2⟩
theorem Sc.rg {W w : World} {A : Array Value} (t : Sc W A w) : w.rangeAt W.heap.size 0 A.toList := fun j v hj => by
  rw [Nat.zero_add, cell_of_row _ _ _ _ _ _ t.2.1, ← Array.getElem?_toList]; exact hj
theorem Hc.up {g n : Nat} {E : Nat → F3} {w w' : World} (h : Hc w g E n) (u : Up w w') : Hc w' g E n := ⟨fun j hj => u.keeps (h.c0 j hj), fun j hj => u.keeps (h.c1 j hj), fun j hj => u.keeps (h.c2 j hj)⟩
def Lw (W : World) (e : Ending) (w' : World) : Prop := e = .returned (.bool true) ∧ Up W w'
theorem law_round (A : Array Value) (hb : Big A) (W w : World) (n0 n1 n2 n3 n5 n6 : Nat)
    (hG : ∀ w, Calls Try.prog 5 #[.agg A] w (Gr w n0 n1 n2 n3 n5 n6)) (hv : n0 ≤ 40 → n1 ≤ 40 → n2 ≤ 40 → n3 ≤ 40 → n5 ≤ 40 → n6 ≤ 40 → Vw A W) :
    Calls Try.prog 3 #[.agg A] W (Lw W) := by
  have t0 : Sc W A (W.alloc (.cells A 32)) := ⟨Up.alloc W _ _, heap_alloc_last W _, by show _ ≤ (W.heap.push _).size; simp⟩
  go_enter Try.func3, Try.ntmps3
  go_wp2_with (first
    | ((with_reducible refine g_load32 ?_); refine arm_load 32 _ rfl W.heap.size 0 rfl A.toList _ (Sc.rg ‹Sc W A _›) Try.underlying32 rfl hb.szl ?_ ?_ <;> (go_simp; try intros))
    | (go_at_call 5; refine (hG _).mono ?_; rintro e w1 ⟨r, rfl, hu1, hr⟩; have t1 := t0.up hu1; cases r)
    | (go_at_call 6; refine (awake_any _).mono ?_; rintro e w9 ⟨rfl, hu9⟩)
    | (go_at_call 7; obtain ⟨q0, q1, q2, q3, q5, q6⟩ := hr (by trivial); have hv1 := (hv q0 q1 q2 q3 q5 q6).up t1.1; refine (check_any A _ hv1).mono ?_; rintro e w2 ⟨v, rfl, hu2, hvv⟩; have t2 := t1.up hu2; clear q0 q1 q2 q3 q5 q6 hv1; rcases hvv with rfl | ⟨g, K, c', E, rfl, hK, hE, hs⟩))
  · go_loopw [4] (fun i w' => i = .int .i64 1 ∧ Sc W A w') (fun _ _ => 0)
    case atStart => exact ⟨rfl, t2⟩
    case round =>
      obtain ⟨rfl, t⟩ := hrel
      go_wp2_with (first | (go_at_call 6; refine (awake_any _).mono ?_; rintro e w9 ⟨rfl, hu9⟩; have t9 := t.up hu9))
      go_ret
      exact ⟨rfl, t9.1⟩
  · go_loopw [4] (fun i w' => ∃ m : Nat, i = .int .i64 ((m : Int) + 1) ∧ m ≤ K ∧ Sc W A w' ∧ Hc w' g E K) (fun i _ => K + 1 - (intOf i).toNat)
    case atStart => exact ⟨0, rfl, Nat.zero_le _, t2, hE⟩
    case round =>
      clear hE t2 t0 t1
      obtain ⟨m, rfl, hm, t, hE⟩ := hrel
      by_cases hlt : m + 1 < K
      · have c0 := hE.c0 (m + 1) hlt
        have c1 := hE.c1 (m + 1) hlt
        have c2 := hE.c2 (m + 1) hlt
        have d0 := hE.c0 m (by omega)
        have d1 := hE.c1 m (by omega)
        have d2 := hE.c2 m (by omega)
        have c0' : ∀ o, (wr.alloc o).cell? ⟨g, (m + 1) * 3, none⟩ = _ := fun o => (Up.push wr o).keeps c0
        have c1' : ∀ o, (wr.alloc o).cell? ⟨g, (m + 1) * 3 + 1, none⟩ = _ := fun o => (Up.push wr o).keeps c1
        have c2' : ∀ o, (wr.alloc o).cell? ⟨g, (m + 1) * 3 + 2, none⟩ = _ := fun o => (Up.push wr o).keeps c2
        have d0' : ∀ o, (wr.alloc o).cell? ⟨g, m * 3, none⟩ = _ := fun o => (Up.push wr o).keeps d0
        have d1' : ∀ o, (wr.alloc o).cell? ⟨g, m * 3 + 1, none⟩ = _ := fun o => (Up.push wr o).keeps d1
        have d2' : ∀ o, (wr.alloc o).cell? ⟨g, m * 3 + 2, none⟩ = _ := fun o => (Up.push wr o).keeps d2
        have c0'' : ∀ o q, ((wr.alloc o).alloc q).cell? ⟨g, (m + 1) * 3, none⟩ = _ := fun o q => (Up.push _ q).keeps (c0' o)
        have c1'' : ∀ o q, ((wr.alloc o).alloc q).cell? ⟨g, (m + 1) * 3 + 1, none⟩ = _ := fun o q => (Up.push _ q).keeps (c1' o)
        have c2'' : ∀ o q, ((wr.alloc o).alloc q).cell? ⟨g, (m + 1) * 3 + 2, none⟩ = _ := fun o q => (Up.push _ q).keeps (c2' o)
        have d0'' : ∀ o q, ((wr.alloc o).alloc q).cell? ⟨g, m * 3, none⟩ = _ := fun o q => (Up.push _ q).keeps (d0' o)
        have d1'' : ∀ o q, ((wr.alloc o).alloc q).cell? ⟨g, m * 3 + 1, none⟩ = _ := fun o q => (Up.push _ q).keeps (d1' o)
        have d2'' : ∀ o q, ((wr.alloc o).alloc q).cell? ⟨g, m * 3 + 2, none⟩ = _ := fun o q => (Up.push _ q).keeps (d2' o)
        have hL := hs m hlt
        unfold L3 at hL
        go_wp2
        go_region
        all_goals clear c0 c1 c2 d0 d1 d2 c0' c1' c2' d0' d1' d2' c0'' c1'' c2'' d0'' d1'' d2''
        all_goals
          (obtain ⟨V, hV⟩ : ∃ V, V = wr := ⟨_, rfl⟩
           subst hV
           have k := fun (o q : Obj) => (Up.push V o).trans (Up.push (V.alloc o) q)
           have kd := fun (o q : Obj) => (k o q).trans (Up.drew _)
           have f0 := fun (o : Obj) (cs : Array Value) (j : Nat) => cell_new (V.alloc o) cs 38 j
           have s1 : ∀ o, (V.alloc o).heap.size = V.heap.size + 1 := fun o => by show (V.heap.push _).size = _; simp
           have f1 := fun (cs : Array Value) (q : Obj) (j : Nat) (v : Value) (h : cs[j]? = some v) => (Up.push (V.alloc (.cells cs 38)) q).keeps ((cell_new V cs 38 j).trans h)
           simp only [s1] at f0
           have x0 := f0 (.cells #[.int .i64 (E m).1, .int .i64 (E m).2.1, .int .i64 (E m).2.2] 38) #[.int .i64 (E (m + 1)).1, .int .i64 (E (m + 1)).2.1, .int .i64 (E (m + 1)).2.2]
           have y0 := f1 #[.int .i64 (E m).1, .int .i64 (E m).2.1, .int .i64 (E m).2.2] (.cells #[.int .i64 (E (m + 1)).1, .int .i64 (E (m + 1)).2.1, .int .i64 (E (m + 1)).2.2] 38)
           have x0' := f0 (.cells #[.int .i64 (E (m + 1)).1, .int .i64 (E (m + 1)).2.1, .int .i64 (E (m + 1)).2.2] 38) #[.int .i64 (E m).1, .int .i64 (E m).2.1, .int .i64 (E m).2.2]
           have y0' := f1 #[.int .i64 (E (m + 1)).1, .int .i64 (E (m + 1)).2.1, .int .i64 (E (m + 1)).2.2] (.cells #[.int .i64 (E m).1, .int .i64 (E m).2.1, .int .i64 (E m).2.2] 38)
           have a0 := x0 0
           have a1 := x0 1
           have a2 := x0 2
           have b0 := y0 0 _ rfl
           have b1 := y0 1 _ rfl
           have b2 := y0 2 _ rfl
           have a0' := x0' 0
           have a1' := x0' 1
           have a2' := x0' 2
           have b0' := y0' 0 _ rfl
           have b1' := y0' 1 _ rfl
           have b2' := y0' 2 _ rfl
           clear x0 y0 x0' y0' f0 f1 k
           go_wp2
           all_goals
             (go_roundw
              case rel => exact ⟨m + 1, by go_num, by omega, t.up (kd _ _), hE.up (kd _ _)⟩
              case measure => simp [intOf]; omega))
      · go_wp2_with (first | (go_at_call 6; refine (awake_any _).mono ?_; rintro e w9 ⟨rfl, hu9⟩; have t9 := t.up hu9))
        go_ret
        exact ⟨rfl, t9.1⟩
  · go_ret
    exact ⟨rfl, (t1.up hu9).1⟩
end Go.Proofs.AO
