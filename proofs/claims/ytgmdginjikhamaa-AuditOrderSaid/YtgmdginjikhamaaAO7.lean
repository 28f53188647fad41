/- audit.pairs: the iterators contract. No conditions beside those in its theorems. -/
import Derived.Test.YtgmdginjikhamaaRF
set_option linter.unusedSimpArgs false
namespace Go.Proofs.AO
open Go.RowKit Go.Maps Go.Shelf
attribute [local go_sem] Oper.semAt_some
set_option linter.unusedVariables false
set_option maxRecDepth 100000
set_option maxHeartbeats 2000000
abbrev OO := (Nat → Int) × (Nat → Int)
def encO (x : OO) : Array Value := #[objV x.1, objV x.2]
def Kp47 (n₀ : Nat) (W W' : World) : Prop := Below n₀ W W' ∧ W.heap.size ≤ W'.heap.size ∧ ∀ (b : Nat) (cs : Array Value) (t : TypeId), (t = 47 ∨ t = 22) → W.heap[b]? = some (.cells cs t (0, 0)) → W'.heap[b]? = some (.cells cs t (0, 0))
theorem Kp47.trans {n₀ : Nat} {A B C : World} (h : Kp47 n₀ A B) (k : Kp47 n₀ B C) : Kp47 n₀ A C := ⟨h.1.trans k.1, Nat.le_trans h.2.1 k.2.1, fun b cs t ht hb => k.2.2 b cs t ht (h.2.2 b cs t ht hb)⟩
theorem Kp47.up {n₀ : Nat} {A B : World} (hn : n₀ ≤ A.heap.size) (h : Up A B) : Kp47 n₀ A B :=
  ⟨⟨h.os, h.tape, h.output, h.size, fun k hk => h.block k (by omega)⟩, h.size, fun b cs t _ hb => h.heap hb⟩
theorem Kp47.refl {n₀ : Nat} (A : World) : Kp47 n₀ A A := ⟨Below.refl _ _, Nat.le_refl _, fun _ _ _ _ h => h⟩
theorem Rw.at {es : Nat} {W : World} {b off n : Nat} {f : Nat → Nat → Value} (h : Rw es W (some ⟨b, off, none⟩) n f) (j : Nat) (hj : j < n) (t : Nat) (ht : t < es) : W.cell? ⟨b, off + j * es + t, none⟩ = some (f j t) := by
  obtain ⟨b', off', e, h1⟩ := h j hj
  cases e
  exact h1 t ht
theorem pairs1_in (n : Nat) (hn : 1 ≤ n) (l Bs n₀ : Nat) (ad : Option Addr) (len cap : Nat) (z : Nat → Nat → Int) (hlen : len ≤ 40) (hbl : ∀ b off, ad = some ⟨b, off, none⟩ → 0 < len → b < n₀) (W : World) (hn₀ : n₀ ≤ W.heap.size) (J Jx : List OO → World → Prop) (hJ : AbidesFrom W.heap.size J) (hJx : AbidesFrom W.heap.size Jx)
    (hY : ∀ pre x W, J pre W → pre.length < 1600 → YieldAt Fence.wide (n - 1) Try.prog l (encO x) W fun e W' =>
      (e = .returned (.bool true) ∧ J (pre ++ [x]) W' ∧ Kp47 n₀ W W') ∨ (e = .returned (.bool false) ∧ Jx (pre ++ [x]) W'))
    (hB : W.heap[Bs]? = some (.cells #[.slice ad len cap] 22 (0, 0))) (hr : Rw 9 W ad len fun j t => .int .i64 (z j t)) (h0 : J [] W) :
    CallsIn Fence.wide n Try.prog 42 #[.func (.yield l) #[] #[], .pointer (some ⟨Bs, 0, none⟩)] W fun e W' => (∃ v, e = .returned v) ∧
      ((∃ ys : List OO, ys.length ≤ 1600 ∧ J ys W') ∨ (∃ pre : List OO, True ∧ Jx pre W')) := by
  have hBc : W.cell? ⟨Bs, 0, none⟩ = some (.slice ad len cap) := cell_of_row _ _ _ _ _ _ hB
  refine callsIn_of_wp Try.func42 rfl trivial ?_ rfl
  simp only [Try.ntmps42, List.size_toArray, List.length_cons, List.length_nil, Nat.reduceAdd, Nat.reduceSub, Array.replicate_succ, Array.replicate_zero, List.push_toArray, List.append_toArray, List.nil_append, List.cons_append]
  gi_wp2
  refine wpIn_scope_straight ?_
  gi_wp2
  refine wpIn_label ?_
  gi_wp2
  gi_loopw [9] (fun i wr => ∃ k : Nat, k ≤ len ∧ i = .int .i64 k ∧ (∃ pre : List OO, pre.length ≤ k * len ∧ J pre wr) ∧ Kp47 n₀ W wr) (fun i _ => len - (intOf i).toNat)
  case atStart => exact ⟨0, Nat.zero_le _, rfl, ⟨[], by simp, h0⟩, Kp47.refl _⟩
  case round =>
    obtain ⟨k, hk, rfl, ⟨pre, hpre, hJs⟩, hkw⟩ := hrel
    have hnx := hkw.1
    have hsz := hkw.2.1
    by_cases hlt : k < len
    · obtain ⟨b, off, rfl, _⟩ := hr k hlt
      have hb := hbl b off rfl (by omega)
      have hc := hr.at
      have c0 : wr.cell? ⟨b, off + k * 9, none⟩ = some (.int .i64 (z k 0)) := (hnx.cell (p := ⟨b, _, none⟩) hb).trans (hc k hlt 0 (by omega))
      have c1 : wr.cell? ⟨b, off + k * 9 + 1, none⟩ = some (.int .i64 (z k 1)) := (hnx.cell (p := ⟨b, _, none⟩) hb).trans (hc k hlt 1 (by omega))
      have c2 : wr.cell? ⟨b, off + k * 9 + 2, none⟩ = some (.int .i64 (z k 2)) := (hnx.cell (p := ⟨b, _, none⟩) hb).trans (hc k hlt 2 (by omega))
      have c3 : wr.cell? ⟨b, off + k * 9 + 3, none⟩ = some (.int .i64 (z k 3)) := (hnx.cell (p := ⟨b, _, none⟩) hb).trans (hc k hlt 3 (by omega))
      have c4 : wr.cell? ⟨b, off + k * 9 + 4, none⟩ = some (.int .i64 (z k 4)) := (hnx.cell (p := ⟨b, _, none⟩) hb).trans (hc k hlt 4 (by omega))
      have c5 : wr.cell? ⟨b, off + k * 9 + 5, none⟩ = some (.int .i64 (z k 5)) := (hnx.cell (p := ⟨b, _, none⟩) hb).trans (hc k hlt 5 (by omega))
      have c6 : wr.cell? ⟨b, off + k * 9 + 6, none⟩ = some (.int .i64 (z k 6)) := (hnx.cell (p := ⟨b, _, none⟩) hb).trans (hc k hlt 6 (by omega))
      have c7 : wr.cell? ⟨b, off + k * 9 + 7, none⟩ = some (.int .i64 (z k 7)) := (hnx.cell (p := ⟨b, _, none⟩) hb).trans (hc k hlt 7 (by omega))
      have c8 : wr.cell? ⟨b, off + k * 9 + 8, none⟩ = some (.int .i64 (z k 8)) := (hnx.cell (p := ⟨b, _, none⟩) hb).trans (hc k hlt 8 (by omega))
      have cB : wr.cell? ⟨Bs, 0, none⟩ = some (.slice (some ⟨b, off, none⟩) len cap) := cell_of_row _ _ _ _ _ _ (hkw.2.2 _ _ _ (.inr rfl) hB)
      have cB' : ∀ cs t, (wr.alloc (.cells cs t)).cell? ⟨Bs, 0, none⟩ = some (.slice (some ⟨b, off, none⟩) len cap) := fun cs t => (Up.alloc wr cs t).keeps cB
      gi_wp2
      have hu0 : Up wr (wr.alloc (.cells #[.int .i64 (z k 0), .int .i64 (z k 1), .int .i64 (z k 2), .int .i64 (z k 3), .int .i64 (z k 4), .int .i64 (z k 5), .int .i64 (z k 6), .int .i64 (z k 7), .int .i64 (z k 8)] 47)) := Up.alloc _ _ _
      have hK0 : Kp47 n₀ wr (wr.alloc (.cells #[.int .i64 (z k 0), .int .i64 (z k 1), .int .i64 (z k 2), .int .i64 (z k 3), .int .i64 (z k 4), .int .i64 (z k 5), .int .i64 (z k 6), .int .i64 (z k 7), .int .i64 (z k 8)] 47)) := Kp47.up (by omega) hu0
      have hJ1 : J pre (wr.alloc (.cells #[.int .i64 (z k 0), .int .i64 (z k 1), .int .i64 (z k 2), .int .i64 (z k 3), .int .i64 (z k 4), .int .i64 (z k 5), .int .i64 (z k 6), .int .i64 (z k 7), .int .i64 (z k 8)] 47)) := hJ _ _ _ none hJs (World.grownBy_alloc _ _ _) (by intro r h; cases h)
      have hN0 : (wr.alloc (.cells #[.int .i64 (z k 0), .int .i64 (z k 1), .int .i64 (z k 2), .int .i64 (z k 3), .int .i64 (z k 4), .int .i64 (z k 5), .int .i64 (z k 6), .int .i64 (z k 7), .int .i64 (z k 8)] 47)).heap[wr.heap.size]? = some (.cells #[.int .i64 (z k 0), .int .i64 (z k 1), .int .i64 (z k 2), .int .i64 (z k 3), .int .i64 (z k 4), .int .i64 (z k 5), .int .i64 (z k 6), .int .i64 (z k 7), .int .i64 (z k 8)] 47 (0, 0)) := heap_alloc_last _ _
      obtain ⟨V, hV⟩ : ∃ V, V = wr := ⟨_, rfl⟩
      subst hV
      gi_loopw [16] (fun i w2 => ∃ j : Nat, j ≤ len ∧ i = .int .i64 j ∧ (∃ pre : List OO, pre.length ≤ k * len + j ∧ J pre w2) ∧ Kp47 n₀ V w2 ∧ w2.heap[V.heap.size]? = some (.cells #[.int .i64 (z k 0), .int .i64 (z k 1), .int .i64 (z k 2), .int .i64 (z k 3), .int .i64 (z k 4), .int .i64 (z k 5), .int .i64 (z k 6), .int .i64 (z k 7), .int .i64 (z k 8)] 47 (0, 0))) (fun i _ => len - (intOf i).toNat)
      case atStart => exact ⟨0, Nat.zero_le _, rfl, ⟨pre, by omega, hJ1⟩, hK0, hN0⟩
      case round =>
        clear hJ1 hJs hpre pre
        obtain ⟨j, hj, rfl, ⟨pre, hpre, hJs⟩, hkp, hN⟩ := hrel
        by_cases hlt2 : j < len
        · have hx2 : Below n₀ W wr := hnx.trans hkp.1
          have d0 : wr.cell? ⟨b, off + j * 9, none⟩ = some (.int .i64 (z j 0)) := (hx2.cell (p := ⟨b, _, none⟩) hb).trans (hc j hlt2 0 (by omega))
          have d1 : wr.cell? ⟨b, off + j * 9 + 1, none⟩ = some (.int .i64 (z j 1)) := (hx2.cell (p := ⟨b, _, none⟩) hb).trans (hc j hlt2 1 (by omega))
          have d2 : wr.cell? ⟨b, off + j * 9 + 2, none⟩ = some (.int .i64 (z j 2)) := (hx2.cell (p := ⟨b, _, none⟩) hb).trans (hc j hlt2 2 (by omega))
          have d3 : wr.cell? ⟨b, off + j * 9 + 3, none⟩ = some (.int .i64 (z j 3)) := (hx2.cell (p := ⟨b, _, none⟩) hb).trans (hc j hlt2 3 (by omega))
          have d4 : wr.cell? ⟨b, off + j * 9 + 4, none⟩ = some (.int .i64 (z j 4)) := (hx2.cell (p := ⟨b, _, none⟩) hb).trans (hc j hlt2 4 (by omega))
          have d5 : wr.cell? ⟨b, off + j * 9 + 5, none⟩ = some (.int .i64 (z j 5)) := (hx2.cell (p := ⟨b, _, none⟩) hb).trans (hc j hlt2 5 (by omega))
          have d6 : wr.cell? ⟨b, off + j * 9 + 6, none⟩ = some (.int .i64 (z j 6)) := (hx2.cell (p := ⟨b, _, none⟩) hb).trans (hc j hlt2 6 (by omega))
          have d7 : wr.cell? ⟨b, off + j * 9 + 7, none⟩ = some (.int .i64 (z j 7)) := (hx2.cell (p := ⟨b, _, none⟩) hb).trans (hc j hlt2 7 (by omega))
          have d8 : wr.cell? ⟨b, off + j * 9 + 8, none⟩ = some (.int .i64 (z j 8)) := (hx2.cell (p := ⟨b, _, none⟩) hb).trans (hc j hlt2 8 (by omega))
          have a0 : ∀ cs t i, (wr.alloc (.cells cs t)).cell? ⟨V.heap.size, i, none⟩ = _ := fun cs t i => cell_of_row _ _ _ _ _ _ ((Up.alloc wr cs t).heap hN)
          have hJ2 : ∀ cs, J pre (wr.alloc (.cells cs 47)) := fun cs => hJ _ _ _ none hJs (World.grownBy_alloc _ _ _) (by intro r h; cases h)
          have hK2 : ∀ cs, Kp47 n₀ V (wr.alloc (.cells cs 47)) := fun cs => hkp.trans (Kp47.up (by have := hkp.2.1; omega) (Up.alloc _ _ _))
          have hyy := fun cs => hY pre (z k, z j) (wr.alloc (.cells cs 47)) (hJ2 cs) (by have := Nat.mul_le_mul (show k ≤ 39 by omega) hlen; omega)
          obtain ⟨fn, tmps, assign, body, hy, hR⟩ := hyy #[.int .i64 (z j 0), .int .i64 (z j 1), .int .i64 (z j 2), .int .i64 (z j 3), .int .i64 (z j 4), .int .i64 (z j 5), .int .i64 (z j 6), .int .i64 (z j 7), .int .i64 (z j 8)]
          dsimp only [encO, objV] at hy
          gi_wp2
          · go_roundw
            case rel => exact ⟨j + 1, by omega, by go_num, ⟨pre, by omega, hJ2 _⟩, hK2 _, (Up.alloc wr _ _).heap hN⟩
            case measure => simp [intOf]; omega
          · refine hR.mono ?_
            rintro e W3 (⟨rfl, hJ3, hk3⟩ | ⟨rfl, hJx3⟩)
            · gi_wp2
              go_roundw
              case rel => exact ⟨j + 1, by omega, by go_num, ⟨_, by simp; omega, hJ3⟩, (hK2 _).trans hk3, hk3.2.2 _ _ _ (.inl rfl) ((Up.alloc wr _ _).heap hN)⟩
              case measure => simp [intOf]; omega
            · gi_wp2
              simp only [Exit.noGoto]
              go_end0
              exact ⟨⟨_, rfl⟩, .inr ⟨_, trivial, hJx3⟩⟩
        · obtain rfl : j = len := by omega
          gi_wp2
          go_roundw
          case rel => exact ⟨k + 1, by omega, by go_num, ⟨pre, by rw [Nat.succ_mul]; exact hpre, hJs⟩, hkw.trans hkp⟩
          case measure => simp [intOf]; omega
    · obtain rfl : k = len := by omega
      gi_wp2
      simp only [Exit.noGoto]
      go_end0
      exact ⟨⟨_, rfl⟩, .inl ⟨_, by have := Nat.mul_le_mul hlen hlen; omega, hJs⟩⟩
theorem pairs_any (a : Option Addr) (n cap : Nat) (W : World) : Calls Try.prog 29 #[.slice a n cap] W fun e w' => e = .returned (.func (.func 42) #[] #[.pointer (some ⟨W.heap.size, 0, none⟩)]) ∧ w' = W.alloc (.cells #[.slice a n cap] 22) := by
  go_enter Try.func29, Try.ntmps29
  go_wp2
  go_ret
  exact ⟨rfl, rfl⟩
theorem pairs_stops (n : Nat) (hn : 1 ≤ n) (Bs n₀ : Nat) (ad : Option Addr) (len cap : Nat) (z : Nat → Nat → Int) (hlen : len ≤ 40) (w : World) (hn₀ : n₀ ≤ w.heap.size) (hBs : Bs < w.heap.size) (hbl : ∀ b off, ad = some ⟨b, off, none⟩ → 0 < len → b < n₀)
    (hB : w.heap[Bs]? = some (.cells #[.slice ad len cap] 22 (0, 0))) (hr : Rw 9 w ad len fun j t => .int .i64 (z j t)) :
    SeqStopsK Fence.wide n Try.prog 42 #[.pointer (some ⟨Bs, 0, none⟩)] encO (Kp47 n₀) (fun xs => xs.length ≤ 1600) (fun _ => True) 1600 w := fun l J Jx W hW hJ hJx hY h0 =>
  pairs1_in n hn l Bs n₀ ad len cap z hlen hbl W (Nat.le_trans hn₀ hW.size) J Jx hJ hJx hY ((hW.block Bs hBs).trans hB)
    (fun j hj => let ⟨b, off, e, h1⟩ := hr j hj; ⟨b, off, e, fun t ht => (hW.cell (p := ⟨b, _, none⟩) (Nat.lt_of_lt_of_le (hbl b off e (by omega)) hn₀)).trans (h1 t ht)⟩) h0
end Go.Proofs.AO
