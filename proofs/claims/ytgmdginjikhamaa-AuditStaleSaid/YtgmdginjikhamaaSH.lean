/- audit.leaf. No conditions beside those in its theorems. -/
import Derived.Test.YtgmdginjikhamaaSG
set_option linter.unusedSimpArgs false
namespace Go.Proofs.AO
open Go.RowKit Go.Maps Go.Shelf Go.Sort
set_option linter.unusedVariables false
set_option linter.unusedSimpArgs false
set_option maxRecDepth 100000
set_option maxHeartbeats 2000000
/-- a list of L rows of words -/
structure Wl (w : World) (p : Option Addr) (L : Nat) (ln : Nat → Nat) (xw : Nat → Nat → Nat) : Prop where
  l70 : L ≤ 70
  n20 : ∀ i, i < L → ln i ≤ 20
  row : ∀ i, i < L → ∃ B O q c, p = some ⟨B, O, none⟩ ∧ w.cell? ⟨B, O + i, none⟩ = some (.slice q (ln i) c) ∧ ∀ k, k < ln i → ∃ b o, q = some ⟨b, o, none⟩ ∧ w.cell? ⟨b, o + k, none⟩ = some (.int .u64 (xw i k))
  wf : ∀ i k, xw i k < 2 ^ 64
theorem Wl.up {w w' : World} {p : Option Addr} {L : Nat} {ln : Nat → Nat} {xw : Nat → Nat → Nat} (h : Wl w p L ln xw) (u : Up w w') : Wl w' p L ln xw :=
  ⟨h.l70, h.n20, fun i hi => let ⟨B, O, q, c, h1, h2, h3⟩ := h.row i hi; ⟨B, O, q, c, h1, u.keeps h2, fun k hk => let ⟨b, o, g1, g2⟩ := h3 k hk; ⟨b, o, g1, u.keeps g2⟩⟩, h.wf⟩
/-- one step of the leaf's walk -/
def g1 (L : Nat) (ln : Nat → Nat) (xw : Nat → Nat → Nat) (f i : Int) (want : Bool) : Option Nat :=
  if 0 ≤ f ∧ f < L ∧ 0 ≤ i ∧ i < ln f.toNat then (match nx L want (xw f.toNat i.toNat) with | none => none | some _ => some (xw f.toNat i.toNat)) else none
def lfr (L : Nat) (ln : Nat → Nat) (xw : Nat → Nat → Nat) (page : Int) : Nat → Int → Option Nat
  | 0, f => g1 L ln xw f (ix page 3) true
  | k + 1, f => match g1 L ln xw f (ix page (3 - (k + 1))) false with | none => none | some w => lfr L ln xw page k ((w / 256 % 64 : Nat) : Int)
def LfP (W : World) (r : Option Nat) (e : Ending) (w' : World) : Prop :=
  ∃ (v : Value) (b : Bool), e = .returned (.tuple #[v, .bool b]) ∧ Up W w' ∧ ((∃ x, r = some x ∧ b = true ∧ v = dE x) ∨ (r = none ∧ b = false ∧ v = En false false false false 0))
/-- the walk's state: the result's cells, the frame -/
structure Ls (W w : World) (p : Option Addr) (L : Nat) (ln : Nat → Nat) (xw : Nat → Nat → Nat) : Prop where
  up : Up W w
  bx : Bx5 W w W.heap.size (.bool false) (.bool false) (.bool false) (.bool false) (.int .i64 0)
  wl : Wl w p L ln xw
theorem Ls.to {W w w' : World} {p : Option Addr} {L : Nat} {ln : Nat → Nat} {xw : Nat → Nat → Nat} (h : Ls W w p L ln xw) (u : Up w w') : Ls W w' p L ln xw := ⟨h.up.trans u, h.bx.up u, h.wl.up u⟩
theorem lfr_step (L : Nat) (ln : Nat → Nat) (xw : Nat → Nat → Nat) (page : Int) (n : Nat) (h1 : 1 ≤ n) (h3 : n ≤ 3) (g : Int) :
    lfr L ln xw page (3 - n) g = match g1 L ln xw g (ix page n) (n == 3) with | none => none | some w => if n = 3 then some w else lfr L ln xw page (3 - (n + 1)) ((w / 256 % 64 : Nat) : Int) := by
  obtain rfl | rfl | rfl : n = 1 ∨ n = 2 ∨ n = 3 := by omega
  · rfl
  · rfl
  · show g1 L ln xw g (ix page 3) true = match g1 L ln xw g (ix page 3) true with | none => none | some w => some w
    cases g1 L ln xw g (ix page 3) true <;> rfl
theorem g1_out {L : Nat} {ln : Nat → Nat} {xw : Nat → Nat → Nat} {f i : Int} {want : Bool} (h : ¬ (0 ≤ f ∧ f < L ∧ 0 ≤ i ∧ i < ln f.toNat)) : g1 L ln xw f i want = none := if_neg h
theorem WF_of (z : Int) (h0 : -9223372036854775808 ≤ z) (h1 : z ≤ 9223372036854775807) : WF z := by
  simp only [WF, Lit.wf, IntKind.min, IntKind.max, IntKind.signed, IntKind.bits, Bool.and_eq_true, decide_eq_true_eq, if_true]
  omega
theorem ix_ge (p : Int) (lv : Nat) : -1 ≤ ix p lv ∧ ix p lv ≤ 7 := by
  unfold ix
  split <;> omega
theorem g1_in {L : Nat} {ln : Nat → Nat} {xw : Nat → Nat → Nat} {G I : Nat} {want : Bool} (h1 : G < L) (h2 : I < ln G) : g1 L ln xw (G : Int) (I : Int) want = match nx L want (xw G I) with | none => none | some _ => some (xw G I) := by
  unfold g1
  rw [Int.toNat_natCast, Int.toNat_natCast, if_pos ⟨by omega, by omega, by omega, by omega⟩]
theorem nx_good {n x : Nat} (h0 : x ≠ 0) (hk : dOk x = true) (want : Bool) : nx n want x = if dl x = want ∧ x / 256 % 64 < n then some (x / 256 % 64) else none := by
  unfold nx
  simp [h0, hk]
theorem leaf_f (p : Option Addr) (L cp : Nat) (ln : Nat → Nat) (xw : Nat → Nat → Nat) (root page : Int) (hr : WF root) (hp : WF page) (W : World) (h : Wl W p L ln xw) :
    Calls Try.prog 24 #[.slice p L cp, .int .i64 root, .int .i64 page] W (LfP W (lfr L ln xw page 2 root)) := by
  have u1 : Up W (W.alloc (.cells #[.bool false, .bool false, .bool false, .bool false, .int .i64 0] 59)) := Up.alloc W _ _
  have t0 : Ls W (W.alloc (.cells #[.bool false, .bool false, .bool false, .bool false, .int .i64 0] 59)) p L ln xw := ⟨u1, Bx5.made W (.bool false) (.bool false) (.bool false) (.bool false) (.int .i64 0), h.up u1⟩
  have hL := h.l70
  clear u1 h
  go_enter Try.func24, Try.ntmps24
  go_wp2
  go_loopw [8, 9] (fun f lv w' => Ls W w' p L ln xw ∧ ∃ (n : Nat) (g : Int), lv = .int .i64 (n : Int) ∧ f = .int .i64 g ∧ WF g ∧ 1 ≤ n ∧ n ≤ 3 ∧ lfr L ln xw page 2 root = lfr L ln xw page (3 - n) g) (fun _ lv _ => 4 - (intOf lv).toNat)
  case atStart => exact ⟨t0, 1, root, rfl, rfl, hr, by omega, by omega, rfl⟩
  case round =>
    clear t0
    obtain ⟨t, n, g, rfl, rfl, hg, hn1, hn3, hl⟩ := hrel
    rw [lfr_step _ _ _ _ n hn1 hn3] at hl
    obtain ⟨hi1, hi7⟩ := ix_ge page n
    have hI := fun W => ixV page n (by omega) W
    revert hl hi1 hi7 hI
    generalize ix page n = i
    intro hl hi1 hi7 hI
    have c0 := t.bx.c0
    have c1 := t.bx.c1
    have c2 := t.bx.c2
    have c3 := t.bx.c3
    have c4 := t.bx.c4
    have z0 := t.bx.z 0
    have z1 := t.bx.z 1
    have z2 := t.bx.z 2
    have z3 := t.bx.z 3
    have z4 := t.bx.z 4
    by_cases hin : 0 ≤ g ∧ g < L ∧ 0 ≤ i ∧ i < ln g.toNat
    · clear c0 c1 c2 c3 c4 z0 z1 z2 z3 z4
      obtain ⟨k1, k2, k3, k4⟩ := hin
      obtain ⟨G, rfl⟩ := Int.eq_ofNat_of_zero_le k1
      obtain ⟨I, rfl⟩ := Int.eq_ofNat_of_zero_le k3
      rw [Int.toNat_natCast] at k4
      obtain ⟨B, O, q, c, hpp, hrow, hq⟩ := t.wl.row G (by omega)
      have n20 := t.wl.n20 G (by omega)
      obtain ⟨b, o, hqq, hx1⟩ := hq I (by omega)
      subst hpp
      subst hqq
      clear hq
      rw [g1_in (by omega) (by omega)] at hl
      have hxw := t.wl.wf G I
      obtain ⟨x, hx⟩ : ∃ x, x = xw G I := ⟨_, rfl⟩
      rw [← hx] at hl hx1 hxw
      clear hx
      have hD := fun W => decP x hxw W
      clear hi1 hi7 k1 k3
      rcases dE_cases L x (n == 3) with ⟨l, r, y, F, hE, hxn, hF⟩ | ⟨hF, hE, hx0, hxo⟩
      · rw [hxn] at hl
        simp only at hl
        rcases hF with hF | hF
        · rw [hE, hF] at hD
          go_wp2_with (first | (go_at_call 39; refine (hI _).mono ?_; rintro e w' ⟨rfl, hw'⟩; rw [hw']; clear hw') | (go_at_call 40; refine (hD _).mono ?_; rintro e w3 ⟨rfl, hu3⟩; have t3 := t.to hu3; have t4 := t3.to (Up.alloc w3 #[.bool false, .bool l, .bool r, .bool y, .int .i64 F] 59); have D := Bx5.made w3 (.bool false) (.bool l) (.bool r) (.bool y) (.int .i64 F); have d0 := D.c0; have d1 := D.c1; have d2 := D.c2; have d3 := D.c3; have d4 := D.c4; clear D; have c0 := t4.bx.c0; have c1 := t4.bx.c1; have c2 := t4.bx.c2; have c3 := t4.bx.c3; have c4 := t4.bx.c4; have z0 := t4.bx.z 0; have z1 := t4.bx.z 1; have z2 := t4.bx.z 2; have z3 := t4.bx.z 3; have z4 := t4.bx.z 4; clear hx1 hrow))
          obtain ⟨g0, g1', g2, g3, g4, g5⟩ := t4.bx.set' t4.up (.bool false) (.bool false) (.bool false) (.bool false) (.int .i64 0)
          refine bodyPost_ret (res59 rfl _ _ W.heap.size _ _ _ _ _ rfl (by with_reducible exact g1') (by with_reducible exact g2) (by with_reducible exact g3) (by with_reducible exact g4) (by with_reducible exact g5)) rfl ?_
          exact ⟨_, _, rfl, by with_reducible exact g0, .inr ⟨hl, rfl, rfl⟩⟩
        · rw [hE, hF] at hD
          go_wp2_with (first | (go_at_call 39; refine (hI _).mono ?_; rintro e w' ⟨rfl, hw'⟩; rw [hw']; clear hw') | (go_at_call 40; refine (hD _).mono ?_; rintro e w3 ⟨rfl, hu3⟩; have t3 := t.to hu3; have t4 := t3.to (Up.alloc w3 #[.bool false, .bool l, .bool r, .bool y, .int .i64 F] 59); have D := Bx5.made w3 (.bool false) (.bool l) (.bool r) (.bool y) (.int .i64 F); have d0 := D.c0; have d1 := D.c1; have d2 := D.c2; have d3 := D.c3; have d4 := D.c4; clear D; have c0 := t4.bx.c0; have c1 := t4.bx.c1; have c2 := t4.bx.c2; have c3 := t4.bx.c3; have c4 := t4.bx.c4; have z0 := t4.bx.z 0; have z1 := t4.bx.z 1; have z2 := t4.bx.z 2; have z3 := t4.bx.z 3; have z4 := t4.bx.z 4; clear hx1 hrow))
          obtain ⟨g0, g1', g2, g3, g4, g5⟩ := t4.bx.set' t4.up (.bool false) (.bool false) (.bool false) (.bool false) (.int .i64 0)
          refine bodyPost_ret (res59 rfl _ _ W.heap.size _ _ _ _ _ rfl (by with_reducible exact g1') (by with_reducible exact g2) (by with_reducible exact g3) (by with_reducible exact g4) (by with_reducible exact g5)) rfl ?_
          exact ⟨_, _, rfl, by with_reducible exact g0, .inr ⟨hl, rfl, rfl⟩⟩
      · obtain ⟨F, hFF⟩ : ∃ F, F = x / 256 % 64 := ⟨_, rfl⟩
        have hF64 : F < 64 := by omega
        have hnx := nx_good (n := L) hx0 hxo
        rw [← hFF] at hnx
        have hE' := hE
        cases hdl : dl x
        all_goals
          (rw [hdl] at hE hE' hnx
           rw [← hFF] at hE hE'
           rw [hE, hF] at hD
           clear hE hF hdl hx0 hxo)
        · by_cases hlt : F < L
          · by_cases hn2 : n = 3
            · subst hn2
              rw [hnx (3 == 3), if_neg (by simp)] at hl
              simp only at hl
              clear hFF hE' hnx
              go_wp2_with (first | (go_at_call 39; refine (hI _).mono ?_; rintro e w' ⟨rfl, hw'⟩; rw [hw']; clear hw') | (go_at_call 40; refine (hD _).mono ?_; rintro e w3 ⟨rfl, hu3⟩; have t3 := t.to hu3; have t4 := t3.to (Up.alloc w3 #[.bool true, .bool false, .bool (dr x), .bool (dx x), .int .i64 (F : Int)] 59); have D := Bx5.made w3 (.bool true) (.bool false) (.bool (dr x)) (.bool (dx x)) (.int .i64 (F : Int)); have d0 := D.c0; have d1 := D.c1; have d2 := D.c2; have d3 := D.c3; have d4 := D.c4; clear D; have c0 := t4.bx.c0; have c1 := t4.bx.c1; have c2 := t4.bx.c2; have c3 := t4.bx.c3; have c4 := t4.bx.c4; have z0 := t4.bx.z 0; have z1 := t4.bx.z 1; have z2 := t4.bx.z 2; have z3 := t4.bx.z 3; have z4 := t4.bx.z 4; clear hx1 hrow))
              obtain ⟨g0, g1', g2, g3, g4, g5⟩ := t4.bx.set' t4.up (.bool false) (.bool false) (.bool false) (.bool false) (.int .i64 0)
              refine bodyPost_ret (res59 rfl _ _ W.heap.size _ _ _ _ _ rfl (by with_reducible exact g1') (by with_reducible exact g2) (by with_reducible exact g3) (by with_reducible exact g4) (by with_reducible exact g5)) rfl ?_
              exact ⟨_, _, rfl, by with_reducible exact g0, .inr ⟨hl, rfl, rfl⟩⟩
            · have hnn : n ≤ 2 := by omega
              have hn3b : ((n : Int) == 3) = false := by simp; omega
              have hne : (n == 3) = false := by simp; omega
              have hnx1 := hnx false
              rw [hne, hnx1, if_pos ⟨rfl, hlt⟩] at hl
              simp only [if_neg hn2] at hl
              rw [← hFF] at hl
              clear hFF hE' hnx hnx1 hne
              go_wp2_with (first | (go_at_call 39; refine (hI _).mono ?_; rintro e w' ⟨rfl, hw'⟩; rw [hw']; clear hw') | (go_at_call 40; refine (hD _).mono ?_; rintro e w3 ⟨rfl, hu3⟩; have t3 := t.to hu3; have t4 := t3.to (Up.alloc w3 #[.bool true, .bool false, .bool (dr x), .bool (dx x), .int .i64 (F : Int)] 59); have D := Bx5.made w3 (.bool true) (.bool false) (.bool (dr x)) (.bool (dx x)) (.int .i64 (F : Int)); have d0 := D.c0; have d1 := D.c1; have d2 := D.c2; have d3 := D.c3; have d4 := D.c4; clear D; have c0 := t4.bx.c0; have c1 := t4.bx.c1; have c2 := t4.bx.c2; have c3 := t4.bx.c3; have c4 := t4.bx.c4; have z0 := t4.bx.z 0; have z1 := t4.bx.z 1; have z2 := t4.bx.z 2; have z3 := t4.bx.z 3; have z4 := t4.bx.z 4; clear hx1 hrow))
              refine ⟨⟨t4, n + 1, F, by go_num, rfl, WF_of _ (by omega) (by omega), by omega, by omega, hl⟩, ?_⟩
              simp [intOf]; omega
          · have hle : (L : Int) ≤ (F : Int) := by omega
            rw [hnx, if_neg (fun hh => hlt hh.2)] at hl
            simp only at hl
            clear hFF hE' hnx
            by_cases hn2 : n = 3
            · subst hn2
              go_wp2_with (first | (go_at_call 39; refine (hI _).mono ?_; rintro e w' ⟨rfl, hw'⟩; rw [hw']; clear hw') | (go_at_call 40; refine (hD _).mono ?_; rintro e w3 ⟨rfl, hu3⟩; have t3 := t.to hu3; have t4 := t3.to (Up.alloc w3 #[.bool true, .bool false, .bool (dr x), .bool (dx x), .int .i64 (F : Int)] 59); have D := Bx5.made w3 (.bool true) (.bool false) (.bool (dr x)) (.bool (dx x)) (.int .i64 (F : Int)); have d0 := D.c0; have d1 := D.c1; have d2 := D.c2; have d3 := D.c3; have d4 := D.c4; clear D; have c0 := t4.bx.c0; have c1 := t4.bx.c1; have c2 := t4.bx.c2; have c3 := t4.bx.c3; have c4 := t4.bx.c4; have z0 := t4.bx.z 0; have z1 := t4.bx.z 1; have z2 := t4.bx.z 2; have z3 := t4.bx.z 3; have z4 := t4.bx.z 4; clear hx1 hrow))
              obtain ⟨g0, g1', g2, g3, g4, g5⟩ := t4.bx.set' t4.up (.bool false) (.bool false) (.bool false) (.bool false) (.int .i64 0)
              refine bodyPost_ret (res59 rfl _ _ W.heap.size _ _ _ _ _ rfl (by with_reducible exact g1') (by with_reducible exact g2) (by with_reducible exact g3) (by with_reducible exact g4) (by with_reducible exact g5)) rfl ?_
              exact ⟨_, _, rfl, by with_reducible exact g0, .inr ⟨hl, rfl, rfl⟩⟩
            · have hnn : n ≤ 2 := by omega
              have hn3b : ((n : Int) == 3) = false := by simp; omega
              go_wp2_with (first | (go_at_call 39; refine (hI _).mono ?_; rintro e w' ⟨rfl, hw'⟩; rw [hw']; clear hw') | (go_at_call 40; refine (hD _).mono ?_; rintro e w3 ⟨rfl, hu3⟩; have t3 := t.to hu3; have t4 := t3.to (Up.alloc w3 #[.bool true, .bool false, .bool (dr x), .bool (dx x), .int .i64 (F : Int)] 59); have D := Bx5.made w3 (.bool true) (.bool false) (.bool (dr x)) (.bool (dx x)) (.int .i64 (F : Int)); have d0 := D.c0; have d1 := D.c1; have d2 := D.c2; have d3 := D.c3; have d4 := D.c4; clear D; have c0 := t4.bx.c0; have c1 := t4.bx.c1; have c2 := t4.bx.c2; have c3 := t4.bx.c3; have c4 := t4.bx.c4; have z0 := t4.bx.z 0; have z1 := t4.bx.z 1; have z2 := t4.bx.z 2; have z3 := t4.bx.z 3; have z4 := t4.bx.z 4; clear hx1 hrow))
              obtain ⟨g0, g1', g2, g3, g4, g5⟩ := t4.bx.set' t4.up (.bool false) (.bool false) (.bool false) (.bool false) (.int .i64 0)
              refine bodyPost_ret (res59 rfl _ _ W.heap.size _ _ _ _ _ rfl (by with_reducible exact g1') (by with_reducible exact g2) (by with_reducible exact g3) (by with_reducible exact g4) (by with_reducible exact g5)) rfl ?_
              exact ⟨_, _, rfl, by with_reducible exact g0, .inr ⟨hl, rfl, rfl⟩⟩
        · by_cases hlt : F < L
          · by_cases hn2 : n = 3
            · subst hn2
              rw [hnx (3 == 3), if_pos ⟨by simp, hlt⟩] at hl
              simp only at hl
              clear hFF hnx
              go_wp2_with (first | (go_at_call 39; refine (hI _).mono ?_; rintro e w' ⟨rfl, hw'⟩; rw [hw']; clear hw') | (go_at_call 40; refine (hD _).mono ?_; rintro e w3 ⟨rfl, hu3⟩; have t3 := t.to hu3; have t4 := t3.to (Up.alloc w3 #[.bool true, .bool true, .bool (dr x), .bool (dx x), .int .i64 (F : Int)] 59); have D := Bx5.made w3 (.bool true) (.bool true) (.bool (dr x)) (.bool (dx x)) (.int .i64 (F : Int)); have d0 := D.c0; have d1 := D.c1; have d2 := D.c2; have d3 := D.c3; have d4 := D.c4; clear D; have c0 := t4.bx.c0; have c1 := t4.bx.c1; have c2 := t4.bx.c2; have c3 := t4.bx.c3; have c4 := t4.bx.c4; have z0 := t4.bx.z 0; have z1 := t4.bx.z 1; have z2 := t4.bx.z 2; have z3 := t4.bx.z 3; have z4 := t4.bx.z 4; clear hx1 hrow))
              obtain ⟨g0, g1', g2, g3, g4, g5⟩ := t4.bx.set' t4.up (.bool true) (.bool true) (.bool (dr x)) (.bool (dx x)) (.int .i64 (F : Int))
              refine bodyPost_ret (res59 rfl _ _ W.heap.size _ _ _ _ _ rfl (by with_reducible exact g1') (by with_reducible exact g2) (by with_reducible exact g3) (by with_reducible exact g4) (by with_reducible exact g5)) rfl ?_
              exact ⟨_, _, rfl, by with_reducible exact g0, .inl ⟨x, hl, rfl, hE'.symm⟩⟩
            · have hnn : n ≤ 2 := by omega
              have hn3b : ((n : Int) == 3) = false := by simp; omega
              have hne : (n == 3) = false := by simp; omega
              have hnx1 := hnx false
              rw [hne, hnx1, if_neg (by simp)] at hl
              simp only at hl
              clear hFF hE' hnx hnx1 hne
              go_wp2_with (first | (go_at_call 39; refine (hI _).mono ?_; rintro e w' ⟨rfl, hw'⟩; rw [hw']; clear hw') | (go_at_call 40; refine (hD _).mono ?_; rintro e w3 ⟨rfl, hu3⟩; have t3 := t.to hu3; have t4 := t3.to (Up.alloc w3 #[.bool true, .bool true, .bool (dr x), .bool (dx x), .int .i64 (F : Int)] 59); have D := Bx5.made w3 (.bool true) (.bool true) (.bool (dr x)) (.bool (dx x)) (.int .i64 (F : Int)); have d0 := D.c0; have d1 := D.c1; have d2 := D.c2; have d3 := D.c3; have d4 := D.c4; clear D; have c0 := t4.bx.c0; have c1 := t4.bx.c1; have c2 := t4.bx.c2; have c3 := t4.bx.c3; have c4 := t4.bx.c4; have z0 := t4.bx.z 0; have z1 := t4.bx.z 1; have z2 := t4.bx.z 2; have z3 := t4.bx.z 3; have z4 := t4.bx.z 4; clear hx1 hrow))
              obtain ⟨g0, g1', g2, g3, g4, g5⟩ := t4.bx.set' t4.up (.bool false) (.bool false) (.bool false) (.bool false) (.int .i64 0)
              refine bodyPost_ret (res59 rfl _ _ W.heap.size _ _ _ _ _ rfl (by with_reducible exact g1') (by with_reducible exact g2) (by with_reducible exact g3) (by with_reducible exact g4) (by with_reducible exact g5)) rfl ?_
              exact ⟨_, _, rfl, by with_reducible exact g0, .inr ⟨hl, rfl, rfl⟩⟩
          · have hle : (L : Int) ≤ (F : Int) := by omega
            rw [hnx, if_neg (fun hh => hlt hh.2)] at hl
            simp only at hl
            clear hFF hE' hnx
            by_cases hn2 : n = 3
            · subst hn2
              go_wp2_with (first | (go_at_call 39; refine (hI _).mono ?_; rintro e w' ⟨rfl, hw'⟩; rw [hw']; clear hw') | (go_at_call 40; refine (hD _).mono ?_; rintro e w3 ⟨rfl, hu3⟩; have t3 := t.to hu3; have t4 := t3.to (Up.alloc w3 #[.bool true, .bool true, .bool (dr x), .bool (dx x), .int .i64 (F : Int)] 59); have D := Bx5.made w3 (.bool true) (.bool true) (.bool (dr x)) (.bool (dx x)) (.int .i64 (F : Int)); have d0 := D.c0; have d1 := D.c1; have d2 := D.c2; have d3 := D.c3; have d4 := D.c4; clear D; have c0 := t4.bx.c0; have c1 := t4.bx.c1; have c2 := t4.bx.c2; have c3 := t4.bx.c3; have c4 := t4.bx.c4; have z0 := t4.bx.z 0; have z1 := t4.bx.z 1; have z2 := t4.bx.z 2; have z3 := t4.bx.z 3; have z4 := t4.bx.z 4; clear hx1 hrow))
              obtain ⟨g0, g1', g2, g3, g4, g5⟩ := t4.bx.set' t4.up (.bool false) (.bool false) (.bool false) (.bool false) (.int .i64 0)
              refine bodyPost_ret (res59 rfl _ _ W.heap.size _ _ _ _ _ rfl (by with_reducible exact g1') (by with_reducible exact g2) (by with_reducible exact g3) (by with_reducible exact g4) (by with_reducible exact g5)) rfl ?_
              exact ⟨_, _, rfl, by with_reducible exact g0, .inr ⟨hl, rfl, rfl⟩⟩
            · have hnn : n ≤ 2 := by omega
              have hn3b : ((n : Int) == 3) = false := by simp; omega
              go_wp2_with (first | (go_at_call 39; refine (hI _).mono ?_; rintro e w' ⟨rfl, hw'⟩; rw [hw']; clear hw') | (go_at_call 40; refine (hD _).mono ?_; rintro e w3 ⟨rfl, hu3⟩; have t3 := t.to hu3; have t4 := t3.to (Up.alloc w3 #[.bool true, .bool true, .bool (dr x), .bool (dx x), .int .i64 (F : Int)] 59); have D := Bx5.made w3 (.bool true) (.bool true) (.bool (dr x)) (.bool (dx x)) (.int .i64 (F : Int)); have d0 := D.c0; have d1 := D.c1; have d2 := D.c2; have d3 := D.c3; have d4 := D.c4; clear D; have c0 := t4.bx.c0; have c1 := t4.bx.c1; have c2 := t4.bx.c2; have c3 := t4.bx.c3; have c4 := t4.bx.c4; have z0 := t4.bx.z 0; have z1 := t4.bx.z 1; have z2 := t4.bx.z 2; have z3 := t4.bx.z 3; have z4 := t4.bx.z 4; clear hx1 hrow))
              obtain ⟨g0, g1', g2, g3, g4, g5⟩ := t4.bx.set' t4.up (.bool false) (.bool false) (.bool false) (.bool false) (.int .i64 0)
              refine bodyPost_ret (res59 rfl _ _ W.heap.size _ _ _ _ _ rfl (by with_reducible exact g1') (by with_reducible exact g2) (by with_reducible exact g3) (by with_reducible exact g4) (by with_reducible exact g5)) rfl ?_
              exact ⟨_, _, rfl, by with_reducible exact g0, .inr ⟨hl, rfl, rfl⟩⟩
    · rw [g1_out hin] at hl
      simp only at hl
      by_cases k1 : 0 ≤ g
      · by_cases k2 : g < L
        · obtain ⟨G, rfl⟩ := Int.eq_ofNat_of_zero_le k1
          obtain ⟨B, O, q, c, hpp, hrow, _⟩ := t.wl.row G (by omega)
          subst hpp
          have n20 := t.wl.n20 G (by omega)
          rw [Int.toNat_natCast] at hin
          by_cases k3 : 0 ≤ i
          · have k4 : (ln G : Int) ≤ i := by omega
            clear hin
            go_wp2_with (first | (go_at_call 39; refine (hI _).mono ?_; rintro e w' ⟨rfl, hw'⟩; rw [hw']; clear hw'))
            obtain ⟨g0, g1', g2, g3, g4, g5⟩ := t.bx.set' t.up (.bool false) (.bool false) (.bool false) (.bool false) (.int .i64 0)
            refine bodyPost_ret (res59 rfl _ _ W.heap.size _ _ _ _ _ rfl (by with_reducible exact g1') (by with_reducible exact g2) (by with_reducible exact g3) (by with_reducible exact g4) (by with_reducible exact g5)) rfl ?_
            exact ⟨_, _, rfl, by with_reducible exact g0, .inr ⟨hl, rfl, rfl⟩⟩
          · have k4 : i < 0 := by omega
            clear hin
            go_wp2_with (first | (go_at_call 39; refine (hI _).mono ?_; rintro e w' ⟨rfl, hw'⟩; rw [hw']; clear hw'))
            obtain ⟨g0, g1', g2, g3, g4, g5⟩ := t.bx.set' t.up (.bool false) (.bool false) (.bool false) (.bool false) (.int .i64 0)
            refine bodyPost_ret (res59 rfl _ _ W.heap.size _ _ _ _ _ rfl (by with_reducible exact g1') (by with_reducible exact g2) (by with_reducible exact g3) (by with_reducible exact g4) (by with_reducible exact g5)) rfl ?_
            exact ⟨_, _, rfl, by with_reducible exact g0, .inr ⟨hl, rfl, rfl⟩⟩
        · have k4 : (L : Int) ≤ g := by omega
          clear hin
          go_wp2_with (first | (go_at_call 39; refine (hI _).mono ?_; rintro e w' ⟨rfl, hw'⟩; rw [hw']; clear hw'))
          obtain ⟨g0, g1', g2, g3, g4, g5⟩ := t.bx.set' t.up (.bool false) (.bool false) (.bool false) (.bool false) (.int .i64 0)
          refine bodyPost_ret (res59 rfl _ _ W.heap.size _ _ _ _ _ rfl (by with_reducible exact g1') (by with_reducible exact g2) (by with_reducible exact g3) (by with_reducible exact g4) (by with_reducible exact g5)) rfl ?_
          exact ⟨_, _, rfl, by with_reducible exact g0, .inr ⟨hl, rfl, rfl⟩⟩
      · have k4 : g < 0 := by omega
        clear hin
        go_wp2_with (first | (go_at_call 39; refine (hI _).mono ?_; rintro e w' ⟨rfl, hw'⟩; rw [hw']; clear hw'))
        obtain ⟨g0, g1', g2, g3, g4, g5⟩ := t.bx.set' t.up (.bool false) (.bool false) (.bool false) (.bool false) (.int .i64 0)
        refine bodyPost_ret (res59 rfl _ _ W.heap.size _ _ _ _ _ rfl (by with_reducible exact g1') (by with_reducible exact g2) (by with_reducible exact g3) (by with_reducible exact g4) (by with_reducible exact g5)) rfl ?_
        exact ⟨_, _, rfl, by with_reducible exact g0, .inr ⟨hl, rfl, rfl⟩⟩
end Go.Proofs.AO
