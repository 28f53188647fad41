/- ref5.At, ref5.Walk. No conditions beside those in its theorems. -/
import Derived.Test.YtgmdginjikhamaaSF
set_option linter.unusedSimpArgs false
namespace Go.Proofs.AO
open Go.RowKit Go.Maps Go.Shelf Go.Sort
set_option linter.unusedVariables false
set_option linter.unusedSimpArgs false
set_option maxRecDepth 100000
set_option maxHeartbeats 2000000
theorem wk2_out {n : Nat} {wd : Nat → Nat} {root page : Int} (h : ¬ (0 ≤ root ∧ root < n ∧ 0 ≤ page ∧ page < 512)) : wk2 n wd root page = none := if_neg h
theorem at_out (M B n cp : Nat) (wd : Nat → Nat) (root page : Int) (hr : WF root) (hp : WF page) (W : World) (h : Me W M B n cp wd) (hin : ¬ (0 ≤ root ∧ root < n ∧ 0 ≤ page ∧ page < 512)) :
    Calls Try.prog 65 #[.pointer (some ⟨M, 0, none⟩), .int .i64 root, .int .i64 page, .int .i64 3] W (AtP W n wd root page) := by
  have hM := h.row
  have hn := h.n64
  have hwk := wk2_out (wd := wd) hin
  have fin : ∀ e w', e = .returned (.tuple #[.int .u64 0, .int .i64 3]) → Up W w' → AtP W n wd root page e w' := by
    rintro e w' rfl hu
    exact ⟨_, _, rfl, hu, by rw [hwk]; simp⟩
  by_cases h1 : 0 ≤ root
  · by_cases h2 : root < n
    · by_cases h3 : 0 ≤ page
      · have h4 : 512 ≤ page := by omega
        clear hin hwk
        go_enter Try.func65, Try.ntmps65
        go_wp2_with (first | (go_at_call 67; refine (frames_f M B n cp wd _ h).mono ?_; rintro e w' ⟨rfl, hw⟩; rw [hw]; clear hw))
        refine bodyPost_ret (results_tmp2 rfl _ _ _) rfl ?_
        exact fin _ _ rfl (Up.refl _)
      · have h4 : page < 0 := by omega
        clear hin hwk
        go_enter Try.func65, Try.ntmps65
        go_wp2_with (first | (go_at_call 67; refine (frames_f M B n cp wd _ h).mono ?_; rintro e w' ⟨rfl, hw⟩; rw [hw]; clear hw))
        refine bodyPost_ret (results_tmp2 rfl _ _ _) rfl ?_
        exact fin _ _ rfl (Up.refl _)
    · have h4 : (n : Int) ≤ root := by omega
      clear hin hwk
      go_enter Try.func65, Try.ntmps65
      go_wp2_with (first | (go_at_call 67; refine (frames_f M B n cp wd _ h).mono ?_; rintro e w' ⟨rfl, hw⟩; rw [hw]; clear hw))
      refine bodyPost_ret (results_tmp2 rfl _ _ _) rfl ?_
      exact fin _ _ rfl (Up.refl _)
  · have h4 : root < 0 := by omega
    clear hin hwk
    go_enter Try.func65, Try.ntmps65
    go_wp2_with (first | (go_at_call 67; refine (frames_f M B n cp wd _ h).mono ?_; rintro e w' ⟨rfl, hw⟩; rw [hw]; clear hw))
    refine bodyPost_ret (results_tmp2 rfl _ _ _) rfl ?_
    exact fin _ _ rfl (Up.refl _)
theorem at_f (M B n cp : Nat) (wd : Nat → Nat) (root page : Int) (hr : WF root) (hp : WF page) (W : World) (h : Me W M B n cp wd) :
    Calls Try.prog 65 #[.pointer (some ⟨M, 0, none⟩), .int .i64 root, .int .i64 page, .int .i64 3] W (AtP W n wd root page) := by
  by_cases hin : 0 ≤ root ∧ root < n ∧ 0 ≤ page ∧ page < 512
  · exact at_in M B n cp wd root page hr hp W h hin
  · exact at_out M B n cp wd root page hr hp W h hin
end Go.Proofs.AO
namespace Go.Proofs.AO
open Go.RowKit Go.Maps Go.Shelf Go.Sort
set_option linter.unusedVariables false
set_option linter.unusedSimpArgs false
set_option maxRecDepth 100000
set_option maxHeartbeats 2000000
theorem wk_of (n : Nat) (wd : Nat → Nat) (root page : Int) : wk n wd root page = match wk2 n wd root page with | none => none | some f2 => match nx n true (wd (8 * f2 + (ix page 3).toNat)) with | none => none | some _ => some (wd (8 * f2 + (ix page 3).toNat)) := by
  unfold wk wk2
  by_cases hin : 0 ≤ root ∧ root < n ∧ 0 ≤ page ∧ page < 512
  · simp only [if_pos hin]
    cases nx n false (wd (8 * root.toNat + (ix page 1).toNat)) with
    | none => rfl
    | some f1 => rfl
  · simp only [if_neg hin]
def WkP (W : World) (n : Nat) (wd : Nat → Nat) (root page : Int) (e : Ending) (w' : World) : Prop :=
  ∃ (v : Value) (g : Int), e = .returned (.tuple #[v, .int .i64 g]) ∧ Up W w' ∧ ((∃ x, wk n wd root page = some x ∧ g = 0 ∧ v = dE x) ∨ (wk n wd root page = none ∧ g ≠ 0 ∧ v = En false false false false 0))
theorem walk_f (M B n cp : Nat) (wd : Nat → Nat) (root page : Int) (hr : WF root) (hp : WF page) (W : World) (h : Me W M B n cp wd) :
    Calls Try.prog 41 #[.pointer (some ⟨M, 0, none⟩), .int .i64 root, .int .i64 page] W (WkP W n wd root page) := by
  have u1 : Up W (W.alloc (.cells #[.bool false, .bool false, .bool false, .bool false, .int .i64 0] 59)) := Up.alloc W _ _
  have B1 := Bx5.made W (.bool false) (.bool false) (.bool false) (.bool false) (.int .i64 0)
  have hA := at_f M B n cp wd root page hr hp _ (h.up u1)
  have hwk := wk_of n wd root page
  cases h2 : wk2 n wd root page with
  | none =>
    rw [h2] at hwk
    go_enter Try.func41, Try.ntmps41
    go_wp2_with (first | (go_at_call 65; refine hA.mono ?_; rintro e w' ⟨v, g, rfl, hu, hv⟩; rw [h2] at hv; have hg : g ≠ 0 := hv; have B2 := B1.up hu; have c0 := B2.c0; have c1 := B2.c1; have c2 := B2.c2; have c3 := B2.c3; have c4 := B2.c4; have z0 := B2.z 0; have z1 := B2.z 1; have z2 := B2.z 2; have z3 := B2.z 3; have z4 := B2.z 4))
    obtain ⟨g0, g1, g2, g3, g4, g5⟩ := B2.set' (u1.trans hu) (.bool false) (.bool false) (.bool false) (.bool false) (.int .i64 0)
    refine bodyPost_ret (res59 rfl _ _ W.heap.size _ _ _ _ _ rfl (by with_reducible exact g1) (by with_reducible exact g2) (by with_reducible exact g3) (by with_reducible exact g4) (by with_reducible exact g5)) rfl ?_
    exact ⟨_, _, rfl, by with_reducible exact g0, .inr ⟨hwk, hg, rfl⟩⟩
  | some f2 =>
    rw [h2] at hwk
    have b2 := wk2_some h2
    obtain ⟨i1, i2, i3, i4⟩ : 0 ≤ root ∧ root < n ∧ 0 ≤ page ∧ page < 512 := by
      refine Classical.byContradiction fun hh => ?_
      rw [wk2_out hh] at h2
      cases h2
    obtain ⟨y1, y2⟩ := ix_in page 3 ⟨i3, i4⟩
    obtain ⟨J, hJ⟩ : ∃ J, J = 8 * f2 + (ix page 3).toNat := ⟨_, rfl⟩
    simp only [← hJ] at hwk
    have hJ2 : 64 * (f2 : Int) + 8 * ix page 3 = 8 * (J : Int) := by omega
    have hJ3 : J < 8 * n := by omega
    have hn := h.n64
    have hdw := h.wf J
    obtain ⟨x, hx⟩ : ∃ x, x = wd J := ⟨_, rfl⟩
    rw [← hx] at hwk hdw
    have hD := fun W => decR (x : Int) (by omega) (by omega) W
    have hmx : ∀ w, Up W w → w.cell? ⟨B, J, none⟩ = some (.int .u64 (x : Int)) := fun w u => by rw [hx]; exact (h.up u).at_ J hJ3
    clear i1 i2 i3 i4 y1 y2 hr hp hJ hx b2
    have hf := fun (w : World) (hu : Up W w) j => frames_f M B n cp wd (w.drewN j) ((h.up hu).up (Up.drewN w j))
    rcases dE_cases n x true with ⟨l, r, y, g, hE, hxn, hF⟩ | ⟨hF, hE, hx0, hxo⟩
    · rw [hxn] at hwk
      simp only at hwk
      rcases hF with hF | hF
      all_goals
        (rw [hE, hF] at hD
         go_enter Try.func41, Try.ntmps41
         go_wp2_with (first
           | (go_at_call 65; refine hA.mono ?_; rintro e w' ⟨v, g, rfl, hu, hv⟩; rw [h2] at hv; obtain ⟨rfl, hv⟩ : g = 0 ∧ _ := hv; rw [hJ2] at hv; subst hv; have u2 := u1.trans hu; have m1 := (h.up u2).row; have m2 := hmx _ u2; clear hJ2)
           | (go_at_call 66; refine (hD _).mono ?_; rintro e w3 ⟨rfl, hu3⟩; have u3 := u2.trans hu3; have D := (Bx5.made w3 (.bool false) (.bool l) (.bool r) (.bool y) (.int .i64 g)).low u3.size; have u4 := u3.trans (Up.alloc w3 #[.bool false, .bool l, .bool r, .bool y, .int .i64 g] 59); have B2 := ((B1.up hu).up hu3).up (Up.alloc w3 #[.bool false, .bool l, .bool r, .bool y, .int .i64 g] 59); have hf := hf _ u4; have d0 := D.c0; have d1 := D.c1; have d2 := D.c2; have d3 := D.c3; have d4 := D.c4; clear m1 m2))
         go_quiet ((go_at_call 67; exact Calls.quiet_of_same (hf _)))
         have B3 := B2.up (Up.drewN _ nq)
         have u5 := u4.trans (Up.drewN _ nq)
         have c0 := B3.c0
         have c1 := B3.c1
         have c2 := B3.c2
         have c3 := B3.c3
         have c4 := B3.c4
         have z0 := B3.z 0
         have z1 := B3.z 1
         have z2 := B3.z 2
         have z3 := B3.z 3
         have z4 := B3.z 4
         go_wp2
         obtain ⟨g0, g1, g2, g3, g4, g5⟩ := B3.set' u5 (.bool false) (.bool false) (.bool false) (.bool false) (.int .i64 0)
         refine bodyPost_ret (res59 rfl _ _ W.heap.size _ _ _ _ _ rfl (by with_reducible exact g1) (by with_reducible exact g2) (by with_reducible exact g3) (by with_reducible exact g4) (by with_reducible exact g5)) rfl ?_
         exact ⟨_, _, rfl, by with_reducible exact g0, .inr ⟨hwk, by decide, rfl⟩⟩)
    · obtain ⟨F, hFF⟩ : ∃ F, F = x / 256 % 64 := ⟨_, rfl⟩
      have hE' := hE
      cases hdl : dl x
      · have hxn : nx n true x = none := by unfold nx; exact if_neg (fun hh => by rw [hdl] at hh; exact absurd hh.2.2.1 (by decide))
        rw [hxn] at hwk
        simp only at hwk
        rw [hdl, ← hFF] at hE
        have hF0 : dF x = 0 := hF
        clear hFF hE'
        (rw [hE, hF] at hD
         go_enter Try.func41, Try.ntmps41
         go_wp2_with (first
           | (go_at_call 65; refine hA.mono ?_; rintro e w' ⟨v, g, rfl, hu, hv⟩; rw [h2] at hv; obtain ⟨rfl, hv⟩ : g = 0 ∧ _ := hv; rw [hJ2] at hv; subst hv; have u2 := u1.trans hu; have m1 := (h.up u2).row; have m2 := hmx _ u2; clear hJ2)
           | (go_at_call 66; refine (hD _).mono ?_; rintro e w3 ⟨rfl, hu3⟩; have u3 := u2.trans hu3; have D := (Bx5.made w3 (.bool true) (.bool false) (.bool (dr x)) (.bool (dx x)) (.int .i64 ((F : Nat) : Int))).low u3.size; have u4 := u3.trans (Up.alloc w3 #[.bool true, .bool false, .bool (dr x), .bool (dx x), .int .i64 ((F : Nat) : Int)] 59); have B2 := ((B1.up hu).up hu3).up (Up.alloc w3 #[.bool true, .bool false, .bool (dr x), .bool (dx x), .int .i64 ((F : Nat) : Int)] 59); have hf := hf _ u4; have d0 := D.c0; have d1 := D.c1; have d2 := D.c2; have d3 := D.c3; have d4 := D.c4; clear m1 m2))
         go_quiet ((go_at_call 67; exact Calls.quiet_of_same (hf _)))
         have B3 := B2.up (Up.drewN _ nq)
         have u5 := u4.trans (Up.drewN _ nq)
         have c0 := B3.c0
         have c1 := B3.c1
         have c2 := B3.c2
         have c3 := B3.c3
         have c4 := B3.c4
         have z0 := B3.z 0
         have z1 := B3.z 1
         have z2 := B3.z 2
         have z3 := B3.z 3
         have z4 := B3.z 4
         go_wp2
         obtain ⟨g0, g1, g2, g3, g4, g5⟩ := B3.set' u5 (.bool false) (.bool false) (.bool false) (.bool false) (.int .i64 0)
         refine bodyPost_ret (res59 rfl _ _ W.heap.size _ _ _ _ _ rfl (by with_reducible exact g1) (by with_reducible exact g2) (by with_reducible exact g3) (by with_reducible exact g4) (by with_reducible exact g5)) rfl ?_
         exact ⟨_, _, rfl, by with_reducible exact g0, .inr ⟨hwk, by decide, rfl⟩⟩)
      · by_cases hlt : F < n
        · have hxn : nx n true x = some F := by rw [hFF]; rw [hFF] at hlt; exact if_pos ⟨hx0, hxo, hdl, hlt⟩
          rw [hxn] at hwk
          simp only at hwk
          rw [hdl, ← hFF] at hE hE'
          have dlt : decide ((n : Int) ≤ (F : Int)) = false := decide_eq_false (by omega)
          clear hFF
          (rw [hE, hF] at hD
           go_enter Try.func41, Try.ntmps41
           go_wp2_with (first
             | (go_at_call 65; refine hA.mono ?_; rintro e w' ⟨v, g, rfl, hu, hv⟩; rw [h2] at hv; obtain ⟨rfl, hv⟩ : g = 0 ∧ _ := hv; rw [hJ2] at hv; subst hv; have u2 := u1.trans hu; have m1 := (h.up u2).row; have m2 := hmx _ u2; clear hJ2)
             | (go_at_call 66; refine (hD _).mono ?_; rintro e w3 ⟨rfl, hu3⟩; have u3 := u2.trans hu3; have D := (Bx5.made w3 (.bool true) (.bool true) (.bool (dr x)) (.bool (dx x)) (.int .i64 ((F : Nat) : Int))).low u3.size; have u4 := u3.trans (Up.alloc w3 #[.bool true, .bool true, .bool (dr x), .bool (dx x), .int .i64 ((F : Nat) : Int)] 59); have B2 := ((B1.up hu).up hu3).up (Up.alloc w3 #[.bool true, .bool true, .bool (dr x), .bool (dx x), .int .i64 ((F : Nat) : Int)] 59); have hf := hf _ u4; have d0 := D.c0; have d1 := D.c1; have d2 := D.c2; have d3 := D.c3; have d4 := D.c4; clear m1 m2))
           go_quiet ((go_at_call 67; exact Calls.quiet_of_same (hf _)))
           have B3 := B2.up (Up.drewN _ nq)
           have u5 := u4.trans (Up.drewN _ nq)
           have c0 := B3.c0
           have c1 := B3.c1
           have c2 := B3.c2
           have c3 := B3.c3
           have c4 := B3.c4
           have z0 := B3.z 0
           have z1 := B3.z 1
           have z2 := B3.z 2
           have z3 := B3.z 3
           have z4 := B3.z 4
           go_wp2
           obtain ⟨g0, g1, g2, g3, g4, g5⟩ := B3.set' u5 (.bool true) (.bool true) (.bool (dr x)) (.bool (dx x)) (.int .i64 ((F : Nat) : Int))
           refine bodyPost_ret (res59 rfl _ _ W.heap.size _ _ _ _ _ rfl (by with_reducible exact g1) (by with_reducible exact g2) (by with_reducible exact g3) (by with_reducible exact g4) (by with_reducible exact g5)) rfl ?_
           exact ⟨_, _, rfl, by with_reducible exact g0, .inl ⟨x, hwk, rfl, hE'.symm⟩⟩)
        · have hxn : nx n true x = none := by unfold nx; exact if_neg (fun hh => hlt (by rw [hFF]; exact hh.2.2.2))
          rw [hxn] at hwk
          simp only at hwk
          rw [hdl, ← hFF] at hE
          have dlt : decide ((n : Int) ≤ (F : Int)) = true := decide_eq_true (by omega)
          clear hFF
          (rw [hE, hF] at hD
           go_enter Try.func41, Try.ntmps41
           go_wp2_with (first
             | (go_at_call 65; refine hA.mono ?_; rintro e w' ⟨v, g, rfl, hu, hv⟩; rw [h2] at hv; obtain ⟨rfl, hv⟩ : g = 0 ∧ _ := hv; rw [hJ2] at hv; subst hv; have u2 := u1.trans hu; have m1 := (h.up u2).row; have m2 := hmx _ u2; clear hJ2)
             | (go_at_call 66; refine (hD _).mono ?_; rintro e w3 ⟨rfl, hu3⟩; have u3 := u2.trans hu3; have D := (Bx5.made w3 (.bool true) (.bool true) (.bool (dr x)) (.bool (dx x)) (.int .i64 ((F : Nat) : Int))).low u3.size; have u4 := u3.trans (Up.alloc w3 #[.bool true, .bool true, .bool (dr x), .bool (dx x), .int .i64 ((F : Nat) : Int)] 59); have B2 := ((B1.up hu).up hu3).up (Up.alloc w3 #[.bool true, .bool true, .bool (dr x), .bool (dx x), .int .i64 ((F : Nat) : Int)] 59); have hf := hf _ u4; have d0 := D.c0; have d1 := D.c1; have d2 := D.c2; have d3 := D.c3; have d4 := D.c4; clear m1 m2))
           go_quiet ((go_at_call 67; exact Calls.quiet_of_same (hf _)))
           have B3 := B2.up (Up.drewN _ nq)
           have u5 := u4.trans (Up.drewN _ nq)
           have c0 := B3.c0
           have c1 := B3.c1
           have c2 := B3.c2
           have c3 := B3.c3
           have c4 := B3.c4
           have z0 := B3.z 0
           have z1 := B3.z 1
           have z2 := B3.z 2
           have z3 := B3.z 3
           have z4 := B3.z 4
           go_wp2
           obtain ⟨g0, g1, g2, g3, g4, g5⟩ := B3.set' u5 (.bool false) (.bool false) (.bool false) (.bool false) (.int .i64 0)
           refine bodyPost_ret (res59 rfl _ _ W.heap.size _ _ _ _ _ rfl (by with_reducible exact g1) (by with_reducible exact g2) (by with_reducible exact g3) (by with_reducible exact g4) (by with_reducible exact g5)) rfl ?_
           exact ⟨_, _, rfl, by with_reducible exact g0, .inr ⟨hwk, by decide, rfl⟩⟩)
end Go.Proofs.AO
