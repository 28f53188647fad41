/- ref33.Stale. No conditions beside those in its theorems. -/
import Derived.Test.YtgmdginjikhamaaSO
set_option linter.unusedSimpArgs false
namespace Go.Proofs.AO
open Go.RowKit Go.Maps Go.Shelf Go.Sort
set_option linter.unusedVariables false
set_option linter.unusedSimpArgs false
set_option maxRecDepth 100000
set_option maxHeartbeats 4000000
/-- the words of a list of rows of eight, in one list -/
def flat (xw : Nat → Nat → Nat) (t : Nat) : Nat := xw (t / 8) (t % 8)
theorem q9_start {W1 w' : World} {mp : Value} {L : Nat} {ln : Nat → Nat} {xw : Nat → Nat → Nat} {g : Int} {b0 : Bool} (hu : Up W1 w')
    (hg : (g = 0 ∧ 1 ≤ L ∧ L ≤ 64 ∧ mp = .pointer (some ⟨W1.heap.size + 1, 0, none⟩) ∧ Mz W1 w' (W1.heap.size + 1) W1.heap.size L (fun _ => 0)) ∨ (g = 3 ∧ ¬ (1 ≤ L ∧ L ≤ 64))) (hb : (g == 0) = b0) : Q9 W1 mp L ln xw b0 0 w' := by
  rcases hg with ⟨rfl, h1, h2, h3, h4⟩ | ⟨rfl, h1⟩
  · subst hb
    exact ⟨hu, fun _ => ⟨_, h1, h2, h3, h4, fun i hi => by omega⟩, fun h => by cases h⟩
  · subst hb
    exact ⟨hu, fun h => (by cases h), fun _ => decide_eq_false (fun hh => h1 ⟨hh.1, hh.2.1⟩)⟩
theorem size57 : (Try.prog.info? 57).map (·.size) = some 5 := by kernel_rfl
theorem stale_r (A : Array Value) (ao : Option Addr) (no co : Nat) (zo : Nat → Nat → Int) (PA : Array Value) (pc : Nat → Array Value) (ro : Nat → Nat → Int) (p : Option Addr) (L cw : Nat) (ln : Nat → Nat) (xw : Nat → Nat → Nat) (a : Option Addr) (n cc : Nat) (sp pg fr : Nat → Int) (rd wt : Nat → Bool) (W : World) (hv : Vq W A ao no co zo PA pc ro)
    (hrc : ∀ k, k < 8 → ∀ j, j < 4 → A[4 + k * 10 + 2 + j]? = some (.int .i64 (ro k j)))
    (hw : Wl W p L ln xw) (hT : Tr W a n sp pg fr rd wt) :
    Calls Try.prog 9 #[.agg A, .slice p L cw, .slice a n cc] W fun e w' => ∃ v, e = .returned v ∧ Up W w' ∧ OI w' (W.heap.size + 1) v (told (fun i => !(whole L ln) || stl L (flat xw) zo (sr no zo ro (sp i) 32) (pg i) (fr i) (rd i) (wt i)) n) := by
  have hn := hT.n40
  have hL := hw.l70
  have hsz32 : (Try.prog.info? 32).map (·.size) = some A.size := by rw [size32, hv.big.1]
  have u1 := Up.alloc W A 32
  have hbox := heap_alloc_last W (.cells A 32)
  obtain ⟨W1, hW1⟩ : ∃ W1, W1 = W.alloc (.cells A 32) := ⟨_, rfl⟩
  have s1 : Hid (W1.heap.size = W.heap.size + 1) := by show W1.heap.size = _; rw [hW1]; exact size_alloc _ _
  obtain ⟨wh, hwh⟩ : ∃ wh, whole L ln = wh := ⟨_, rfl⟩
  simp only [hwh]
  go_enter Try.func9, Try.ntmps9
  go_wp2_with (first | (go_at_call 26; rw [← hW1] at u1 hbox ⊢; clear hW1; refine (new_g L W1).mono ?_; rintro e w' ⟨mp, g, rfl, hu, hg⟩; obtain ⟨b0, hb0⟩ : ∃ b0, (g == 0) = b0 := ⟨_, rfl⟩; have q0 : Q9 W1 mp L ln xw b0 0 w' := q9_start hu hg hb0; clear hg))
  rename_i K1 hK1
  have tail : ∀ (ac : Act) (w' : World), (∃ b, ac.tmps.size = 87 ∧ ac.defers = [] ∧ ac.eval (.tmp 2) = .slice a n cc ∧ ac.eval (.tmp 3) = .pointer (some ⟨W.heap.size, 0, none⟩) ∧ ac.eval (.tmp 7) = mp ∧ ac.eval (.tmp 9) = .bool b ∧ b = wh ∧ Q9 W1 mp L ln xw b L w') → K1 ac w' := by
    clear q0 hb0
    rintro ac W2 ⟨b, hsz, hdf, f2, f3, f7, f9, hbw, q⟩
    refine hK1 ac W2 ?_
    clear hK1
    subst hbw
    have uq := u1.trans q.up
    have hme : b = true → Me W2 (W1.heap.size + 1) W1.heap.size L (8 * L) (flat xw) := fun hb => by
      obtain ⟨wd, _, _, _, mz, h5⟩ := q.good hb
      refine ⟨mz.me.n64, mz.me.row, fun j hj => ?_, fun j => hw.wf _ _⟩
      have h6 := (h5 (j / 8) (by omega)).2 (j % 8) (Nat.mod_lt _ (by decide))
      rw [show 8 * (j / 8) + j % 8 = j by omega] at h6
      unfold flat
      rw [← h6]
      exact mz.me.at_ j hj
    have hmp : b = true → mp = .pointer (some ⟨W1.heap.size + 1, 0, none⟩) := fun hb => by
      obtain ⟨wd, _, _, h3, _, _⟩ := q.good hb
      exact h3
    have hbx := q.up.heap hbox
    have hb2 : W.heap.size + 1 ≤ W2.heap.size := by
      have h1 : W1.heap.size = W.heap.size + 1 := s1
      have := q.up.size
      omega
    have hv := hv.up uq
    have hT := hT.up uq
    clear q s1 hw hbox
    obtain ⟨u, hu, rfl⟩ := act87 ac hsz hdf
    rw [hu] at f2 f3 f7 f9
    rw [f2, f3, f7, f9]
    clear hu hsz hdf f2 f3 f7 f9
    go_wp2
    go_loopw [12, 13] (fun l i w' => ∃ k : Nat, k ≤ n ∧ i = .int .i64 k ∧ S10 W2 w' l (told (fun i => !b || stl L (flat xw) zo (sr no zo ro (sp i) 32) (pg i) (fr i) (rd i) (wt i)) k)) (fun _ i _ => n - (intOf i).toNat)
    case atStart => exact ⟨0, Nat.zero_le _, rfl, Up.refl _, OI.nil _ _⟩
    case round =>
      obtain ⟨k, hk, rfl, t⟩ := hrel
      by_cases hlt : k < n
      · obtain ⟨tb, off, hAA, c0, c1, c2, c3, c4⟩ := (hT.up t.up).at_ k hlt
        have hX : wr.rangeAt tb (off + k * 5) [.int .i64 (sp k), .int .i64 (pg k), .int .i64 (fr k), .bool (rd k), .bool (wt k)] := fun j v hj => by
          match j, hj with
          | 0, hj => cases hj; exact c0
          | 1, hj => cases hj; exact c1
          | 2, hj => cases hj; exact c2
          | 3, hj => cases hj; exact c3
          | 4, hj => cases hj; exact c4
        clear c0 c1 c2 c3 c4
        have hbx := t.up.heap hbx
        have hv2 := hv.up t.up
        have hme := fun hb => (hme hb).up t.up
        obtain ⟨st, hst⟩ : ∃ st, stl L (flat xw) zo (sr no zo ro (sp k) 32) (pg k) (fr k) (rd k) (wt k) = st := ⟨_, rfl⟩
        have hlen := told_len (fun i => !b || stl L (flat xw) zo (sr no zo ro (sp i) 32) (pg i) (fr i) (rd i) (wt i)) k
        subst hAA
        go_wp2
        refine wp_region_any (by kernel_rfl) ?_
        refine wpAny_valsG 87 [(0, u 0), (1, u 1), (2, .slice (some ⟨tb, off, none⟩) n cc), (3, .pointer (some ⟨W.heap.size, 0, none⟩)), (4, u 4), (5, u 5), (6, u 6), (7, mp), (8, u 8), (9, .bool b), (10, u 10), (11, u 11), (12, u12), (13, .int .i64 (k : Int)), (14, u 14), (15, u 15), (16, u 16), (17, u 17), (18, u 18), (19, u 19), (20, u 20), (21, u 21), (22, u 22), (23, u 23), (24, u 24), (25, u 25), (26, u 26), (27, u 27), (28, u 28), (29, u 29), (30, u 30), (31, u 31), (32, u 32), (33, u 33), (34, u 34), (35, u 35), (36, u 36), (37, u 37), (38, u 38), (39, u 39), (40, u 40), (41, u 41), (42, u 42), (43, u 43), (44, u 44), (45, u 45), (46, u 46), (47, u 47), (48, u 48), (49, u 49), (50, u 50), (51, u 51), (52, u 52), (53, u 53), (54, u 54), (55, u 55), (56, u 56), (57, u 57), (58, u 58), (59, u 59), (60, u 60), (61, u 61), (62, u 62), (63, u 63), (64, u 64), (86, u 86)] (F15 b A (W1.heap.size + 1) (some ⟨tb, off, none⟩) n cc k tb off #[.int .i64 (sp k), .int .i64 (pg k), .int .i64 (fr k), .bool (rd k), .bool (wt k)] st) (fun _ _ _ => True) (fun _ w => Up wr w) (by kernel_rfl) ?step ?done (ready_ofB (by kernel_rfl)) _ _ rfl rfl ?bs (Up.drew wr)
        case bs => simp [Act.eval]
        case done =>
          intro ac w hsz hdf hb hS hF hN
          have q81 := hF 10 _ 81 rfl rfl
          simp only [F15] at q81
          obtain ⟨x, hx, rfl⟩ := act87 ac hsz hdf
          rw [hx] at q81
          have kk := fun p hp => (hx _).symm.trans (hb p hp)
          clear hF hN hb
          rw [show x 0 = u 0 from kk (0, u 0) (by simp), show x 1 = u 1 from kk (1, u 1) (by simp), show x 2 = .slice (some ⟨tb, off, none⟩) n cc from kk (2, .slice (some ⟨tb, off, none⟩) n cc) (by simp), show x 3 = .pointer (some ⟨W.heap.size, 0, none⟩) from kk (3, .pointer (some ⟨W.heap.size, 0, none⟩)) (by simp), show x 4 = u 4 from kk (4, u 4) (by simp), show x 5 = u 5 from kk (5, u 5) (by simp), show x 6 = u 6 from kk (6, u 6) (by simp), show x 7 = mp from kk (7, mp) (by simp), show x 8 = u 8 from kk (8, u 8) (by simp), show x 9 = .bool b from kk (9, .bool b) (by simp), show x 10 = u 10 from kk (10, u 10) (by simp), show x 11 = u 11 from kk (11, u 11) (by simp), show x 12 = u12 from kk (12, u12) (by simp), show x 13 = .int .i64 (k : Int) from kk (13, .int .i64 (k : Int)) (by simp), show x 14 = u 14 from kk (14, u 14) (by simp), show x 15 = u 15 from kk (15, u 15) (by simp), show x 16 = u 16 from kk (16, u 16) (by simp), show x 17 = u 17 from kk (17, u 17) (by simp), show x 18 = u 18 from kk (18, u 18) (by simp), show x 19 = u 19 from kk (19, u 19) (by simp), show x 20 = u 20 from kk (20, u 20) (by simp), show x 21 = u 21 from kk (21, u 21) (by simp), show x 22 = u 22 from kk (22, u 22) (by simp), show x 23 = u 23 from kk (23, u 23) (by simp), show x 24 = u 24 from kk (24, u 24) (by simp), show x 25 = u 25 from kk (25, u 25) (by simp), show x 26 = u 26 from kk (26, u 26) (by simp), show x 27 = u 27 from kk (27, u 27) (by simp), show x 28 = u 28 from kk (28, u 28) (by simp), show x 29 = u 29 from kk (29, u 29) (by simp), show x 30 = u 30 from kk (30, u 30) (by simp), show x 31 = u 31 from kk (31, u 31) (by simp), show x 32 = u 32 from kk (32, u 32) (by simp), show x 33 = u 33 from kk (33, u 33) (by simp), show x 34 = u 34 from kk (34, u 34) (by simp), show x 35 = u 35 from kk (35, u 35) (by simp), show x 36 = u 36 from kk (36, u 36) (by simp), show x 37 = u 37 from kk (37, u 37) (by simp), show x 38 = u 38 from kk (38, u 38) (by simp), show x 39 = u 39 from kk (39, u 39) (by simp), show x 40 = u 40 from kk (40, u 40) (by simp), show x 41 = u 41 from kk (41, u 41) (by simp), show x 42 = u 42 from kk (42, u 42) (by simp), show x 43 = u 43 from kk (43, u 43) (by simp), show x 44 = u 44 from kk (44, u 44) (by simp), show x 45 = u 45 from kk (45, u 45) (by simp), show x 46 = u 46 from kk (46, u 46) (by simp), show x 47 = u 47 from kk (47, u 47) (by simp), show x 48 = u 48 from kk (48, u 48) (by simp), show x 49 = u 49 from kk (49, u 49) (by simp), show x 50 = u 50 from kk (50, u 50) (by simp), show x 51 = u 51 from kk (51, u 51) (by simp), show x 52 = u 52 from kk (52, u 52) (by simp), show x 53 = u 53 from kk (53, u 53) (by simp), show x 54 = u 54 from kk (54, u 54) (by simp), show x 55 = u 55 from kk (55, u 55) (by simp), show x 56 = u 56 from kk (56, u 56) (by simp), show x 57 = u 57 from kk (57, u 57) (by simp), show x 58 = u 58 from kk (58, u 58) (by simp), show x 59 = u 59 from kk (59, u 59) (by simp), show x 60 = u 60 from kk (60, u 60) (by simp), show x 61 = u 61 from kk (61, u 61) (by simp), show x 62 = u 62 from kk (62, u 62) (by simp), show x 63 = u 63 from kk (63, u 63) (by simp), show x 64 = u 64 from kk (64, u 64) (by simp), show x 86 = u 86 from kk (86, u 86) (by simp), q81]
          have t9 := t.to hS
          clear hx kk hS
          obtain ⟨pb, hpb⟩ : ∃ pb, (!b || st) = pb := ⟨_, rfl⟩
          rw [hpb]
          cases pb
          · go_wp2
            go_roundw
            case rel => exact ⟨k + 1, by omega, by go_num, by rw [told_succ, if_neg (by rw [hst, hpb]; decide), List.append_nil]; exact t9⟩
            case measure => simp [intOf]; omega
          · go_wp2_with (first | (at_builtin; refine S10.ap t9 rfl _ _ rfl (k : Int) rfl (by omega) rfl rfl rfl ?_; intro v' w' t10))
            go_roundw
            case rel => exact ⟨k + 1, by omega, by go_num, by rw [told_succ, if_pos (by rw [hst, hpb])]; exact t10⟩
            case measure => simp [intOf]; omega
        case step =>
          intro i o ho a w hsz hb hS hd
          have hi : i < 11 := (Array.getElem?_eq_some_iff.1 ho).1
          have b2 : a.eval (.tmp 2) = .slice (some ⟨tb, off, none⟩) n cc := hb (2, .slice (some ⟨tb, off, none⟩) n cc) (by simp)
          have b3 : a.eval (.tmp 3) = .pointer (some ⟨W.heap.size, 0, none⟩) := hb (3, .pointer (some ⟨W.heap.size, 0, none⟩)) (by simp)
          have b7 : a.eval (.tmp 7) = mp := hb (7, mp) (by simp)
          have b9 : a.eval (.tmp 9) = .bool b := hb (9, .bool b) (by simp)
          have b13 : a.eval (.tmp 13) = .int .i64 (k : Int) := hb (13, .int .i64 (k : Int)) (by simp)
          match i, hi with
          | 0, _ =>
            simp only [List.getElem?_toArray, List.getElem?_cons_zero, List.getElem?_cons_succ, Option.some.injEq] at ho; subst ho
            refine wpW.yes (wanted_no rfl) ?_
            refine op_move _ rfl ?_; rw [b9]; exact ⟨_, rfl, hS, (by simp [F15]), (fun hz => by cases hz), (fun _ _ hz => hz), (fun _ _ _ _ _ _ _ => trivial)⟩
          | 1, _ =>
            simp only [List.getElem?_toArray, List.getElem?_cons_zero, List.getElem?_cons_succ, Option.some.injEq] at ho; subst ho
            have e0 := hd 0 _ rfl (by decide) 71 rfl; simp only [F15] at e0
            refine wpW.yes (wanted_no rfl) ?_
            have t0 := e0; simp [Act.eval] at t0
            exact op_run (.bool (!b)) w (by simp [execOp, t0, go_sem]) ⟨_, rfl, hS, (by simp [F15]), (fun hz => by cases hz), (fun _ _ hz => hz), (fun _ _ _ _ _ _ _ => trivial)⟩
          | 2, _ =>
            simp only [List.getElem?_toArray, List.getElem?_cons_zero, List.getElem?_cons_succ, Option.some.injEq] at ho; subst ho
            have e1 := hd 1 _ rfl (by decide) 72 rfl; simp only [F15] at e1
            refine wpW.yes (wanted_no rfl) ?_
            refine op_move _ rfl ?_; rw [e1]; exact ⟨_, rfl, hS, (by simp [F15]), (fun hz => by cases hz), (fun _ _ hz => hz), (fun _ _ _ _ _ _ _ => trivial)⟩
          | 3, _ =>
            simp only [List.getElem?_toArray, List.getElem?_cons_zero, List.getElem?_cons_succ, Option.some.injEq] at ho; subst ho
            have e2 := hd 2 _ rfl (by decide) 73 rfl; simp only [F15] at e2
            cases b with
            | false => refine wpW.no (by rw [wanted_of rfl rfl rfl e2]; rfl) ⟨undef, rfl, hS, (fun hz => by cases hz), (fun hz => by cases hz), (fun _ _ hz => hz), (fun _ _ _ _ _ _ _ => trivial)⟩
            | true =>
              refine wpW.yes (by rw [wanted_of rfl rfl rfl e2]; rfl) ?_
              refine wp_load_row 32 (.tmp 3) rfl W.heap.size b3 32 A (0, 0) _ (hS.heap hbx) Try.underlying32 rfl hsz32 ?_
              exact ⟨_, rfl, hS, (fun _ => rfl), (fun hz => by cases hz), (fun _ _ hz => hz), (fun _ _ _ _ _ _ _ => trivial)⟩
          | 4, _ =>
            simp only [List.getElem?_toArray, List.getElem?_cons_zero, List.getElem?_cons_succ, Option.some.injEq] at ho; subst ho
            have e2 := hd 2 _ rfl (by decide) 73 rfl; simp only [F15] at e2
            cases b with
            | false => refine wpW.no (by rw [wanted_of rfl rfl rfl e2]; rfl) ⟨undef, rfl, hS, (fun hz => by cases hz), (fun hz => by cases hz), (fun _ _ hz => hz), (fun _ _ _ _ _ _ _ => trivial)⟩
            | true =>
              refine wpW.yes (by rw [wanted_of rfl rfl rfl e2]; rfl) ?_
              refine op_move _ rfl ?_; rw [b7]; exact ⟨_, rfl, hS, (fun _ => (hmp rfl)), (fun hz => by cases hz), (fun _ _ hz => hz), (fun _ _ _ _ _ _ _ => trivial)⟩
          | 5, _ =>
            simp only [List.getElem?_toArray, List.getElem?_cons_zero, List.getElem?_cons_succ, Option.some.injEq] at ho; subst ho
            have e2 := hd 2 _ rfl (by decide) 73 rfl; simp only [F15] at e2
            cases b with
            | false => refine wpW.no (by rw [wanted_of rfl rfl rfl e2]; rfl) ⟨undef, rfl, hS, (fun hz => by cases hz), (fun hz => by cases hz), (fun _ _ hz => hz), (fun _ _ _ _ _ _ _ => trivial)⟩
            | true =>
              refine wpW.yes (by rw [wanted_of rfl rfl rfl e2]; rfl) ?_
              refine op_move _ rfl ?_; rw [b2]; exact ⟨_, rfl, hS, (fun _ => rfl), (fun hz => by cases hz), (fun _ _ hz => hz), (fun _ _ _ _ _ _ _ => trivial)⟩
          | 6, _ =>
            simp only [List.getElem?_toArray, List.getElem?_cons_zero, List.getElem?_cons_succ, Option.some.injEq] at ho; subst ho
            have e2 := hd 2 _ rfl (by decide) 73 rfl; simp only [F15] at e2
            cases b with
            | false => refine wpW.no (by rw [wanted_of rfl rfl rfl e2]; rfl) ⟨undef, rfl, hS, (fun hz => by cases hz), (fun hz => by cases hz), (fun _ _ hz => hz), (fun _ _ _ _ _ _ _ => trivial)⟩
            | true =>
              refine wpW.yes (by rw [wanted_of rfl rfl rfl e2]; rfl) ?_
              refine op_move _ rfl ?_; rw [b13]; exact ⟨_, rfl, hS, (fun _ => rfl), (fun hz => by cases hz), (fun _ _ hz => hz), (fun _ _ _ _ _ _ _ => trivial)⟩
          | 7, _ =>
            simp only [List.getElem?_toArray, List.getElem?_cons_zero, List.getElem?_cons_succ, Option.some.injEq] at ho; subst ho
            have e2 := hd 2 _ rfl (by decide) 73 rfl; simp only [F15] at e2
            have e5 := hd 5 _ rfl (by decide) 76 rfl; simp only [F15] at e5
            have e6 := hd 6 _ rfl (by decide) 77 rfl; simp only [F15] at e6
            cases b with
            | false => refine wpW.no (by rw [wanted_of rfl rfl rfl e2]; rfl) ⟨undef, rfl, hS, (fun hz => by cases hz), (fun hz => by cases hz), (fun _ _ hz => hz), (fun _ _ _ _ _ _ _ => trivial)⟩
            | true =>
              refine wpW.yes (by rw [wanted_of rfl rfl rfl e2]; rfl) ?_
              replace e5 := e5 rfl
              replace e6 := e6 rfl
              have t5 := e5; have t6 := e6; simp [Act.eval] at t5 t6
              exact op_run (.pointer (some ⟨tb, off + k * 5, none⟩)) w (by simp [execOp, t5, t6, go_sem]; omega) ⟨_, rfl, hS, (fun _ => rfl), (fun hz => by cases hz), (fun _ _ hz => hz), (fun _ _ _ _ _ _ _ => trivial)⟩
          | 8, _ =>
            simp only [List.getElem?_toArray, List.getElem?_cons_zero, List.getElem?_cons_succ, Option.some.injEq] at ho; subst ho
            have e2 := hd 2 _ rfl (by decide) 73 rfl; simp only [F15] at e2
            have e7 := hd 7 _ rfl (by decide) 78 rfl; simp only [F15] at e7
            cases b with
            | false => refine wpW.no (by rw [wanted_of rfl rfl rfl e2]; rfl) ⟨undef, rfl, hS, (fun hz => by cases hz), (fun hz => by cases hz), (fun _ _ hz => hz), (fun _ _ _ _ _ _ _ => trivial)⟩
            | true =>
              refine wpW.yes (by rw [wanted_of rfl rfl rfl e2]; rfl) ?_
              replace e7 := e7 rfl
              refine wp_load_mid 57 (.tmp 78) rfl tb (off + k * 5) e7 [.int .i64 (sp k), .int .i64 (pg k), .int .i64 (fr k), .bool (rd k), .bool (wt k)] _ (rangeAt_up hX hS) Try.underlying57 rfl size57 ?_
              exact ⟨_, rfl, hS, (fun _ => rfl), (fun hz => by cases hz), (fun _ _ hz => hz), (fun _ _ _ _ _ _ _ => trivial)⟩
          | 9, _ =>
            simp only [List.getElem?_toArray, List.getElem?_cons_zero, List.getElem?_cons_succ, Option.some.injEq] at ho; subst ho
            have e2 := hd 2 _ rfl (by decide) 73 rfl; simp only [F15] at e2
            have e3 := hd 3 _ rfl (by decide) 74 rfl; simp only [F15] at e3
            have e4 := hd 4 _ rfl (by decide) 75 rfl; simp only [F15] at e4
            have e8 := hd 8 _ rfl (by decide) 79 rfl; simp only [F15] at e8
            cases b with
            | false => refine wpW.no (by rw [wanted_of rfl rfl rfl e2]; rfl) ⟨undef, rfl, hS, (fun hz => by cases hz), (fun hz => by cases hz), (fun _ _ hz => hz), (fun _ _ _ _ _ _ _ => trivial)⟩
            | true =>
              refine wpW.yes (by rw [wanted_of rfl rfl rfl e2]; rfl) ?_
              replace e3 := e3 rfl
              replace e4 := e4 rfl
              replace e8 := e8 rfl
              refine op_call 27 _ _ rfl #[.agg A, .pointer (some ⟨W1.heap.size + 1, 0, none⟩), .agg #[.int .i64 (sp k), .int .i64 (pg k), .int .i64 (fr k), .bool (rd k), .bool (wt k)]] (by simp [e3, e4, e8]) (enters_of Try.func27 (by kernel_rfl) rfl) ((stale_f A ao no co zo PA pc ro (W1.heap.size + 1) W1.heap.size L (8 * L) (flat xw) (sp k) (pg k) (fr k) (rd k) (wt k) (hT.wf k).1 (hT.wf k).2 w (hv2.up hS) hrc ((hme rfl).up hS)).mono ?_)
              rintro e w' ⟨rfl, hw'⟩; rw [hst]
              exact ⟨_, rfl, _, rfl, hS.trans hw', (fun _ => rfl), (fun hz => by cases hz), (fun _ _ hz => hz), (fun _ _ _ _ _ _ _ => trivial)⟩
          | 10, _ =>
            simp only [List.getElem?_toArray, List.getElem?_cons_zero, List.getElem?_cons_succ, Option.some.injEq] at ho; subst ho
            have e2 := hd 2 _ rfl (by decide) 73 rfl; simp only [F15] at e2
            have e9 := hd 9 _ rfl (by decide) 80 rfl; simp only [F15] at e9
            refine wpW.yes (wanted_no rfl) ?_
            cases b with
            | false => have t2 := e2; simp [Act.eval] at t2; exact op_run (.bool true) w (by simp [execOp, t2, go_sem]) ⟨_, rfl, hS, (by simp [F15]), (fun hz => by cases hz), (fun _ _ hz => hz), (fun _ _ _ _ _ _ _ => trivial)⟩
            | true =>
              replace e9 := e9 rfl
              have t2 := e2; have t9 := e9; simp [Act.eval] at t2 t9
              exact op_run (.bool st) w (by simp [execOp, t2, t9, go_sem]) ⟨_, rfl, hS, (by simp [F15]), (fun hz => by cases hz), (fun _ _ hz => hz), (fun _ _ _ _ _ _ _ => trivial)⟩
      · obtain rfl : k = n := by omega
        go_wp2
        go_ret
        exact ⟨_, rfl, uq.trans t.up, t.own.low hb2⟩
  clear hK1
  go_loopw [9, 10] (fun ok i w' => ∃ (b : Bool) (k : Nat), k ≤ L ∧ i = .int .i64 k ∧ ok = .bool b ∧ Q9 W1 mp L ln xw b k w') (fun _ i _ => L - (intOf i).toNat)
  case atStart => exact ⟨b0, 0, Nat.zero_le _, rfl, rfl, q0⟩
  case round =>
    clear q0 hb0
    obtain ⟨b, k, hk, rfl, rfl, q⟩ := hrel
    by_cases hgo : k < L ∧ b = true
    · obtain ⟨hlt, rfl⟩ := hgo
      have hw' := hw.up (u1.trans q.up)
      obtain ⟨B, O, rq, rc, rfl, hrow, hcells⟩ := hw'.row k hlt
      have h20 := hw'.n20 k hlt
      by_cases h8 : ln k = 8
      · rw [h8] at hrow hcells
        obtain ⟨wd, hL1, hL64, rfl, mz, hwd⟩ := q.good rfl
        have qi : Qi W1 L xw k 0 wr := ⟨wd, mz, fun i hi j hj => (hwd i hi).2 j hj, fun j hj => by omega⟩
        have h8s : ∀ i, i < k → ln i = 8 := fun i hi => (hwd i hi).1
        clear mz hwd
        have hup := q.up
        go_wp2
        clear hrow hcells q hw'
        go_loopw [11] (fun i w' => ∃ m : Nat, m ≤ 8 ∧ i = .int .i64 m ∧ Qi W1 L xw k m w') (fun i _ => 8 - (intOf i).toNat)
        case atStart => exact ⟨0, Nat.zero_le _, rfl, qi⟩
        case round =>
          clear qi
          obtain ⟨m, hm, rfl, qi⟩ := hrel
          have hupr : Up W1 wr := by obtain ⟨_, h1, _⟩ := qi; exact h1.up
          obtain ⟨B', O', rq, rc, hBB, hrow, hcells⟩ := (hw.up (u1.trans hupr)).row k hlt
          cases hBB
          rw [h8] at hrow hcells
          by_cases hlt2 : m < 8
          · obtain ⟨rb, ro', rfl, hx⟩ := hcells m hlt2
            clear hcells
            obtain ⟨wd, mz, _⟩ := id qi
            have hrowM := mz.me.row
            have hcell := mz.me.at_ (8 * k + m) (by omega)
            have hfz := mz.fz (8 * k + m)
            have hxw := hw.wf k m
            clear mz
            go_wp2
            refine wp_region_still_tail 16 (by kernel_rfl) (by kernel_rfl) ?_
            change wpStill _ _ wr.drew (fun a' => wpList _ _ _ _ a' wr.drew) _ _
            have qi := qi.drew
            have hrowM : wr.drew.cell? _ = _ := hrowM
            have hcell : wr.drew.cell? _ = _ := hcell
            have hfz : wr.drew.frozen? _ = _ := hfz
            have hx : wr.drew.cell? _ = _ := hx
            have hrow : wr.drew.cell? _ = _ := hrow
            revert qi hrowM hcell hfz hx hrow
            generalize wr.drew = w2
            intro qi hrowM hcell hfz hx hrow
            simp only [List.take_succ_cons, List.take_zero, List.drop_succ_cons, List.drop_zero]
            have i1 : IntKind.i64.wrap (8 * (k : Int)) = 8 * (k : Int) := wrapI _ (by omega) (by omega)
            have i2 : IntKind.i64.wrap (8 * (k : Int) + (m : Int)) = 8 * (k : Int) + (m : Int) := wrapI _ (by omega) (by omega)
            have i3 : (8 * (k : Int) + (m : Int)).toNat = 8 * k + m := by omega
            have i4 : 0 ≤ 8 * (k : Int) + (m : Int) := by omega
            have i5 : 8 * (k : Int) + (m : Int) < 8 * (L : Int) := by omega
            repeat still_step
            refine wpStill_nil ?_
            clear i1 i2 i3 i4 i5
            go_wp2
            go_roundw
            case rel => exact ⟨m + 1, by omega, by go_num, qi.set hlt hlt2 hw.wf⟩
            case measure => simp [intOf]; omega
          · obtain rfl : m = 8 := by omega
            go_wp2
            go_roundw
            case rel =>
              obtain ⟨wd, mz, h1, h2⟩ := qi
              refine ⟨true, k + 1, by omega, by go_num, rfl, mz.up, fun _ => ⟨wd, hL1, hL64, rfl, mz, fun i hi => ?_⟩, fun h => by cases h⟩
              by_cases e : i = k
              · subst e
                exact ⟨h8, h2⟩
              · exact ⟨h8s i (by omega), h1 i (by omega)⟩
            case measure => simp [intOf]; omega
      · have hne : ((ln k : Int) == 8) = false := by simp; omega
        have hwf : whole L ln = false := decide_eq_false (fun hh => h8 (hh.2.2 k hlt))
        have qn : ∀ k', Q9 W1 mp L ln xw false k' wr := fun k' => ⟨q.up, fun h => (by cases h), fun _ => hwf⟩
        go_wp2
        go_loopw [11] (fun i w' => i = .int .i64 0 ∧ w' = wr) (fun _ _ => 0)
        case atStart => exact ⟨rfl, rfl⟩
        case round =>
          obtain ⟨rfl, hww⟩ := hrel
          subst hww
          go_wp2
          all_goals
            (go_roundw
             case rel => exact ⟨false, k + 1, by omega, by go_num, rfl, qn _⟩
             case measure => simp [intOf]; omega)
    · clear hw hT hv
      by_cases hb : b = true
      · subst hb
        obtain rfl : k = L := by
          have : ¬ k < L := fun hh => hgo ⟨hh, rfl⟩
          omega
        have hwt : whole k ln = true := by
          obtain ⟨wd, h1, h2, _, _, h5⟩ := q.good rfl
          exact decide_eq_true ⟨h1, h2, fun i hi => (h5 i hi).1⟩
        go_wp2
        exact hwh.symm.trans hwt
      · obtain rfl : b = false := by simpa using hb
        have hwf := q.bad rfl
        have qn : Q9 W1 mp L ln xw false L wr := ⟨q.up, fun h => (by cases h), fun _ => hwf⟩
        go_wp2
        all_goals exact hwh.symm.trans hwf
end Go.Proofs.AO
