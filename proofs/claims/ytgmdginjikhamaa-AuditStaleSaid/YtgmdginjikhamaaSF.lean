/- ref5.At within range. No conditions beside those in its theorems. -/
import Derived.Test.YtgmdginjikhamaaSE
set_option linter.unusedSimpArgs false
namespace Go.Proofs.AO
open Go.RowKit Go.Maps Go.Shelf Go.Sort
set_option linter.unusedVariables false
set_option linter.unusedSimpArgs false
set_option maxRecDepth 100000
set_option maxHeartbeats 2000000
theorem at_in (M B n cp : Nat) (wd : Nat → Nat) (root page : Int) (hr : WF root) (hp : WF page) (W : World) (h : Me W M B n cp wd) (hin : 0 ≤ root ∧ root < n ∧ 0 ≤ page ∧ page < 512) :
    Calls Try.prog 65 #[.pointer (some ⟨M, 0, none⟩), .int .i64 root, .int .i64 page, .int .i64 3] W (AtP W n wd root page) := by
  have hM := h.row
  have hn := h.n64
  obtain ⟨i1, i2, i3, i4⟩ := hin
  go_enter Try.func65, Try.ntmps65
  go_wp2_with (first | (go_at_call 67; refine (frames_f M B n cp wd _ h).mono ?_; rintro e w' ⟨rfl, hw⟩; rw [hw]; clear hw))
  simp only [show decide (root < 0) = false from decide_eq_false (by omega), show decide ((n : Int) ≤ root) = false from decide_eq_false (by omega), show decide (page < 0) = false from decide_eq_false (by omega), show decide (512 ≤ page) = false from decide_eq_false (by omega), Bool.or_false]
  go_loopw [10, 11] (fun fr k w' => Up W w' ∧ ∃ lv f : Nat, k = .int .i64 (lv : Int) ∧ fr = .int .i64 (f : Int) ∧ f < n ∧ lvl n wd root page lv f ∧ 1 ≤ lv ∧ lv ≤ 3) (fun _ k _ => 3 - (intOf k).toNat)
  case atStart => exact ⟨Up.refl _, 1, root.toNat, rfl, (by rw [Int.toNat_of_nonneg i1]), by omega, .inl ⟨rfl, Int.toNat_of_nonneg i1⟩, by omega, by omega⟩
  case round =>
    obtain ⟨hu, lv, f, rfl, rfl, hfn, hl, hl1, hl3⟩ := hrel
    by_cases hl2 : lv ≤ 2
    · have hw := h.up hu
      have g1 := hw.row
      obtain ⟨y1, y2⟩ := ix_in page lv ⟨i3, i4⟩
      go_wp2
      refine wp_region_any (by kernel_rfl) ?_
      refine wpAny_valsN 92 [(0, .pointer (some ⟨M, 0, none⟩)), (1, .int .i64 root), (2, .int .i64 page), (3, .int .i64 3), (4, undef), (5, undef), (6, undef), (7, undef), (10, .int .i64 (f : Int)), (11, .int .i64 (lv : Int)), (14, .pointer (some ⟨M, 0, none⟩)), (15, .bool false), (16, .int .i64 root), (17, .bool false), (18, .bool false), (19, .int .i64 root), (20, .pointer (some ⟨M, 0, none⟩)), (21, .int .i64 (n : Int)), (22, .bool false), (23, .bool false), (24, .bool false), (25, .int .i64 page), (26, .bool false), (27, .bool false), (28, .bool false), (29, .int .i64 page), (30, .bool false), (31, .bool false), (32, .bool false), (33, .int .i64 3), (34, .bool false), (35, .bool false), (36, .bool false), (37, .int .i64 3), (38, .bool false), (39, .bool false), (40, .int .i64 root), (84, undef), (85, undef), (86, undef), (87, undef), (88, undef), (89, undef), (90, undef), (91, undef)] (Fa W M B n cp f lv (wd (8 * f + (ix page lv).toNat)) page) (Na W (wd (8 * f + (ix page lv).toNat))) (fun w => Up W w) (by kernel_rfl) ?step ?done (ready_ofB (by kernel_rfl)) _ _ rfl rfl ?bs (hu.trans (Up.drew _))
      case bs => simp [Act.eval]
      case done =>
        intro a w hsz hdf hb hS hF hN
        obtain ⟨b, v0, v1, v2, v3, v4, q12, hv, B5⟩ := hN 17 _ rfl rfl
        have q13 := hF 18 _ 13 rfl rfl
        simp only [Fa] at q13
        obtain ⟨u, hu', rfl⟩ := act92 a hsz hdf
        rw [hu'] at q12 q13
        have k := fun p hp => (hu' _).symm.trans (hb p hp)
        clear hF hN hb
        rw [show u 0 = .pointer (some ⟨M, 0, none⟩) from k (0, .pointer (some ⟨M, 0, none⟩)) (by simp), show u 1 = .int .i64 root from k (1, .int .i64 root) (by simp), show u 2 = .int .i64 page from k (2, .int .i64 page) (by simp), show u 3 = .int .i64 3 from k (3, .int .i64 3) (by simp), show u 4 = undef from k (4, undef) (by simp), show u 5 = undef from k (5, undef) (by simp), show u 6 = undef from k (6, undef) (by simp), show u 7 = undef from k (7, undef) (by simp), show u 10 = .int .i64 (f : Int) from k (10, .int .i64 (f : Int)) (by simp), show u 11 = .int .i64 (lv : Int) from k (11, .int .i64 (lv : Int)) (by simp), show u 14 = .pointer (some ⟨M, 0, none⟩) from k (14, .pointer (some ⟨M, 0, none⟩)) (by simp), show u 15 = .bool false from k (15, .bool false) (by simp), show u 16 = .int .i64 root from k (16, .int .i64 root) (by simp), show u 17 = .bool false from k (17, .bool false) (by simp), show u 18 = .bool false from k (18, .bool false) (by simp), show u 19 = .int .i64 root from k (19, .int .i64 root) (by simp), show u 20 = .pointer (some ⟨M, 0, none⟩) from k (20, .pointer (some ⟨M, 0, none⟩)) (by simp), show u 21 = .int .i64 (n : Int) from k (21, .int .i64 (n : Int)) (by simp), show u 22 = .bool false from k (22, .bool false) (by simp), show u 23 = .bool false from k (23, .bool false) (by simp), show u 24 = .bool false from k (24, .bool false) (by simp), show u 25 = .int .i64 page from k (25, .int .i64 page) (by simp), show u 26 = .bool false from k (26, .bool false) (by simp), show u 27 = .bool false from k (27, .bool false) (by simp), show u 28 = .bool false from k (28, .bool false) (by simp), show u 29 = .int .i64 page from k (29, .int .i64 page) (by simp), show u 30 = .bool false from k (30, .bool false) (by simp), show u 31 = .bool false from k (31, .bool false) (by simp), show u 32 = .bool false from k (32, .bool false) (by simp), show u 33 = .int .i64 3 from k (33, .int .i64 3) (by simp), show u 34 = .bool false from k (34, .bool false) (by simp), show u 35 = .bool false from k (35, .bool false) (by simp), show u 36 = .bool false from k (36, .bool false) (by simp), show u 37 = .int .i64 3 from k (37, .int .i64 3) (by simp), show u 38 = .bool false from k (38, .bool false) (by simp), show u 39 = .bool false from k (39, .bool false) (by simp), show u 40 = .int .i64 root from k (40, .int .i64 root) (by simp), show u 84 = undef from k (84, undef) (by simp), show u 85 = undef from k (85, undef) (by simp), show u 86 = undef from k (86, undef) (by simp), show u 87 = undef from k (87, undef) (by simp), show u 88 = undef from k (88, undef) (by simp), show u 89 = undef from k (89, undef) (by simp), show u 90 = undef from k (90, undef) (by simp), show u 91 = undef from k (91, undef) (by simp), q12, q13]
        have c0 := B5.c0
        have c1 := B5.c1
        have c2 := B5.c2
        have c3 := B5.c3
        have c4 := B5.c4
        have hm := h.up hS
        have hf := fun j => frames_f M B n cp wd (w.drewN j) (hm.up (Up.drewN w j))
        rcases dE_cases n (wd (8 * f + (ix page lv).toNat)) false with ⟨l, r, y, g, hE, hx, hF⟩ | ⟨hF, hE, hx0, hxo⟩
        · rw [hE] at hv
          cases hv
          have hwk := lvl_none ⟨i1, i2, i3, i4⟩ hl hl1 hl2 hx
          rcases hF with hF | hF
          · rw [hF]
            go_wp2
            go_quiet ((go_at_call 67; exact Calls.quiet_of_same (hf _)))
            go_wp2
            refine bodyPost_ret (results_tmp2 rfl _ _ _) rfl ?_
            exact ⟨_, _, rfl, hS.trans (Up.drewN _ _), by rw [hwk]; simp⟩
          · rw [hF]
            go_wp2
            go_quiet ((go_at_call 67; exact Calls.quiet_of_same (hf _)))
            go_wp2
            refine bodyPost_ret (results_tmp2 rfl _ _ _) rfl ?_
            exact ⟨_, _, rfl, hS.trans (Up.drewN _ _), by rw [hwk]; simp⟩
        · rw [hE] at hv
          cases hv
          rw [hF]
          cases hdl : dl (wd (8 * f + (ix page lv).toNat))
          · rw [hdl] at c1
            by_cases hlt : wd (8 * f + (ix page lv).toNat) / 256 % 64 < n
            · obtain ⟨F, hFF⟩ : ∃ F, F = wd (8 * f + (ix page lv).toNat) / 256 % 64 := ⟨_, rfl⟩
              have hx : nx n false (wd (8 * f + (ix page lv).toNat)) = some F := by rw [hFF]; exact if_pos ⟨hx0, hxo, hdl, hlt⟩
              rw [← hFF] at c4 hlt
              have dlt : decide ((n : Int) ≤ (F : Int)) = false := decide_eq_false (by omega)
              have hl' := lvl_some ⟨i1, i2, i3, i4⟩ hl hl1 hl2 hx
              go_wp2
              go_quiet ((go_at_call 67; exact Calls.quiet_of_same (hf _)))
              go_wp2
              go_roundw
              case rel => exact ⟨hS.trans (Up.drewN _ _), lv + 1, F, by go_num, by rw [hFF]; rfl, hlt, hl', by omega, by omega⟩
              case measure => simp [intOf]; omega
            · have hwk := lvl_none ⟨i1, i2, i3, i4⟩ hl hl1 hl2 (by unfold nx; exact if_neg (fun hh => hlt hh.2.2.2))
              obtain ⟨F, hFF⟩ : ∃ F, F = wd (8 * f + (ix page lv).toNat) / 256 % 64 := ⟨_, rfl⟩
              rw [← hFF] at c4 hlt
              have dlt : decide ((n : Int) ≤ (F : Int)) = true := decide_eq_true (by omega)
              go_wp2
              go_quiet ((go_at_call 67; exact Calls.quiet_of_same (hf _)))
              go_wp2
              refine bodyPost_ret (results_tmp2 rfl _ _ _) rfl ?_
              exact ⟨_, _, rfl, hS.trans (Up.drewN _ _), by rw [hwk]; simp⟩
          · rw [hdl] at c1
            have hwk := lvl_none ⟨i1, i2, i3, i4⟩ hl hl1 hl2 (by unfold nx; exact if_neg (fun hh => by rw [hdl] at hh; exact absurd hh.2.2.1 (by decide)))
            go_wp2
            go_quiet ((go_at_call 67; exact Calls.quiet_of_same (hf _)))
            go_wp2
            refine bodyPost_ret (results_tmp2 rfl _ _ _) rfl ?_
            exact ⟨_, _, rfl, hS.trans (Up.drewN _ _), by rw [hwk]; simp⟩
      case step =>
        intro i o ho a w hsz hb hS hd
        have hi : i < 19 := (Array.getElem?_eq_some_iff.1 ho).1
        have b0 : a.eval (.tmp 0) = .pointer (some ⟨M, 0, none⟩) := hb (0, .pointer (some ⟨M, 0, none⟩)) (List.mem_cons_self)
        have b10 : a.eval (.tmp 10) = .int .i64 (f : Int) := hb (10, .int .i64 (f : Int)) (by simp)
        have b2 : a.eval (.tmp 2) = .int .i64 page := hb (2, .int .i64 page) (by simp)
        have b11 : a.eval (.tmp 11) = .int .i64 (lv : Int) := hb (11, .int .i64 (lv : Int)) (by simp)
        have hm := (h.up hS)
        match i, hi with
        | 0, _ =>
          simp only [List.getElem?_toArray, List.getElem?_cons_zero, List.getElem?_cons_succ, Option.some.injEq] at ho; subst ho
          refine op_move _ rfl ?_; rw [b0]; exact ⟨.pointer (some ⟨M, 0, none⟩), rfl, hS, (by simp [Fa]), (fun hz => by cases hz), (fun _ _ hz => hz), (keep_of (m := 17) (free := [15, 18]) (by kernel_rfl) (by show _ < 19; omega) rfl)⟩
        | 1, _ =>
          simp only [List.getElem?_toArray, List.getElem?_cons_zero, List.getElem?_cons_succ, Option.some.injEq] at ho; subst ho
          have e0 := hd 0 _ rfl (by decide) 47 rfl; simp only [Fa] at e0; have t0 := e0; try simp [Act.eval] at t0
          exact op_run (.pointer (some ⟨M, 0, none⟩)) w (by simp [execOp, t0, go_sem]) ⟨.pointer (some ⟨M, 0, none⟩), rfl, hS, (by simp [Fa]), (fun hz => by cases hz), (fun _ _ hz => hz), (keep_of (m := 17) (free := [15, 18]) (by kernel_rfl) (by show _ < 19; omega) rfl)⟩
        | 2, _ =>
          simp only [List.getElem?_toArray, List.getElem?_cons_zero, List.getElem?_cons_succ, Option.some.injEq] at ho; subst ho
          have e1 := hd 1 _ rfl (by decide) 48 rfl; simp only [Fa] at e1; have t1 := e1; try simp [Act.eval] at t1
          exact op_run (.pointer (some ⟨M, 0, none⟩)) w (by simp [execOp, t1, go_sem]) ⟨.pointer (some ⟨M, 0, none⟩), rfl, hS, (by simp [Fa]), (fun hz => by cases hz), (fun _ _ hz => hz), (keep_of (m := 17) (free := [15, 18]) (by kernel_rfl) (by show _ < 19; omega) rfl)⟩
        | 3, _ =>
          simp only [List.getElem?_toArray, List.getElem?_cons_zero, List.getElem?_cons_succ, Option.some.injEq] at ho; subst ho
          have e2 := hd 2 _ rfl (by decide) 49 rfl; simp only [Fa] at e2; have t2 := e2; try simp [Act.eval] at t2
          have hr := hm.row
          exact op_run (.slice (some ⟨B, 0, none⟩) (8 * n) cp) w (by simp [execOp, t2, go_sem, hr]) ⟨.slice (some ⟨B, 0, none⟩) (8 * n) cp, rfl, hS, (by simp [Fa]), (fun hz => by cases hz), (fun _ _ hz => hz), (keep_of (m := 17) (free := [15, 18]) (by kernel_rfl) (by show _ < 19; omega) rfl)⟩
        | 4, _ =>
          simp only [List.getElem?_toArray, List.getElem?_cons_zero, List.getElem?_cons_succ, Option.some.injEq] at ho; subst ho
          refine op_move _ rfl ?_; rw [b10]; exact ⟨.int .i64 (f : Int), rfl, hS, (by simp [Fa]), (fun hz => by cases hz), (fun _ _ hz => hz), (keep_of (m := 17) (free := [15, 18]) (by kernel_rfl) (by show _ < 19; omega) rfl)⟩
        | 5, _ =>
          simp only [List.getElem?_toArray, List.getElem?_cons_zero, List.getElem?_cons_succ, Option.some.injEq] at ho; subst ho
          have e4 := hd 4 _ rfl (by decide) 51 rfl; simp only [Fa] at e4; have t4 := e4; try simp [Act.eval] at t4
          exact op_run (.int .i64 (8 * (f : Int))) w (by simp [execOp, t4, go_sem]; exact wrapI _ (by omega) (by omega)) ⟨.int .i64 (8 * (f : Int)), rfl, hS, (by simp [Fa]), (fun hz => by cases hz), (fun _ _ hz => hz), (keep_of (m := 17) (free := [15, 18]) (by kernel_rfl) (by show _ < 19; omega) rfl)⟩
        | 6, _ =>
          simp only [List.getElem?_toArray, List.getElem?_cons_zero, List.getElem?_cons_succ, Option.some.injEq] at ho; subst ho
          refine op_move _ rfl ?_; rw [b2]; exact ⟨.int .i64 page, rfl, hS, (by simp [Fa]), (fun hz => by cases hz), (fun _ _ hz => hz), (keep_of (m := 17) (free := [15, 18]) (by kernel_rfl) (by show _ < 19; omega) rfl)⟩
        | 7, _ =>
          simp only [List.getElem?_toArray, List.getElem?_cons_zero, List.getElem?_cons_succ, Option.some.injEq] at ho; subst ho
          refine op_move _ rfl ?_; rw [b11]; exact ⟨.int .i64 (lv : Int), rfl, hS, (by simp [Fa]), (fun hz => by cases hz), (fun _ _ hz => hz), (keep_of (m := 17) (free := [15, 18]) (by kernel_rfl) (by show _ < 19; omega) rfl)⟩
        | 8, _ =>
          simp only [List.getElem?_toArray, List.getElem?_cons_zero, List.getElem?_cons_succ, Option.some.injEq] at ho; subst ho
          have e6 := hd 6 _ rfl (by decide) 53 rfl; simp only [Fa] at e6; have t6 := e6; try simp [Act.eval] at t6
          have e7 := hd 7 _ rfl (by decide) 54 rfl; simp only [Fa] at e7; have t7 := e7; try simp [Act.eval] at t7
          refine op_call 77 _ _ rfl #[.int .i64 page, .int .i64 (lv : Int)] (by simp [e6, e7]) (enters_of Try.func77 (by kernel_rfl) rfl) ((ixR page lv (by omega) _).mono ?_)
          rintro e w' ⟨rfl, hw'⟩; rw [hw']
          exact ⟨_, rfl, .int .i64 (ix page lv), rfl, hS, (by simp [Fa]), (fun hz => by cases hz), (fun _ _ hz => hz), (keep_of (m := 17) (free := [15, 18]) (by kernel_rfl) (by show _ < 19; omega) rfl)⟩
        | 9, _ =>
          simp only [List.getElem?_toArray, List.getElem?_cons_zero, List.getElem?_cons_succ, Option.some.injEq] at ho; subst ho
          have e5 := hd 5 _ rfl (by decide) 52 rfl; simp only [Fa] at e5; have t5 := e5; try simp [Act.eval] at t5
          have e8 := hd 8 _ rfl (by decide) 55 rfl; simp only [Fa] at e8; have t8 := e8; try simp [Act.eval] at t8
          exact op_run (.int .i64 (8 * (f : Int) + ix page lv)) w (by simp [execOp, t5, t8, go_sem]; exact wrapI _ (by omega) (by omega)) ⟨.int .i64 (8 * (f : Int) + ix page lv), rfl, hS, (by simp [Fa]), (fun hz => by cases hz), (fun _ _ hz => hz), (keep_of (m := 17) (free := [15, 18]) (by kernel_rfl) (by show _ < 19; omega) rfl)⟩
        | 10, _ =>
          simp only [List.getElem?_toArray, List.getElem?_cons_zero, List.getElem?_cons_succ, Option.some.injEq] at ho; subst ho
          have e3 := hd 3 _ rfl (by decide) 50 rfl; simp only [Fa] at e3; have t3 := e3; try simp [Act.eval] at t3
          have e9 := hd 9 _ rfl (by decide) 56 rfl; simp only [Fa] at e9; have t9 := e9; try simp [Act.eval] at t9
          exact op_run (.pointer (some ⟨B, 8 * f + (ix page lv).toNat, none⟩)) w (by simp [execOp, t3, t9, go_sem]; rw [if_pos ⟨by omega, by omega⟩, show (8 * (f : Int) + ix page lv).toNat = 8 * f + (ix page lv).toNat by omega]) ⟨.pointer (some ⟨B, 8 * f + (ix page lv).toNat, none⟩), rfl, hS, (by simp [Fa]), (fun hz => by cases hz), (fun _ _ hz => hz), (keep_of (m := 17) (free := [15, 18]) (by kernel_rfl) (by show _ < 19; omega) rfl)⟩
        | 11, _ =>
          simp only [List.getElem?_toArray, List.getElem?_cons_zero, List.getElem?_cons_succ, Option.some.injEq] at ho; subst ho
          have e10 := hd 10 _ rfl (by decide) 57 rfl; simp only [Fa] at e10; have t10 := e10; try simp [Act.eval] at t10
          have hc := hm.at_ (8 * f + (ix page lv).toNat) (by omega)
          exact op_run (.int .u64 (wd (8 * f + (ix page lv).toNat))) w (by simp [execOp, t10, go_sem, hc]) ⟨.int .u64 (wd (8 * f + (ix page lv).toNat)), rfl, hS, (by simp [Fa]), (fun hz => by cases hz), (fun _ _ hz => hz), (keep_of (m := 17) (free := [15, 18]) (by kernel_rfl) (by show _ < 19; omega) rfl)⟩
        | 12, _ =>
          simp only [List.getElem?_toArray, List.getElem?_cons_zero, List.getElem?_cons_succ, Option.some.injEq] at ho; subst ho
          have e11 := hd 11 _ rfl (by decide) 58 rfl; simp only [Fa] at e11; have t11 := e11; try simp [Act.eval] at t11
          have hx := (hm.wf (8 * f + (ix page lv).toNat))
          refine op_call 66 _ _ rfl #[.int .u64 (wd (8 * f + (ix page lv).toNat))] (by simp [e11]) (enters_of Try.func66 (by kernel_rfl) rfl) ((decR _ (by omega) (by omega) _).mono ?_)
          rintro e w' ⟨rfl, hw'⟩
          exact ⟨_, rfl, _, rfl, hS.trans hw', (by simp [Fa]), (fun hz => by cases hz), (fun _ _ hz => hz.up hw'), keep_of (m := 17) (free := [15, 18]) (by kernel_rfl) (by show _ < 19; omega) rfl⟩
        | 13, _ =>
          simp only [List.getElem?_toArray, List.getElem?_cons_zero, List.getElem?_cons_succ, Option.some.injEq] at ho; subst ho
          have e12 := hd 12 _ rfl (by decide) 59 rfl; simp only [Fa] at e12; have t12 := e12; try simp [Act.eval] at t12
          refine op_move _ rfl ?_; rw [e12]; exact ⟨.tuple #[dE (wd (8 * f + (ix page lv).toNat)), .int .i64 (dF (wd (8 * f + (ix page lv).toNat)))], rfl, hS, (by simp [Fa]), (fun hz => by cases hz), (fun _ _ hz => hz), (keep_of (m := 17) (free := [15, 18]) (by kernel_rfl) (by show _ < 19; omega) rfl)⟩
        | 14, _ =>
          simp only [List.getElem?_toArray, List.getElem?_cons_zero, List.getElem?_cons_succ, Option.some.injEq] at ho; subst ho
          have e13 := hd 13 _ rfl (by decide) 46 rfl; simp only [Fa] at e13; have t13 := e13; try simp [Act.eval] at t13
          exact op_run (dE (wd (8 * f + (ix page lv).toNat))) w (by simp [execOp, t13, go_sem]) ⟨dE (wd (8 * f + (ix page lv).toNat)), rfl, hS, (by simp [Fa]), (fun hz => by cases hz), (fun _ _ hz => hz), (keep_of (m := 17) (free := [15, 18]) (by kernel_rfl) (by show _ < 19; omega) rfl)⟩
        | 15, _ =>
          simp only [List.getElem?_toArray, List.getElem?_cons_zero, List.getElem?_cons_succ, Option.some.injEq] at ho; subst ho
          have e13 := hd 13 _ rfl (by decide) 46 rfl; simp only [Fa] at e13; have t13 := e13; try simp [Act.eval] at t13
          exact op_run (.int .i64 (dF (wd (8 * f + (ix page lv).toNat)))) w (by simp [execOp, t13, go_sem]) ⟨.int .i64 (dF (wd (8 * f + (ix page lv).toNat))), rfl, hS, (by simp [Fa]), (fun hz => by cases hz), (fun _ _ hz => hz), (fun _ _ _ _ _ _ hn => hn.keep (by decide) _)⟩
        | 16, _ =>
          simp only [List.getElem?_toArray, List.getElem?_cons_zero, List.getElem?_cons_succ, Option.some.injEq] at ho; subst ho
          have hc := fun j => cell_new w #[.bool false, .bool false, .bool false, .bool false, .int .i64 0] 59 j
          have hz : ∀ j, (w.alloc (.cells #[.bool false, .bool false, .bool false, .bool false, .int .i64 0] 59)).frozen? ⟨w.heap.size, j, none⟩ = false := fun j => by unfold World.frozen?; rw [heap_alloc_last]; simp
          have hlt : w.heap.size < (w.alloc (.cells #[.bool false, .bool false, .bool false, .bool false, .int .i64 0] 59)).heap.size := by show _ < (w.heap.push _).size; simp
          refine op_run (.pointer (some ⟨w.heap.size, 0, none⟩)) (w.alloc (.cells #[.bool false, .bool false, .bool false, .bool false, .int .i64 0] 59)) (by kernel_rfl) ⟨_, rfl, hS.trans (Up.alloc _ _ _), ⟨_, rfl, hS.size, hlt, (fun j hj => ⟨?_, hz _⟩), hz⟩, (fun hz => by cases hz), (fun _ _ hz => hz.up (Up.alloc _ _ _)), (keep_of (m := 17) (free := [15, 18]) (by kernel_rfl) (by show _ < 19; omega) rfl)⟩
          rw [Nat.zero_add, hc j]; match j, hj with | 0, _ => rfl | 1, _ => rfl | 2, _ => rfl | 3, _ => rfl | 4, _ => rfl
        | 17, _ =>
          simp only [List.getElem?_toArray, List.getElem?_cons_zero, List.getElem?_cons_succ, Option.some.injEq] at ho; subst ho
          have e16 := hd 16 _ rfl (by decide) 12 rfl; simp only [Fa] at e16; have t16 := e16; try simp [Act.eval] at t16
          have e14 := hd 14 _ rfl (by decide) 60 rfl; simp only [Fa] at e14; have t14 := e14; try simp [Act.eval] at t14
          obtain ⟨b, e16, hb1, hb2, hb3, hb4⟩ := e16
          obtain ⟨v0, v1, v2, v3, v4, hv, hall⟩ := dE_agg (wd (8 * f + (ix page lv).toNat))
          refine wp_store_mid 59 _ _ rfl b 0 #[v0, v1, v2, v3, v4] e16 (by rw [e14, hv]) ?_ (by kernel_rfl) hall ?_
          · exact hb3
          · exact ⟨undef, rfl, up_setCells b hb1 _ 0 w hS, trivial, (fun _ => ⟨b, v0, v1, v2, v3, v4, e16, hv, Bx5.stored hb1 hb2 hb3 hb4 _ _ _ _ _⟩), (fun _ _ hz => hz.set _ _ _), (keep_of (m := 17) (free := [15, 18]) (by kernel_rfl) (by show _ < 19; omega) rfl)⟩
        | 18, _ =>
          simp only [List.getElem?_toArray, List.getElem?_cons_zero, List.getElem?_cons_succ, Option.some.injEq] at ho; subst ho
          have e15 := hd 15 _ rfl (by decide) 61 rfl; simp only [Fa] at e15; have t15 := e15; try simp [Act.eval] at t15
          refine op_assign _ rfl ?_; rw [e15]; exact ⟨.int .i64 (dF (wd (8 * f + (ix page lv).toNat))), rfl, hS, (by simp [Fa]), (fun hz => by cases hz), (fun _ _ hz => hz), (fun _ _ _ _ _ _ hn => hn.keep (by decide) _)⟩
    · obtain rfl : lv = 3 := by omega
      have hf2 : wk2 n wd root page = some f := by
        rcases hl with ⟨h1, _⟩ | ⟨h1, _⟩ | ⟨_, h1⟩
        · omega
        · omega
        · exact h1
      have x3 := fun W => ixR page 3 (by omega) W
      have b2 := wk2_some hf2
      have b2' : (f : Int) ≤ 63 := by omega
      obtain ⟨y1, y2⟩ := ix_in page 3 ⟨i3, i4⟩
      go_wp2_with (first | (go_at_call 77; refine (x3 _).mono ?_; rintro e w' ⟨rfl, hw⟩; rw [hw]; clear hw))
      refine bodyPost_ret (results_tmp2 rfl _ _ _) rfl ?_
      refine ⟨_, _, rfl, hu, ?_⟩
      rw [hf2]
      exact ⟨rfl, rfl⟩
end Go.Proofs.AO
