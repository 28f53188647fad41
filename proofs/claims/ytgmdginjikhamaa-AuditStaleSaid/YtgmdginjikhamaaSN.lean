/- audit.Stale. No conditions beside those in its theorems. -/
import Derived.Test.YtgmdginjikhamaaSM
set_option linter.unusedSimpArgs false
namespace Go.Proofs.AO
open Go.RowKit Go.Maps Go.Shelf Go.Sort
set_option linter.unusedVariables false
set_option linter.unusedSimpArgs false
set_option maxRecDepth 100000
set_option maxHeartbeats 4000000
theorem fsr_wf {no : Nat} {zo : Nat → Nat → Int} {ro : Nat → Nat → Int} {sp : Int} (h : ∀ j t, WF (zo j t)) : WF (fsr no zo ro sp) := by
  unfold fsr ff
  split
  · exact h _ _
  · decide
theorem stale_a (A : Array Value) (ao : Option Addr) (no co : Nat) (zo : Nat → Nat → Int) (PA : Array Value) (pc : Nat → Array Value) (ro : Nat → Nat → Int) (p : Option Addr) (L cw : Nat) (ln : Nat → Nat) (xw : Nat → Nat → Nat) (a : Option Addr) (n cc : Nat) (sp pg fr : Nat → Int) (rd wt : Nat → Bool) (W : World) (hv : Vq W A ao no co zo PA pc ro)
    (hw : Wl W p L ln xw) (hT : Tr W a n sp pg fr rd wt) :
    Calls Try.prog 8 #[.agg A, .slice p L cw, .slice a n cc] W fun e w' => ∃ v, e = .returned v ∧ Up W w' ∧ OI w' (W.heap.size + 1) v (told (fun i => bd (whole L ln) (lfr L ln xw (pg i) 2 (fsr no zo ro (sp i))) (fr i) (rd i) (wt i)) n) := by
  have hn := hT.n40
  have hM := memory_f p L cw ln xw _ (hw.up (Up.alloc W A 32))
  have hsz32 : (Try.prog.info? 32).map (·.size) = some A.size := by rw [size32, hv.big.1]
  obtain ⟨wh, hwh⟩ : ∃ wh, whole L ln = wh := ⟨_, rfl⟩
  rw [hwh] at hM
  simp only [hwh]
  clear hwh
  go_enter Try.func8, Try.ntmps8
  go_wp2_with (go_at_call 23; refine hM.mono ?_; rintro e w' ⟨rfl, hw'⟩; rw [hw']; clear hw')
  go_loopw [7, 17] (fun l i w' => ∃ k : Nat, k ≤ n ∧ i = .int .i64 k ∧ S8 W A w' l (told (fun i => bd wh (lfr L ln xw (pg i) 2 (fsr no zo ro (sp i))) (fr i) (rd i) (wt i)) k)) (fun _ i _ => n - (intOf i).toNat)
  case atStart => exact ⟨0, Nat.zero_le _, rfl, S8.start W A⟩
  case round =>
    obtain ⟨k, hk, rfl, t⟩ := hrel
    by_cases hlt : k < n
    · obtain ⟨tb, off, rfl, c0, c1, c2, c3, c4⟩ := (hT.up t.up).at_ k hlt
      go_wp2
      clear c0 c1 c2 c3 c4
      have t1 := t.to (Up.alloc wr #[.int .i64 (sp k), .int .i64 (pg k), .int .i64 (fr k), .bool (rd k), .bool (wt k)] 57)
      have xx := fun j => cell_new wr #[.int .i64 (sp k), .int .i64 (pg k), .int .i64 (fr k), .bool (rd k), .bool (wt k)] 57 j
      have x0 := (xx 0).trans rfl
      have x1 := (xx 1).trans rfl
      have x2 := (xx 2).trans rfl
      have x3 := (xx 3).trans rfl
      have x4 := (xx 4).trans rfl
      clear xx
      obtain ⟨V, hV⟩ : ∃ V, V = wr.alloc (.cells #[.int .i64 (sp k), .int .i64 (pg k), .int .i64 (fr k), .bool (rd k), .bool (wt k)] 57) := ⟨_, rfl⟩
      rw [← hV] at t1 x0 x1 x2 x3 x4 ⊢
      clear hV
      have hbox := t1.box
      have hv := hv.up t1.up
      have hw := hw.up t1.up
      obtain ⟨r, hr⟩ : ∃ r, lfr L ln xw (pg k) 2 (fsr no zo ro (sp k)) = r := ⟨_, rfl⟩
      refine wp_region_any (by kernel_rfl) ?_
      refine wpAny_valsN 66 [(0, .agg A), (1, .slice p L cw), (2, .slice (some ⟨tb, off, none⟩) n cc), (3, .pointer (some ⟨W.heap.size, 0, none⟩)), (4, undef), (5, undef), (6, .slice none 0 0), (7, u7), (8, .bool wh), (9, .int .i64 (k : Int)), (10, .pointer (some ⟨wr.heap.size, 0, none⟩)), (13, .slice p L cw), (14, .bool wh), (15, .slice (some ⟨tb, off, none⟩) n cc), (16, .int .i64 (n : Int)), (17, .int .i64 (k : Int)), (65, undef)] (Fh V p L cw A wr.heap.size (sp k) (pg k) (fsr no zo ro (sp k)) r) (Nh V r) (fun w => Up V w) (by kernel_rfl) ?step ?done (ready_ofB (by kernel_rfl)) _ _ rfl rfl ?bs (Up.drew V)
      case bs => simp [Act.eval]
      case done =>
        intro ac w hsz hdf hb hS hF hN
        obtain ⟨bb, v0, v1, v2, v3, v4, q11, hvv, B5⟩ := hN 12 _ rfl rfl
        have q12 := hF 13 _ 12 rfl rfl
        simp only [Fh] at q12
        obtain ⟨u, hu', rfl⟩ := act66 ac hsz hdf
        rw [hu'] at q11 q12
        have kk := fun p hp => (hu' _).symm.trans (hb p hp)
        clear hF hN hb
        rw [show u 0 = .agg A from kk (0, .agg A) (by simp), show u 1 = .slice p L cw from kk (1, .slice p L cw) (by simp), show u 2 = .slice (some ⟨tb, off, none⟩) n cc from kk (2, .slice (some ⟨tb, off, none⟩) n cc) (by simp), show u 3 = .pointer (some ⟨W.heap.size, 0, none⟩) from kk (3, .pointer (some ⟨W.heap.size, 0, none⟩)) (by simp), show u 4 = undef from kk (4, undef) (by simp), show u 5 = undef from kk (5, undef) (by simp), show u 6 = .slice none 0 0 from kk (6, .slice none 0 0) (by simp), show u 7 = u7 from kk (7, u7) (by simp), show u 8 = .bool wh from kk (8, .bool wh) (by simp), show u 9 = .int .i64 (k : Int) from kk (9, .int .i64 (k : Int)) (by simp), show u 10 = .pointer (some ⟨wr.heap.size, 0, none⟩) from kk (10, .pointer (some ⟨wr.heap.size, 0, none⟩)) (by simp), show u 13 = .slice p L cw from kk (13, .slice p L cw) (by simp), show u 14 = .bool wh from kk (14, .bool wh) (by simp), show u 15 = .slice (some ⟨tb, off, none⟩) n cc from kk (15, .slice (some ⟨tb, off, none⟩) n cc) (by simp), show u 16 = .int .i64 (n : Int) from kk (16, .int .i64 (n : Int)) (by simp), show u 17 = .int .i64 (k : Int) from kk (17, .int .i64 (k : Int)) (by simp), show u 65 = undef from kk (65, undef) (by simp), q11, q12]
        have d0 := B5.c0
        have d1 := B5.c1
        have d2 := B5.c2
        have d3 := B5.c3
        have d4 := B5.c4
        have y2 := hS.keeps x2
        have y3 := hS.keeps x3
        have y4 := hS.keeps x4
        have t9 := t1.to hS
        have hlen := told_len (fun i => bd wh (lfr L ln xw (pg i) 2 (fsr no zo ro (sp i))) (fr i) (rd i) (wt i)) k
        clear x0 x1 x2 x3 x4 B5 hu' kk
        cases wh
        · clear hvv
          go_wp2_with (first | (at_builtin; refine S8.ap t9 rfl _ _ rfl (k : Int) rfl (by omega) rfl rfl rfl ?_; intro v' w' t10))
          go_roundw
          case rel => exact ⟨k + 1, by omega, by go_num, by rw [told_succ, if_pos (by simp [bd])]; exact t10⟩
          case measure => simp [intOf]; omega
        · cases r with
          | none =>
            cases hvv
            go_wp2_with (first | (at_builtin; refine S8.ap t9 rfl _ _ rfl (k : Int) rfl (by omega) rfl rfl rfl ?_; intro v' w' t10))
            go_roundw
            case rel => exact ⟨k + 1, by omega, by go_num, by rw [told_succ, if_pos (by simp [bd, hr, dif])]; exact t10⟩
            case measure => simp [intOf]; omega
          | some x =>
            have hnx : nx L true x ≠ none := lfr_good _ hr
            rcases dE_cases L x true with ⟨_, _, _, _, _, hh, _⟩ | ⟨_, hE, _, _⟩
            · exact absurd hh hnx
            · rw [show wv (some x) = dE x from rfl, hE] at hvv
              cases hvv
              have hgoal : ∀ f q v, dif (some x) f q v = (((x / 256 % 64 : Nat) : Int) != f || (dr x != q || dx x != v)) := fun _ _ _ => rfl
              clear hnx hE
              revert hgoal d4
              generalize x / 256 % 64 = F
              revert d2 d3
              generalize dr x = R
              generalize dx x = Y
              intro d2 d3 d4 hgoal
              obtain ⟨q, hq⟩ : ∃ q, rd k = q := ⟨_, rfl⟩
              obtain ⟨v, hv2⟩ : ∃ v, wt k = v := ⟨_, rfl⟩
              rw [hq] at y3
              rw [hv2] at y4
              by_cases hF : (F : Int) = fr k
              · have hF1 : ((F : Int) != fr k) = false := by simpa using hF
                clear hF
                rcases (by cases R <;> cases Y <;> cases q <;> cases v <;> simp : (R = q ∧ Y = v) ∨ (R = q ∧ Y ≠ v) ∨ R ≠ q) with ⟨rfl, rfl⟩ | ⟨rfl, h2⟩ | h2
                · have e1 : (R != R) = false := by simp
                  have e2 : (Y != Y) = false := by simp
                  go_wp2
                  go_roundw
                  case rel => exact ⟨k + 1, by omega, by go_num, by rw [told_succ, if_neg (by simp [bd, hr, hgoal, hF1, hq, hv2]), List.append_nil]; exact t9⟩
                  case measure => simp [intOf]; omega
                · have e1 : (R != R) = false := by simp
                  obtain rfl : v = !Y := by cases Y <;> cases v <;> simp_all
                  clear h2
                  go_wp2_with (first | (at_builtin; refine S8.ap t9 rfl _ _ rfl (k : Int) rfl (by omega) rfl rfl rfl ?_; intro v' w' t10))
                  go_roundw
                  case rel => exact ⟨k + 1, by omega, by go_num, by rw [told_succ, if_pos (by simp [bd, hr, hgoal, hF1, hq, hv2])]; exact t10⟩
                  case measure => simp [intOf]; omega
                · obtain rfl : q = !R := by cases R <;> cases q <;> simp_all
                  clear h2
                  go_wp2_with (first | (at_builtin; refine S8.ap t9 rfl _ _ rfl (k : Int) rfl (by omega) rfl rfl rfl ?_; intro v' w' t10))
                  go_roundw
                  case rel => exact ⟨k + 1, by omega, by go_num, by rw [told_succ, if_pos (by simp [bd, hr, hgoal, hF1, hq, hv2])]; exact t10⟩
                  case measure => simp [intOf]; omega
              · have hF1 : ((F : Int) != fr k) = true := by simpa using hF
                clear hF
                go_wp2_with (first | (at_builtin; refine S8.ap t9 rfl _ _ rfl (k : Int) rfl (by omega) rfl rfl rfl ?_; intro v' w' t10))
                go_roundw
                case rel => exact ⟨k + 1, by omega, by go_num, by rw [told_succ, if_pos (by simp [bd, hr, hgoal, hF1, hq, hv2])]; exact t10⟩
                case measure => simp [intOf]; omega
      case step =>
        intro i o ho a w hsz hb hS hd
        have hi : i < 14 := (Array.getElem?_eq_some_iff.1 ho).1
        have b1 : a.eval (.tmp 1) = .slice p L cw := hb (1, .slice p L cw) (by simp)
        have b3 : a.eval (.tmp 3) = .pointer (some ⟨W.heap.size, 0, none⟩) := hb (3, .pointer (some ⟨W.heap.size, 0, none⟩)) (by simp)
        have b10 : a.eval (.tmp 10) = .pointer (some ⟨wr.heap.size, 0, none⟩) := hb (10, .pointer (some ⟨wr.heap.size, 0, none⟩)) (by simp)
        have s3 := b3
        have s10 := b10
        simp [Act.eval] at s3 s10
        match i, hi with
          | 0, _ =>
            simp only [List.getElem?_toArray, List.getElem?_cons_zero, List.getElem?_cons_succ, Option.some.injEq] at ho; subst ho
            refine op_move _ rfl ?_; rw [b1]; exact ⟨.slice p L cw, rfl, hS, (by simp [Fh]), (fun hz => by cases hz), (fun _ _ hz => hz), (keep_of (m := 12) (free := [10, 13]) (by kernel_rfl) (by show _ < 14; omega) rfl)⟩
          | 1, _ =>
            simp only [List.getElem?_toArray, List.getElem?_cons_zero, List.getElem?_cons_succ, Option.some.injEq] at ho; subst ho
            refine wp_load_row 32 (.tmp 3) rfl W.heap.size b3 32 A (0, 0) _ (hS.heap hbox) Try.underlying32 rfl hsz32 ?_
            exact ⟨.agg A, rfl, hS, (by simp [Fh]), (fun hz => by cases hz), (fun _ _ hz => hz), (keep_of (m := 12) (free := [10, 13]) (by kernel_rfl) (by show _ < 14; omega) rfl)⟩
          | 2, _ =>
            simp only [List.getElem?_toArray, List.getElem?_cons_zero, List.getElem?_cons_succ, Option.some.injEq] at ho; subst ho
            exact op_run (.pointer (some ⟨wr.heap.size, 0, none⟩)) w (by simp [execOp, s10, go_sem]) ⟨.pointer (some ⟨wr.heap.size, 0, none⟩), rfl, hS, (by simp [Fh]), (fun hz => by cases hz), (fun _ _ hz => hz), (keep_of (m := 12) (free := [10, 13]) (by kernel_rfl) (by show _ < 14; omega) rfl)⟩
          | 3, _ =>
            simp only [List.getElem?_toArray, List.getElem?_cons_zero, List.getElem?_cons_succ, Option.some.injEq] at ho; subst ho
            have e2 := hd 2 _ rfl (by decide) 25 rfl; simp only [Fh] at e2; have t2 := e2; try simp [Act.eval] at t2
            have hc := hS.keeps x0
            exact op_run (.int .i64 (sp k)) w (by simp [execOp, t2, go_sem, hc]) ⟨.int .i64 (sp k), rfl, hS, (by simp [Fh]), (fun hz => by cases hz), (fun _ _ hz => hz), (keep_of (m := 12) (free := [10, 13]) (by kernel_rfl) (by show _ < 14; omega) rfl)⟩
          | 4, _ =>
            simp only [List.getElem?_toArray, List.getElem?_cons_zero, List.getElem?_cons_succ, Option.some.injEq] at ho; subst ho
            have e1 := hd 1 _ rfl (by decide) 24 rfl; simp only [Fh] at e1; have t1 := e1; try simp [Act.eval] at t1
            have e3 := hd 3 _ rfl (by decide) 26 rfl; simp only [Fh] at e3; have t3 := e3; try simp [Act.eval] at t3
            refine op_call 25 _ _ rfl #[.agg A, .int .i64 (sp k)] (by simp [e1, e3]) (enters_of Try.func25 (by kernel_rfl) rfl) ((first_f A ao no co zo PA pc ro (sp k) (hT.wf k).1 w (hv.up hS)).mono ?_)
            rintro e w' ⟨rfl, hw'⟩
            exact ⟨_, rfl, _, rfl, hS.trans hw', (by simp [Fh]), (fun hz => by cases hz), (fun _ _ hz => hz.up hw'), (keep_of (m := 12) (free := [10, 13]) (by kernel_rfl) (by show _ < 14; omega) rfl)⟩
          | 5, _ =>
            simp only [List.getElem?_toArray, List.getElem?_cons_zero, List.getElem?_cons_succ, Option.some.injEq] at ho; subst ho
            exact op_run (.pointer (some ⟨wr.heap.size, 1, none⟩)) w (by simp [execOp, s10, go_sem]) ⟨.pointer (some ⟨wr.heap.size, 1, none⟩), rfl, hS, (by simp [Fh]), (fun hz => by cases hz), (fun _ _ hz => hz), (keep_of (m := 12) (free := [10, 13]) (by kernel_rfl) (by show _ < 14; omega) rfl)⟩
          | 6, _ =>
            simp only [List.getElem?_toArray, List.getElem?_cons_zero, List.getElem?_cons_succ, Option.some.injEq] at ho; subst ho
            have e5 := hd 5 _ rfl (by decide) 28 rfl; simp only [Fh] at e5; have t5 := e5; try simp [Act.eval] at t5
            have hc := hS.keeps x1
            exact op_run (.int .i64 (pg k)) w (by simp [execOp, t5, go_sem, hc]) ⟨.int .i64 (pg k), rfl, hS, (by simp [Fh]), (fun hz => by cases hz), (fun _ _ hz => hz), (keep_of (m := 12) (free := [10, 13]) (by kernel_rfl) (by show _ < 14; omega) rfl)⟩
          | 7, _ =>
            simp only [List.getElem?_toArray, List.getElem?_cons_zero, List.getElem?_cons_succ, Option.some.injEq] at ho; subst ho
            have e0 := hd 0 _ rfl (by decide) 23 rfl; simp only [Fh] at e0; have t0 := e0; try simp [Act.eval] at t0
            have e4 := hd 4 _ rfl (by decide) 27 rfl; simp only [Fh] at e4; have t4 := e4; try simp [Act.eval] at t4
            have e6 := hd 6 _ rfl (by decide) 29 rfl; simp only [Fh] at e6; have t6 := e6; try simp [Act.eval] at t6
            refine op_call 24 _ _ rfl #[.slice p L cw, .int .i64 (fsr no zo ro (sp k)), .int .i64 (pg k)] (by simp [e0, e4, e6]) (enters_of Try.func24 (by kernel_rfl) rfl) ((leaf_g p L cw ln xw _ _ (fsr_wf hv.wf) (hT.wf k).2 w (hw.up hS)).mono ?_)
            rintro e w' ⟨rfl, hw'⟩; rw [hr]
            exact ⟨_, rfl, _, rfl, hS.trans hw', (by simp [Fh]), (fun hz => by cases hz), (fun _ _ hz => hz.up hw'), (keep_of (m := 12) (free := [10, 13]) (by kernel_rfl) (by show _ < 14; omega) rfl)⟩
          | 8, _ =>
            simp only [List.getElem?_toArray, List.getElem?_cons_zero, List.getElem?_cons_succ, Option.some.injEq] at ho; subst ho
            have e7 := hd 7 _ rfl (by decide) 30 rfl; simp only [Fh] at e7; have t7 := e7; try simp [Act.eval] at t7
            refine op_move _ rfl ?_; rw [e7]; exact ⟨.tuple #[wv r, .bool r.isSome], rfl, hS, (by simp [Fh]), (fun hz => by cases hz), (fun _ _ hz => hz), (keep_of (m := 12) (free := [10, 13]) (by kernel_rfl) (by show _ < 14; omega) rfl)⟩
          | 9, _ =>
            simp only [List.getElem?_toArray, List.getElem?_cons_zero, List.getElem?_cons_succ, Option.some.injEq] at ho; subst ho
            have e8 := hd 8 _ rfl (by decide) 22 rfl; simp only [Fh] at e8; have t8 := e8; try simp [Act.eval] at t8
            exact op_run (wv r) w (by simp [execOp, t8, go_sem]) ⟨wv r, rfl, hS, (by simp [Fh]), (fun hz => by cases hz), (fun _ _ hz => hz), (keep_of (m := 12) (free := [10, 13]) (by kernel_rfl) (by show _ < 14; omega) rfl)⟩
          | 10, _ =>
            simp only [List.getElem?_toArray, List.getElem?_cons_zero, List.getElem?_cons_succ, Option.some.injEq] at ho; subst ho
            have e8 := hd 8 _ rfl (by decide) 22 rfl; simp only [Fh] at e8; have t8 := e8; try simp [Act.eval] at t8
            exact op_run (.bool r.isSome) w (by simp [execOp, t8, go_sem]) ⟨.bool r.isSome, rfl, hS, (by simp [Fh]), (fun hz => by cases hz), (fun _ _ hz => hz), (fun _ _ _ _ _ _ hn => hn.keep (by decide) _)⟩
          | 11, _ =>
            simp only [List.getElem?_toArray, List.getElem?_cons_zero, List.getElem?_cons_succ, Option.some.injEq] at ho; subst ho
            have hc := fun j => cell_new w #[.bool false, .bool false, .bool false, .bool false, .int .i64 0] 59 j
            have hz : ∀ j, (w.alloc (.cells #[.bool false, .bool false, .bool false, .bool false, .int .i64 0] 59)).frozen? ⟨w.heap.size, j, none⟩ = false := fun j => by unfold World.frozen?; rw [heap_alloc_last]; simp
            have hlt : w.heap.size < (w.alloc (.cells #[.bool false, .bool false, .bool false, .bool false, .int .i64 0] 59)).heap.size := by show _ < (w.heap.push _).size; simp
            refine op_run (.pointer (some ⟨w.heap.size, 0, none⟩)) (w.alloc (.cells #[.bool false, .bool false, .bool false, .bool false, .int .i64 0] 59)) (by kernel_rfl) ⟨_, rfl, hS.trans (Up.alloc _ _ _), ⟨_, rfl, hS.size, hlt, (fun j hj => ⟨?_, hz _⟩), hz⟩, (fun hz => by cases hz), (fun _ _ hz => hz.up (Up.alloc _ _ _)), (keep_of (m := 12) (free := [10, 13]) (by kernel_rfl) (by show _ < 14; omega) rfl)⟩
            rw [Nat.zero_add, hc j]; match j, hj with | 0, _ => rfl | 1, _ => rfl | 2, _ => rfl | 3, _ => rfl | 4, _ => rfl
          | 12, _ =>
            simp only [List.getElem?_toArray, List.getElem?_cons_zero, List.getElem?_cons_succ, Option.some.injEq] at ho; subst ho
            have e11 := hd 11 _ rfl (by decide) 11 rfl; simp only [Fh] at e11; have t11 := e11; try simp [Act.eval] at t11
            have e9 := hd 9 _ rfl (by decide) 31 rfl; simp only [Fh] at e9; have t9 := e9; try simp [Act.eval] at t9
            obtain ⟨bb, e11, hb1, hb2, hb3, hb4⟩ := e11
            obtain ⟨v0, v1, v2, v3, v4, hvv, hall⟩ := wv_agg r
            refine wp_store_mid 59 _ _ rfl bb 0 #[v0, v1, v2, v3, v4] e11 (by rw [e9, hvv]) ?_ (by kernel_rfl) hall ?_
            · exact hb3
            · exact ⟨undef, rfl, up_setCells bb hb1 _ 0 w hS, trivial, (fun _ => ⟨bb, v0, v1, v2, v3, v4, e11, hvv, Bx5.stored hb1 hb2 hb3 hb4 _ _ _ _ _⟩), (fun _ _ hz => hz.set _ _ _), (keep_of (m := 12) (free := [10, 13]) (by kernel_rfl) (by show _ < 14; omega) rfl)⟩
          | 13, _ =>
            simp only [List.getElem?_toArray, List.getElem?_cons_zero, List.getElem?_cons_succ, Option.some.injEq] at ho; subst ho
            have e10 := hd 10 _ rfl (by decide) 32 rfl; simp only [Fh] at e10; have t10 := e10; try simp [Act.eval] at t10
            refine op_assign _ rfl ?_; rw [e10]; exact ⟨.bool r.isSome, rfl, hS, (by simp [Fh]), (fun hz => by cases hz), (fun _ _ hz => hz), (fun _ _ _ _ _ _ hn => hn.keep (by decide) _)⟩
    · obtain rfl : k = n := by omega
      go_wp2
      go_ret
      exact ⟨_, rfl, t.up, t.own⟩
end Go.Proofs.AO
