/- ref33.stale. No conditions beside those in its theorems. -/
import Derived.Test.YtgmdginjikhamaaSJ
set_option linter.unusedSimpArgs false
namespace Go.Proofs.AO
open Go.RowKit Go.Maps Go.Shelf Go.Sort
set_option linter.unusedVariables false
set_option linter.unusedSimpArgs false
set_option maxRecDepth 100000
set_option maxHeartbeats 4000000
/-- does a walk's result differ from what a translation has? -/
def dif (r : Option Nat) (fr : Int) (rd wt : Bool) : Bool := match r with | none => true | some x => ((x / 256 % 64 : Nat) : Int) != fr || (dr x != rd || dx x != wt)
def stl (n : Nat) (wd : Nat → Nat) (zo : Nat → Nat → Int) (R : Option Nat) (page fr : Int) (rd wt : Bool) : Bool := match R with | none => true | some k => dif (wk n wd (zo k 3) page) fr rd wt
theorem rows_at {ao : Option Addr} {no : Nat} {zo : Nat → Nat → Int} {W w : World} (ho : Rw 9 W ao no fun j t => .int .i64 (zo j t)) (u : Up W w) {m : Nat} (hm : m < no) :
    ∃ b off, ao = some ⟨b, off, none⟩ ∧ w.cell? ⟨b, off + m * 9, none⟩ = some (.int .i64 (zo m 0)) ∧ w.cell? ⟨b, off + m * 9 + 3, none⟩ = some (.int .i64 (zo m 3)) := by
  obtain ⟨b, off, h, h1⟩ := ho m hm
  exact ⟨b, off, h, u.keeps (h1 0 (by omega)), u.keeps (h1 3 (by omega))⟩
theorem wk_good {n : Nat} {wd : Nat → Nat} {root page : Int} {x : Nat} (h : wk n wd root page = some x) : nx n true x ≠ none := by
  rw [wk_of] at h
  cases h2 : wk2 n wd root page with
  | none => rw [h2] at h; cases h
  | some f2 =>
    rw [h2] at h
    simp only at h
    split at h
    · cases h
    · rename_i v hv
      cases h
      rw [hv]
      simp
theorem heap_set_ne (b : Nat) : ∀ (vs : List Value) (o : Nat) (w : World) (k : Nat), k ≠ b → (w.setCells b o vs).heap[k]? = w.heap[k]?
  | [], _, _, _, _ => rfl
  | v :: r, o, w, k, hk => by
    rw [World.setCells, heap_set_ne b r (o + 1) _ k hk, Below.heap_setCell _ _ _ k (by show k ≠ b; exact hk)]
theorem Sw.set {W w : World} {A X : Array Value} (h : Sw W A X w) {b : Nat} (hb : W.heap.size ≤ b) (hb0 : b ≠ W.heap.size) (hb1 : b ≠ W.heap.size + 1) (vs : List Value) : Sw W A X (w.setCells b 0 vs) :=
  ⟨up_setCells b hb _ 0 w h.up, (heap_set_ne b vs 0 w _ (fun e => hb0 e.symm)).trans h.box, (heap_set_ne b vs 0 w _ (fun e => hb1 e.symm)).trans h.bxx⟩
theorem stale_f (A : Array Value) (ao : Option Addr) (no co : Nat) (zo : Nat → Nat → Int) (PA : Array Value) (pc : Nat → Array Value) (ro : Nat → Nat → Int) (M B n cp : Nat) (wd : Nat → Nat) (sp page fr : Int) (rd wt : Bool) (hsp : WF sp) (hpg : WF page) (W : World) (hv : Vq W A ao no co zo PA pc ro)
    (hrc : ∀ k, k < 8 → ∀ j, j < 4 → A[4 + k * 10 + 2 + j]? = some (.int .i64 (ro k j))) (hme : Me W M B n cp wd) :
    Calls Try.prog 27 #[.agg A, .pointer (some ⟨M, 0, none⟩), .agg #[.int .i64 sp, .int .i64 page, .int .i64 fr, .bool rd, .bool wt]] W fun e w' => e = .returned (.bool (stl n wd zo (sr no zo ro sp 32) page fr rd wt)) ∧ Up W w' := by
  have hno := hv.n40
  have ho := hv.rows
  have h0 := hv.h0
  have hs := hv.big
  have hwz := hv.wf
  have u1 := Up.alloc W A 32
  have s1 : (W.alloc (.cells A 32)).heap.size = W.heap.size + 1 := by show (W.heap.push _).size = _; simp
  have t0 : Sw W A #[.int .i64 sp, .int .i64 page, .int .i64 fr, .bool rd, .bool wt] ((W.alloc (.cells A 32)).alloc (.cells #[.int .i64 sp, .int .i64 page, .int .i64 fr, .bool rd, .bool wt] 57)) :=
    ⟨u1.trans (Up.alloc _ _ _), (Up.alloc _ _ _).heap (heap_alloc_last W _), by rw [← s1]; exact heap_alloc_last _ _⟩
  obtain ⟨R, hR⟩ : ∃ R, sr no zo ro sp 32 = R := ⟨_, rfl⟩
  rw [hR]
  clear hv u1
  go_enter Try.func27, Try.ntmps27
  go_wp2
  go_loopw [7] (fun i w' => ∃ k : Nat, k ≤ 8 ∧ i = .int .i64 k ∧ Sw W A #[.int .i64 sp, .int .i64 page, .int .i64 fr, .bool rd, .bool wt] w' ∧ sr no zo ro sp (32 - 4 * k) = R) (fun i _ => 8 - (intOf i).toNat)
  case atStart => exact ⟨0, Nat.zero_le _, rfl, t0, hR⟩
  case round =>
    clear t0 hR
    obtain ⟨k, hk, rfl, t, hR⟩ := hrel
    by_cases hlt : k < 8
    · go_wp2
      go_loopw [8] (fun i w' => ∃ j : Nat, j ≤ 4 ∧ i = .int .i64 j ∧ Sw W A #[.int .i64 sp, .int .i64 page, .int .i64 fr, .bool rd, .bool wt] w' ∧ sr no zo ro sp (32 - (4 * k + j)) = R) (fun i _ => 4 - (intOf i).toNat)
      case atStart => exact ⟨0, Nat.zero_le _, rfl, t, hR⟩
      case round =>
        clear t hR
        obtain ⟨j, hj, rfl, t, hR⟩ := hrel
        by_cases hlt2 : j < 4
        · rw [sr_step hlt hlt2] at hR
          have x0 := t.cellx 0
          have b0 := (t.cell 0).trans h0
          have r0 := (t.cell _).trans (hrc k hlt j hlt2)
          by_cases hsk : ((4 * k + j : Nat) : Int) = sp
          · have hsk' : (4 * (k : Int) + (j : Int) != sp) = false := by simp; omega
            by_cases hz : ro k j = 0
            · rw [if_neg (fun hh => hh.2 hz)] at hR
              rw [hz] at r0
              clear hsk
              go_wp2
              go_roundw
              case rel => exact ⟨j + 1, by omega, by go_num, t, hR⟩
              case measure => simp [intOf]; omega
            · rw [if_pos ⟨hsk, hz⟩] at hR
              obtain ⟨id, hid⟩ : ∃ id, id = ro k j := ⟨_, rfl⟩
              rw [← hid] at r0 hz hR
              have hid' := hid.symm
              clear hid hsk
              have hz' : (id == 0) = false := by simpa using hz
              clear hz
              go_wp2
              go_loopw [9] (fun i w' => ∃ m : Nat, m ≤ no ∧ i = .int .i64 m ∧ Sw W A #[.int .i64 sp, .int .i64 page, .int .i64 fr, .bool rd, .bool wt] w' ∧ (match ob no zo id (no - m) with | some k => some k | none => sr no zo ro sp (32 - (4 * k + (j + 1)))) = R) (fun i _ => no - (intOf i).toNat)
              case atStart => exact ⟨0, Nat.zero_le _, rfl, t, hR⟩
              case round =>
                clear t
                obtain ⟨m, hm, rfl, t, hR⟩ := hrel
                have b0 := (t.cell 0).trans h0
                have r0 := (t.cell _).trans (hrc k hlt j hlt2)
                rw [hid'] at r0
                clear hid'
                by_cases hlt3 : m < no
                · obtain ⟨b, off, rfl, c0, c3⟩ := rows_at ho t.up hlt3
                  rw [ob_step hlt3] at hR
                  by_cases hid : zo m 0 = id
                  · rw [if_pos hid] at hR
                    simp only at hR
                    subst hR
                    rw [hid] at c0
                    clear hid
                    go_wp2
                    go_quiet (fail)
                    go_wp2
                    clear b0 r0 x0 hR
                    have c3W : W.cell? ⟨b, off + m * 9 + 3, none⟩ = some (.int .i64 (zo m 3)) := by
                      obtain ⟨b', off', h1, h2⟩ := ho m hlt3
                      cases h1
                      exact h2 3 (by omega)
                    refine wp_region_any (by kernel_rfl) ?_
                    refine wpAny_valsN 94 [(1, .pointer (some ⟨M, 0, none⟩)), (3, .pointer (some ⟨W.heap.size, 0, none⟩)), (5, .pointer (some ⟨W.heap.size + 1, 0, none⟩)), (9, .int .i64 (m : Int))] (Fs W M (some ⟨b, off, none⟩) no co b off m (zo m 3) page (wk n wd (zo m 3) page)) (Ns W (wk n wd (zo m 3) page)) (Sw W A #[.int .i64 sp, .int .i64 page, .int .i64 fr, .bool rd, .bool wt]) (by kernel_rfl) ?step ?done (ready_ofB (by kernel_rfl)) _ _ rfl rfl ?bs (t.to ((Up.drewN _ _).trans (Up.drew _)))
                    case bs => simp [Act.eval]
                    case done =>
                      intro a w hsz hdf hb hS hF hN
                      obtain ⟨bb, v0, v1, v2, v3, v4, q10, hv, B5⟩ := hN 14 _ rfl rfl
                      have q11 := hF 15 _ 11 rfl rfl
                      simp only [Fs] at q11
                      obtain ⟨g, q11, hg⟩ := q11
                      obtain ⟨u, hu', rfl⟩ := act94 a hsz hdf
                      rw [hu'] at q10 q11
                      have k5 : u 5 = .pointer (some ⟨W.heap.size + 1, 0, none⟩) := (hu' _).symm.trans (hb (5, .pointer (some ⟨W.heap.size + 1, 0, none⟩)) (by simp))
                      clear hF hN hb
                      rw [k5, q10, q11]
                      have d0 := B5.c0
                      have d1 := B5.c1
                      have d2 := B5.c2
                      have d3 := B5.c3
                      have d4 := B5.c4
                      have x2 := hS.cellx 2
                      have x3 := hS.cellx 3
                      have x4 := hS.cellx 4
                      have hup := hS.up
                      clear hS hu' B5
                      cases hwk : wk n wd (zo m 3) page with
                      | none =>
                        rw [hwk] at hv hg
                        cases hv
                        have hg' : (g != 0) = true := by simp; intro h; simp [h] at hg
                        clear hg
                        go_wp2
                        go_ret
                        exact ⟨by simp [stl, hwk, dif], hup⟩
                      | some x =>
                        rw [hwk] at hv hg
                        obtain rfl : g = 0 := by simpa using hg
                        have hnx : nx n true x ≠ none := wk_good hwk
                        rcases dE_cases n x true with ⟨_, _, _, _, _, hh, _⟩ | ⟨_, hE, _, _⟩
                        · exact absurd hh hnx
                        · rw [show wv (some x) = dE x from rfl, hE] at hv
                          cases hv
                          have hgoal : dif (some x) fr rd wt = (((x / 256 % 64 : Nat) : Int) != fr || (dr x != rd || dx x != wt)) := rfl
                          revert hgoal d4
                          generalize x / 256 % 64 = F
                          revert d2 d3
                          generalize dr x = R
                          generalize dx x = Y
                          intro d2 d3 d4 hgoal
                          clear hg
                          by_cases hF : (F : Int) = fr
                          · have hF1 : ((F : Int) != fr) = false := by simpa using hF
                            cases R <;> cases Y <;> cases rd <;> cases wt
                            all_goals
                              (go_wp2
                               go_ret
                               exact ⟨by simp [stl, hwk, hgoal, hF1], hup⟩)
                          · have hF1 : ((F : Int) != fr) = true := by simpa using hF
                            clear hF
                            go_wp2
                            go_ret
                            exact ⟨by simp [stl, hwk, hgoal, hF1], hup⟩
                    case step =>
                      intro i o ho a w hsz hb hS hd
                      have hi : i < 16 := (Array.getElem?_eq_some_iff.1 ho).1
                      have b1 : a.eval (.tmp 1) = .pointer (some ⟨M, 0, none⟩) := hb (1, .pointer (some ⟨M, 0, none⟩)) (by simp)
                      have b3 : a.eval (.tmp 3) = .pointer (some ⟨W.heap.size, 0, none⟩) := hb (3, .pointer (some ⟨W.heap.size, 0, none⟩)) (by simp)
                      have b5 : a.eval (.tmp 5) = .pointer (some ⟨W.heap.size + 1, 0, none⟩) := hb (5, .pointer (some ⟨W.heap.size + 1, 0, none⟩)) (by simp)
                      have b9 : a.eval (.tmp 9) = .int .i64 (m : Int) := hb (9, .int .i64 (m : Int)) (by simp)
                      have s3 := b3
                      have s5 := b5
                      simp [Act.eval] at s3 s5
                      match i, hi with
                        | 0, _ =>
                          simp only [List.getElem?_toArray, List.getElem?_cons_zero, List.getElem?_cons_succ, Option.some.injEq] at ho; subst ho
                          refine op_move _ rfl ?_; rw [b1]; exact ⟨.pointer (some ⟨M, 0, none⟩), rfl, hS, (by simp [Fs]), (fun hz => by cases hz), (fun _ _ hz => hz), (keep_of (m := 14) (free := [12, 15]) (by kernel_rfl) (by show _ < 16; omega) rfl)⟩
                        | 1, _ =>
                          simp only [List.getElem?_toArray, List.getElem?_cons_zero, List.getElem?_cons_succ, Option.some.injEq] at ho; subst ho
                          exact op_run (.pointer (some ⟨W.heap.size, 0, none⟩)) w (by simp [execOp, s3, go_sem]) ⟨.pointer (some ⟨W.heap.size, 0, none⟩), rfl, hS, (by simp [Fs]), (fun hz => by cases hz), (fun _ _ hz => hz), (keep_of (m := 14) (free := [12, 15]) (by kernel_rfl) (by show _ < 16; omega) rfl)⟩
                        | 2, _ =>
                          simp only [List.getElem?_toArray, List.getElem?_cons_zero, List.getElem?_cons_succ, Option.some.injEq] at ho; subst ho
                          have e1 := hd 1 _ rfl (by decide) 60 rfl; simp only [Fs] at e1; have t1 := e1; try simp [Act.eval] at t1
                          have hr := (hS.cell 0).trans h0
                          exact op_run (.slice (some ⟨b, off, none⟩) no co) w (by simp [execOp, t1, go_sem, hr]) ⟨.slice (some ⟨b, off, none⟩) no co, rfl, hS, (by simp [Fs]), (fun hz => by cases hz), (fun _ _ hz => hz), (keep_of (m := 14) (free := [12, 15]) (by kernel_rfl) (by show _ < 16; omega) rfl)⟩
                        | 3, _ =>
                          simp only [List.getElem?_toArray, List.getElem?_cons_zero, List.getElem?_cons_succ, Option.some.injEq] at ho; subst ho
                          refine op_move _ rfl ?_; rw [b9]; exact ⟨.int .i64 (m : Int), rfl, hS, (by simp [Fs]), (fun hz => by cases hz), (fun _ _ hz => hz), (keep_of (m := 14) (free := [12, 15]) (by kernel_rfl) (by show _ < 16; omega) rfl)⟩
                        | 4, _ =>
                          simp only [List.getElem?_toArray, List.getElem?_cons_zero, List.getElem?_cons_succ, Option.some.injEq] at ho; subst ho
                          have e2 := hd 2 _ rfl (by decide) 61 rfl; simp only [Fs] at e2; have t2 := e2; try simp [Act.eval] at t2
                          have e3 := hd 3 _ rfl (by decide) 62 rfl; simp only [Fs] at e3; have t3 := e3; try simp [Act.eval] at t3
                          exact op_run (.pointer (some ⟨b, off + m * 9, none⟩)) w (by simp [execOp, t2, t3, go_sem]; omega) ⟨.pointer (some ⟨b, off + m * 9, none⟩), rfl, hS, (by simp [Fs]), (fun hz => by cases hz), (fun _ _ hz => hz), (keep_of (m := 14) (free := [12, 15]) (by kernel_rfl) (by show _ < 16; omega) rfl)⟩
                        | 5, _ =>
                          simp only [List.getElem?_toArray, List.getElem?_cons_zero, List.getElem?_cons_succ, Option.some.injEq] at ho; subst ho
                          have e4 := hd 4 _ rfl (by decide) 63 rfl; simp only [Fs] at e4; have t4 := e4; try simp [Act.eval] at t4
                          exact op_run (.pointer (some ⟨b, off + m * 9 + 3, none⟩)) w (by simp [execOp, t4, go_sem]) ⟨.pointer (some ⟨b, off + m * 9 + 3, none⟩), rfl, hS, (by simp [Fs]), (fun hz => by cases hz), (fun _ _ hz => hz), (keep_of (m := 14) (free := [12, 15]) (by kernel_rfl) (by show _ < 16; omega) rfl)⟩
                        | 6, _ =>
                          simp only [List.getElem?_toArray, List.getElem?_cons_zero, List.getElem?_cons_succ, Option.some.injEq] at ho; subst ho
                          have e5 := hd 5 _ rfl (by decide) 64 rfl; simp only [Fs] at e5; have t5 := e5; try simp [Act.eval] at t5
                          have hc := hS.up.keeps c3W
                          exact op_run (.int .i64 (zo m 3)) w (by simp [execOp, t5, go_sem, hc]) ⟨.int .i64 (zo m 3), rfl, hS, (by simp [Fs]), (fun hz => by cases hz), (fun _ _ hz => hz), (keep_of (m := 14) (free := [12, 15]) (by kernel_rfl) (by show _ < 16; omega) rfl)⟩
                        | 7, _ =>
                          simp only [List.getElem?_toArray, List.getElem?_cons_zero, List.getElem?_cons_succ, Option.some.injEq] at ho; subst ho
                          exact op_run (.pointer (some ⟨W.heap.size + 1, 1, none⟩)) w (by simp [execOp, s5, go_sem]) ⟨.pointer (some ⟨W.heap.size + 1, 1, none⟩), rfl, hS, (by simp [Fs]), (fun hz => by cases hz), (fun _ _ hz => hz), (keep_of (m := 14) (free := [12, 15]) (by kernel_rfl) (by show _ < 16; omega) rfl)⟩
                        | 8, _ =>
                          simp only [List.getElem?_toArray, List.getElem?_cons_zero, List.getElem?_cons_succ, Option.some.injEq] at ho; subst ho
                          have e7 := hd 7 _ rfl (by decide) 66 rfl; simp only [Fs] at e7; have t7 := e7; try simp [Act.eval] at t7
                          have hc := hS.cellx 1
                          exact op_run (.int .i64 page) w (by simp [execOp, t7, go_sem, hc]) ⟨.int .i64 page, rfl, hS, (by simp [Fs]), (fun hz => by cases hz), (fun _ _ hz => hz), (keep_of (m := 14) (free := [12, 15]) (by kernel_rfl) (by show _ < 16; omega) rfl)⟩
                        | 9, _ =>
                          simp only [List.getElem?_toArray, List.getElem?_cons_zero, List.getElem?_cons_succ, Option.some.injEq] at ho; subst ho
                          have e0 := hd 0 _ rfl (by decide) 59 rfl; simp only [Fs] at e0; have t0 := e0; try simp [Act.eval] at t0
                          have e6 := hd 6 _ rfl (by decide) 65 rfl; simp only [Fs] at e6; have t6 := e6; try simp [Act.eval] at t6
                          have e8 := hd 8 _ rfl (by decide) 67 rfl; simp only [Fs] at e8; have t8 := e8; try simp [Act.eval] at t8
                          refine op_call 41 _ _ rfl #[.pointer (some ⟨M, 0, none⟩), .int .i64 (zo m 3), .int .i64 page] (by simp [e0, e6, e8]) (enters_of Try.func41 (by kernel_rfl) rfl) ((walk_g M B n cp wd (zo m 3) page (hwz _ _) hpg w (hme.up hS.up)).mono ?_)
                          rintro e w' ⟨⟨g, rfl, hg⟩, hw'⟩
                          exact ⟨_, rfl, _, rfl, hS.to hw', (by simp only [Fs]; exact ⟨g, rfl, hg⟩), (fun hz => by cases hz), (fun _ _ hz => hz.up hw'), (keep_of (m := 14) (free := [12, 15]) (by kernel_rfl) (by show _ < 16; omega) rfl)⟩
                        | 10, _ =>
                          simp only [List.getElem?_toArray, List.getElem?_cons_zero, List.getElem?_cons_succ, Option.some.injEq] at ho; subst ho
                          have e9 := hd 9 _ rfl (by decide) 68 rfl; simp only [Fs] at e9; have t9 := e9; try simp [Act.eval] at t9
                          obtain ⟨g, e9, hg⟩ := e9
                          refine op_move _ rfl ?_; rw [e9]; exact ⟨_, rfl, hS, (by simp only [Fs]; exact ⟨g, rfl, hg⟩), (fun hz => by cases hz), (fun _ _ hz => hz), (keep_of (m := 14) (free := [12, 15]) (by kernel_rfl) (by show _ < 16; omega) rfl)⟩
                        | 11, _ =>
                          simp only [List.getElem?_toArray, List.getElem?_cons_zero, List.getElem?_cons_succ, Option.some.injEq] at ho; subst ho
                          have e10 := hd 10 _ rfl (by decide) 58 rfl; simp only [Fs] at e10; have t10 := e10; try simp [Act.eval] at t10
                          obtain ⟨g, e10, hg⟩ := e10; clear t10; have t10 := e10; try simp [Act.eval] at t10
                          exact op_run (wv (wk n wd (zo m 3) page)) w (by simp [execOp, t10, go_sem]) ⟨wv (wk n wd (zo m 3) page), rfl, hS, (by simp [Fs]), (fun hz => by cases hz), (fun _ _ hz => hz), (keep_of (m := 14) (free := [12, 15]) (by kernel_rfl) (by show _ < 16; omega) rfl)⟩
                        | 12, _ =>
                          simp only [List.getElem?_toArray, List.getElem?_cons_zero, List.getElem?_cons_succ, Option.some.injEq] at ho; subst ho
                          have e10 := hd 10 _ rfl (by decide) 58 rfl; simp only [Fs] at e10; have t10 := e10; try simp [Act.eval] at t10
                          obtain ⟨g, e10, hg⟩ := e10; clear t10; have t10 := e10; try simp [Act.eval] at t10
                          exact op_run (.int .i64 g) w (by simp [execOp, t10, go_sem]) ⟨.int .i64 g, rfl, hS, (by simp only [Fs]; exact ⟨g, rfl, hg⟩), (fun hz => by cases hz), (fun _ _ hz => hz), (fun _ _ _ _ _ _ hn => hn.keep (by decide) _)⟩
                        | 13, _ =>
                          simp only [List.getElem?_toArray, List.getElem?_cons_zero, List.getElem?_cons_succ, Option.some.injEq] at ho; subst ho
                          have hc := fun j => cell_new w #[.bool false, .bool false, .bool false, .bool false, .int .i64 0] 59 j
                          have hz : ∀ j, (w.alloc (.cells #[.bool false, .bool false, .bool false, .bool false, .int .i64 0] 59)).frozen? ⟨w.heap.size, j, none⟩ = false := fun j => by unfold World.frozen?; rw [heap_alloc_last]; simp
                          have hlt : w.heap.size < (w.alloc (.cells #[.bool false, .bool false, .bool false, .bool false, .int .i64 0] 59)).heap.size := by show _ < (w.heap.push _).size; simp
                          have hsz2 : W.heap.size + 2 ≤ w.heap.size := (Array.getElem?_eq_some_iff.1 hS.bxx).1
                          refine op_run (.pointer (some ⟨w.heap.size, 0, none⟩)) (w.alloc (.cells #[.bool false, .bool false, .bool false, .bool false, .int .i64 0] 59)) (by kernel_rfl) ⟨_, rfl, hS.to (Up.alloc _ _ _), ⟨_, rfl, hsz2, hlt, (fun j hj => ⟨?_, hz _⟩), hz⟩, (fun hz => by cases hz), (fun _ _ hz => hz.up (Up.alloc _ _ _)), (keep_of (m := 14) (free := [12, 15]) (by kernel_rfl) (by show _ < 16; omega) rfl)⟩
                          rw [Nat.zero_add, hc j]; match j, hj with | 0, _ => rfl | 1, _ => rfl | 2, _ => rfl | 3, _ => rfl | 4, _ => rfl
                        | 14, _ =>
                          simp only [List.getElem?_toArray, List.getElem?_cons_zero, List.getElem?_cons_succ, Option.some.injEq] at ho; subst ho
                          have e13 := hd 13 _ rfl (by decide) 10 rfl; simp only [Fs] at e13; have t13 := e13; try simp [Act.eval] at t13
                          have e11 := hd 11 _ rfl (by decide) 69 rfl; simp only [Fs] at e11; have t11 := e11; try simp [Act.eval] at t11
                          obtain ⟨bb, e13, hb1, hb2, hb3, hb4⟩ := e13
                          obtain ⟨v0, v1, v2, v3, v4, hv, hall⟩ := wv_agg (wk n wd (zo m 3) page)
                          refine wp_store_mid 59 _ _ rfl bb 0 #[v0, v1, v2, v3, v4] e13 (by rw [e11, hv]) ?_ (by kernel_rfl) hall ?_
                          · exact hb3
                          · exact ⟨undef, rfl, hS.set (by omega) (by omega) (by omega) _, trivial, (fun _ => ⟨bb, v0, v1, v2, v3, v4, e13, hv, Bx5.stored (by omega) hb2 hb3 hb4 _ _ _ _ _⟩), (fun _ _ hz => hz.set _ _ _), (keep_of (m := 14) (free := [12, 15]) (by kernel_rfl) (by show _ < 16; omega) rfl)⟩
                        | 15, _ =>
                          simp only [List.getElem?_toArray, List.getElem?_cons_zero, List.getElem?_cons_succ, Option.some.injEq] at ho; subst ho
                          have e12 := hd 12 _ rfl (by decide) 70 rfl; simp only [Fs] at e12; have t12 := e12; try simp [Act.eval] at t12
                          obtain ⟨g, e12, hg⟩ := e12
                          refine op_assign _ rfl ?_; rw [e12]; exact ⟨.int .i64 g, rfl, hS, (by simp only [Fs]; exact ⟨g, rfl, hg⟩), (fun hz => by cases hz), (fun _ _ hz => hz), (fun _ _ _ _ _ _ hn => hn.keep (by decide) _)⟩
                  · rw [if_neg hid] at hR
                    have hid2 : (zo m 0 != id) = true := by simpa using hid
                    clear hid
                    go_wp2
                    go_quiet (fail)
                    go_wp2
                    go_roundw
                    case rel => exact ⟨m + 1, by omega, by go_num, t.to (Up.drewN _ _), hR⟩
                    case measure => simp [intOf]; omega
                · obtain rfl : m = no := by omega
                  rw [Nat.sub_self] at hR
                  simp only [ob] at hR
                  go_wp2
                  go_roundw
                  case rel => exact ⟨j + 1, by omega, by go_num, t, hR⟩
                  case measure => simp [intOf]; omega
          · rw [if_neg (fun hh => hsk hh.1)] at hR
            have hsk' : (4 * (k : Int) + (j : Int) != sp) = true := by simp; omega
            clear hsk
            go_wp2
            go_roundw
            case rel => exact ⟨j + 1, by omega, by go_num, t, hR⟩
            case measure => simp [intOf]; omega
        · have hR' : sr no zo ro sp (32 - 4 * (k + 1)) = R := by rw [← hR]; congr 1; omega
          clear hR
          go_wp2
          go_roundw
          case rel => exact ⟨k + 1, by omega, by go_num, t, hR'⟩
          case measure => simp [intOf]; omega
    · obtain rfl : k = 8 := by omega
      have hRn : R = none := hR.symm
      subst hRn
      go_wp2
      go_ret
      exact ⟨rfl, t.up⟩
end Go.Proofs.AO
