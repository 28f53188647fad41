/- audit.Check gives nothing, or a row of findings that rises strictly. No conditions beside those in its theorems. -/
import Derived.Test.YtgmdginjikhamaaRG2
import Derived.Test.YtgmdginjikhamaaAO18
import Derived.Shelf.SlSortCmp.NoneTotal
set_option linter.unusedSimpArgs false
namespace Go.Proofs.AO
open Go.RowKit Go.Maps Go.Shelf Go.Lib Go.Sort
set_option linter.unusedVariables false
set_option maxRecDepth 100000
set_option maxHeartbeats 1000000
/-- a view in memory -/
structure Vw (A : Array Value) (W : World) : Prop where
  big : Big A
  obs : ∃ (a : Option Addr) (n c : Nat) (z : Nat → Nat → Int), n ≤ 40 ∧ A[0]? = some (.slice a n c) ∧ (Rw 9 W a n fun j t => .int .i64 (z j t)) ∧ ∀ j t, WF (z j t)
  caps : ∃ (a : Option Addr) (n c : Nat) (z : Nat → Nat → Int), n ≤ 40 ∧ A[1]? = some (.slice a n c) ∧ (Rw 10 W a n fun j t => (hd (z j)).getD t undef) ∧ ∀ j t, t < 2 → WF (z j t)
  tree : ∃ (a : Option Addr) (n c : Nat) (z : Nat → Nat → Int), n ≤ 40 ∧ A[2]? = some (.slice a n c) ∧ (Rw 3 W a n fun j t => .int .i64 (z j t)) ∧ ∀ j t, WF (z j t)
  ths : ∃ (a : Option Addr) (n c : Nat), n ≤ 40 ∧ A[3]? = some (.slice a n c) ∧ Rs 24 PrT W a n
  pools : ∃ PA pc ro, Po A PA pc ro
  queue : ∃ (a : Option Addr) (n c : Nat) (z : Nat → Int), n ≤ 40 ∧ A[85]? = some (.slice a n c) ∧ (Rw 1 W a n fun j _ => .int .i64 (z j)) ∧ ∀ j, WF (z j)
theorem Vw.up {A : Array Value} {W w : World} (h : Vw A W) (u : Up W w) : Vw A w := by
  obtain ⟨h0, ⟨a, n, c, z, q1, q2, q3, q4⟩, ⟨a1, n1, c1, z1, r1, r2, r3, r4⟩, ⟨a2, n2, c2, z2, s1, s2, s3, s4⟩, ⟨a3, n3, c3, t1, t2, t3⟩, hp, ⟨a5, n5, c5, z5, v1, v2, v3, v4⟩⟩ := h
  exact ⟨h0, ⟨a, n, c, z, q1, q2, q3.up u, q4⟩, ⟨a1, n1, c1, z1, r1, r2, r3.up u, r4⟩, ⟨a2, n2, c2, z2, s1, s2, s3.up u, s4⟩, ⟨a3, n3, c3, t1, t2, t3.up u⟩, hp, ⟨a5, n5, c5, z5, v1, v2, v3.up u, v4⟩⟩
theorem Gv.own {W w : World} {m m' : Nat} {e : Ending} {w' : World} (h : Gv w m e w') (hm : m ≤ m') (hb : W.heap.size + 1 ≤ w.heap.size) : ∃ v, e = .returned v ∧ Own w' (W.heap.size + 1) v m' ∧ Up w w' := by
  obtain ⟨v, rfl, h1, h2⟩ := h
  exact ⟨v, rfl, (h1.low hb).more hm, h2⟩
theorem o14 {A : Array Value} {W w : World} (h : Vw A w) (hb : W.heap.size + 1 ≤ w.heap.size) : Calls Try.prog 14 #[.agg A] w fun e w' => ∃ v, e = .returned v ∧ Own w' (W.heap.size + 1) v 3200 ∧ Up w w' := by
  obtain ⟨a, n, c, z, q1, q2, q3, q4⟩ := h.obs
  exact (objects_any A a n c z w q1 q2 q3).mono fun e w' hg => hg.own (by omega) hb
theorem o15 {A : Array Value} {W w : World} (h : Vw A w) (hb : W.heap.size + 1 ≤ w.heap.size) : Calls Try.prog 15 #[.agg A] w fun e w' => ∃ v, e = .returned v ∧ Own w' (W.heap.size + 1) v 3200 ∧ Up w w' := by
  obtain ⟨a, n, c, z, q1, q2, q3, q4⟩ := h.obs
  obtain ⟨a1, n1, c1, z1, r1, r2, r3, r4⟩ := h.caps
  obtain ⟨a2, n2, c2, z2, s1, s2, s3, s4⟩ := h.tree
  exact (caps_any A h.big a a1 a2 n c n1 c1 n2 c2 z z1 z2 w q1 r1 s1 q2 r2 s2 q3 r3 r4 s3 s4).mono fun e w' hg => hg.own (by omega) hb
theorem o16 {A : Array Value} {W w : World} (h : Vw A w) (hb : W.heap.size + 1 ≤ w.heap.size) : Calls Try.prog 16 #[.agg A] w fun e w' => ∃ v, e = .returned v ∧ Own w' (W.heap.size + 1) v 3200 ∧ Up w w' := by
  obtain ⟨a, n, c, z, q1, q2, q3, q4⟩ := h.obs
  obtain ⟨a3, n3, c3, t1, t2, t3⟩ := h.ths
  obtain ⟨a5, n5, c5, z5, v1, v2, v3, v4⟩ := h.queue
  exact (threads_any A h.big a a5 a3 n c n5 c5 n3 c3 z z5 w q1 v1 t1 q2 t2 v2 q3 q4 v3 v4 t3).mono fun e w' hg => hg.own (by omega) hb
theorem o17 {A : Array Value} {W w : World} (h : Vw A w) (hb : W.heap.size + 1 ≤ w.heap.size) : Calls Try.prog 17 #[.agg A] w fun e w' => ∃ v, e = .returned v ∧ Own w' (W.heap.size + 1) v 3200 ∧ Up w w' := by
  obtain ⟨a, n, c, z, q1, q2, q3, q4⟩ := h.obs
  obtain ⟨PA, pc, ro, hp⟩ := h.pools
  exact (pools_any A h.big a n c z PA pc ro hp w q1 q2 q3).mono fun e w' hg => hg.own (by omega) hb
def Fc (W : World) (A : Array Value) (i : Nat) (v : Value) (w : World) : Prop :=
  if i = 0 ∨ i = 2 ∨ i = 4 ∨ i = 6 then v = .agg A else if i < 8 then Own w (W.heap.size + 1) v 3200
  else if i = 8 then ∃ (blk : Nat) (c : Nat → Value), v = .slice (some ⟨blk, 0, none⟩) 4 4 ∧ (∀ j, j < 4 → w.cell? ⟨blk, j, none⟩ = some (c j)) ∧ ∀ j, j < 4 → Own w (W.heap.size + 1) (c j) 3200
  else Own w (W.heap.size + 1) v 12800
theorem Own.up {A B : World} {base m : Nat} {v : Value} (h : Own A base v m) (u : Up A B) : Own B base v m := h.heap fun k hk _ => u.block k hk
theorem Fc.up {W w w' : World} {A : Array Value} {i : Nat} {v : Value} (u : Up w w') (h : Fc W A i v w) : Fc W A i v w' := by
  unfold Fc at h ⊢
  split
  · rename_i h1; rw [if_pos h1] at h; exact h
  · rename_i h1
    rw [if_neg h1] at h
    split
    · rename_i h2; rw [if_pos h2] at h; exact h.up u
    · rename_i h2
      rw [if_neg h2] at h
      split
      · rename_i h3
        rw [if_pos h3] at h
        obtain ⟨blk, c, q1, q2, q3⟩ := h
        exact ⟨blk, c, q1, fun j hj => u.keeps (q2 j hj), fun j hj => (q3 j hj).up u⟩
      · rename_i h3; rw [if_neg h3] at h; exact h.up u
def Sc (W : World) (A : Array Value) (w : World) : Prop := Up W w ∧ w.heap[W.heap.size]? = some (.cells A 32 (0, 0)) ∧ W.heap.size + 1 ≤ w.heap.size
theorem Sc.up {W w w' : World} {A : Array Value} (u : Up w w') (h : Sc W A w) : Sc W A w' := ⟨h.1.trans u, u.heap h.2.1, Nat.le_trans h.2.2 u.size⟩
theorem act18 (a : Act) (h : a.tmps.size = 18) (hd : a.defers = []) : ∃ u : Nat → Value, (∀ i, a.eval (.tmp i) = u i) ∧ a = { tmps := #[u 0, u 1, u 2, u 3, u 4, u 5, u 6, u 7, u 8, u 9, u 10, u 11, u 12, u 13, u 14, u 15, u 16, u 17], defers := [] } := by
  refine ⟨fun i => a.eval (.tmp i), fun _ => rfl, ?_⟩
  obtain ⟨ts, ds⟩ := a
  simp only at h hd
  subst hd
  congr 1
  refine Array.ext_getElem? fun i => ?_
  match i with
  | 0 => simp [Act.eval, show 0 < ts.size by omega]
  | 1 => simp [Act.eval, show 1 < ts.size by omega]
  | 2 => simp [Act.eval, show 2 < ts.size by omega]
  | 3 => simp [Act.eval, show 3 < ts.size by omega]
  | 4 => simp [Act.eval, show 4 < ts.size by omega]
  | 5 => simp [Act.eval, show 5 < ts.size by omega]
  | 6 => simp [Act.eval, show 6 < ts.size by omega]
  | 7 => simp [Act.eval, show 7 < ts.size by omega]
  | 8 => simp [Act.eval, show 8 < ts.size by omega]
  | 9 => simp [Act.eval, show 9 < ts.size by omega]
  | 10 => simp [Act.eval, show 10 < ts.size by omega]
  | 11 => simp [Act.eval, show 11 < ts.size by omega]
  | 12 => simp [Act.eval, show 12 < ts.size by omega]
  | 13 => simp [Act.eval, show 13 < ts.size by omega]
  | 14 => simp [Act.eval, show 14 < ts.size by omega]
  | 15 => simp [Act.eval, show 15 < ts.size by omega]
  | 16 => simp [Act.eval, show 16 < ts.size by omega]
  | 17 => simp [Act.eval, show 17 < ts.size by omega]
  | i + 18 => rw [Array.getElem?_eq_none (by omega), Array.getElem?_eq_none (by simp)]
theorem Row.hc {w : World} {base g n cap : Nat} {d : List F3} (h : Row w base (.slice (some ⟨g, 0, none⟩) n cap) d) : Hc w g (fun j => d[j]!) d.length ∧ ∀ j, j < d.length * 3 → w.frozen? ⟨g, j, none⟩ = false := by
  rcases h.2 with ⟨h0, _⟩ | ⟨g', cap', cur, h0, _, hg, h1, h2, h3, h4⟩
  · cases h0
  · cases h0
    have key : ∀ t, t < d.length * 3 → w.cell? ⟨g, t, none⟩ = (d[t / 3]?).bind fun x => (enc3 x)[t % 3]? := by
      intro t ht
      rw [cell_of_row _ _ _ _ _ _ hg, ← flat_get, ← h4, List.getElem?_take, if_pos ht]
      simp
    refine ⟨⟨fun j hj => ?_, fun j hj => ?_, fun j hj => ?_⟩, fun j hj => by simp [World.frozen?, hg]⟩
    · rw [key _ (by omega), show j * 3 / 3 = j by omega, show j * 3 % 3 = 0 by omega, List.getElem?_eq_getElem hj, getElem!_pos d j hj]; rfl
    · rw [key _ (by omega), show (j * 3 + 1) / 3 = j by omega, show (j * 3 + 1) % 3 = 1 by omega, List.getElem?_eq_getElem hj, getElem!_pos d j hj]; rfl
    · rw [key _ (by omega), show (j * 3 + 2) / 3 = j by omega, show (j * 3 + 2) % 3 = 2 by omega, List.getElem?_eq_getElem hj, getElem!_pos d j hj]; rfl
theorem sort_f (W w : World) (base g n cap : Nat) (d : List F3) (hu : Up W w) (hb : W.heap.size ≤ base) (h : Row w base (.slice (some ⟨g, 0, none⟩) n cap) d) (hn : d.length ≤ 100000) :
    Calls Try.prog 18 #[.slice (some ⟨g, 0, none⟩) n cap, .func (.func 19) #[] #[]] w fun e w' => e = .returned (.tuple #[]) ∧ Up W w' ∧ n = d.length ∧ n ≤ cap ∧ cap ≤ maxLen ∧ base ≤ g ∧ ∃ D : Nat → F3, Hc w' g D n ∧ (∀ j, j < n * 3 → w'.frozen? ⟨g, j, none⟩ = false) ∧ ∀ j, j + 1 < n → ¬ L3 (D (j + 1)) (D j) := by
  rcases h.2 with ⟨h0, _⟩ | ⟨g', cap', cur, h0, hbg, hg, h1, h2, h3, h4⟩
  · cases h0
  · cases h0
    have hlt := (Array.getElem?_eq_some_iff.1 hg).1
    have eg : ∀ args w, (callFunc 19 args).run Try.prog w = .ok (.enter 19 args) w := enters_of Try.func19 (by kernel_rfl) rfl
    have hcon := AnyQ.slices_SortFunc Try.laysSlF06 3 Try.isAgg38 Try.sizeOf38 enc3 (fun _ => rfl) (fun x v hv => by simp [enc3] at hv; rcases hv with rfl | rfl | rfl <;> rfl) cf3 swo3 19 #[] g 0 cap d.toArray w eg
      (fun m os dk hs x y => clo19 x y _) (holds3 hg h1 h3 h4) hlt (by simpa using Nat.lt_of_le_of_lt hn (by omega))
    change Calls Try.prog 18 _ _ _ at hcon
    simp only [List.size_toArray] at hcon
    refine hcon.mono ?_
    rintro e w' ⟨rfl, d', q, os, hp, hs, rfl⟩
    have hl : d'.size = d.length := by simpa using hp.1
    have hrow : Row (sortWorldK enc3 3 w g 0 q d' os) base (.slice (some ⟨g, 0, none⟩) d.length cap) d'.toList := by
      have := row_sort (w := w) (base := base) (n := q) (d := d) (d' := d'.toList) (os := os) hg hbg h1 h2 h3 (by simpa using hl)
      simpa using this
    obtain ⟨hc, hf⟩ := hrow.hc
    have hl' : d'.toList.length = d.length := by simpa using hl
    rw [hl'] at hc hf
    refine ⟨rfl, up_sort hu hlt (by omega), rfl, h1, h2, hbg, _, hc, hf, fun j hj hL => ?_⟩
    have h5 := hs j (j + 1) (Nat.zero_le _) (by omega) hj
    rw [lt3] at h5
    simp only [decide_eq_false_iff_not] at h5
    have hj1 : j < d'.toList.length := by omega
    have hj2 : j + 1 < d'.toList.length := by omega
    rw [getElem!_pos d'.toList j hj1, getElem!_pos d'.toList (j + 1) hj2] at hL
    rw [getElem!_pos d' j (by omega), getElem!_pos d' (j + 1) (by omega)] at h5
    exact h5 (by simpa [L3] using hL)
theorem compact_nil (W : World) : Calls Try.prog 22 #[.slice none 0 0] W fun e w' => e = .returned (.slice none 0 0) ∧ w' = W := by
  go_enter Try.func22, Try.ntmps22
  go_wp2
  go_ret
  exact ⟨rfl, rfl⟩
theorem sort_nil (W : World) (fv : Value) : Calls Try.prog 18 #[.slice none 0 0, fv] W fun e w' => e = .returned (.tuple #[]) ∧ w' = W := AnyF.slices_SortFunc_none Try.laysSlF06 none 0 fv W
/-- what Check gives -/
def Ck (W : World) (e : Ending) (w' : World) : Prop := ∃ v, e = .returned v ∧ Up W w' ∧ (v = .slice none 0 0 ∨ ∃ (g K c' : Nat) (E : Nat → F3), v = .slice (some ⟨g, 0, none⟩) K c' ∧ K ≤ 12800 ∧ Hc w' g E K ∧ ∀ j, j + 1 < K → L3 (E j) (E (j + 1)))
theorem check_any (A : Array Value) (W : World) (hv : Vw A W) : Calls Try.prog 7 #[.agg A] W (Ck W) := by
  obtain ⟨i35, h35, h35z, h35s, _⟩ := info_parts (show (Try.prog.info? 35).map (fun i => (i.zero, i.size, i.bytes)) = some (some (.slice none 0 0), 1, 24) by kernel_rfl)
  have size32' : (Try.prog.info? 32).map (·.size) = some A.size := by rw [size32, hv.big.1]
  go_enter Try.func7, Try.ntmps7
  go_wp2
  refine wp_region_any (by kernel_rfl) ?_
  refine wpAny_vals 18 [(1, .pointer (some ⟨W.heap.size, 0, none⟩))] (Fc W A) (Sc W A) (by kernel_rfl) ?step ?done (ready_of (by kernel_rfl)) _ _ rfl rfl (by simp [Act.eval]) ?start
  case start => exact ⟨(Up.alloc W _ _).trans (Up.drew _), heap_alloc_last W _, by show _ ≤ (W.heap.push _).size; simp⟩
  case step =>
    intro i o ho a w hsz hb hS hd
    have hi : i < 11 := (Array.getElem?_eq_some_iff.1 ho).1
    have hp : a.eval (.tmp 1) = .pointer (some ⟨W.heap.size, 0, none⟩) := hb (1, _) (List.mem_singleton.2 rfl)
    have ld : ∀ (K : Act → World → Prop) (o : Oper), o.op = .load 32 (.tmp 1) → K (a.put o.dst (.agg A)) w → ∀ Q, o.wp Try.prog a w K Q := fun K o ho hk Q => wp_load_row 32 (.tmp 1) ho W.heap.size hp 32 A (0, 0) _ hS.2.1 Try.underlying32 rfl size32' hk
    match i, hi with
    | 0, _ => cases ho; exact ld _ _ rfl ⟨_, rfl, hS, by simp [Fc], fun _ _ h => h⟩ _
    | 2, _ => cases ho; exact ld _ _ rfl ⟨_, rfl, hS, by simp [Fc], fun _ _ h => h⟩ _
    | 4, _ => cases ho; exact ld _ _ rfl ⟨_, rfl, hS, by simp [Fc], fun _ _ h => h⟩ _
    | 6, _ => cases ho; exact ld _ _ rfl ⟨_, rfl, hS, by simp [Fc], fun _ _ h => h⟩ _
    | 1, _ =>
      cases ho
      have e0 : a.eval (.tmp 4) = .agg A := by have := hd 0 _ rfl rfl 4 rfl; simpa [Fc] using this
      refine op_call 14 _ _ rfl #[.agg A] (by simp [e0]) (enters_of Try.func14 (by kernel_rfl) rfl) ((o14 (hv.up hS.1) hS.2.2).mono ?_)
      rintro e w' ⟨v, rfl, q1, q2⟩
      exact ⟨v, rfl, v, rfl, hS.up q2, by simpa [Fc] using q1, fun j v h => h.up q2⟩
    | 3, _ =>
      cases ho
      have e0 : a.eval (.tmp 6) = .agg A := by have := hd 2 _ rfl rfl 6 rfl; simpa [Fc] using this
      refine op_call 15 _ _ rfl #[.agg A] (by simp [e0]) (enters_of Try.func15 (by kernel_rfl) rfl) ((o15 (hv.up hS.1) hS.2.2).mono ?_)
      rintro e w' ⟨v, rfl, q1, q2⟩
      exact ⟨v, rfl, v, rfl, hS.up q2, by simpa [Fc] using q1, fun j v h => h.up q2⟩
    | 5, _ =>
      cases ho
      have e0 : a.eval (.tmp 8) = .agg A := by have := hd 4 _ rfl rfl 8 rfl; simpa [Fc] using this
      refine op_call 16 _ _ rfl #[.agg A] (by simp [e0]) (enters_of Try.func16 (by kernel_rfl) rfl) ((o16 (hv.up hS.1) hS.2.2).mono ?_)
      rintro e w' ⟨v, rfl, q1, q2⟩
      exact ⟨v, rfl, v, rfl, hS.up q2, by simpa [Fc] using q1, fun j v h => h.up q2⟩
    | 7, _ =>
      cases ho
      have e0 : a.eval (.tmp 10) = .agg A := by have := hd 6 _ rfl rfl 10 rfl; simpa [Fc] using this
      refine op_call 17 _ _ rfl #[.agg A] (by simp [e0]) (enters_of Try.func17 (by kernel_rfl) rfl) ((o17 (hv.up hS.1) hS.2.2).mono ?_)
      rintro e w' ⟨v, rfl, q1, q2⟩
      exact ⟨v, rfl, v, rfl, hS.up q2, by simpa [Fc] using q1, fun j v h => h.up q2⟩
    | 8, _ =>
      cases ho
      have g1 : Own w (W.heap.size + 1) (a.eval (.tmp 5)) 3200 := by have := hd 1 _ rfl rfl 5 rfl; simpa [Fc] using this
      have g3 : Own w (W.heap.size + 1) (a.eval (.tmp 7)) 3200 := by have := hd 3 _ rfl rfl 7 rfl; simpa [Fc] using this
      have g5 : Own w (W.heap.size + 1) (a.eval (.tmp 9)) 3200 := by have := hd 5 _ rfl rfl 9 rfl; simpa [Fc] using this
      have g7 : Own w (W.heap.size + 1) (a.eval (.tmp 11)) 3200 := by have := hd 7 _ rfl rfl 11 rfl; simpa [Fc] using this
      obtain ⟨a1, n1, c1, f1, _, _, _⟩ := g1.shape
      obtain ⟨a3, n3, c3, f3, _, _, _⟩ := g3.shape
      obtain ⟨a5, n5, c5, f5, _, _, _⟩ := g5.shape
      obtain ⟨a7, n7, c7, f7, _, _, _⟩ := g7.shape
      rw [f1] at g1
      rw [f3] at g3
      rw [f5] at g5
      rw [f7] at g7
      refine op_buildSlice 70 35 4 _ rfl #[.slice a1 n1 c1, .slice a3 n3 c3, .slice a5 n5 c5, .slice a7 n7 c7] i35 (.slice none 0 0) Try.underlying70 h35 h35z (by rw [h35s]; decide) (by rw [h35s]; decide) (by
        rw [h35s]
        simp only [List.map_toArray, List.map_cons, List.map_nil, f1, f3, f5, f7]
        kernel_rfl) ?_
      have u := Up.alloc w #[.slice a1 n1 c1, .slice a3 n3 c3, .slice a5 n5 c5, .slice a7 n7 c7] 35
      refine ⟨_, rfl, hS.up u, ?_, fun j v h => h.up u⟩
      simp only [Fc]
      rw [if_neg (by omega), if_neg (by omega), if_pos trivial]
      refine ⟨_, fun j => match j with | 0 => .slice a1 n1 c1 | 1 => .slice a3 n3 c3 | 2 => .slice a5 n5 c5 | _ => .slice a7 n7 c7, rfl, fun j hj => ?_, fun j hj => ?_⟩
      · rw [cell_new]
        match j, hj with
        | 0, _ => rfl
        | 1, _ => rfl
        | 2, _ => rfl
        | 3, _ => rfl
      · match j, hj with
        | 0, _ => exact g1.up u
        | 1, _ => exact g3.up u
        | 2, _ => exact g5.up u
        | 3, _ => exact g7.up u
    | 9, _ =>
      cases ho
      have g := hd 8 _ rfl rfl 12 rfl
      obtain ⟨blk, c, q1, q2, q3⟩ : ∃ (blk : Nat) (c : Nat → Value), a.eval (.tmp 12) = .slice (some ⟨blk, 0, none⟩) 4 4 ∧ (∀ j, j < 4 → w.cell? ⟨blk, j, none⟩ = some (c j)) ∧ ∀ j, j < 4 → Own w (W.heap.size + 1) (c j) 3200 := by simpa [Fc] using g
      refine op_call 13 _ _ rfl #[.slice (some ⟨blk, 0, none⟩) 4 4] (by simp [q1]) (enters_of Try.func13 (by kernel_rfl) rfl) ((concat_any _ blk c w q2 q3).mono ?_)
      rintro e w' ⟨v, rfl, r1, r2⟩
      exact ⟨v, rfl, v, rfl, hS.up r2, by simpa [Fc] using r1.low hS.2.2, fun j v h => h.up r2⟩
    | 10, _ =>
      cases ho
      have g := hd 9 _ rfl rfl 13 rfl
      exact op_assign _ rfl ⟨_, rfl, hS, by simpa [Fc] using g, fun _ _ h => h⟩
  case done =>
    intro a w hsz hdf hb hS hF
    have hl : Own w (W.heap.size + 1) (a.eval (.tmp 3)) 12800 := by simpa [Fc] using hF 10 _ 3 rfl rfl
    have hp : a.eval (.tmp 1) = .pointer (some ⟨W.heap.size, 0, none⟩) := hb (1, _) (List.mem_singleton.2 rfl)
    obtain ⟨u, hu, rfl⟩ := act18 a hsz hdf
    rw [hu] at hl
    clear hF
    obtain ⟨d, hd, hr⟩ := hl
    have hup := hS.1
    rcases hr.2 with ⟨hv3, h0⟩ | ⟨g, cap, cur, hv3, hbg, _⟩
    · rw [hv3]
      go_wp2_with (first
        | (go_at_call 18; refine (sort_nil _ _).mono ?_; rintro e w' ⟨rfl, rfl⟩)
        | (go_at_call 22; refine (compact_nil _).mono ?_; rintro e w' ⟨rfl, rfl⟩))
      go_ret
      exact ⟨_, rfl, hup, .inl rfl⟩
    · rw [hv3] at hr ⊢
      have hsort := sort_f W w _ g _ cap d hup (Nat.le_succ _) hr (by omega)
      go_wp2_with (first
        | (go_at_call 18; refine hsort.mono ?_; rintro e w' ⟨rfl, hup2, hn, hcap, hml, hbg2, D, hc, hf, hs⟩; have hcomp := compact_f W g d.length cap D (by omega) hcap hml w' (by omega) hup2 hc hf hs)
        | (go_at_call 22; refine hcomp.mono ?_; rintro e w'' ⟨K, c', E, rfl, hK, hc2, hs2, hup3⟩))
      go_ret
      exact ⟨_, rfl, hup3, .inr ⟨g, K, c', E, rfl, by omega, hc2, hs2⟩⟩
end Go.Proofs.AO
