/- AuditStale returns true wherever it is called with views, words and translations. No conditions beside those in its theorems. -/
import Derived.Test.YtgmdginjikhamaaSQ
import Derived.Test.YtgmdginjikhamaaAW
import Derived.Test.YtgmdginjikhamaaSX5
set_option linter.unusedSimpArgs false
namespace Go.Proofs.AO
open Go.RowKit Go.Maps Go.Shelf Go.Lib Go.Sort
set_option linter.unusedVariables false
set_option maxRecDepth 100000
set_option maxHeartbeats 1000000
def Gr (W : World) (n0 n1 n2 n3 n5 n6 : Nat) (e : Ending) (w' : World) : Prop := ∃ r, e = .returned (.bool r) ∧ Up W w' ∧ (r = false → n0 ≤ 40 ∧ n1 ≤ 40 ∧ n2 ≤ 40 ∧ n3 ≤ 40 ∧ n5 ≤ 40 ∧ n6 ≤ 40)
theorem great_any (A : Array Value) (W : World) (a0 a1 a2 a3 a5 a6 : Option Addr) (n0 n1 n2 n3 n5 n6 c0 c1 c2 c3 c5 c6 : Nat)
    (h0 : A[0]? = some (.slice a0 n0 c0)) (h1 : A[1]? = some (.slice a1 n1 c1)) (h2 : A[2]? = some (.slice a2 n2 c2)) (h3 : A[3]? = some (.slice a3 n3 c3)) (h5 : A[84]? = some (.slice a5 n5 c5)) (h6 : A[85]? = some (.slice a6 n6 c6)) :
    Calls Try.prog 5 #[.agg A] W (Gr W n0 n1 n2 n3 n5 n6) := by
  have hc : ∀ j, (W.alloc (.cells A 32)).cell? ⟨W.heap.size, j, none⟩ = A[j]? := fun j => cell_of_row _ _ _ _ _ _ (heap_alloc_last W _)
  have up : Up W (W.alloc (.cells A 32)) := Up.alloc W _ _
  have f0 := (hc 0).trans h0
  have f1 := (hc 1).trans h1
  have f2 := (hc 2).trans h2
  have f3 := (hc 3).trans h3
  have f5 := (hc 84).trans h5
  have f6 := (hc 85).trans h6
  clear hc
  go_enter Try.func5, Try.ntmps5
  go_wp2
  all_goals go_ret
  all_goals exact ⟨_, rfl, up, fun h => by simp at h <;> omega⟩
theorem awake_any (W : World) : Calls Try.prog 6 #[] W fun e w' => e = .returned (.bool true) ∧ Up W w' := (AW.true6 W).mono fun e w' ⟨h, h1, h2, h3, h4, h5⟩ => ⟨h, h3, h4, h5, h1, h2⟩
theorem Sv.rg {W w : World} {A : Array Value} (t : Sv W A w) : w.rangeAt W.heap.size 0 A.toList := fun j v hj => by
  rw [Nat.zero_add, t.cell j, ← Array.getElem?_toList]; exact hj
def Lw (W : World) (e : Ending) (w' : World) : Prop := e = .returned (.bool true) ∧ Up W w'
/-- the words and the translations, of any lengths -/
structure Wl0 (w : World) (p : Option Addr) (L : Nat) (ln : Nat → Nat) (xw : Nat → Nat → Nat) : Prop where
  l63 : L ≤ 9223372036854775807
  n63 : ∀ i, i < L → ln i ≤ 9223372036854775807
  row : ∀ i, i < L → ∃ B O q c, p = some ⟨B, O, none⟩ ∧ w.cell? ⟨B, O + i, none⟩ = some (.slice q (ln i) c) ∧ ∀ k, k < ln i → ∃ b o, q = some ⟨b, o, none⟩ ∧ w.cell? ⟨b, o + k, none⟩ = some (.int .u64 (xw i k))
  wf : ∀ i k, xw i k < 2 ^ 64
structure Tr0 (w : World) (a : Option Addr) (n : Nat) (sp pg fr : Nat → Int) (rd wt : Nat → Bool) : Prop where
  n63 : n ≤ 9223372036854775807
  wf : ∀ i, WF (sp i) ∧ WF (pg i)
  at_ : ∀ i, i < n → ∃ b off, a = some ⟨b, off, none⟩ ∧ w.cell? ⟨b, off + i * 5, none⟩ = some (.int .i64 (sp i)) ∧ w.cell? ⟨b, off + i * 5 + 1, none⟩ = some (.int .i64 (pg i)) ∧ w.cell? ⟨b, off + i * 5 + 2, none⟩ = some (.int .i64 (fr i)) ∧ w.cell? ⟨b, off + i * 5 + 3, none⟩ = some (.bool (rd i)) ∧ w.cell? ⟨b, off + i * 5 + 4, none⟩ = some (.bool (wt i))
/-- the rows of the two answers, while they are made -/
structure R2 (V w : World) (zs : List Int) (a b : Value) : Prop where
  fa : a = undef ∨ OI w V.heap.size a zs
  fb : b = undef ∨ OI w V.heap.size b zs
  ne : ∀ g, a.ownBlock = some g → b.ownBlock ≠ some g
theorem R2.up {V w w' : World} {zs : List Int} {a b : Value} (h : R2 V w zs a b) (u : Up w w') : R2 V w' zs a b := ⟨h.fa.imp id (·.up u), h.fb.imp id (·.up u), h.ne⟩
theorem OI.block {w : World} {base : Nat} {v : Value} {zs : List Int} (h : OI w base v zs) {g : Nat} (hg : v.ownBlock = some g) : base ≤ g ∧ g < w.heap.size := World.ownsRow.lt h g hg
theorem R2.newA {V w w' : World} {zs : List Int} {a b a' : Value} (h : R2 V w zs a b) (u : Up w w') (hV : V.heap.size ≤ w.heap.size) (ha : OI w' (w.heap.size + 1) a' zs) : R2 V w' zs a' b := by
  refine ⟨.inr (ha.low (by omega)), h.fb.imp id (·.up u), fun g hg hb => ?_⟩
  have h1 := (ha.block hg).1
  rcases h.fb with h2 | h2
  · rw [h2] at hb; cases hb
  · have := (h2.block hb).2
    omega
theorem R2.newB {V w w' : World} {zs : List Int} {a b b' : Value} (h : R2 V w zs a b) (u : Up w w') (hV : V.heap.size ≤ w.heap.size) (hb : OI w' (w.heap.size + 1) b' zs) : R2 V w' zs a b' := by
  refine ⟨h.fa.imp id (·.up u), .inr (hb.low (by omega)), fun g hg hg' => ?_⟩
  have h1 := (hb.block hg').1
  rcases h.fa with h2 | h2
  · rw [h2] at hg; cases hg
  · have := (h2.block hg).2
    omega
theorem OI.ne_undef {w : World} {base : Nat} {v : Value} {zs : List Int} (h : OI w base v zs) : v ≠ undef := by
  obtain ⟨ad, cap, rfl, _⟩ := h.shape
  intro h
  cases h
/-- what the law's region 8 keeps -/
structure S8r (V : World) (zs : List Int) (ac : Act) (w : World) : Prop where
  up : Up V w
  r2 : R2 V w zs (ac.eval (.tmp 40)) (ac.eval (.tmp 44))
  t8 : ac.eval (.tmp 8) = undef ∨ ac.eval (.tmp 8) = ac.eval (.tmp 40)
  t9 : ac.eval (.tmp 9) = undef ∨ ac.eval (.tmp 9) = ac.eval (.tmp 44)
theorem act62 (a : Act) (h : a.tmps.size = 62) (hd : a.defers = []) : ∃ u : Nat → Value, (∀ i, a.eval (.tmp i) = u i) ∧ a = { tmps := #[u 0, u 1, u 2, u 3, u 4, u 5, u 6, u 7, u 8, u 9, u 10, u 11, u 12, u 13, u 14, u 15, u 16, u 17, u 18, u 19, u 20, u 21, u 22, u 23, u 24, u 25, u 26, u 27, u 28, u 29, u 30, u 31, u 32, u 33, u 34, u 35, u 36, u 37, u 38, u 39, u 40, u 41, u 42, u 43, u 44, u 45, u 46, u 47, u 48, u 49, u 50, u 51, u 52, u 53, u 54, u 55, u 56, u 57, u 58, u 59, u 60, u 61], defers := [] } := by
  refine ⟨fun i => a.eval (.tmp i), fun _ => rfl, ?_⟩
  obtain ⟨ts, ds⟩ := a
  simp only at h hd
  subst hd
  congr 1
  refine Array.ext_getElem? fun i => ?_
  match i with
  | 0 => simp [Act.eval, show 0 < ts.size by omega]
  | 1 => simp [Act.eval, show 1 < ts.size by omega]
  | 2 => simp [Act.eval, show 2 < ts.size by omega]
  | 3 => simp [Act.eval, show 3 < ts.size by omega]
  | 4 => simp [Act.eval, show 4 < ts.size by omega]
  | 5 => simp [Act.eval, show 5 < ts.size by omega]
  | 6 => simp [Act.eval, show 6 < ts.size by omega]
  | 7 => simp [Act.eval, show 7 < ts.size by omega]
  | 8 => simp [Act.eval, show 8 < ts.size by omega]
  | 9 => simp [Act.eval, show 9 < ts.size by omega]
  | 10 => simp [Act.eval, show 10 < ts.size by omega]
  | 11 => simp [Act.eval, show 11 < ts.size by omega]
  | 12 => simp [Act.eval, show 12 < ts.size by omega]
  | 13 => simp [Act.eval, show 13 < ts.size by omega]
  | 14 => simp [Act.eval, show 14 < ts.size by omega]
  | 15 => simp [Act.eval, show 15 < ts.size by omega]
  | 16 => simp [Act.eval, show 16 < ts.size by omega]
  | 17 => simp [Act.eval, show 17 < ts.size by omega]
  | 18 => simp [Act.eval, show 18 < ts.size by omega]
  | 19 => simp [Act.eval, show 19 < ts.size by omega]
  | 20 => simp [Act.eval, show 20 < ts.size by omega]
  | 21 => simp [Act.eval, show 21 < ts.size by omega]
  | 22 => simp [Act.eval, show 22 < ts.size by omega]
  | 23 => simp [Act.eval, show 23 < ts.size by omega]
  | 24 => simp [Act.eval, show 24 < ts.size by omega]
  | 25 => simp [Act.eval, show 25 < ts.size by omega]
  | 26 => simp [Act.eval, show 26 < ts.size by omega]
  | 27 => simp [Act.eval, show 27 < ts.size by omega]
  | 28 => simp [Act.eval, show 28 < ts.size by omega]
  | 29 => simp [Act.eval, show 29 < ts.size by omega]
  | 30 => simp [Act.eval, show 30 < ts.size by omega]
  | 31 => simp [Act.eval, show 31 < ts.size by omega]
  | 32 => simp [Act.eval, show 32 < ts.size by omega]
  | 33 => simp [Act.eval, show 33 < ts.size by omega]
  | 34 => simp [Act.eval, show 34 < ts.size by omega]
  | 35 => simp [Act.eval, show 35 < ts.size by omega]
  | 36 => simp [Act.eval, show 36 < ts.size by omega]
  | 37 => simp [Act.eval, show 37 < ts.size by omega]
  | 38 => simp [Act.eval, show 38 < ts.size by omega]
  | 39 => simp [Act.eval, show 39 < ts.size by omega]
  | 40 => simp [Act.eval, show 40 < ts.size by omega]
  | 41 => simp [Act.eval, show 41 < ts.size by omega]
  | 42 => simp [Act.eval, show 42 < ts.size by omega]
  | 43 => simp [Act.eval, show 43 < ts.size by omega]
  | 44 => simp [Act.eval, show 44 < ts.size by omega]
  | 45 => simp [Act.eval, show 45 < ts.size by omega]
  | 46 => simp [Act.eval, show 46 < ts.size by omega]
  | 47 => simp [Act.eval, show 47 < ts.size by omega]
  | 48 => simp [Act.eval, show 48 < ts.size by omega]
  | 49 => simp [Act.eval, show 49 < ts.size by omega]
  | 50 => simp [Act.eval, show 50 < ts.size by omega]
  | 51 => simp [Act.eval, show 51 < ts.size by omega]
  | 52 => simp [Act.eval, show 52 < ts.size by omega]
  | 53 => simp [Act.eval, show 53 < ts.size by omega]
  | 54 => simp [Act.eval, show 54 < ts.size by omega]
  | 55 => simp [Act.eval, show 55 < ts.size by omega]
  | 56 => simp [Act.eval, show 56 < ts.size by omega]
  | 57 => simp [Act.eval, show 57 < ts.size by omega]
  | 58 => simp [Act.eval, show 58 < ts.size by omega]
  | 59 => simp [Act.eval, show 59 < ts.size by omega]
  | 60 => simp [Act.eval, show 60 < ts.size by omega]
  | 61 => simp [Act.eval, show 61 < ts.size by omega]
  | i + 62 => rw [Array.getElem?_eq_none (by omega), Array.getElem?_eq_none (by simp)]
end Go.Proofs.AO
namespace Go.Proofs.AO
open Go.RowKit Go.Maps Go.Shelf Go.Lib Go.Sort
set_option linter.unusedVariables false
set_option linter.unusedSimpArgs false
set_option maxRecDepth 100000
set_option maxHeartbeats 4000000
def F8l (V : World) (A : Array Value) (ws cs : Value) (zs : List Int) (i : Nat) (v : Value) (w : World) : Prop :=
  match i with
  | 0 | 4 => v = .agg A
  | 1 | 5 => v = ws
  | 2 | 6 => v = cs
  | 3 | 7 | 8 | 9 => OI w V.heap.size v zs
  | _ => True
theorem F8l.up {V : World} {A : Array Value} {ws cs : Value} {zs : List Int} {i : Nat} {v : Value} {w w' : World} (h : F8l V A ws cs zs i v w) (u : Up w w') : F8l V A ws cs zs i v w' := by
  unfold F8l at h ⊢
  split at h
  all_goals first | exact h | exact OI.up h u
theorem put_ne {a : Act} {d k : Nat} (h : d ≠ k) (v : Value) : (a.put (some d) v).eval (.tmp k) = a.eval (.tmp k) := eval_put_ne (fun e he => by cases he; exact h)
theorem S8r.other {V : World} {zs : List Int} {a : Act} {w : World} (h : S8r V zs a w) {d : Nat} (h1 : d ≠ 40) (h2 : d ≠ 44) (h3 : d ≠ 8) (h4 : d ≠ 9) (v : Value) : S8r V zs (a.put (some d) v) w := by
  refine ⟨h.up, ?_, ?_, ?_⟩
  · rw [put_ne h1, put_ne h2]; exact h.r2
  · rw [put_ne h3, put_ne h1]; exact h.t8
  · rw [put_ne h4, put_ne h2]; exact h.t9
theorem S8r.newA {V : World} {zs : List Int} {a : Act} {w w' : World} (h : S8r V zs a w) (hs : a.tmps.size = 62) (u : Up w w') {v : Value} (ho : OI w' (w.heap.size + 1) v zs) (h8 : a.eval (.tmp 8) = undef) : S8r V zs (a.put (some 40) v) w' := by
  refine ⟨h.up.trans u, ?_, ?_, ?_⟩
  · rw [put_ne (by decide : 40 ≠ 44), eval_put_eq (by omega)]
    exact h.r2.newA u h.up.size ho
  · rw [put_ne (by decide : 40 ≠ 8)]; exact .inl h8
  · rw [put_ne (by decide : 40 ≠ 9), put_ne (by decide : 40 ≠ 44)]; exact h.t9
theorem S8r.newB {V : World} {zs : List Int} {a : Act} {w w' : World} (h : S8r V zs a w) (hs : a.tmps.size = 62) (u : Up w w') {v : Value} (ho : OI w' (w.heap.size + 1) v zs) (h9 : a.eval (.tmp 9) = undef) : S8r V zs (a.put (some 44) v) w' := by
  refine ⟨h.up.trans u, ?_, ?_, ?_⟩
  · rw [put_ne (by decide : 44 ≠ 40), eval_put_eq (by omega)]
    exact h.r2.newB u h.up.size ho
  · rw [put_ne (by decide : 44 ≠ 8), put_ne (by decide : 44 ≠ 40)]; exact h.t8
  · rw [put_ne (by decide : 44 ≠ 9)]; exact .inl h9
theorem S8r.as8 {V : World} {zs : List Int} {a : Act} {w : World} (h : S8r V zs a w) (hs : a.tmps.size = 62) : S8r V zs (a.put (some 8) (a.eval (.tmp 40))) w := by
  refine ⟨h.up, ?_, ?_, ?_⟩
  · rw [put_ne (by decide : 8 ≠ 40), put_ne (by decide : 8 ≠ 44)]; exact h.r2
  · rw [eval_put_eq (by omega), put_ne (by decide : 8 ≠ 40)]; exact .inr rfl
  · rw [put_ne (by decide : 8 ≠ 9), put_ne (by decide : 8 ≠ 44)]; exact h.t9
theorem S8r.as9 {V : World} {zs : List Int} {a : Act} {w : World} (h : S8r V zs a w) (hs : a.tmps.size = 62) : S8r V zs (a.put (some 9) (a.eval (.tmp 44))) w := by
  refine ⟨h.up, ?_, ?_, ?_⟩
  · rw [put_ne (by decide : 9 ≠ 40), put_ne (by decide : 9 ≠ 44)]; exact h.r2
  · rw [put_ne (by decide : 9 ≠ 8), put_ne (by decide : 9 ≠ 40)]; exact h.t8
  · rw [eval_put_eq (by omega), put_ne (by decide : 9 ≠ 44)]; exact .inr rfl
theorem own_ne {v u : Value} (h : ∀ g, v.ownBlock = some g → u.ownBlock ≠ some g) : u.ownBlock = none ∨ u.ownBlock ≠ v.ownBlock := by
  cases hu : u.ownBlock with
  | none => exact .inl rfl
  | some g => exact .inr (fun e => h g e.symm hu)
theorem law_stale (A : Array Value) (hb : Big A) (W : World) (no co n1 n2 n3 n5 n6 : Nat) (ao : Option Addr) (zo : Nat → Nat → Int) (PA : Array Value) (pc : Nat → Array Value) (ro : Nat → Nat → Int) (p : Option Addr) (L cw : Nat) (ln : Nat → Nat) (xw : Nat → Nat → Nat) (aa : Option Addr) (n cc : Nat) (sp pg fr : Nat → Int) (rd wt : Nat → Bool)
    (hG : ∀ w, Calls Try.prog 5 #[.agg A] w (Gr w no n1 n2 n3 n5 n6)) (hv : no ≤ 40 → Vq W A ao no co zo PA pc ro)
    (hrc : ∀ k, k < 8 → ∀ j, j < 4 → A[4 + k * 10 + 2 + j]? = some (.int .i64 (ro k j)))
    (hw : Wl0 W p L ln xw) (hT : Tr0 W aa n sp pg fr rd wt) :
    Calls Try.prog 4 #[.agg A, .slice p L cw, .slice aa n cc] W (Lw W) := by
  have t0 := Sv.made W A
  have hsz32 : (Try.prog.info? 32).map (·.size) = some A.size := by rw [size32, hb.1]
  have l63 := hw.l63
  have n63 := hT.n63
  go_enter Try.func4, Try.ntmps4
  go_wp2_with (first
    | ((with_reducible refine g_load32 ?_); refine arm_load 32 _ rfl W.heap.size 0 rfl A.toList _ (Sv.rg ‹Sv W A _›) Try.underlying32 rfl hb.szl ?_ ?_ <;> (go_simp; try intros))
    | (go_at_call 5; refine (hG _).mono ?_; rintro e w1 ⟨r, rfl, hu1, hr⟩; have t1 := t0.to hu1; cases r)
    | (go_at_call 6; refine (awake_any _).mono ?_; rintro e w9 ⟨rfl, hu9⟩; have t9 := t1.to hu9))
  · go_ret
    exact ⟨rfl, t9.up⟩
  · obtain ⟨q0, _⟩ := hr (by trivial)
    have hv := hv q0
    clear hr hG t0 q0
    go_loopw [7] (fun i w' => ∃ k : Nat, k ≤ L ∧ i = .int .i64 k ∧ Sv W A w' ∧ ∀ j, j < k → ln j ≤ 20) (fun i _ => L - (intOf i).toNat)
    case atStart => exact ⟨0, Nat.zero_le _, rfl, t1, fun j hj => by omega⟩
    case round =>
      clear t1
      obtain ⟨k, hk, rfl, t, h20⟩ := hrel
      by_cases hlt : k < L
      · obtain ⟨B, O, q, c, rfl, hrow, _⟩ := hw.row k hlt
        have hrow := t.up.keeps hrow
        have hk63 := hw.n63 k hlt
        go_wp2_with (first
          | (go_at_call 6; refine (awake_any _).mono ?_; rintro e w9 ⟨rfl, hu9⟩; have t9 := t.to hu9))
        · go_ret
          exact ⟨rfl, t9.up⟩
        · go_roundw
          case rel => exact ⟨k + 1, by omega, by go_num, t, fun j hj => if e : j = k then (by subst e; omega) else h20 j (by omega)⟩
          case measure => simp [intOf]; omega
      · obtain rfl : k = L := by omega
        have hw : Wl W p k ln xw := ⟨by omega, h20, hw.row, hw.wf⟩
        have hT : Tr W aa n sp pg fr rd wt := ⟨by omega, hT.wf, hT.at_⟩
        have hn := hT.n40
        have uW := t.up
        have hbx := t.box
        obtain ⟨zs, hzs⟩ : ∃ zs, told (fun i => bd (whole k ln) (lfr k ln xw (pg i) 2 (fsr no zo ro (sp i))) (fr i) (rd i) (wt i)) n = zs := ⟨_, rfl⟩
        have hlen : zs.length ≤ 40 := by rw [← hzs]; exact Nat.le_trans (told_len _ n) hn
        clear l63 n63 h20
        go_wp2
        refine wp_region_any (by kernel_rfl) ?_
        refine wpAny_valsU 62 [(1, .slice p k cw), (2, .slice aa n cc), (3, .pointer (some ⟨W.heap.size, 0, none⟩))] (F8l wr A (.slice p k cw) (.slice aa n cc) zs) (fun _ _ _ => True) (S8r wr zs) _ (by kernel_rfl) ?step ?done (ready_ofB (by kernel_rfl)) _ rfl rfl ?bs ⟨Up.drew wr, ⟨.inl rfl, .inl rfl, fun g hg => by cases hg⟩, .inl rfl, .inl rfl⟩
        case bs => simp [Act.eval]
        case done =>
          intro ac w hsz hdf hb1 hS hF hN
          have k8 := hF 8 _ 8 rfl rfl
          have k9 := hF 9 _ 9 rfl rfl
          simp only [F8l] at k8 k9
          have hne : ∀ g, (ac.eval (.tmp 8)).ownBlock = some g → (ac.eval (.tmp 9)).ownBlock ≠ some g := by
            have e8 := hS.t8.resolve_left (k8.ne_undef)
            have e9 := hS.t9.resolve_left (k9.ne_undef)
            rw [e8, e9]
            exact hS.r2.ne
          have uV := hS.up
          have f1 := hb1 (1, .slice p k cw) (by simp)
          have f2 := hb1 (2, .slice aa n cc) (by simp)
          have f3 := hb1 (3, .pointer (some ⟨W.heap.size, 0, none⟩)) (by simp)
          obtain ⟨x, hx, rfl⟩ := act62 ac hsz hdf
          rw [hx] at k8 k9 f1 f2 f3
          rw [hx, hx] at hne
          rw [f1, f2, f3]
          clear hF hN hb1 hx f1 f2 f3 hS hsz
          obtain ⟨v, hvv⟩ : ∃ v, v = x 8 := ⟨_, rfl⟩
          obtain ⟨u, huu⟩ : ∃ u, u = x 9 := ⟨_, rfl⟩
          rw [← hvv] at k8 hne ⊢
          rw [← huu] at k9 hne ⊢
          clear hvv huu
          go_wp2_with (first
            | ((with_reducible refine g_load32 ?_); refine arm_load 32 _ rfl W.heap.size 0 rfl A.toList _ (Sv.rg ‹Sv W A _›) Try.underlying32 rfl hb.szl ?_ ?_ <;> (go_simp; try intros))
            | (go_at_call 10; refine (sameints_f v u _ _ zs _ hlen k8 k9).mono ?_; rintro e w2 ⟨rfl, hu2⟩; have c8 := k8.up hu2; have c9 := k9.up hu2; have uV2 := uV.trans hu2; clear k8 k9)
            | (go_at_call 11; refine (overints_f v _ zs _ hlen c8 uV2.size).mono ?_; rintro e w3 ⟨⟨r, rfl⟩, hgb⟩; have uV3 := uV2.grow hgb (fun g hg => (c8.block hg).1); have d9 : OI w3 wr.heap.size u zs := World.ownsRow.kept c9 hgb (own_ne hne); have uW3 := uW.trans uV3; have tt : Sv W A w3 := t.to uV3)
            | (go_at_call 8; refine (stale_a A ao no co zo PA pc ro p k cw ln xw aa n cc sp pg fr rd wt _ (hv.up uW3) (hw.up uW3) (hT.up uW3)).mono ?_; rintro e w4 ⟨v2, rfl, hu4, hoi2⟩; rw [hzs] at hoi2; have d9' := d9.up hu4; have uW4 := uW3.trans hu4)
            | (go_at_call 10; refine (sameints_f v2 u _ _ zs _ hlen hoi2 d9').mono ?_; rintro e w5 ⟨rfl, hu5⟩; have uW5 := uW4.trans hu5)
            | (go_at_call 6; refine (awake_any _).mono ?_; rintro e w9 ⟨rfl, hu9⟩; have uW9 := uW5.trans hu9))
          go_ret
          exact ⟨rfl, uW9⟩
        case step =>
          intro i o ho a w hini hsz hb1 hS hd
          have hi : i < 10 := (Array.getElem?_eq_some_iff.1 ho).1
          have b1 : a.eval (.tmp 1) = .slice p k cw := hb1 (1, .slice p k cw) (by simp)
          have b2 : a.eval (.tmp 2) = .slice aa n cc := hb1 (2, .slice aa n cc) (by simp)
          have b3 : a.eval (.tmp 3) = .pointer (some ⟨W.heap.size, 0, none⟩) := hb1 (3, .pointer (some ⟨W.heap.size, 0, none⟩)) (by simp)
          match i, hi with
          | 0, _ =>
            simp only [List.getElem?_toArray, List.getElem?_cons_zero, List.getElem?_cons_succ, Option.some.injEq] at ho; subst ho
            refine wp_load_row 32 (.tmp 3) rfl W.heap.size b3 32 A (0, 0) _ (hS.up.heap hbx) Try.underlying32 rfl hsz32 ?_
            exact ⟨_, rfl, (hS.other (by decide) (by decide) (by decide) (by decide) _), (by simp [F8l]), (fun hz => by cases hz), (fun _ _ hz => hz), (fun _ _ _ _ _ _ _ => trivial)⟩
          | 1, _ =>
            simp only [List.getElem?_toArray, List.getElem?_cons_zero, List.getElem?_cons_succ, Option.some.injEq] at ho; subst ho
            refine op_move _ rfl ?_; rw [b1]; exact ⟨_, rfl, (hS.other (by decide) (by decide) (by decide) (by decide) _), (by simp [F8l]), (fun hz => by cases hz), (fun _ _ hz => hz), (fun _ _ _ _ _ _ _ => trivial)⟩
          | 2, _ =>
            simp only [List.getElem?_toArray, List.getElem?_cons_zero, List.getElem?_cons_succ, Option.some.injEq] at ho; subst ho
            refine op_move _ rfl ?_; rw [b2]; exact ⟨_, rfl, (hS.other (by decide) (by decide) (by decide) (by decide) _), (by simp [F8l]), (fun hz => by cases hz), (fun _ _ hz => hz), (fun _ _ _ _ _ _ _ => trivial)⟩
          | 3, _ =>
            simp only [List.getElem?_toArray, List.getElem?_cons_zero, List.getElem?_cons_succ, Option.some.injEq] at ho; subst ho
            have e0 := hd 0 _ rfl (by decide) 37 rfl; simp only [F8l] at e0
            have e1 := hd 1 _ rfl (by decide) 38 rfl; simp only [F8l] at e1
            have e2 := hd 2 _ rfl (by decide) 39 rfl; simp only [F8l] at e2
            refine op_call 8 _ _ rfl #[.agg A, .slice p k cw, .slice aa n cc] (by simp [e0, e1, e2]) (enters_of Try.func8 (by kernel_rfl) rfl) ((stale_a A ao no co zo PA pc ro p k cw ln xw aa n cc sp pg fr rd wt w (hv.up (uW.trans hS.up)) (hw.up (uW.trans hS.up)) (hT.up (uW.trans hS.up))).mono ?_)
            rintro e w' ⟨v, rfl, hw', hoi⟩
            rw [hzs] at hoi
            exact ⟨_, rfl, _, rfl, (hS.newA hsz hw' hoi (hini 8 _ rfl (.inr (by decide)) 8 rfl)), (by simp only [F8l]; exact hoi.low (by have := hS.up.size; omega)), (fun hz => by cases hz), (fun _ _ hz => hz.up hw'), (fun _ _ _ _ _ _ _ => trivial)⟩
          | 4, _ =>
            simp only [List.getElem?_toArray, List.getElem?_cons_zero, List.getElem?_cons_succ, Option.some.injEq] at ho; subst ho
            refine wp_load_row 32 (.tmp 3) rfl W.heap.size b3 32 A (0, 0) _ (hS.up.heap hbx) Try.underlying32 rfl hsz32 ?_
            exact ⟨_, rfl, (hS.other (by decide) (by decide) (by decide) (by decide) _), (by simp [F8l]), (fun hz => by cases hz), (fun _ _ hz => hz), (fun _ _ _ _ _ _ _ => trivial)⟩
          | 5, _ =>
            simp only [List.getElem?_toArray, List.getElem?_cons_zero, List.getElem?_cons_succ, Option.some.injEq] at ho; subst ho
            refine op_move _ rfl ?_; rw [b1]; exact ⟨_, rfl, (hS.other (by decide) (by decide) (by decide) (by decide) _), (by simp [F8l]), (fun hz => by cases hz), (fun _ _ hz => hz), (fun _ _ _ _ _ _ _ => trivial)⟩
          | 6, _ =>
            simp only [List.getElem?_toArray, List.getElem?_cons_zero, List.getElem?_cons_succ, Option.some.injEq] at ho; subst ho
            refine op_move _ rfl ?_; rw [b2]; exact ⟨_, rfl, (hS.other (by decide) (by decide) (by decide) (by decide) _), (by simp [F8l]), (fun hz => by cases hz), (fun _ _ hz => hz), (fun _ _ _ _ _ _ _ => trivial)⟩
          | 7, _ =>
            simp only [List.getElem?_toArray, List.getElem?_cons_zero, List.getElem?_cons_succ, Option.some.injEq] at ho; subst ho
            have e4 := hd 4 _ rfl (by decide) 41 rfl; simp only [F8l] at e4
            have e5 := hd 5 _ rfl (by decide) 42 rfl; simp only [F8l] at e5
            have e6 := hd 6 _ rfl (by decide) 43 rfl; simp only [F8l] at e6
            refine op_call 9 _ _ rfl #[.agg A, .slice p k cw, .slice aa n cc] (by simp [e4, e5, e6]) (enters_of Try.func9 (by kernel_rfl) rfl) ((stale_r A ao no co zo PA pc ro p k cw ln xw aa n cc sp pg fr rd wt w (hv.up (uW.trans hS.up)) hrc (hw.up (uW.trans hS.up)) (hT.up (uW.trans hS.up))).mono ?_)
            rintro e w' ⟨v, rfl, hw', hoi⟩
            rw [told_same] at hoi
            rw [hzs] at hoi
            exact ⟨_, rfl, _, rfl, (hS.newB hsz hw' hoi (hini 9 _ rfl (.inr (by decide)) 9 rfl)), (by simp only [F8l]; exact hoi.low (by have := hS.up.size; omega)), (fun hz => by cases hz), (fun _ _ hz => hz.up hw'), (fun _ _ _ _ _ _ _ => trivial)⟩
          | 8, _ =>
            simp only [List.getElem?_toArray, List.getElem?_cons_zero, List.getElem?_cons_succ, Option.some.injEq] at ho; subst ho
            have e3 := hd 3 _ rfl (by decide) 40 rfl; simp only [F8l] at e3
            refine op_assign _ rfl ?_; exact ⟨_, rfl, (hS.as8 hsz), (by simp only [F8l]; exact e3), (fun hz => by cases hz), (fun _ _ hz => hz), (fun _ _ _ _ _ _ _ => trivial)⟩
          | 9, _ =>
            simp only [List.getElem?_toArray, List.getElem?_cons_zero, List.getElem?_cons_succ, Option.some.injEq] at ho; subst ho
            have e7 := hd 7 _ rfl (by decide) 44 rfl; simp only [F8l] at e7
            refine op_assign _ rfl ?_; exact ⟨_, rfl, (hS.as9 hsz), (by simp only [F8l]; exact e7), (fun hz => by cases hz), (fun _ _ hz => hz), (fun _ _ _ _ _ _ _ => trivial)⟩
  · go_ret
    exact ⟨rfl, t9.up⟩
  · go_ret
    exact ⟨rfl, t9.up⟩
end Go.Proofs.AO
