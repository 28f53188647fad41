/- audit.caps gives a row of ones own. No conditions beside those in its theorems. -/
import Derived.Test.YtgmdginjikhamaaAO11
set_option linter.unusedSimpArgs false
namespace Go.Proofs.AO
open Go.RowKit Go.Maps Go.Shelf
set_option linter.unusedVariables false
set_option maxRecDepth 100000
set_option maxHeartbeats 6000000
/-- the state of caps: the view's box, two maps, a row of one's own, one more box -/
structure Tc (W : World) (A : Array Value) (w : World) (n1 n2 : Nat) (v : Value) (m : Nat) (x : Nat × Array Value × TypeId) : Prop where
  up : Up W w
  box : w.heap[W.heap.size]? = some (.cells A 32 (0, 0))
  m1 : Mc w (W.heap.size + 1) n1
  m2 : Mc w (W.heap.size + 1 + 1) n2
  sz : W.heap.size + 1 + 1 + 1 ≤ w.heap.size
  own : Own w (W.heap.size + 1 + 1 + 1) v m
  bx : W.heap.size + 1 + 1 + 1 ≤ x.1 → w.heap[x.1]? = some (.cells x.2.1 x.2.2 (0, 0))
section
variable {W : World} {A : Array Value} {w w' : World} {n1 n2 m : Nat} {v : Value} {xb : Nat × Array Value × TypeId}
theorem Tc.of (t : Tc W A w n1 n2 v m xb) (h : Up w w') : Tc W A w' n1 n2 v m xb :=
  ⟨t.up.trans h, h.heap t.box, t.m1.heap (h.block _ t.m1.lt), t.m2.heap (h.block _ t.m2.lt), Nat.le_trans t.sz h.size, t.own.heap fun k hk _ => h.block k hk, fun hx => h.heap (t.bx hx)⟩
theorem Tc.al (t : Tc W A w n1 n2 v m xb) (o : Obj) : Tc W A (w.alloc o) n1 n2 v m xb := t.of (Up.push w o)
theorem Tc.start (W : World) (A : Array Value) : Tc W A (((W.alloc (.cells A 32)).alloc (.map #[] 0)).alloc (.map #[] 0)) 0 0 (.slice none 0 0) 0 (0, #[], 0) := by
  have s1 := size_alloc W (.cells A 32)
  have s2 := size_alloc (W.alloc (.cells A 32)) (.map #[] 0)
  have s3 := size_alloc ((W.alloc (.cells A 32)).alloc (.map #[] 0)) (.map #[] 0)
  have u1 := Up.push W (.cells A 32)
  have u2 := Up.push (W.alloc (.cells A 32)) (.map #[] 0)
  have u3 := Up.push ((W.alloc (.cells A 32)).alloc (.map #[] 0)) (.map #[] 0)
  have m1 := Mc.made (W.alloc (.cells A 32))
  have m2 := Mc.made ((W.alloc (.cells A 32)).alloc (.map #[] 0))
  rw [s1] at m1
  rw [s2, s1] at m2
  exact ⟨u1.trans (u2.trans u3), (u2.trans u3).heap (heap_alloc_last W _), m1.heap (u3.block _ m1.lt), m2, by omega, Own.nil _ _, fun hx => absurd hx (by show ¬ _ ≤ 0; omega)⟩
theorem Mc.up {n k : Nat} {w : World} {B : Nat} (h : Mc w B n) (hk : n ≤ k) : Mc w B k := let ⟨D, q⟩ := h; ⟨D, q.mono hk⟩
theorem Tc.set1 (t : Tc W A w n1 n2 v m xb) {n : Nat} (hg : w.grownBy w' (some (W.heap.size + 1))) (h : Mc w' (W.heap.size + 1) n) : Tc W A w' n n2 v m xb :=
  have hb : ∀ k, k < w.heap.size → k ≠ W.heap.size + 1 → w'.heap[k]? = w.heap[k]? := fun k hk hne => hg.block k hk (by simpa using hne)
  ⟨t.up.grow hg (fun k e => by cases e; omega), (hb _ (by have := t.sz; omega) (by omega)).trans t.box, h, t.m2.heap (hb _ t.m2.lt (by omega)), Nat.le_trans t.sz hg.size, t.own.heap fun k hk hk2 => hb k hk (by omega), fun hx => (hb _ (Array.getElem?_eq_some_iff.1 (t.bx hx)).1 (by omega)).trans (t.bx hx)⟩
theorem Tc.set2 (t : Tc W A w n1 n2 v m xb) {n : Nat} (hg : w.grownBy w' (some (W.heap.size + 1 + 1))) (h : Mc w' (W.heap.size + 1 + 1) n) : Tc W A w' n1 n v m xb :=
  have hb : ∀ k, k < w.heap.size → k ≠ W.heap.size + 1 + 1 → w'.heap[k]? = w.heap[k]? := fun k hk hne => hg.block k hk (by simpa using hne)
  ⟨t.up.grow hg (fun k e => by cases e; omega), (hb _ (by have := t.sz; omega) (by omega)).trans t.box, t.m1.heap (hb _ t.m1.lt (by omega)), h, Nat.le_trans t.sz hg.size, t.own.heap fun k hk hk2 => hb k hk (by omega), fun hx => (hb _ (Array.getElem?_eq_some_iff.1 (t.bx hx)).1 (by omega)).trans (t.bx hx)⟩
theorem Tc.app (t : Tc W A w n1 n2 v m xb) {v' : Value} {m' : Nat} {row : Option Nat} (hg : w.grownBy w' row) (hr : ∀ k, row = some k → W.heap.size + 1 + 1 + 1 ≤ k) (h : Own w' (W.heap.size + 1 + 1 + 1) v' m') : Tc W A w' n1 n2 v' m' (0, #[], 0) :=
  have hb : ∀ k, k < w.heap.size → k < W.heap.size + 1 + 1 + 1 → w'.heap[k]? = w.heap[k]? := fun k hk hne => hg.block k hk (fun e => by have := hr k e.symm; omega)
  ⟨t.up.grow hg (fun k e => by have := hr k e; omega), (hb _ (by have := t.sz; omega) (by omega)).trans t.box, t.m1.heap (hb _ t.m1.lt (by omega)), t.m2.heap (hb _ t.m2.lt (by omega)), Nat.le_trans t.sz hg.size, h, fun hx => absurd hx (by show ¬ _ ≤ 0; omega)⟩
theorem Tc.grow (t : Tc W A w n1 n2 v m xb) {k1 k2 m' : Nat} (h1 : n1 ≤ k1) (h2 : n2 ≤ k2) (h4 : m ≤ m') : Tc W A w k1 k2 v m' (0, #[], 0) := by
  obtain ⟨d, q1, q2⟩ := t.own
  exact ⟨t.up, t.box, t.m1.up h1, t.m2.up h2, t.sz, ⟨d, Nat.le_trans q1 h4, q2⟩, fun hx => absurd hx (by show ¬ _ ≤ 0; omega)⟩
theorem Tc.new (t : Tc W A w n1 n2 v m xb) (cs : Array Value) (T : TypeId) : Tc W A (w.alloc (.cells cs T)) n1 n2 v m (w.heap.size, cs, T) :=
  let s := t.al (.cells cs T)
  ⟨s.up, s.box, s.m1, s.m2, s.sz, s.own, fun _ => heap_alloc_last w _⟩
theorem Tc.cell (t : Tc W A w n1 n2 v m xb) (j : Nat) : w.cell? ⟨W.heap.size, j, none⟩ = A[j]? := cell_of_row _ _ _ _ _ _ t.box
theorem Tc.bc (t : Tc W A w n1 n2 v m xb) (h : W.heap.size + 1 + 1 + 1 ≤ xb.1) (j : Nat) : w.cell? ⟨xb.1, j, none⟩ = xb.2.1[j]? := cell_of_row _ _ _ _ _ _ (t.bx h)
theorem Tc.rg (t : Tc W A w n1 n2 v m xb) : w.rangeAt W.heap.size 0 A.toList := fun j u hj => by
  rw [Nat.zero_add, t.cell j]
  simpa using hj
theorem Tc.ap {ops : Array Oper} {rest : List Oper} {o : Oper} {a : Act} {Q : Exit → Act → World → Prop} (t : Tc W A w n1 n2 v m xb) (hgd : o.guard = none) (s x : Operand) (ho : o.op = .call { callee := .builtin .append, args := #[s, x], argTypes := #[35, 35] }) {w2 : World} (f1 f2 f3 : Int) (hw : w2 = w.alloc (.cells #[.int .i64 f1, .int .i64 f2, .int .i64 f3] 38)) (hm : m ≤ 100000) (hs : a.eval s = v) {K : Nat} (hx : a.eval x = .slice (some ⟨K, 0, none⟩) 1 1) (hK : K = w.heap.size)
    (h : ∀ v' w', Tc W A w' n1 n2 v' (m + 1) (0, #[], 0) → wpList Try.prog ops Q rest (a.put o.dst v') w') : wpList Try.prog ops Q (o :: rest) a w2 := by
  subst hw hK
  exact arm_ap hgd s x ho t.own hm t.sz (f1, f2, f3) hs hx fun v' w' h1 h2 h3 => h v' w' ((t.al _).app h2 h3 h1)
theorem Own.not38 {w : World} {base m : Nat} {v : Value} (h : Own w base v m) {k : Nat} {cs : Array Value} {t : TypeId} (hk : w.heap[k]? = some (.cells cs t (0, 0))) (ht : t ≠ 38) : some k ≠ v.ownBlock := by
  obtain ⟨d, _, hr⟩ := h
  rcases hr.2 with ⟨rfl, _⟩ | ⟨g, cap, cur, rfl, _, hgb, _⟩
  · simp [Value.ownBlock]
  · intro e
    obtain rfl : k = g := by simpa [Value.ownBlock] using e
    rw [hk] at hgb
    cases hgb
    exact ht rfl
theorem Tc.apx {ops : Array Oper} {rest : List Oper} {o : Oper} {a : Act} {Q : Exit → Act → World → Prop} (t : Tc W A w n1 n2 v m xb) (ht : xb.2.2 ≠ 38) (hgd : o.guard = none) (s x : Operand) (ho : o.op = .call { callee := .builtin .append, args := #[s, x], argTypes := #[35, 35] }) {w2 : World} (f1 f2 f3 : Int) (hw : w2 = w.alloc (.cells #[.int .i64 f1, .int .i64 f2, .int .i64 f3] 38)) (hm : m ≤ 100000) (hs : a.eval s = v) {K : Nat} (hx : a.eval x = .slice (some ⟨K, 0, none⟩) 1 1) (hK : K = w.heap.size)
    (h : ∀ v' w', Tc W A w' n1 n2 v' (m + 1) xb → wpList Try.prog ops Q rest (a.put o.dst v') w') : wpList Try.prog ops Q (o :: rest) a w2 := by
  subst hw hK
  refine arm_ap hgd s x ho t.own hm t.sz (f1, f2, f3) hs hx fun v' w' h1 h2 h3 => h v' w' ?_
  have t3 := (t.al (.cells #[.int .i64 f1, .int .i64 f2, .int .i64 f3] 38)).app h2 h3 h1
  refine ⟨t3.up, t3.box, t3.m1, t3.m2, t3.sz, t3.own, fun hx => ?_⟩
  have hb := t.bx hx
  have hb2 := (Up.push w (.cells #[.int .i64 f1, .int .i64 f2, .int .i64 f3] 38)).heap hb
  exact (h2.block _ (Array.getElem?_eq_some_iff.1 hb2).1 (t.own.not38 hb ht)).trans hb2
end
/-- Held: slot and capability -/
def hd (z : Nat → Int) : Array Value := #[.int .i64 (z 0), .int .i64 (z 1), .int .i64 (z 2), .int .i64 (z 3), .int .i64 (z 4), .int .u64 (z 5), .int .i64 (z 6), .int .i64 (z 7), .int .i64 (z 8), .int .i64 (z 9)]
theorem caps_any (A : Array Value) (hs : Big A) (ao ac at_ : Option Addr) (no co nc cc nt ct : Nat) (zo zc zt : Nat → Nat → Int) (W : World) (hno : no ≤ 40) (hnc : nc ≤ 40) (hnt : nt ≤ 40)
    (h0 : A[0]? = some (.slice ao no co)) (h1 : A[1]? = some (.slice ac nc cc)) (h2 : A[2]? = some (.slice at_ nt ct))
    (ho : Rw 9 W ao no fun j t => .int .i64 (zo j t)) (hc : Rw 10 W ac nc fun j t => (hd (zc j)).getD t undef) (hwc : ∀ j t, t < 2 → WF (zc j t)) (ht : Rw 3 W at_ nt fun j t => .int .i64 (zt j t)) (hwt : ∀ j t, WF (zt j t)) :
    Calls Try.prog 15 #[.agg A] W (Gv W 200) := by
  have hmm := @run_makeMap Try.prog
  go_enter Try.func15, Try.ntmps15
  go_wp2
  go_loopw [3, 18] (fun l i w' => ∃ k : Nat, k ≤ nc ∧ i = .int .i64 k ∧ Tc W A w' k k l k (0, #[], 0)) (fun _ i _ => nc - (intOf i).toNat)
  case atStart => exact ⟨0, Nat.zero_le _, rfl, Tc.start W A⟩
  case round =>
    obtain ⟨k, hk, rfl, t⟩ := hrel
    by_cases hlt : k < nc
    · obtain ⟨b, off, rfl, q1⟩ := hc k hlt
      have c0 : wr.cell? ⟨b, off + k * 10, none⟩ = some (.int .i64 (zc k 0)) := t.up.keeps (q1 0 (by omega))
      have c1 : wr.cell? ⟨b, off + k * 10 + 1, none⟩ = some (.int .i64 (zc k 1)) := t.up.keeps (q1 1 (by omega))
      have c2 : wr.cell? ⟨b, off + k * 10 + 2, none⟩ = some (.int .i64 (zc k 2)) := t.up.keeps (q1 2 (by omega))
      have c3 : wr.cell? ⟨b, off + k * 10 + 3, none⟩ = some (.int .i64 (zc k 3)) := t.up.keeps (q1 3 (by omega))
      have c4 : wr.cell? ⟨b, off + k * 10 + 4, none⟩ = some (.int .i64 (zc k 4)) := t.up.keeps (q1 4 (by omega))
      have c5 : wr.cell? ⟨b, off + k * 10 + 5, none⟩ = some (.int .u64 (zc k 5)) := t.up.keeps (q1 5 (by omega))
      have c6 : wr.cell? ⟨b, off + k * 10 + 6, none⟩ = some (.int .i64 (zc k 6)) := t.up.keeps (q1 6 (by omega))
      have c7 : wr.cell? ⟨b, off + k * 10 + 7, none⟩ = some (.int .i64 (zc k 7)) := t.up.keeps (q1 7 (by omega))
      have c8 : wr.cell? ⟨b, off + k * 10 + 8, none⟩ = some (.int .i64 (zc k 8)) := t.up.keeps (q1 8 (by omega))
      have c9 : wr.cell? ⟨b, off + k * 10 + 9, none⟩ = some (.int .i64 (zc k 9)) := t.up.keeps (q1 9 (by omega))
      clear q1 hc
      have t2 := t.new (hd (zc k)) 83
      have m0 : Mc (wr.alloc (.cells (hd (zc k)) 83)).drew (W.heap.size + 1) k := t2.m1.heap rfl
      obtain ⟨c, hcw, hlk⟩ := m0.look (hwc k 0 (by omega)) (hwc k 1 (by omega))
      obtain ⟨v0, st, w1, hme, hM1, hg1, hes⟩ := m0.entry (by omega) (hwc k 0 (by omega)) (hwc k 1 (by omega))
      obtain ⟨c', hcw', hlk1⟩ := hM1.look (hwc k 0 (by omega)) (hwc k 1 (by omega))
      obtain ⟨w2, hes1, hM2, hg2⟩ := hes (wrap64 (c + 1)) (wrap64_wf _)
      obtain ⟨w3, hes2, hM3, hg3⟩ := hes (wrap64 (c' + 1)) (wrap64_wf _)
      unfold hd at hlk hme
      simp only [goInt] at hme hes1 hes2
      have s2 := (t2.of (Up.drew _)).set1 hg2 hM2
      have s3 := (t2.of (Up.drew _)).set1 hg3 hM3
      have ha2 := s2.bc t.sz
      have ha3 := s3.bc t.sz
      simp only [hd] at ha2 ha3
      go_wp2
      go_region
      all_goals clear hlk hme hM1 hg1 hes hes1 hes2 hlk1 m0
      all_goals go_wp2_with (first
        | ((with_reducible refine g_load32 ?_); refine arm_load 32 _ rfl W.heap.size 0 rfl A.toList _ (Tc.rg ‹Tc W A _ _ _ _ _ _›) Try.underlying32 rfl hs.szl ?_ ?_ <;> (go_simp; try intros))
        | (go_at_call 32; refine (capMay_any _ _ _ _ _ _ _ _ _).mono ?_; rintro e w' ⟨⟨r, rfl⟩, hv⟩; have s5 := Tc.of ‹Tc W A _ _ _ _ _ _› hv; have ha5 := s5.bc t.sz; simp only [hd] at ha5)
        | (go_at_call 33; refine (is_any A ao no co zo _ _ _ (by omega) h0 (ho.up (Tc.up ‹Tc W A _ _ _ _ _ _›))).mono ?_; rintro e w' ⟨⟨r, rfl⟩, hv⟩; have s6 := Tc.of ‹Tc W A _ _ _ _ _ _› hv; have ha6 := s6.bc t.sz; simp only [hd] at ha6)
        | (at_builtin; refine Tc.ap ‹Tc W A _ _ _ _ _ _› rfl _ _ rfl _ _ _ rfl (by omega) rfl rfl rfl ?_; intro v' w' t6))
      all_goals
        (go_roundw
         case rel => exact ⟨k + 1, by omega, by go_num, Tc.grow ‹Tc W A _ _ _ _ _ _› (by omega) (by omega) (by omega)⟩
         case measure => simp [intOf]; omega)
    · have t0 := t.grow (k1 := 40) (k2 := 40) (m' := 40) (by omega) (by omega) (by omega)
      clear t
      have b2 := (t0.cell 2).trans h2
      go_wp2
      clear b2
      go_loopw [3, 8, 70] (fun l ah i w' => ∃ k : Nat, k ≤ nt ∧ i = .int .i64 k ∧ (∃ z : Int, ah = .int .i64 z) ∧ Tc W A w' 40 (40 + k) l (40 + k) (0, #[], 0)) (fun _ _ i _ => nt - (intOf i).toNat)
      case atStart => exact ⟨0, Nat.zero_le _, rfl, ⟨_, rfl⟩, t0.grow (by omega) (by omega) (by omega)⟩
      case round =>
        obtain ⟨k2, hk2, rfl, ⟨ah, rfl⟩, t⟩ := hrel
        by_cases hlt2 : k2 < nt
        · obtain ⟨b, off, rfl, q1⟩ := ht k2 hlt2
          have c0 : wr.cell? ⟨b, off + k2 * 3, none⟩ = some (.int .i64 (zt k2 0)) := t.up.keeps (q1 0 (by omega))
          have c1 : wr.cell? ⟨b, off + k2 * 3 + 1, none⟩ = some (.int .i64 (zt k2 1)) := t.up.keeps (q1 1 (by omega))
          have c2 : wr.cell? ⟨b, off + k2 * 3 + 2, none⟩ = some (.int .i64 (zt k2 2)) := t.up.keeps (q1 2 (by omega))
          clear q1 ht hc
          have t2 := t.new #[.int .i64 (zt k2 0), .int .i64 (zt k2 1), .int .i64 (zt k2 2)] 87
          have m0 : Mc (wr.alloc (.cells #[.int .i64 (zt k2 0), .int .i64 (zt k2 1), .int .i64 (zt k2 2)] 87)).drew (W.heap.size + 1 + 1) (40 + k2) := t2.m2.heap rfl
          obtain ⟨c, hcw, hlk⟩ := m0.look (hwt k2 0) (hwt k2 1)
          obtain ⟨v0, st, w1, hme, hM1, hg1, hes⟩ := m0.entry (by omega) (hwt k2 0) (hwt k2 1)
          obtain ⟨c', hcw', hlk1⟩ := hM1.look (hwt k2 0) (hwt k2 1)
          obtain ⟨w2, hes1, hM2, hg2⟩ := hes (wrap64 (c + 1)) (wrap64_wf _)
          obtain ⟨w3, hes2, hM3, hg3⟩ := hes (wrap64 (c' + 1)) (wrap64_wf _)
          simp only [goInt] at hme hes1 hes2
          have s2 := (t2.of (Up.drew _)).set2 hg2 hM2
          have s3 := (t2.of (Up.drew _)).set2 hg3 hM3
          have ha2 := s2.bc t.sz
          have ha3 := s3.bc t.sz
          obtain ⟨d2, _, hl2⟩ := s2.m1.look (hwt k2 0) (hwt k2 1)
          obtain ⟨d3, _, hl3⟩ := s3.m1.look (hwt k2 0) (hwt k2 1)
          obtain ⟨e2, _, hl4⟩ := s2.m2.look (hwt k2 0) (hwt k2 1)
          obtain ⟨e3, _, hl5⟩ := s3.m2.look (hwt k2 0) (hwt k2 1)
          go_wp2
          go_region
          all_goals clear hlk hme hM1 hg1 hes hes1 hes2 hlk1 m0
          all_goals go_wp2_with (first
            | (at_builtin; refine Tc.apx ‹Tc W A _ _ _ _ _ _› (by simp) rfl _ _ rfl _ _ _ rfl (by omega) rfl rfl rfl ?_; intro v' w' t6; have ha6 := t6.bc t.sz))
          all_goals
            (go_roundw
             case rel => exact ⟨k2 + 1, by omega, by go_num, ⟨_, rfl⟩, Tc.grow ‹Tc W A _ _ _ _ _ _› (by omega) (by omega) (by omega)⟩
             case measure => simp [intOf]; omega)
        · have t0 := t.grow (k1 := 40) (k2 := 80) (m' := 80) (by omega) (by omega) (by omega)
          clear t
          have b1 := (t0.cell 1).trans h1
          go_wp2
          clear b1
          go_loopw [3, 121] (fun l i w' => ∃ k : Nat, k ≤ nc ∧ i = .int .i64 k ∧ Tc W A w' 40 80 l (80 + k) (0, #[], 0)) (fun _ i _ => nc - (intOf i).toNat)
          case atStart => exact ⟨0, Nat.zero_le _, rfl, t0⟩
          case round =>
            obtain ⟨k3, hk3, rfl, t⟩ := hrel
            by_cases hlt3 : k3 < nc
            · obtain ⟨b, off, rfl, q1⟩ := hc k3 hlt3
              have c0 : wr.cell? ⟨b, off + k3 * 10, none⟩ = some (.int .i64 (zc k3 0)) := t.up.keeps (q1 0 (by omega))
              have c1 : wr.cell? ⟨b, off + k3 * 10 + 1, none⟩ = some (.int .i64 (zc k3 1)) := t.up.keeps (q1 1 (by omega))
              have c2 : wr.cell? ⟨b, off + k3 * 10 + 2, none⟩ = some (.int .i64 (zc k3 2)) := t.up.keeps (q1 2 (by omega))
              have c3 : wr.cell? ⟨b, off + k3 * 10 + 3, none⟩ = some (.int .i64 (zc k3 3)) := t.up.keeps (q1 3 (by omega))
              have c4 : wr.cell? ⟨b, off + k3 * 10 + 4, none⟩ = some (.int .i64 (zc k3 4)) := t.up.keeps (q1 4 (by omega))
              have c5 : wr.cell? ⟨b, off + k3 * 10 + 5, none⟩ = some (.int .u64 (zc k3 5)) := t.up.keeps (q1 5 (by omega))
              have c6 : wr.cell? ⟨b, off + k3 * 10 + 6, none⟩ = some (.int .i64 (zc k3 6)) := t.up.keeps (q1 6 (by omega))
              have c7 : wr.cell? ⟨b, off + k3 * 10 + 7, none⟩ = some (.int .i64 (zc k3 7)) := t.up.keeps (q1 7 (by omega))
              have c8 : wr.cell? ⟨b, off + k3 * 10 + 8, none⟩ = some (.int .i64 (zc k3 8)) := t.up.keeps (q1 8 (by omega))
              have c9 : wr.cell? ⟨b, off + k3 * 10 + 9, none⟩ = some (.int .i64 (zc k3 9)) := t.up.keeps (q1 9 (by omega))
              clear q1 hc
              have t2 := t.new (hd (zc k3)) 83
              obtain ⟨c, hcw, hlk⟩ := t2.m2.look (hwc k3 0 (by omega)) (hwc k3 1 (by omega))
              unfold hd at hlk
              go_wp2_with (first
                | (at_builtin; refine Tc.ap t2 rfl _ _ rfl _ _ _ rfl (by omega) rfl rfl (size_alloc _ _).symm ?_; intro v' w' t6))
              all_goals
                (go_roundw
                 case rel => exact ⟨k3 + 1, by omega, by go_num, by first | exact Tc.grow t6 (by omega) (by omega) (by omega) | exact Tc.grow t2 (by omega) (by omega) (by omega)⟩
                 case measure => simp [intOf]; omega)
            · have own := t.own
              have up := t.up
              go_wp2
              go_ret
              obtain ⟨d, q1, q2⟩ := own.low (base' := W.heap.size) (by omega)
              exact ⟨_, rfl, ⟨d, by omega, q2⟩, up⟩
end Go.Proofs.AO
