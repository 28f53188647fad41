/- The pools of a view. No conditions beside those in its theorems. -/
import Derived.Test.YtgmdginjikhamaaSX3
set_option linter.unusedSimpArgs false
namespace Go.Proofs.AO
open Go.RowKit Go.Maps
set_option linter.unusedVariables false
set_option maxRecDepth 100000
set_option maxHeartbeats 1000000
/-- a state: the view's box, a row of one's own, one more box -/
structure St (W : World) (A : Array Value) (w : World) (v : Value) (m : Nat) (x : Nat × Array Value × TypeId) : Prop where
  up : Up W w
  box : w.heap[W.heap.size]? = some (.cells A 32 (0, 0))
  sz : W.heap.size + 1 ≤ w.heap.size
  own : Own w (W.heap.size + 1) v m
  bx : W.heap.size + 1 ≤ x.1 → w.heap[x.1]? = some (.cells x.2.1 x.2.2 (0, 0)) ∧ ∀ k, v.ownBlock = some k → k ≠ x.1
section
variable {W : World} {A : Array Value} {w w' : World} {m : Nat} {v : Value} {xb : Nat × Array Value × TypeId}
theorem St.of (t : St W A w v m xb) (h : Up w w') : St W A w' v m xb :=
  ⟨t.up.trans h, h.heap t.box, Nat.le_trans t.sz h.size, t.own.heap fun k hk _ => h.block k hk, fun hx => ⟨h.heap (t.bx hx).1, (t.bx hx).2⟩⟩
theorem St.al (t : St W A w v m xb) (o : Obj) : St W A (w.alloc o) v m xb := t.of (Up.push w o)
theorem St.start (W : World) (A : Array Value) : St W A (W.alloc (.cells A 32)) (.slice none 0 0) 0 (0, #[], 0) :=
  ⟨Up.push W _, heap_alloc_last W _, by rw [size_alloc]; omega, Own.nil _ _, fun hx => absurd hx (by show ¬ _ ≤ 0; omega)⟩
theorem Own.lt {w : World} {base m : Nat} {v : Value} (h : Own w base v m) {k : Nat} (hk : v.ownBlock = some k) : base ≤ k ∧ k < w.heap.size := by
  obtain ⟨d, _, hr⟩ := h
  exact hr.lt k hk
theorem St.new (t : St W A w v m xb) (cs : Array Value) (T : TypeId) : St W A (w.alloc (.cells cs T)) v m (w.heap.size, cs, T) :=
  let s := t.al (.cells cs T)
  ⟨s.up, s.box, s.sz, s.own, fun _ => ⟨heap_alloc_last w _, fun k hk e => by have := (t.own.lt hk).2; omega⟩⟩
theorem St.no (t : St W A w v m xb) : St W A w v m (0, #[], 0) := ⟨t.up, t.box, t.sz, t.own, fun hx => absurd hx (by show ¬ _ ≤ 0; omega)⟩
theorem St.app (t : St W A w v m xb) {v' : Value} {m' : Nat} {row : Option Nat} (hg : w.grownBy w' row) (hr : ∀ k, row = some k → W.heap.size + 1 ≤ k) (h : Own w' (W.heap.size + 1) v' m') : St W A w' v' m' (0, #[], 0) :=
  have hb : ∀ k, k < w.heap.size → k < W.heap.size + 1 → w'.heap[k]? = w.heap[k]? := fun k hk hne => hg.block k hk (fun e => by have := hr k e.symm; omega)
  ⟨t.up.grow hg (fun k e => by have := hr k e; omega), (hb _ (by have := t.sz; omega) (by omega)).trans t.box, Nat.le_trans t.sz hg.size, h, fun hx => absurd hx (by show ¬ _ ≤ 0; omega)⟩
theorem St.ap {ops : Array Oper} {rest : List Oper} {o : Oper} {a : Act} {Q : Exit → Act → World → Prop} (t : St W A w v m xb) (hgd : o.guard = none) (s x : Operand) (ho : o.op = .call { callee := .builtin .append, args := #[s, x], argTypes := #[35, 35] }) {w2 : World} (f1 f2 f3 : Int) (hw : w2 = w.alloc (.cells #[.int .i64 f1, .int .i64 f2, .int .i64 f3] 38)) (hm : m ≤ 100000) (hs : a.eval s = v) {K : Nat} (hx : a.eval x = .slice (some ⟨K, 0, none⟩) 1 1) (hK : K = w.heap.size)
    (h : ∀ v' w', St W A w' v' (m + 1) (0, #[], 0) → wpList Try.prog ops Q rest (a.put o.dst v') w') : wpList Try.prog ops Q (o :: rest) a w2 := by
  subst hw hK
  exact arm_ap hgd s x ho t.own hm t.sz (f1, f2, f3) hs hx fun v' w' h1 h2 h3 => h v' w' ((t.al _).app h2 h3 h1)
theorem St.grow (t : St W A w v m xb) {m' : Nat} (h4 : m ≤ m') : St W A w v m' (0, #[], 0) := by
  obtain ⟨d, q1, q2⟩ := t.own
  exact ⟨t.up, t.box, t.sz, ⟨d, Nat.le_trans q1 h4, q2⟩, fun hx => absurd hx (by show ¬ _ ≤ 0; omega)⟩
theorem St.cell (t : St W A w v m xb) (j : Nat) : w.cell? ⟨W.heap.size, j, none⟩ = A[j]? := cell_of_row _ _ _ _ _ _ t.box
theorem St.bc (t : St W A w v m xb) (h : W.heap.size + 1 ≤ xb.1) (j : Nat) : w.cell? ⟨xb.1, j, none⟩ = xb.2.1[j]? := cell_of_row _ _ _ _ _ _ (t.bx h).1
theorem St.rg (t : St W A w v m xb) : w.rangeAt W.heap.size 0 A.toList := fun j u hj => by
  rw [Nat.zero_add, t.cell j]
  simpa using hj
theorem St.rgs (t : St W A w v m xb) {l : List Value} {o : Nat} (hl : ∀ j u, l[j]? = some u → A[o + j]? = some u) : w.rangeAt W.heap.size o l := fun j u hj => by
  rw [t.cell (o + j)]
  exact hl j u hj
theorem St.rgb (t : St W A w v m xb) (h : W.heap.size + 1 ≤ xb.1) {l : List Value} {o : Nat} (hl : ∀ j u, l[j]? = some u → xb.2.1[o + j]? = some u) : w.rangeAt xb.1 o l := fun j u hj => by
  rw [t.bc h (o + j)]
  exact hl j u hj
end
section
variable {P : Program} {ops : Array Oper} {rest : List Oper} {a : Act} {w : World} {Q : Exit → Act → World → Prop} {d : Option Tmp} {t : TypeId} {p : String} {af : Array Edge} {g : Option (Nat × Bool)} {x y : Operand}
theorem g_load29 (h : wpList P ops Q (⟨d, .load 29 x, t, p, af, g⟩ :: rest) a w) : wpList P ops Q (⟨d, .load 29 x, t, p, af, g⟩ :: rest) a w := h
theorem g_load26 (h : wpList P ops Q (⟨d, .load 26 x, t, p, af, g⟩ :: rest) a w) : wpList P ops Q (⟨d, .load 26 x, t, p, af, g⟩ :: rest) a w := h
theorem g_store28 (h : wpList P ops Q (⟨d, .store 28 x y, t, p, af, g⟩ :: rest) a w) : wpList P ops Q (⟨d, .store 28 x y, t, p, af, g⟩ :: rest) a w := h
end
/-- the pools of a view -/
structure Po (A : Array Value) (PA : Array Value) (pc : Nat → Array Value) (ro : Nat → Nat → Int) : Prop where
  size : PA.size = 80
  sub : ∀ j u, PA.toList[j]? = some u → A[4 + j]? = some u
  ix : ∀ k : Nat, k < 8 → ∀ w, (Instr.index 29 (.agg PA) (.int .i64 (k : Int))).run Try.prog w = .ok (.agg (pc k)) w
  es : ∀ k, k < 8 → (pc k).size = 10 ∧ (pc k).all (·.oneCell') = true
  obj : ∀ k, k < 8 → ∃ z : Int, (pc k)[0]? = some (.int .i64 z)
  roots : ∀ k, k < 8 → ∀ j, j < 4 → (pc k)[2 + j]? = some (.int .i64 (ro k j))
theorem index26_0 (r : Nat → Int) (w : World) : (Instr.index 26 (.agg #[.int .i64 (r 0), .int .i64 (r 1), .int .i64 (r 2), .int .i64 (r 3)]) (.int .i64 (0 : Nat))).run Try.prog w = .ok (.int .i64 (r 0)) w := by kernel_rfl
theorem index26_1 (r : Nat → Int) (w : World) : (Instr.index 26 (.agg #[.int .i64 (r 0), .int .i64 (r 1), .int .i64 (r 2), .int .i64 (r 3)]) (.int .i64 (1 : Nat))).run Try.prog w = .ok (.int .i64 (r 1)) w := by kernel_rfl
theorem index26_2 (r : Nat → Int) (w : World) : (Instr.index 26 (.agg #[.int .i64 (r 0), .int .i64 (r 1), .int .i64 (r 2), .int .i64 (r 3)]) (.int .i64 (2 : Nat))).run Try.prog w = .ok (.int .i64 (r 2)) w := by kernel_rfl
theorem index26_3 (r : Nat → Int) (w : World) : (Instr.index 26 (.agg #[.int .i64 (r 0), .int .i64 (r 1), .int .i64 (r 2), .int .i64 (r 3)]) (.int .i64 (3 : Nat))).run Try.prog w = .ok (.int .i64 (r 3)) w := by kernel_rfl
theorem index26 (r : Nat → Int) (j : Nat) (hj : j < 4) (w : World) : (Instr.index 26 (.agg #[.int .i64 (r 0), .int .i64 (r 1), .int .i64 (r 2), .int .i64 (r 3)]) (.int .i64 (j : Int))).run Try.prog w = .ok (.int .i64 (r j)) w := by
  have h : j = 0 ∨ j = 1 ∨ j = 2 ∨ j = 3 := by omega
  rcases h with rfl | rfl | rfl | rfl
  · exact index26_0 r w
  · exact index26_1 r w
  · exact index26_2 r w
  · exact index26_3 r w
theorem size29 : (Try.prog.info? 29).map (·.size) = some 80 := by kernel_rfl
theorem size28 : (Try.prog.info? 28).map (·.size) = some 10 := by kernel_rfl
theorem size26 : (Try.prog.info? 26).map (·.size) = some 4 := by kernel_rfl
theorem pools_any (A : Array Value) (hs : Big A) (ao : Option Addr) (no co : Nat) (zo : Nat → Nat → Int) (PA : Array Value) (pc : Nat → Array Value) (ro : Nat → Nat → Int) (hp : Po A PA pc ro) (W : World) (hno : no ≤ 40)
    (h0 : A[0]? = some (.slice ao no co))
    (ho : Rw 9 W ao no fun j t => .int .i64 (zo j t)) :
    Calls Try.prog 17 #[.agg A] W (Gv W 8) := by
  have hl29 : (Try.prog.info? 29).map (·.size) = some PA.toList.length := by rw [size29, Array.length_toList, hp.size]
  go_enter Try.func17, Try.ntmps17
  have t0 := St.start W A
  go_wp2_with (first
    | ((with_reducible refine g_load29 ?_); refine arm_load 29 _ rfl W.heap.size 4 rfl PA.toList _ (t0.rgs hp.sub) Try.underlying29 rfl hl29 ?_ ?_ <;> (go_simp; try intros)))
  go_loopw [3, 11] (fun l i w' => ∃ k : Nat, k ≤ 8 ∧ i = .int .i64 k ∧ St W A w' l k (0, #[], 0)) (fun _ i _ => 8 - (intOf i).toNat)
  case atStart => exact ⟨0, Nat.zero_le _, rfl, t0⟩
  case round =>
    obtain ⟨k, hk, rfl, t⟩ := hrel
    by_cases hlt : k < 8
    · have hix := hp.ix k hlt
      obtain ⟨hsz, hone⟩ := hp.es k hlt
      obtain ⟨z, hz⟩ := hp.obj k hlt
      have hro := hp.roots k hlt
      have t2 := t.new (pc k) 28
      have hls : ∀ j u, [Value.int .i64 (ro k 0), .int .i64 (ro k 1), .int .i64 (ro k 2), .int .i64 (ro k 3)][j]? = some u → (pc k)[2 + j]? = some u := by
        intro j u hj
        match j, hj with
        | 0, hj => cases hj; exact hro 0 (by omega)
        | 1, hj => cases hj; exact hro 1 (by omega)
        | 2, hj => cases hj; exact hro 2 (by omega)
        | 3, hj => cases hj; exact hro 3 (by omega)
      go_wp2_with (first
        | ((with_reducible refine g_store28 ?_); refine arm_store rfl 28 _ _ rfl rfl (pc k) rfl rfl (by rw [size28, hsz]) hsz.symm hone ?_; have c0 := (t2.bc t.sz 0).trans hz)
        | ((with_reducible refine g_load32 ?_); refine arm_load 32 _ rfl W.heap.size 0 rfl A.toList _ (St.rg ‹St W A _ _ _ _›) Try.underlying32 rfl hs.szl ?_ ?_ <;> (go_simp; try intros))
        | ((with_reducible refine g_load26 ?_); refine arm_load 26 _ rfl wr.heap.size 2 rfl [.int .i64 (ro k 0), .int .i64 (ro k 1), .int .i64 (ro k 2), .int .i64 (ro k 3)] _ (St.rgb ‹St W A _ _ _ (wr.heap.size, _, _)› t.sz hls) Try.underlying26 rfl size26 ?_ ?_ <;> (go_simp; try intros))
        | (go_at_call 33; refine (is_any A ao no co zo _ _ _ (by omega) h0 (ho.up (St.up ‹St W A _ _ _ _›))).mono ?_; rintro e w' ⟨⟨r, rfl⟩, hv⟩; have t5 := St.of ‹St W A _ _ _ _› hv))
      all_goals have tn := St.no ‹St W A _ _ _ (wr.heap.size, _, _)›
      all_goals clear t2
      all_goals
        (go_loopw [6, 27] (fun bv i w' => ∃ j : Nat, j ≤ 4 ∧ i = .int .i64 j ∧ (∃ r, bv = .bool r) ∧ St W A w' u3 k (0, #[], 0)) (fun _ i _ => 4 - (intOf i).toNat)
         case atStart => exact ⟨0, Nat.zero_le _, rfl, ⟨_, rfl⟩, tn⟩
         case round =>
           obtain ⟨j, hj, rfl, ⟨rb, rfl⟩, tj⟩ := hrel
           by_cases hlt2 : j < 4
           · have hi6 := index26 (ro k) j hlt2
             go_wp2_with (first
               | ((with_reducible refine g_load32 ?_); refine arm_load 32 _ rfl W.heap.size 0 rfl A.toList _ (St.rg tj) Try.underlying32 rfl hs.szl ?_ ?_ <;> (go_simp; try intros))
               | (go_at_call 33; refine (is_any A ao no co zo _ _ _ (by omega) h0 (ho.up (St.up tj))).mono ?_; rintro e w' ⟨⟨r, rfl⟩, hv⟩; have t5 := St.of tj hv))
             all_goals
               (go_roundw
                case rel => exact ⟨j + 1, by omega, by go_num, ⟨_, rfl⟩, by first | exact t5 | exact tj⟩
                case measure => simp [intOf]; omega)
           · have t9 := tj
             go_wp2_with (first
               | (at_builtin; refine t9.ap rfl _ _ rfl _ _ _ rfl (by omega) rfl rfl rfl ?_; intro v' w' t6))
             all_goals
               (go_roundw
                case rel => exact ⟨k + 1, by omega, by go_num, by first | exact t6 | exact t9.grow (by omega)⟩
                case measure => simp [intOf]; omega))
    · have own := t.own
      have up := t.up
      go_wp2
      go_ret
      obtain ⟨d, q1, q2⟩ := own.low (base' := W.heap.size) (by omega)
      exact ⟨_, rfl, ⟨d, by omega, q2⟩, up⟩
end Go.Proofs.AO
