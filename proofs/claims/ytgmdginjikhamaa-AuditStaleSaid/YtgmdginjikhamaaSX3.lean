/- A text of audit.threads: what its walk gives is used for views. No conditions beside those in its theorems. -/
import Derived.Test.YtgmdginjikhamaaSX2
set_option linter.unusedSimpArgs false
namespace Go.Proofs.AO
open Go.RowKit Go.Maps
set_option linter.unusedVariables false
set_option maxRecDepth 100000
set_option maxHeartbeats 1000000
theorem Mp.made (w : World) : Mp (w.alloc (.map #[] 0)) w.heap.size 0 := ⟨_, World.ownsMap_made _ _ _ _⟩
theorem Own.nil (w : World) (base : Nat) : Own w base (.slice none 0 0) 0 := ⟨[], Nat.le_refl _, World.ownsRow_nil _ _ _ _⟩
theorem Own.low {w : World} {base base' m : Nat} {v : Value} (h : Own w base v m) (hb : base' ≤ base) : Own w base' v m := by
  obtain ⟨d, h1, h2, h3⟩ := h
  refine ⟨d, h1, h2, ?_⟩
  rcases h3 with h3 | ⟨g, cap, cur, g1, g2, g3⟩
  · exact .inl h3
  · exact .inr ⟨g, cap, cur, g1, Nat.le_trans hb g2, g3⟩
/-- what a search for findings gives -/
def Gv (W : World) (m : Nat) (e : Ending) (w' : World) : Prop := ∃ v, e = .returned v ∧ Own w' W.heap.size v m ∧ Up W w'
theorem TI.start (W : World) (A : Array Value) : TI W A ((((W.alloc (.cells A 32)).alloc (.map #[] 0)).alloc (.map #[] 0)).alloc (.map #[] 0)) 0 0 0 (.slice none 0 0) 0 (0, #[], 0) := by
  have s1 := size_alloc W (.cells A 32)
  have s2 := size_alloc (W.alloc (.cells A 32)) (.map #[] 0)
  have s3 := size_alloc ((W.alloc (.cells A 32)).alloc (.map #[] 0)) (.map #[] 0)
  have s4 := size_alloc (((W.alloc (.cells A 32)).alloc (.map #[] 0)).alloc (.map #[] 0)) (.map #[] 0)
  have u1 := Up.push W (.cells A 32)
  have u2 := Up.push (W.alloc (.cells A 32)) (.map #[] 0)
  have u3 := Up.push ((W.alloc (.cells A 32)).alloc (.map #[] 0)) (.map #[] 0)
  have u4 := Up.push (((W.alloc (.cells A 32)).alloc (.map #[] 0)).alloc (.map #[] 0)) (.map #[] 0)
  have m1 := Mp.made (W.alloc (.cells A 32))
  have m2 := Mp.made ((W.alloc (.cells A 32)).alloc (.map #[] 0))
  have m3 := Mp.made (((W.alloc (.cells A 32)).alloc (.map #[] 0)).alloc (.map #[] 0))
  rw [s1] at m1
  rw [s2, s1] at m2
  rw [s3, s2, s1] at m3
  exact ⟨u1.trans (u2.trans (u3.trans u4)), (u2.trans (u3.trans u4)).heap (heap_alloc_last W _), m1.heap ((u3.trans u4).block _ m1.lt), m2.heap (u4.block _ m2.lt), m3, by omega, Own.nil _ _, fun hx => absurd hx (by show ¬ _ ≤ 0; omega)⟩
def PrT (cs : Array Value) : Prop := ∃ id st : Int, cs[0]? = some (.int .i64 id) ∧ WF id ∧ cs[1]? = some (.int .i64 st)
theorem TI.cell {W w : World} {A : Array Value} {n1 n2 n3 m : Nat} {v : Value} {xb : Nat × Array Value × TypeId} (t : TI W A w n1 n2 n3 v m xb) (j : Nat) : w.cell? ⟨W.heap.size, j, none⟩ = A[j]? := cell_of_row _ _ _ _ _ _ t.box
theorem TI.rg {W w : World} {A : Array Value} {n1 n2 n3 m : Nat} {v : Value} {xb : Nat × Array Value × TypeId} (t : TI W A w n1 n2 n3 v m xb) : w.rangeAt W.heap.size 0 A.toList := fun j v hj => by
  rw [Nat.zero_add, t.cell j]
  simpa using hj
theorem size32 : (Try.prog.info? 32).map (·.size) = some 86 := by kernel_rfl
section
variable {P : Program} {ops : Array Oper} {rest : List Oper} {a : Act} {w : World} {Q : Exit → Act → World → Prop} {d : Option Tmp} {t : TypeId} {p : String} {af : Array Edge} {g : Option (Nat × Bool)} {x y : Operand}
theorem g_load93 (h : wpList P ops Q (⟨d, .load 93 x, t, p, af, g⟩ :: rest) a w) : wpList P ops Q (⟨d, .load 93 x, t, p, af, g⟩ :: rest) a w := h
theorem g_load32 (h : wpList P ops Q (⟨d, .load 32 x, t, p, af, g⟩ :: rest) a w) : wpList P ops Q (⟨d, .load 32 x, t, p, af, g⟩ :: rest) a w := h
theorem g_store93 (h : wpList P ops Q (⟨d, .store 93 x y, t, p, af, g⟩ :: rest) a w) : wpList P ops Q (⟨d, .store 93 x y, t, p, af, g⟩ :: rest) a w := h
end
theorem wl {P : Program} {ops : Array Oper} {rest : List Oper} {op : Oper} {a : Act} {w : World} {Q : Exit → Act → World → Prop} (h : wpList P ops Q (op :: rest) a w) : wpList P ops Q (op :: rest) a w := h
/-- an element of a row of structs -/
structure El (W : World) (b o es : Nat) (cs : Array Value) : Prop where
  size : cs.size = es
  one : cs.all (·.oneCell') = true
  rg : W.rangeAt b o cs.toList
theorem El.up {W w : World} {b o es : Nat} {cs : Array Value} (h : El W b o es cs) (hu : Up W w) : El w b o es cs := ⟨h.size, h.one, rangeAt_up h.rg hu⟩
theorem El.sz {W : World} {b o es : Nat} {cs : Array Value} (h : El W b o es cs) {P : Program} {t : TypeId} (ht : (P.info? t).map (·.size) = some es) : (P.info? t).map (·.size) = some cs.size := by rw [ht, h.size]
theorem El.szl {W : World} {b o es : Nat} {cs : Array Value} (h : El W b o es cs) {P : Program} {t : TypeId} (ht : (P.info? t).map (·.size) = some es) : (P.info? t).map (·.size) = some cs.toList.length := by rw [ht, ← h.size, Array.length_toList]
def Big (A : Array Value) : Prop := A.size = 86 ∧ A.all (·.oneCell') = true
theorem Big.szl {A : Array Value} (h : Big A) : (Try.prog.info? 32).map (·.size) = some A.toList.length := by rw [size32, ← h.1, Array.length_toList]
theorem size93 : (Try.prog.info? 93).map (·.size) = some 24 := by kernel_rfl
theorem TI.ap2 {W w : World} {A : Array Value} {n1 n2 n3 m : Nat} {v : Value} {xb : Nat × Array Value × TypeId} {ops : Array Oper} {rest : List Oper} {o : Oper} {a : Act} {Q : Exit → Act → World → Prop} (t : TI W A w n1 n2 n3 v m xb) (hgd : o.guard = none) (s x : Operand) (ho : o.op = .call { callee := .builtin .append, args := #[s, x], argTypes := #[35, 35] }) {w2 : World} (f1 f2 f3 : Int) (hw : w2 = w.alloc (.cells #[.int .i64 f1, .int .i64 f2, .int .i64 f3] 38)) (hm : m ≤ 100000) (hs : a.eval s = v) {K : Nat} (hx : a.eval x = .slice (some ⟨K, 0, none⟩) 1 1) (hK : K = w.heap.size)
    (h : ∀ v' w', TI W A w' n1 n2 n3 v' (m + 1) (0, #[], 0) → wpList Try.prog ops Q rest (a.put o.dst v') w') : wpList Try.prog ops Q (o :: rest) a w2 := t.ap hgd s x ho f1 f2 f3 hw hm hs (hK ▸ hx) h
theorem threads_any (A : Array Value) (hs : Big A) (ao aq at_ : Option Addr) (no co nq cq nt ct : Nat) (zo : Nat → Nat → Int) (zq : Nat → Int) (W : World) (hno : no ≤ 40) (hnq : nq ≤ 40) (hnt : nt ≤ 40)
    (h0 : A[0]? = some (.slice ao no co)) (h3 : A[3]? = some (.slice at_ nt ct)) (h85 : A[85]? = some (.slice aq nq cq))
    (ho : Rw 9 W ao no fun j t => .int .i64 (zo j t)) (hwo : ∀ j t, WF (zo j t)) (hq : Rw 1 W aq nq fun j _ => .int .i64 (zq j)) (hwq : ∀ j, WF (zq j)) (ht : Rs 24 PrT W at_ nt) :
    Calls Try.prog 16 #[.agg A] W (Gv W 200) := by
  have hmm := @run_makeMap Try.prog
  go_enter Try.func16, Try.ntmps16
  go_wp2
  go_loopw [21] (fun i w' => ∃ k : Nat, k ≤ nq ∧ i = .int .i64 k ∧ TI W A w' k k k (.slice none 0 0) 0 (0, #[], 0)) (fun i _ => nq - (intOf i).toNat)
  case atStart => exact ⟨0, Nat.zero_le _, rfl, TI.start W A⟩
  case round =>
    obtain ⟨k, hk, rfl, t⟩ := hrel
    by_cases hlt : k < nq
    · obtain ⟨b, off, rfl, hc⟩ := hq k hlt
      have hc0 : wr.cell? ⟨b, off + k, none⟩ = some (.int .i64 (zq k)) := by have := t.up.keeps (hc 0 (by omega)); simpa using this
      clear hq hc
      go_wp2_with (first
        | (at_lookup; refine t.lk _ _ rfl _ (.inl rfl) rfl rfl (hwq k) ?_ ?_ <;> go_simp; intro c hwc)
        | (at_mapUpdate; refine t.st rfl _ _ _ rfl _ (.inl rfl) rfl (by omega) (by omega) (by omega) rfl (hwq k) rfl (wrap64_wf _) ?_; intro w1 t1))
      · go_roundw
        case rel => exact ⟨k + 1, by omega, by go_num, t1⟩
        case measure => simp [intOf]; omega
    · have t0 := t.grow (k1 := 40) (k2 := 40) (k3 := 40) (m' := 0) (by omega) (by omega) (by omega) (by omega)
      clear t
      have b3 := (t0.cell 3).trans h3
      go_wp2
      clear b3
      go_loopw [8, 33] (fun l i w' => ∃ k : Nat, k ≤ nt ∧ i = .int .i64 k ∧ TI W A w' (40 + 2 * k) (40 + 2 * k) (40 + 2 * k) l k (0, #[], 0)) (fun _ i _ => nt - (intOf i).toNat)
      case atStart => exact ⟨0, Nat.zero_le _, rfl, t0⟩
      case round =>
        obtain ⟨k2, hk2, rfl, t⟩ := hrel
        by_cases hlt2 : k2 < nt
        · obtain ⟨b, off, cs, rfl, hcs, hone, hrg, id, st, e0, hid, e1⟩ := ht k2 hlt2
          have hel := El.up ⟨hcs, hone, hrg⟩ t.up
          clear ht hrg hcs hone
          go_wp2_with (first
            | ((with_reducible refine g_load93 ?_); refine arm_load 93 _ rfl b (off + k2 * 24) rfl cs.toList _ hel.rg Try.underlying93 rfl (hel.szl size93) ?_ ?_ <;> (go_simp; try intros))
            | ((with_reducible refine g_store93 ?_); refine arm_store rfl 93 _ _ rfl rfl cs rfl rfl (hel.sz size93) hel.size.symm hel.one ?_; have t2 := t.new cs 93)
            | ((with_reducible refine g_load32 ?_); refine arm_load 32 _ rfl W.heap.size 0 rfl A.toList _ (TI.rg ‹TI W A _ _ _ _ _ _ _›) Try.underlying32 rfl hs.szl ?_ ?_ <;> (go_simp; try intros))
            | (at_lookup; refine TI.lk ‹TI W A _ _ _ _ _ _ _› _ _ rfl _ (by first | exact .inl rfl | exact .inr (.inl rfl) | exact .inr (.inr rfl)) rfl rfl (by assumption) ?_ ?_ <;> (go_simp; try intros))
            | (at_mapUpdate; refine TI.st ‹TI W A _ _ _ _ _ _ _› rfl _ _ _ rfl _ (by first | exact .inl rfl | exact .inr (.inl rfl) | exact .inr (.inr rfl)) rfl (by omega) (by omega) (by omega) rfl (by assumption) rfl (wrap64_wf _) ?_; intro w1 t1; have c0 := (t1.bc t.sz 0).trans e0; have c1 := (t1.bc t.sz 1).trans e1)
            | (at_builtin; refine TI.ap ‹TI W A _ _ _ _ _ _ _› rfl _ _ rfl _ _ _ rfl (by omega) rfl rfl ?_; intro v' w' t6)
            | (go_at_call 33; refine (is_any A ao no co zo _ _ _ (by omega) h0 (ho.up (TI.up ‹TI W A _ _ _ _ _ _ _›))).mono ?_; rintro e w' ⟨⟨r, rfl⟩, hv⟩; have t5 := TI.of ‹TI W A _ _ _ _ _ _ _› hv; have d0 := (t5.bc t.sz 0).trans e0; have d1 := (t5.bc t.sz 1).trans e1))
          all_goals
            (go_roundw
             case rel => exact ⟨k2 + 1, by omega, by go_num, TI.grow ‹TI W A _ _ _ _ _ _ _› (by omega) (by omega) (by omega) (by omega)⟩
             case measure => simp [intOf]; omega)
        · have t0 := t.grow (k1 := 200) (k2 := 200) (k3 := 200) (m' := 40) (by omega) (by omega) (by omega) (by omega)
          clear t
          have b0 := (t0.cell 0).trans h0
          go_wp2
          clear b0
          go_loopw [8, 77] (fun l i w' => ∃ k : Nat, k ≤ no ∧ i = .int .i64 k ∧ TI W A w' 200 200 200 l (40 + k) (0, #[], 0)) (fun _ i _ => no - (intOf i).toNat)
          case atStart => exact ⟨0, Nat.zero_le _, rfl, t0⟩
          case round =>
            obtain ⟨k3, hk3, rfl, t⟩ := hrel
            by_cases hlt3 : k3 < no
            · obtain ⟨b, off, rfl, h1⟩ := ho k3 hlt3
              have c0 : wr.cell? ⟨b, off + k3 * 9, none⟩ = some (.int .i64 (zo k3 0)) := t.up.keeps (h1 0 (by omega))
              have c1 : wr.cell? ⟨b, off + k3 * 9 + 1, none⟩ = some (.int .i64 (zo k3 1)) := t.up.keeps (h1 1 (by omega))
              have c2 : wr.cell? ⟨b, off + k3 * 9 + 2, none⟩ = some (.int .i64 (zo k3 2)) := t.up.keeps (h1 2 (by omega))
              have c3 : wr.cell? ⟨b, off + k3 * 9 + 3, none⟩ = some (.int .i64 (zo k3 3)) := t.up.keeps (h1 3 (by omega))
              have c4 : wr.cell? ⟨b, off + k3 * 9 + 4, none⟩ = some (.int .i64 (zo k3 4)) := t.up.keeps (h1 4 (by omega))
              have c5 : wr.cell? ⟨b, off + k3 * 9 + 5, none⟩ = some (.int .i64 (zo k3 5)) := t.up.keeps (h1 5 (by omega))
              have c6 : wr.cell? ⟨b, off + k3 * 9 + 6, none⟩ = some (.int .i64 (zo k3 6)) := t.up.keeps (h1 6 (by omega))
              have c7 : wr.cell? ⟨b, off + k3 * 9 + 7, none⟩ = some (.int .i64 (zo k3 7)) := t.up.keeps (h1 7 (by omega))
              have c8 : wr.cell? ⟨b, off + k3 * 9 + 8, none⟩ = some (.int .i64 (zo k3 8)) := t.up.keeps (h1 8 (by omega))
              have hw0 := hwo k3 0
              have t2 := fun cs => t.new cs 47
              clear h1
              go_wp2_with (first
                | (at_lookup; refine (t2 _).lk _ _ rfl _ (by first | exact .inl rfl | exact .inr (.inl rfl) | exact .inr (.inr rfl)) rfl rfl (by assumption) ?_ ?_ <;> (go_simp; try intros))
                | (at_builtin; refine (t2 _).ap2 rfl _ _ rfl _ _ _ rfl (by omega) rfl rfl (size_alloc _ _).symm ?_; intro v' w' t6))
              all_goals
                (go_roundw
                 case rel => exact ⟨k3 + 1, by omega, by go_num, by first | exact TI.grow t6 (by omega) (by omega) (by omega) (by omega) | exact TI.grow (t2 _) (by omega) (by omega) (by omega) (by omega)⟩
                 case measure => simp [intOf]; omega)
            · have t0 := t.grow (k1 := 200) (k2 := 200) (k3 := 200) (m' := 80) (by omega) (by omega) (by omega) (by omega)
              clear t
              have b0 := (t0.cell 85).trans h85
              go_wp2
              clear b0
              go_loopw [8, 101] (fun l i w' => ∃ k : Nat, k ≤ nq ∧ i = .int .i64 k ∧ TI W A w' 200 200 200 l (80 + k) (0, #[], 0)) (fun _ i _ => nq - (intOf i).toNat)
              case atStart => exact ⟨0, Nat.zero_le _, rfl, t0⟩
              case round =>
                obtain ⟨k4, hk4, rfl, t⟩ := hrel
                by_cases hlt4 : k4 < nq
                · obtain ⟨b, off, rfl, hc⟩ := hq k4 hlt4
                  have hc0 : wr.cell? ⟨b, off + k4, none⟩ = some (.int .i64 (zq k4)) := by have := t.up.keeps (hc 0 (by omega)); simpa using this
                  have hw0 := hwq k4
                  clear hc
                  go_wp2_with (first
                    | (at_lookup; refine t.lk _ _ rfl _ (by first | exact .inl rfl | exact .inr (.inl rfl) | exact .inr (.inr rfl)) rfl rfl (by assumption) ?_ ?_ <;> (go_simp; try intros))
                    | (at_builtin; refine t.ap rfl _ _ rfl _ _ _ rfl (by omega) rfl rfl ?_; intro v' w' t6))
                  all_goals
                    (go_roundw
                     case rel => exact ⟨k4 + 1, by omega, by go_num, by first | exact TI.grow t6 (by omega) (by omega) (by omega) (by omega) | exact TI.grow t (by omega) (by omega) (by omega) (by omega)⟩
                     case measure => simp [intOf]; omega)
                · have own := t.own
                  have up := t.up
                  go_wp2
                  go_ret
                  obtain ⟨d, q1, q2⟩ := own.low (base' := W.heap.size) (by omega)
                  exact ⟨_, rfl, ⟨d, by omega, q2⟩, up⟩
end Go.Proofs.AO
