/- Grow and Concat of findings. No conditions beside those in its theorems. -/
import Derived.Test.YtgmdginjikhamaaAO13
import Derived.Lib.AppendZeros
set_option linter.unusedSimpArgs false
namespace Go.Proofs.AO
open Go.RowKit Go.Maps Go.Shelf
set_option linter.unusedVariables false
set_option maxRecDepth 100000
set_option maxHeartbeats 1000000
theorem grow_nil (n : Nat) (hn : n ≤ 100000) (W : World) : Calls Try.prog 28 #[.slice none 0 0, .int .i64 n] W fun e w' => ∃ v, e = .returned v ∧ Own w' W.heap.size v 0 ∧ Up W w' := by
  obtain ⟨i0, hi, hz0, hz1, hz2⟩ := info_parts info38
  by_cases h0 : n = 0
  · subst h0
    go_enter Try.func28, Try.ntmps28
    go_wp2
    all_goals go_ret
    all_goals exact ⟨_, rfl, Own.nil _ _, Up.refl _⟩
  · have hr : ∀ ty, (Builtin.append_ #[35, 3] ty #[.slice none 0 0, .int .i64 n]).run Try.prog W = _ := fun ty =>
      Lib.run_append_nil_zeros W 35 3 ty 38 i0 _ .i64 .i64 Try.underlying35 Try.underlying3 hi hz0 n (by omega) (by rw [hz1]; omega) (by omega) (by rw [hz2]; omega)
    have hG : n ≤ grownCap W n 0 38 := grownCap_ge W _ _ _
    have hM : grownCap W n 0 38 ≤ maxLen := grownCap_le_maxLen W n 0 38 (by unfold maxLen; omega)
    obtain ⟨G, hG0⟩ : ∃ G, G = grownCap W n 0 38 := ⟨_, rfl⟩
    rw [← hG0] at hr hG hM
    have hG63 : G ≤ 9223372036854775807 := by unfold maxLen at hM; omega
    have h1 : ¬ ((n : Int) < 0) := by omega
    have h4 : (n : Int) > 0 := by omega
    clear hG0 hi
    go_enter Try.func28, Try.ntmps28
    go_wp2_with (at_builtin; refine Lib.wpList_append_run _ rfl _ _ _ _ rfl _ _ rfl rfl _ _ (hr _) ?_)
    all_goals go_ret
    all_goals exact ⟨_, rfl, ⟨[], Nat.le_refl _, World.ownsRow_made W.drew _ G (Nat.le_refl _) hM (by simp [size_zeroCells, Value.cells]; omega)⟩, (Up.drew W).trans (Up.push _ _)⟩
theorem Own.shape {w : World} {base m : Nat} {v : Value} (h : Own w base v m) : ∃ ad n cap, v = .slice ad n cap ∧ n ≤ m ∧ n ≤ cap ∧ cap ≤ maxLen := by
  obtain ⟨d, hd, hr⟩ := h
  rcases hr.2 with ⟨rfl, h0⟩ | ⟨g, cap, cur, rfl, _, _, h1, h2, _⟩
  · exact ⟨_, _, _, rfl, Nat.zero_le _, Nat.zero_le _, by unfold maxLen; omega⟩
  · exact ⟨_, _, _, rfl, hd, h1, h2⟩
theorem Own.more {w : World} {base m m' : Nat} {v : Value} (h : Own w base v m) (hm : m ≤ m') : Own w base v m' := let ⟨d, q1, q2⟩ := h; ⟨d, Nat.le_trans q1 hm, q2⟩
/-- 'l = append(l, s...)' of a row of findings of one's own -/
theorem arm_aps {ops : Array Oper} {rest : List Oper} {o : Oper} {a : Act} {w : World} {Q : Exit → Act → World → Prop} (hgd : o.guard = none) (s x : Operand) (ho : o.op = .call { callee := .builtin .append, args := #[s, x], argTypes := #[35, 35] })
    {base base2 m k : Nat} {v u : Value} (hown : Own w base v m) (hu : Own w base2 u k) (hm : m + k ≤ 100000) (hb : base ≤ w.heap.size) (hs : a.eval s = v) (hx : a.eval x = u)
    (h : ∀ v' w', Own w' base v' (m + k) → w.grownBy w' v.ownBlock → wpList Try.prog ops Q rest (a.put o.dst v') w') :
    wpList Try.prog ops Q (o :: rest) a w := by
  obtain ⟨i, hi, hz0, hz1, hz2⟩ := info_parts info38
  obtain ⟨du, hdu, hru⟩ := hu
  have hown0 := hown
  obtain ⟨d, hd, hr⟩ := hown
  rcases hru.2 with ⟨rfl, h0⟩ | ⟨g, cap, cur, rfl, hgb, hg, h1, h2, h3, h4⟩
  · have hrun : ∀ ty, (Builtin.append_ #[35, 35] ty #[v, .slice none 0 0]).run Try.prog w = .ok v w := by
      intro ty
      rcases hr.2 with ⟨rfl, _⟩ | ⟨g2, cap2, cur2, rfl, _, _, _, _⟩
      · simp [Builtin.append_, run_underlying Try.underlying35, sizeOf, typeInfo, zeroValue, hi, hz0, go_sem]
      · have hle : d.length ≤ cap2 := by assumption
        simp [Builtin.append_, run_underlying Try.underlying35, sizeOf, typeInfo, zeroValue, hi, hz0, go_sem]
        intro hx; omega
    refine Lib.wpList_append_run w hgd s x 35 35 ho v (.slice none 0 0) hs hx v w (hrun _) (h v w (hown0.more (by omega)) ⟨rfl, rfl, rfl, Nat.le_refl _, fun _ _ _ => rfl⟩)
  · have hl : du.length ≤ k := hdu
    refine wpList_append_own _ hgd s x 35 ho base 38 i _ 3 24 Try.underlying35 hi hz0 hz1 hz2 rfl (by decide) v d.length _ hs hr ⟨g, 0, none⟩ du.length cap (du.flatMap enc3) hx hru.1 ?_ ?_ (by unfold maxLen; omega) (by omega) hb ?_
    · intro j u hj
      have := cell_of_row w g j cur 38 (0, 0) hg
      rw [Addr.add_lit, Nat.zero_add]
      rw [this, ← Array.getElem?_toList]
      rw [← h4] at hj
      rw [List.getElem?_take] at hj
      split at hj
      · exact hj
      · cases hj
    · intro u hu
      simp only [List.mem_flatMap] at hu
      obtain ⟨f, _, hf⟩ := hu
      simp [enc3] at hf
      rcases hf with rfl | rfl | rfl <;> rfl
    · intro v' w' q1 q2 _
      refine h v' w' ⟨d ++ du, by simp; omega, ?_⟩ q2
      have e1 : (d ++ du).flatMap enc3 = d.flatMap enc3 ++ du.flatMap enc3 := by simp
      have e2 : (d ++ du).length = d.length + du.length := by simp
      rw [e1, e2]
      exact q1
theorem concat_any (base blk : Nat) (c : Nat → Value) (W : World) (hblk : ∀ j, j < 4 → W.cell? ⟨blk, j, none⟩ = some (c j)) (hown : ∀ j, j < 4 → Own W base (c j) 3200) :
    Calls Try.prog 13 #[.slice (some ⟨blk, 0, none⟩) 4 4] W fun e w' => ∃ v, e = .returned v ∧ Own w' W.heap.size v 12800 ∧ Up W w' := by
  go_enter Try.func13, Try.ntmps13
  go_wp2
  go_loopw [3, 11] (fun s i w' => ∃ k : Nat, k ≤ 4 ∧ i = .int .i64 k ∧ (∃ z : Nat, z ≤ 3200 * k ∧ s = .int .i64 z) ∧ w' = W) (fun _ i _ => 4 - (intOf i).toNat)
  case atStart => exact ⟨0, Nat.zero_le _, rfl, ⟨0, by omega, rfl⟩, rfl⟩
  case round =>
    obtain ⟨k, hk, rfl, ⟨z, hz, rfl⟩, rfl⟩ := hrel
    by_cases hlt : k < 4
    · have hc := hblk k hlt
      obtain ⟨ad, n, cap, hv, hn, _, _⟩ := (hown k hlt).shape
      rw [hv] at hc
      go_wp2
      go_roundw
      case rel => exact ⟨k + 1, by omega, by go_num, ⟨z + n, by omega, by simp⟩, trivial⟩
      case measure => simp [intOf]; omega
    · go_wp2_with (go_at_call 28; refine (grow_nil z (by omega) _).mono ?_; rintro e w' ⟨v, rfl, hv, hu⟩)
      obtain ⟨V, hV⟩ : ∃ V, V = wr := ⟨_, rfl⟩
      subst hV
      go_loopw [6, 27] (fun l i w2 => ∃ j : Nat, j ≤ 4 ∧ i = .int .i64 j ∧ Own w2 V.heap.size l (3200 * j) ∧ Up V w2) (fun _ i _ => 4 - (intOf i).toNat)
      case atStart => exact ⟨0, Nat.zero_le _, rfl, hv, hu⟩
      case round =>
        clear hv hu
        obtain ⟨j, hj, rfl, hv, hu⟩ := hrel
        by_cases hlt2 : j < 4
        · have hc := hu.keeps (hblk j hlt2)
          have hoj := (hown j hlt2).heap (w' := wr) (fun q hq _ => hu.block q hq)
          obtain ⟨ad, n, cap, hq, hn, _, _⟩ := hoj.shape
          rw [hq] at hc
          have hsz := hu.size
          go_wp2_with (at_builtin; refine arm_aps rfl _ _ rfl hv hoj (by omega) hsz rfl hq.symm ?_; intro v' w' q1 q2)
          go_roundw
          case rel => exact ⟨j + 1, by omega, by go_num, q1.more (by omega), hu.grow q2 (fun q e => (hv.lt e).1)⟩
          case measure => simp [intOf]; omega
        · go_wp2
          go_ret
          exact ⟨_, rfl, hv.more (by omega), hu⟩
end Go.Proofs.AO
