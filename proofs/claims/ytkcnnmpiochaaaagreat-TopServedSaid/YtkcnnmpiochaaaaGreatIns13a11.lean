/- slices.Insert of one object into 13, at 11: what it does where there is room, and where there is none. No conditions beside those in its theorems. -/
import Derived.Test.YtkcnnmpiochaaaaGreatProg
import Derived.Shelf.RegionOpenPlain
import Derived.WalkKit
import Derived.Lib.Walk
import Derived.Lib.SliceRun
import Derived.Lib.JoinLaws
import Derived.Lib.AppendZeros
import Derived.Lib.Overlaps
import Derived.Laws.Externs
import Derived.Laws.IdiomCopy
import Derived.Lib.AppendZerosOnto
import Derived.Laws.NewBlocks
set_option linter.unusedVariables false
set_option linter.unusedSimpArgs false
namespace Go.Proofs
open Go.Shelf Go.RowKit Go.Lib
namespace Ins13a11
theorem wp_copy_runI {P : Program} (w : World) {o : Oper} {a : Act} {K : Act → World → Prop} {Q : Exit → Act → World → Prop} (d s : Operand) (t t' : TypeId)
    (ho : o.op = .call { callee := .builtin .copy, args := #[d, s], argTypes := #[t, t'] }) (v u : Value) (hd : a.eval d = v) (hs : a.eval s = u) {v' : Value} {w' : World}
    (hr : (Builtin.copy_ #[t, t'] o.type #[v, u]).run P w = .ok v' w') (h : K (a.put o.dst v') w') : o.wp P a w K Q := by
  unfold Oper.wp execOp
  simp only [ho, resolve, invoke, builtin, Sem.run_bind, Sem.run_pure, Result.andThen_ok, List.map_toArray, List.map_cons, List.map_nil, hd, hs, hr]
  exact h
theorem wpList_copy_runI {P : Program} (w : World) {ops : Array Oper} {rest : List Oper} {o : Oper} {a : Act} {Q : Exit → Act → World → Prop} (hgd : o.guard = none) (d s : Operand) (t t' : TypeId)
    (ho : o.op = .call { callee := .builtin .copy, args := #[d, s], argTypes := #[t, t'] }) (v u : Value) (hd : a.eval d = v) (hs : a.eval s = u) {v' : Value} {w' : World}
    (hr : (Builtin.copy_ #[t, t'] o.type #[v, u]).run P w = .ok v' w') (h : wpList P ops Q rest (a.put o.dst v') w') : wpList P ops Q (o :: rest) a w :=
  wpList_plain hgd fun _ hK => wp_copy_runI w d s t t' ho v u hd hs hr (hK _ _ h)
theorem step_copy_runI {P : Program} {ops : Array Oper} {o : Oper} {a : Act} {w : World} {K : Act → World → Prop} {Q : Exit → Act → World → Prop} {E : Prop}
    (hg : o.guard = none) (d x : Operand) (dT sT : TypeId) (hop : o.op = Op.call { callee := Callee.builtin Builtin.copy, args := #[d, x], argTypes := #[dT, sT] })
    (v u : Value) (hd : a.eval d = v) (hx : a.eval x = u) {v' : Value} {w' : World} (hr : (Builtin.copy_ #[dT, sT] o.type #[v, u]).run P w = .ok v' w') (hK : K (a.put o.dst v') w') :
    if Region.wanted o (yielded ops a.tmps) = true then Oper.wp P o a w K Q else E := by
  have hw : Region.wanted o (yielded ops a.tmps) = true := by simp [Region.wanted, hg]
  rw [if_pos hw]
  unfold Oper.wp
  simp [execOp, hop, resolve, invoke, builtin, hd, hx, hr, Result.andThen]
  exact hK
theorem isSome_setCells (b : Nat) (vs : List Value) (o : Nat) (w : World) (h : ∀ j, j < vs.length → (w.cell? ⟨b, o + j, none⟩).isSome = true) (k : Nat) (hk : (w.cell? ⟨b, k, none⟩).isSome = true) : ((w.setCells b o vs).cell? ⟨b, k, none⟩).isSome = true := by
  by_cases hin : o ≤ k ∧ k < o + vs.length
  · have := World.cell?_setCells_in b vs o w h (k - o) (by omega)
    rw [show o + (k - o) = k by omega] at this
    rw [this]; rfl
  · rw [World.cell?_setCells_out b vs o w ⟨b, k, none⟩ (fun _ _ => by show k < o ∨ o + vs.length ≤ k; omega)]
    exact hk
/-- copying, of elements of several cells -/
theorem run_copy_many {P : Program} (w : World) (dT sT ty elem : TypeId) (size b o dLen dCap : Nat) (a : Addr) (sLen sCap : Nat) (cs : List Value)
    (hu : P.underlying dT = some (.slice elem)) (hs : (P.info? elem).map (·.size) = some size) (hn : cs.length = Nat.min sLen dLen * size)
    (hsrc : ∀ j v, cs[j]? = some v → w.cell? (a.add j) = some v) (hc : ∀ j, j < cs.length → (w.cell? ⟨b, o + j, none⟩).isSome = true) (hf : ∀ j, j < cs.length → w.frozen? ⟨b, o + j, none⟩ = false) (h1 : ∀ v ∈ cs, v.oneCell' = true) :
    (Builtin.copy_ #[dT, sT] ty #[.slice (some ⟨b, o, none⟩) dLen dCap, .slice (some a) sLen sCap]).run P w = .ok (goInt (Nat.min sLen dLen)) (w.setCells b o cs) := by
  have hl := run_loadCells_list (P := P) w a cs hsrc
  have hst := run_storeCells_cells (P := P) b o cs 0 w (by simpa using hc) (by simpa using hf) h1
  cases hq : P.info? elem with
  | none => simp [hq] at hs
  | some i =>
    have hi : i.size = size := by simpa [hq] using hs
    simp [Builtin.copy_, run_underlying hu, Builtin.lenOf, Builtin.firstCells, sizeOf, typeInfo, hq, hi, ← hn, hl, hst]
set_option maxHeartbeats 4000000 in
set_option maxRecDepth 100000 in
theorem shift (b vb c vc : Nat) (cs vs : List Value) (w : World) (hroom : 14 ≤ c) (hvb : vb ≠ b) (hcl : cs.length = 117) (hvl : vs.length = 9)
    (hcs : ∀ j v, cs[j]? = some v → w.cell? ⟨b, j, none⟩ = some v) (hsp : ∀ j, j < 126 → (w.cell? ⟨b, j, none⟩).isSome = true) (hfz : ∀ j, j < 126 → w.frozen? ⟨b, j, none⟩ = false)
    (hvs : ∀ j v, vs[j]? = some v → w.cell? ⟨vb, j, none⟩ = some v) (h1c : ∀ v ∈ cs, v.oneCell' = true) (h1v : ∀ v ∈ vs, v.oneCell' = true)
    (tA tB : TypeId) (kA kB : Nat) (hsa : w.shape? vb = some (tA, kA)) (hsb : w.shape? b = some (tB, kB)) (hkB : kB ≠ 0) (hfa : w.frozen? ⟨vb, 0, none⟩ = false) (hfe : w.frozen? ⟨vb, kA, none⟩ = false) :
    Calls Tryz.prog 146 #[.slice (some ⟨b, 0, none⟩) 13 c, .int .i64 11, .slice (some ⟨vb, 0, none⟩) 1 vc] w fun e w' =>
      e = .returned (.slice (some ⟨b, 0, none⟩) 14 c) ∧ w' = (w.drew.setCells b 108 (cs.drop 99)).setCells b 99 vs := by
  have hsz : (Tryz.prog.info? 104).map (·.size) = some 9 := by kernel_rfl
  have huS : Tryz.prog.underlying 60 = some (.slice 104) := by kernel_rfl
  have zOB : ∀ w, (Go.sizeOf 104).run Tryz.prog w = .ok 9 w := fun w => by
    cases hq : Tryz.prog.info? 104 with
    | none => rw [hq] at hsz; cases hsz
    | some i => rw [hq] at hsz; simp [Go.sizeOf, typeInfo, hq] at hsz ⊢; exact hsz
  have hov : ∀ lb cb, (callFunc 209 #[.slice (some ⟨vb, 0, none⟩) 1 vc, .slice (some ⟨b, 108, none⟩) lb cb]).run Tryz.prog w = .ok (.value (.bool false)) w := fun lb cb => by
    rw [run_callFunc_extern Tryz.func209 (by kernel_rfl) (by kernel_rfl) (by kernel_rfl) (e := Extern.SlicesOverlaps.overlaps #[60, 60] #[4]) (by kernel_rfl),
      Lib.run_overlaps_apart w 60 4 104 huS 9 zOB ⟨vb, 0, none⟩ ⟨b, 108, none⟩ 1 vc lb cb hvb tA tB kA kB hsa hsb hkB hfa hfe]
    rfl
  have hdl : (cs.drop 99).length = 18 := by rw [List.length_drop, hcl]
  have hcp1 : ∀ ty dc sc, (Builtin.copy_ #[60, 60] ty #[.slice (some ⟨b, 108, none⟩) 2 dc, .slice (some ⟨b, 99, none⟩) 3 sc]).run Tryz.prog w.drew = .ok (goInt 2) (w.drew.setCells b 108 (cs.drop 99)) := fun ty dc sc =>
    run_copy_many w.drew _ _ ty 104 9 b 108 2 dc ⟨b, 99, none⟩ 3 sc (cs.drop 99) huS hsz (by rw [hdl]; rfl)
      (fun j v hj => by rw [Addr.add_lit]; exact hcs (99 + j) v (by rwa [List.getElem?_drop] at hj))
      (fun j hj => hsp _ (by omega)) (fun j hj => hfz _ (by omega)) (fun v hv => h1c v (List.mem_of_mem_drop hv))
  obtain ⟨W1, hW1⟩ : ∃ W1, W1 = w.drew.setCells b 108 (cs.drop 99) := ⟨_, rfl⟩
  have hsp1 : ∀ k, k < 126 → (W1.cell? ⟨b, k, none⟩).isSome = true := fun k hk => by
    rw [hW1]
    exact isSome_setCells b (cs.drop 99) 108 w.drew (fun j hj => hsp _ (by rw [hdl] at hj; omega)) _ (hsp k hk)
  have hcp2 : ∀ (W : World), (∀ x, W.cell? x = W1.cell? x) → (∀ x, W.frozen? x = W1.frozen? x) → ∀ ty dc, (Builtin.copy_ #[60, 60] ty #[.slice (some ⟨b, 99, none⟩) 3 dc, .slice (some ⟨vb, 0, none⟩) 1 vc]).run Tryz.prog W = .ok (goInt 1) (W.setCells b 99 vs) := fun W hWc hWf ty dc =>
    run_copy_many W _ _ ty 104 9 b 99 3 dc ⟨vb, 0, none⟩ 1 vc vs huS hsz (by rw [hvl]; rfl)
      (fun j v hj => by
        rw [Addr.add_lit, hWc, hW1, World.cell?_setCells_out b _ _ _ _ (fun h _ => absurd h hvb), Nat.zero_add]
        exact hvs j v hj)
      (fun j hj => by rw [hWc]; exact hsp1 _ (by omega)) (fun j hj => by rw [hWf, hW1, World.frozen?_setCells]; exact hfz _ (by omega)) h1v
  rw [← hW1] at hcp1
  have hq1 : ¬ ((14 : Int) > (c : Int)) := by omega
  have hb2 : ¬ (c = 12) := by omega
  have hb4 : ¬ (c = 11) := by omega
  clear hsz
  have hw2 : IntKind.i64.wrap 2 = 2 := by decide
  have hw3 : IntKind.i64.wrap 3 = 3 := by decide
  have hw11 : IntKind.i64.wrap 11 = 11 := by decide
  have hw12 : IntKind.i64.wrap 12 = 12 := by decide
  have hw13 : IntKind.i64.wrap 13 = 13 := by decide
  have hw14 : IntKind.i64.wrap 14 = 14 := by decide
  have mixed : Tryz.prog.follows .mixedOrders = true := by kernel_rfl
  go_enter Tryz.func146, Tryz.ntmps146
  go_wp2_with (simp only [hov])
  go_region_law_o (refine step_copy_runI rfl _ _ 60 60 rfl _ _ (by simp [Act.eval, Act.put]) (by simp [Act.eval, Act.put]) (hcp1 _ _ _) ?_)
  go_wp2_with (at_builtin; refine wpList_copy_runI _ rfl _ _ 60 60 rfl _ _ rfl rfl (hcp2 _ (fun _ => rfl) (fun _ => rfl) _ _) ?_)
  go_ret
  exact ⟨rfl, rfl⟩

set_option maxHeartbeats 4000000 in
set_option maxRecDepth 100000 in
theorem grow (b vb vc : Nat) (cs vs zs : List Value) (w : World) (i0 : TypeInfo) (z : Value) (hi0 : Tryz.prog.info? 104 = some i0) (hz0 : i0.zero = some z) (hzs : i0.size = 9) (hzb : i0.bytes = 72) (hzc : z.cells = zs.toArray) (hzl : zs.length = 9)
    (hcl : cs.length = 117) (hvl : vs.length = 9)
    (hcs : ∀ j v, cs[j]? = some v → w.cell? ⟨b, j, none⟩ = some v) (hvs : ∀ j v, vs[j]? = some v → w.cell? ⟨vb, j, none⟩ = some v) (h1c : ∀ v ∈ cs, v.oneCell' = true) (h1v : ∀ v ∈ vs, v.oneCell' = true) :
    Calls Tryz.prog 146 #[.slice (some ⟨b, 0, none⟩) 13 13, .int .i64 11, .slice (some ⟨vb, 0, none⟩) 1 vc] w fun e w' =>
      e = .returned (.slice (some ⟨w.heap.size, 0, none⟩) 14 (grownCap w 14 13 104)) ∧
      w' = (((w.alloc (.cells ((cs.take 99).toArray ++ Builtin.zeroCells z.cells 3 ++ Builtin.zeroCells z.cells (grownCap w 14 13 104 - 14)) 104)).drew.setCells w.heap.size 99 vs).drew).setCells w.heap.size 108 (cs.drop 99) := by
  have hsz : (Tryz.prog.info? 104).map (·.size) = some 9 := by rw [hi0]; simp [hzs]
  have huS : Tryz.prog.underlying 60 = some (.slice 104) := by kernel_rfl
  have hu3 : Tryz.prog.underlying 3 = some (.int .i64) := by kernel_rfl
  have zOB : ∀ w, (Go.sizeOf 104).run Tryz.prog w = .ok 9 w := fun w => by simp [Go.sizeOf, typeInfo, hi0, hzs]
  have hbw : b < w.heap.size := block_lt_of_cell (hcs 0 _ (List.getElem?_eq_getElem (by omega)))
  have hvw : vb < w.heap.size := block_lt_of_cell (hvs 0 _ (List.getElem?_eq_getElem (by omega)))
  have hold : (Builtin.firstCells i0.size 11 (.slice (some ⟨b, 0, none⟩) 11 13)).run Tryz.prog w.drew = .ok (cs.take 99).toArray w.drew := by
    rw [hzs]
    exact run_firstCells_some w.drew 9 11 ⟨b, 0, none⟩ 11 13 (cs.take 99) (by rw [List.length_take]; omega) (fun j v hj => by
      rw [Addr.add_lit]
      rw [List.getElem?_take] at hj
      split at hj
      · rw [Nat.zero_add]; exact hcs j v hj
      · cases hj)
  have hrz : ∀ ty, (Builtin.append_ #[60, 3] ty #[.slice (some ⟨b, 0, none⟩) 11 13, .int .i64 3]).run Tryz.prog w =
      .ok (.slice (some ⟨w.heap.size, 0, none⟩) 14 (grownCap w 14 13 104)) (w.drew.alloc (.cells ((cs.take 99).toArray ++ Builtin.zeroCells z.cells 3 ++ Builtin.zeroCells z.cells (grownCap w 14 13 104 - 14)) 104)) := fun ty =>
    Lib.run_append_grow_zeros w 60 3 ty 104 i0 z .i64 .i64 huS hu3 hi0 hz0 (some ⟨b, 0, none⟩) 11 13 (cs.take 99) hold 3 (by omega) (by omega) (by omega) (by omega) (by rw [hzb]; omega) (by rw [hzb]; exact growslice_fits (by omega) (by omega))
  obtain ⟨G, hG⟩ : ∃ G, G = grownCap w 14 13 104 := ⟨_, rfl⟩
  obtain ⟨ROW, hROW⟩ : ∃ ROW : Array Value, ROW = (cs.take 99).toArray ++ Builtin.zeroCells z.cells 3 ++ Builtin.zeroCells z.cells (G - 14) := ⟨_, rfl⟩
  rw [← hG] at hrz ⊢
  rw [← hROW] at hrz ⊢
  have hRl : 126 ≤ ROW.size := by
    rw [hROW, hzc]
    simp [Builtin.zeroCells]
    omega
  obtain ⟨W1, hW1⟩ : ∃ W1, W1 = w.drew.alloc (.cells ROW 104) := ⟨_, rfl⟩
  rw [← hW1] at hrz
  have hN : ∀ j, j < 126 → (W1.cell? ⟨w.heap.size, j, none⟩).isSome = true := fun j hj => by
    rw [hW1, World.cell?_alloc_at (w := w.drew) ROW _ w.heap.size j rfl, Array.getElem?_eq_getElem (by omega)]; rfl
  have hNf : ∀ j, W1.frozen? ⟨w.heap.size, j, none⟩ = false := fun j => by rw [hW1]; exact World.frozen?_alloc_at (w := w.drew) ROW _ w.heap.size j rfl
  have hOb : ∀ j v, w.cell? ⟨b, j, none⟩ = some v → W1.cell? ⟨b, j, none⟩ = some v := fun j v h => by rw [hW1, World.cell?_alloc_past (w := w.drew) _ b j hbw]; exact h
  have hOv : ∀ j v, w.cell? ⟨vb, j, none⟩ = some v → W1.cell? ⟨vb, j, none⟩ = some v := fun j v h => by rw [hW1, World.cell?_alloc_past (w := w.drew) _ vb j hvw]; exact h
  have hdl : (cs.drop 99).length = 18 := by rw [List.length_drop, hcl]
  have hcpA : ∀ (W : World), (∀ x, W.cell? x = W1.cell? x) → (∀ x, W.frozen? x = W1.frozen? x) → ∀ ty dc, (Builtin.copy_ #[60, 60] ty #[.slice (some ⟨w.heap.size, 99, none⟩) 3 dc, .slice (some ⟨vb, 0, none⟩) 1 vc]).run Tryz.prog W = .ok (goInt 1) (W.setCells w.heap.size 99 vs) := fun W hWc hWf ty dc =>
    run_copy_many W _ _ ty 104 9 w.heap.size 99 3 dc ⟨vb, 0, none⟩ 1 vc vs huS hsz (by rw [hvl]; rfl)
      (fun j v hj => by rw [Addr.add_lit, hWc, Nat.zero_add]; exact hOv _ v (hvs j v hj))
      (fun j hj => by rw [hWc]; exact hN _ (by omega)) (fun j hj => by rw [hWf]; exact hNf _) h1v
  have hGn : 14 ≤ G := by rw [hG]; exact grownCap_ge w _ _ _
  have hG63 : G ≤ 9223372036854775807 := by
    have := grownCap_le_maxLen w 14 13 104 (by unfold maxLen; omega)
    rw [← hG] at this
    unfold maxLen at this
    omega
  have hGi : ¬ (G = 11) := by omega
  have hGim : ¬ (G = 12) := by omega
  have hbN : b ≠ w.heap.size := by omega
  have hcpB : ∀ (W : World), (∀ x, W.cell? x = (W1.setCells w.heap.size 99 vs).cell? x) → (∀ x, W.frozen? x = (W1.setCells w.heap.size 99 vs).frozen? x) → ∀ ty dc sc, (Builtin.copy_ #[60, 60] ty #[.slice (some ⟨w.heap.size, 108, none⟩) 2 dc, .slice (some ⟨b, 99, none⟩) 2 sc]).run Tryz.prog W = .ok (goInt 2) (W.setCells w.heap.size 108 (cs.drop 99)) := fun W hWc hWf ty dc sc =>
    run_copy_many W _ _ ty 104 9 w.heap.size 108 2 dc ⟨b, 99, none⟩ 2 sc (cs.drop 99) huS hsz (by rw [hdl]; rfl)
      (fun j v hj => by
        rw [Addr.add_lit, hWc, World.cell?_setCells_out _ _ _ _ _ (fun h _ => absurd h hbN)]
        exact hOb _ v (hcs (99 + j) v (by rwa [List.getElem?_drop] at hj)))
      (fun j hj => by rw [hWc]; exact isSome_setCells _ vs 99 W1 (fun t ht => hN _ (by omega)) _ (hN _ (by omega)))
      (fun j hj => by rw [hWf, World.frozen?_setCells]; exact hNf _) (fun v hv => h1c v (List.mem_of_mem_drop hv))
  subst hW1
  have hE1 : ∀ x, ((w.alloc (.cells ROW 104)).drew).cell? x = (w.drew.alloc (.cells ROW 104)).cell? x := fun x => rfl
  have hE2 : ∀ x, ((w.alloc (.cells ROW 104)).drew).frozen? x = (w.drew.alloc (.cells ROW 104)).frozen? x := fun x => rfl
  have hF1 : ∀ x, (((w.alloc (.cells ROW 104)).drew.setCells w.heap.size 99 vs).drew).cell? x = ((w.drew.alloc (.cells ROW 104)).setCells w.heap.size 99 vs).cell? x := fun x => rfl
  have hF2 : ∀ x, (((w.alloc (.cells ROW 104)).drew.setCells w.heap.size 99 vs).drew).frozen? x = ((w.drew.alloc (.cells ROW 104)).setCells w.heap.size 99 vs).frozen? x := fun x => rfl
  have hw2 : IntKind.i64.wrap 2 = 2 := by decide
  have hw3 : IntKind.i64.wrap 3 = 3 := by decide
  have hw11 : IntKind.i64.wrap 11 = 11 := by decide
  have hw12 : IntKind.i64.wrap 12 = 12 := by decide
  have hw13 : IntKind.i64.wrap 13 = 13 := by decide
  have hw14 : IntKind.i64.wrap 14 = 14 := by decide
  have mixed : Tryz.prog.follows .mixedOrders = true := by kernel_rfl
  clear hold hROW hG hRl hsz
  go_enter Tryz.func146, Tryz.ntmps146
  go_wp2_with (first
    | (at_builtin; refine Lib.wpList_append_run _ rfl _ _ _ _ rfl _ _ rfl rfl _ _ (hrz _) ?_)
    | (at_builtin; refine wpList_copy_runI _ rfl _ _ 60 60 rfl _ _ rfl rfl (hcpA _ hE1 hE2 _ _) ?_)
    | (at_builtin; refine wpList_copy_runI _ rfl _ _ 60 60 rfl _ _ rfl rfl (hcpB _ (fun _ => rfl) (fun _ => rfl) _ _ _) ?_))
  go_region_law_o (refine step_copy_runI rfl _ _ 60 60 rfl (.slice (some ⟨w.heap.size, 108, none⟩) 2 (G - 12)) (.slice (some ⟨b, 99, none⟩) 2 2) (by simp [Act.eval, Act.put]) (by simp [Act.eval, Act.put]) (hcpB _ hF1 hF2 3 (G - 12) 2) ?_)
  go_wp2
  go_ret
  exact ⟨rfl, rfl⟩
end Ins13a11
end Go.Proofs
