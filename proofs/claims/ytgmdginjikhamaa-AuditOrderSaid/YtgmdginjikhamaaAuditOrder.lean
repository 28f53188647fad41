/- AuditOrder holds: what Check finds comes in strictly rising order. No conditions beside those in its theorems. -/
import Derived.Test.YtgmdginjikhamaaAO22
import Derived.Test.YtgmdginjikhamaaJAuditOrder
set_option linter.unusedSimpArgs false
namespace Go.Proofs.AO
open Go.RowKit Go.Maps Go.Shelf Go.Lib Go.Sort Go.ChangeShapes Go.WideShapes Go.ChangeAt Go.Deep
set_option linter.unusedVariables false
set_option maxRecDepth 100000
set_option maxHeartbeats 1000000
theorem of_take1 {l : List Value} {o : Nat} {v : Value} (h : (l.drop o).take 1 = [v]) : l[o]? = some v := by
  have := congrArg (fun x => x[0]?) h
  simpa using this
theorem cells_of : Try.prog.cellsOf 32 = 86 ∧ Try.prog.cellsOf 22 = 1 ∧ Try.prog.cellsOf 23 = 1 ∧ Try.prog.cellsOf 24 = 1 ∧ Try.prog.cellsOf 25 = 1 ∧ Try.prog.cellsOf 29 = 80 ∧ Try.prog.cellsOf 30 = 1 ∧ Try.prog.cellsOf 47 = 9 ∧ Try.prog.cellsOf 83 = 10 ∧ Try.prog.cellsOf 87 = 3 ∧ Try.prog.cellsOf 93 = 24 ∧ Try.prog.cellsOf 3 = 1 := by
  refine ⟨?_, ?_, ?_, ?_, ?_, ?_, ?_, ?_, ?_, ?_, ?_, ?_⟩ <;> kernel_rfl
/-- a view among the arguments -/
def Vx (A : Array Value) (W : World) : Prop := ∃ (a0 a1 a2 a3 a5 a6 : Option Addr) (n0 n1 n2 n3 n5 n6 c0 c1 c2 c3 c5 c6 : Nat), A[0]? = some (.slice a0 n0 c0) ∧ A[1]? = some (.slice a1 n1 c1) ∧ A[2]? = some (.slice a2 n2 c2) ∧ A[3]? = some (.slice a3 n3 c3) ∧ A[84]? = some (.slice a5 n5 c5) ∧ A[85]? = some (.slice a6 n6 c6) ∧
  Big A ∧ (n0 ≤ 40 → n1 ≤ 40 → n2 ≤ 40 → n3 ≤ 40 → n5 ≤ 40 → n6 ≤ 40 → Vw A W)
theorem view_open {H : Type} {enc : TypeId × Value → H} {W : World} {spare : Nat → Bool} {held : Bool} {A : Array Value} {fuel : Nat} {x : DataW H × List MemPlace} (h : DataW.trod enc Try.prog W 0 spare held fuel 32 A.toList = some x) : Vx A W := by
  obtain ⟨z32, z22, z23, z24, z25, z29, z30, z47, z83, z87, z93, z3⟩ := cells_of
  obtain ⟨xs, n, _, _, hl, hlen, hf⟩ := DataW.trod_struct Try.underlying32 h
  rw [z32] at hl
  have hlen : xs.length = 7 := hlen
  have g : ∀ i, i < 7 → ∃ y, xs[i]? = some y := fun i hi => ⟨_, List.getElem?_eq_getElem (by omega)⟩
  obtain ⟨y0, e0⟩ := g 0 (by omega)
  obtain ⟨y1, e1⟩ := g 1 (by omega)
  obtain ⟨y2, e2⟩ := g 2 (by omega)
  obtain ⟨y3, e3⟩ := g 3 (by omega)
  obtain ⟨y4, e4⟩ := g 4 (by omega)
  obtain ⟨y5, e5⟩ := g 5 (by omega)
  obtain ⟨y6, e6⟩ := g 6 (by omega)
  have f0 := (hf 0 _ rfl).trans e0
  have f1 := (hf 1 _ rfl).trans e1
  have f2 := (hf 2 _ rfl).trans e2
  have f3 := (hf 3 _ rfl).trans e3
  have f4 := (hf 4 _ rfl).trans e4
  have f5 := (hf 5 _ rfl).trans e5
  have f6 := (hf 6 _ rfl).trans e6
  change DataW.trod enc Try.prog W 0 spare held n 22 ((A.toList.drop 0).take (Try.prog.cellsOf 22)) = _ at f0
  change DataW.trod enc Try.prog W 0 spare held n 23 ((A.toList.drop 1).take (Try.prog.cellsOf 23)) = _ at f1
  change DataW.trod enc Try.prog W 0 spare held n 24 ((A.toList.drop 2).take (Try.prog.cellsOf 24)) = _ at f2
  change DataW.trod enc Try.prog W 0 spare held n 25 ((A.toList.drop 3).take (Try.prog.cellsOf 25)) = _ at f3
  change DataW.trod enc Try.prog W 0 spare held n 29 ((A.toList.drop 4).take (Try.prog.cellsOf 29)) = _ at f4
  change DataW.trod enc Try.prog W 0 spare held n 30 ((A.toList.drop 84).take (Try.prog.cellsOf 30)) = _ at f5
  change DataW.trod enc Try.prog W 0 spare held n 30 ((A.toList.drop 85).take (Try.prog.cellsOf 30)) = _ at f6
  rw [z22] at f0
  rw [z23] at f1
  rw [z24] at f2
  rw [z25] at f3
  rw [z29] at f4
  rw [z30] at f5 f6
  obtain ⟨a0, n0, c0, s0, r0⟩ := rows_open Try.underlying22 k47 l47 z47 (by omega) f0
  obtain ⟨a1, n1, c1, s1, r1⟩ := rows_open Try.underlying23 k83 l83 z83 (by omega) f1
  obtain ⟨a2, n2, c2, s2, r2⟩ := rows_open Try.underlying24 k87 l87 z87 (by omega) f2
  obtain ⟨ks, kk, kk0, kk1⟩ := k93
  obtain ⟨a3, n3, c3, s3, r3⟩ := rows_open Try.underlying25 kk l93 z93 (by omega) f3
  obtain ⟨_, hp⟩ := Flat.trod_cells 5 k80 l80 _ _ _ f4
  obtain ⟨a5, n5, c5, s5, r5⟩ := rows_open Try.underlying30 k3 l3 z3 (by omega) f5
  obtain ⟨a6, n6, c6, s6, r6⟩ := rows_open Try.underlying30 k3 l3 z3 (by omega) f6
  have t0 := of_take1 s0
  have t1 := of_take1 s1
  have t2 := of_take1 s2
  have t3 := of_take1 s3
  have t5 := of_take1 s5
  have t6 := of_take1 s6
  rw [Array.getElem?_toList] at t0 t1 t2 t3 t5 t6
  have hA : A.size = 86 := by simpa using hl
  have hsub : ∀ j, j < 80 → ((A.toList.drop 4).take 80)[j]? = A[4 + j]? := fun j hj => by
    rw [List.getElem?_take, if_pos hj, List.getElem?_drop, Array.getElem?_toList]
  have hbig : Big A := by
    refine ⟨hA, ?_⟩
    rw [Array.all_eq_true]
    intro i hi
    have hone : ∀ v, A[i]? = some v → v.oneCell' = true := by
      intro v hv
      by_cases h0 : i = 0
      · subst h0; rw [t0] at hv; cases hv; rfl
      by_cases h1 : i = 1
      · subst h1; rw [t1] at hv; cases hv; rfl
      by_cases h2 : i = 2
      · subst h2; rw [t2] at hv; cases hv; rfl
      by_cases h3 : i = 3
      · subst h3; rw [t3] at hv; cases hv; rfl
      by_cases h5 : i = 84
      · subst h5; rw [t5] at hv; cases hv; rfl
      by_cases h6 : i = 85
      · subst h6; rw [t6] at hv; cases hv; rfl
      have hh := hsub (i - 4) (by omega)
      rw [show 4 + (i - 4) = i by omega, hv] at hh
      exact hp.one _ (List.mem_of_getElem? hh)
    exact hone _ (Array.getElem?_eq_getElem hi)
  refine ⟨a0, a1, a2, a3, a5, a6, n0, n1, n2, n3, n5, n6, c0, c1, c2, c3, c5, c6, t0, t1, t2, t3, t5, t6, hbig, fun b0 b1 b2 b3 b5 b6 => ⟨hbig, ?_, ?_, ?_, ?_, ?_, ?_⟩⟩
  · have := r0.rw_int (by omega) (fun t ht => by rw [List.getElem?_replicate, if_pos ht])
    exact ⟨a0, n0, c0, _, b0, t0, this.1, this.2⟩
  · have := r1.caps rfl
    exact ⟨a1, n1, c1, _, b1, t1, this.1, this.2⟩
  · have := r2.rw_int (by omega) (fun t ht => by rw [List.getElem?_replicate, if_pos ht])
    exact ⟨a2, n2, c2, _, b2, t2, this.1, this.2⟩
  · exact ⟨a3, n3, c3, b3, t3, r3.ths kk0 kk1⟩
  · exact pools_open A _ hp fun j u hj => by
      have hj80 : j < 80 := by
        have := (List.getElem?_eq_some_iff.1 hj).1
        simp at this
        omega
      rw [← hsub j hj80]
      exact hj
  · have := r6.rw_int (by omega) (fun t ht => by rw [List.getElem?_replicate, if_pos ht])
    exact ⟨a6, n6, c6, fun j => zAt W a6 1 n6 j 0, b6, t6, fun j hj => by
      obtain ⟨b, off, h1, h2⟩ := this.1 j hj
      exact ⟨b, off, h1, fun t ht => by
        obtain rfl : t = 0 := by omega
        exact h2 0 ht⟩, fun j => this.2 j 0⟩
theorem law_of {A : Array Value} {W : World} (h : Vx A W) : Calls Try.prog 3 #[.agg A] W (Lw W) := by
  obtain ⟨a0, a1, a2, a3, a5, a6, n0, n1, n2, n3, n5, n6, c0, c1, c2, c3, c5, c6, t0, t1, t2, t3, t5, t6, hb, hv⟩ := h
  exact law_round A hb W W n0 n1 n2 n3 n5 n6 (fun w => great_any A w a0 a1 a2 a3 a5 a6 n0 n1 n2 n3 n5 n6 c0 c1 c2 c3 c5 c6 t0 t1 t2 t3 t5 t6) hv
end Go.Proofs.AO
namespace Go.Proofs.Ytgmdginjikhamaa.auditOrder
open Go.ChangeShapes Go.WideShapes Go.ChangeAt Go.RowKit Go.Deep Go.Proofs.AO
set_option linter.unusedVariables false
theorem own : ownKnob Try.prog.godebug = none := by kernel_rfl
theorem kids : Kids Try.prog (· < Try.prog.types.size) := kids_rows (by kernel_rfl) (by kernel_rfl)
theorem full : ∀ t e, t < Try.prog.types.size → Try.prog.underlying t = some (.slice e) → 0 < Try.prog.cellsOf e := slices_full_of Try.prog (by kernel_rfl)
theorem same {W W' : World} (u : Up W W') : ∀ p : MemPlace, p.block < W.heap.size → W.sameAt W' p
  | .cell b off, hp => by
    show W'.cell? ⟨b, off, none⟩ = W.cell? ⟨b, off, none⟩
    unfold World.cell?
    rw [show W'.heap[b]? = W.heap[b]? from u.block b hp]
  | .map b, hp => u.block b hp
set_option maxRecDepth 100000 in
theorem lifted (os : Os) (started : os.Started) (H : Type) (enc : TypeId × Value → H) :
    ReturnsInHanded {} Try.checked os 3 .any (Rows.auditOrderSpec.pre6 enc Try.prog Try.f3 Rows.auditOrderRow.domain false) (Rows.auditOrderSpec.post enc Try.prog Try.f3 false true false false) := by
  refine returnsInHanded_of_change (C := Try.checked) own started (by kernel_rfl) Try.func3
    (ChangeSpec.witness6 (enc := enc) (C := Try.checked) false ⟨#[], #[.agg #[.slice none 0 0, .slice none 0 0, .slice none 0 0, .slice none 0 0, .int .i64 0, .bool false, .int .i64 0, .int .i64 0, .int .i64 0, .int .i64 0, .int .i64 0, .int .i64 0, .int .i64 0, .int .i64 0, .int .i64 0, .bool false, .int .i64 0, .int .i64 0, .int .i64 0, .int .i64 0, .int .i64 0, .int .i64 0, .int .i64 0, .int .i64 0, .int .i64 0, .bool false, .int .i64 0, .int .i64 0, .int .i64 0, .int .i64 0, .int .i64 0, .int .i64 0, .int .i64 0, .int .i64 0, .int .i64 0, .bool false, .int .i64 0, .int .i64 0, .int .i64 0, .int .i64 0, .int .i64 0, .int .i64 0, .int .i64 0, .int .i64 0, .int .i64 0, .bool false, .int .i64 0, .int .i64 0, .int .i64 0, .int .i64 0, .int .i64 0, .int .i64 0, .int .i64 0, .int .i64 0, .int .i64 0, .bool false, .int .i64 0, .int .i64 0, .int .i64 0, .int .i64 0, .int .i64 0, .int .i64 0, .int .i64 0, .int .i64 0, .int .i64 0, .bool false, .int .i64 0, .int .i64 0, .int .i64 0, .int .i64 0, .int .i64 0, .int .i64 0, .int .i64 0, .int .i64 0, .int .i64 0, .bool false, .int .i64 0, .int .i64 0, .int .i64 0, .int .i64 0, .int .i64 0, .int .i64 0, .int .i64 0, .int .i64 0, .slice none 0 0, .slice none 0 0]], []⟩ 16 (by kernel_rfl) (by kernel_rfl) (by kernel_rfl) (by kernel_rfl)) ?_
  intro W base args ds gs before hval0 hW hcnd _
  have hval : ∀ (j : Nat) t v, Try.f3.params[j]? = some t → args[j]? = some v → Value.okWide Try.prog W .any base t v := hval0
  have hW' := hW
  obtain ⟨p, q, hA0, hV, rfl, hfz, hnd⟩ := hW
  have hA : DataW.TrodAll enc Try.prog W 0 (fun _ => true) true Try.f3.params.toList args.toList ds p := hA0
  rw [Try.params3] at hA hval
  obtain ⟨v0, vs0, d0, ds0, p0, q0, hargs, rfl, rfl, h0, r0⟩ := trodAll_cons hA
  obtain ⟨rfl, rfl, rfl⟩ := trodAll_nil r0
  obtain rfl : args = #[v0] := by cases args; simp_all
  obtain ⟨rfl, rfl⟩ := trodVars_none hV
  have h0k := h0
  obtain ⟨fuel, hf⟩ := h0
  simp only [List.append_nil] at hW'
  have key : ∀ W', Up W W' → ∃ v, Ending.returned (.bool true) = .returned v ∧ Rows.auditOrderSpec.post enc Try.prog Try.f3 false true false false W #[v0] v W' := by
    intro W' hs
    refine ⟨_, rfl, post_same (pa := p0) (pv := []) hW' (fun _ _ _ => trodAll_cons_mk (shut_bool Try.underlying4 _) trodAll_mk0) (fun sp hsp => ?_) (fun _ _ => rfl) (by simp) hs (ok_one (by kernel_rfl) rfl (okWide_bool_mk Try.underlying4 _))⟩
    have h1 := h0k.respare kids full (by decide +kernel) (spare' := sp) (fun x hx => hsp x hx)
    obtain ⟨n1, hn1⟩ := h1
    have h2 : DataW.Trod enc Try.prog W' 0 sp true 32 v0 d0 p0 := ⟨n1, DataW.trod_carry n1 _ _ _ hn1 (fun x hx => same hs x (hW'.lt x hx))⟩
    have := trodAll_cons_mk h2 (trodAll_mk0 (P := Try.prog) (enc := enc))
    have h3 : DataW.TrodAll enc Try.prog W' 0 sp true [32] [v0] [d0] p0 := by simpa using this
    exact h3
  obtain ⟨cs, rfl, _⟩ := okWide_struct Try.underlying32 (hval 0 32 v0 rfl rfl)
  refine (law_of (view_open hf)).mono fun e W' ⟨he, hs⟩ => ?_
  subst he
  exact key W' hs
theorem over : Rows.auditOrderRow.holds Try.pinned (OpenSpec.ofChange Rows.auditOrderSpec) :=
  OpenClaim.holds_of_wide 3 Try.f3 rfl rfl rfl rfl rfl rfl rfl ⟨rfl, rfl, rfl, rfl, rfl⟩ rfl rfl rfl rfl rfl (by kernel_rfl) Try.func3 JAuditOrder.all
    (of_decide_eq_true (by kernel_rfl)) (by unfold Func.isWrapper; first | (rw [if_pos (by decide +kernel)]; kernel_rfl) | (rw [if_neg (by decide +kernel)]; exact ⟨rfl, rfl⟩))
    (fun os started H enc _ => lifted os started H enc)
theorem proved : Rows.AuditOrderSaid :=
  over
#print axioms proved
end Go.Proofs.Ytgmdginjikhamaa.auditOrder
