/- VspaceOthers holds: what is mapped and unmapped in one space changes no walk of another one. No conditions. -/
import Derived.Test.YtpiicallicgdkaaGreatRows
import Derived.WalkKit
import Derived.ProofKit
import Derived.OpenShut
import Derived.ReadAgain
import Derived.Deep.Slices
import Derived.Test.YtpiicallicgdkaaGreatJVspaceOthers
import Derived.Test.YtpiicallicgdkaaGreatVOW
import Derived.Test.YtpiicallicgdkaaGreatFlat
namespace Go.Proofs.YtpiicallicgdkaaGreat.vspaceOthers
open Go.ChangeShapes Go.WideShapes Go.ChangeAt Go.RowKit Go.Deep
set_option linter.unusedVariables false
theorem own : ownKnob Tryz.prog.godebug = none := by kernel_rfl
theorem kids : Kids Tryz.prog (· < Tryz.prog.types.size) := kids_rows (by kernel_rfl) (by kernel_rfl)
theorem full : ∀ t e, t < Tryz.prog.types.size → Tryz.prog.underlying t = some (.slice e) → 0 < Tryz.prog.cellsOf e := slices_full_of Tryz.prog (by kernel_rfl)
theorem kk87 : Flat.kinds Tryz.prog 5 87 = some [.n .i64, .n .i64, .n .i64, .n .i64, .n .i64, .n .i64, .n .i64, .n .u64] := by kernel_rfl
theorem ll87 : Flat.lay Tryz.prog 5 87 = true := by kernel_rfl
theorem cells87 : Tryz.prog.cellsOf 87 = 8 := by kernel_rfl
theorem same {W W' : World} (h : Eng.Stays (VO.Zw W) W W') : ∀ p : MemPlace, p.block < W.heap.size → W.sameAt W' p
  | .cell b off, hp => by
    show W'.cell? ⟨b, off, none⟩ = W.cell? ⟨b, off, none⟩
    unfold World.cell?
    rw [show W'.heap[b]? = W.heap[b]? from h.heap b hp]
  | .map b, hp => h.heap b hp

theorem elem_of {W : World} {b off i : Nat} : ∀ {c : List Value}, Flat.Cells [.n .i64, .n .i64, .n .i64, .n .i64, .n .i64, .n .i64, .n .i64, .n .u64] c → (∀ j, j < 8 → W.cell? ⟨b, off + i * 8 + j, none⟩ = c[j]?) → VO.Elem W b off i
  | _, .cons (z := z1) _ (.cons (z := z2) _ (.cons (z := z3) _ (.cons (z := z4) _ (.cons (z := z5) _ (.cons (z := z6) _ (.cons (z := z7) _ (.cons (z := z8) w8 .nil))))))), hc =>
    ⟨z1, z2, z3, z4, z5, z6, z7, z8, by simp [Lit.wf, IntKind.min, IntKind.max, IntKind.bits, IntKind.signed] at w8; omega, fun j v hj => by
      have hj8 : j < 8 := by
        have := (List.getElem?_eq_some_iff.1 hj).1
        simpa using this
      rw [hc j hj8]; exact hj⟩

set_option maxRecDepth 100000 in
theorem lifted (os : Os) (started : os.Started) (H : Type) (enc : TypeId × Value → H) :
    ReturnsInHanded {} Tryz.checked os 6 .any (Rows.vspaceOthersSpec.pre6 enc Tryz.prog Tryz.f6 Rows.vspaceOthersRow.domain false) (Rows.vspaceOthersSpec.post enc Tryz.prog Tryz.f6 false true false false) := by
  refine returnsInHanded_of_change (C := Tryz.checked) own started (by kernel_rfl) Tryz.func6
    (ChangeSpec.witness6 (enc := enc) (C := Tryz.checked) false ⟨#[], #[.slice none 0 0], []⟩ 8 (by kernel_rfl) (by kernel_rfl) (by kernel_rfl) (by kernel_rfl)) ?_
  intro W base args ds gs before hval0 hW hcnd _
  have hval : ∀ (j : Nat) t v, Tryz.f6.params[j]? = some t → args[j]? = some v → Value.okWide Tryz.prog W .any base t v := hval0
  have hW' := hW
  obtain ⟨p, q, hA0, hV, rfl, hfz, hnd⟩ := hW
  have hA : DataW.TrodAll enc Tryz.prog W 0 (fun _ => true) true Tryz.f6.params.toList args.toList ds p := hA0
  have hAk := hA
  rw [Tryz.params6] at hA hval
  obtain ⟨v0, vs0, d0, ds0, p0, q0, hargs, rfl, rfl, h0, r0⟩ := trodAll_cons hA
  obtain ⟨rfl, rfl, rfl⟩ := trodAll_nil r0
  obtain rfl : args = #[v0] := by cases args; simp_all
  obtain ⟨rfl, rfl⟩ := trodVars_none hV
  have h0k := h0
  obtain ⟨fuel, hf⟩ := h0
  simp only [List.append_nil] at hW'
  have key : ∀ W', Eng.Stays (VO.Zw W) W W' → ∃ v, Ending.returned (.bool true) = .returned v ∧ Rows.vspaceOthersSpec.post enc Tryz.prog Tryz.f6 false true false false W #[v0] v W' := by
    intro W' hs
    have hg := hs.grown (fun _ h => h)
    refine ⟨_, rfl, post_of_same (pa := p0) (pv := []) hW' (fun _ _ _ => trodAll_cons_mk (shut_bool Tryz.underlying4 _) trodAll_mk0) (fun sp hsp => ?_) (fun _ _ => rfl) (by simp)
      (hg.frame _) hg.2.1 (ok_one (by kernel_rfl) rfl (okWide_bool_mk Tryz.underlying4 _))⟩
    have h1 := h0k.respare kids full (by decide +kernel) (spare' := sp) (fun x hx => hsp x hx)
    obtain ⟨n1, hn1⟩ := h1
    have h2 : DataW.Trod enc Tryz.prog W' 0 sp true 84 v0 d0 p0 := ⟨n1, DataW.trod_carry n1 _ _ _ hn1 (fun x hx => same hs x (hW'.lt x hx))⟩
    have := trodAll_cons_mk h2 (trodAll_mk0 (P := Tryz.prog) (enc := enc))
    have h3 : DataW.TrodAll enc Tryz.prog W' 0 sp true [84] [v0] [d0] p0 := by simpa using this
    exact h3
  clear hA0 hval0
  obtain ⟨a0, len, cap, rfl⟩ := okWide_slice Tryz.underlying84 (hval 0 84 v0 rfl rfl)
  rcases open_slice Tryz.underlying84 hf with ⟨hcs, hx⟩ | ⟨a, len', cap', m, n, D, Pl, hcs, _, hl, hm, hmm, hx, hel⟩
  · simp [Value.cells] at hcs
    obtain ⟨rfl, rfl, rfl⟩ := hcs
    refine (VO.nilCall W).mono fun e W' ⟨he, hs⟩ => ?_
    subst he
    exact key W' hs
  · simp [Value.cells] at hcs
    obtain ⟨rfl, rfl, rfl⟩ := hcs
    simp only [if_true] at hmm
    subst hmm
    by_cases hlen : len = 0
    · subst hlen
      refine (VO.empCall W a _).mono fun e W' ⟨he, hs⟩ => ?_
      subst he
      exact key W' hs
    · obtain ⟨b, off, spot⟩ := a
      rw [cells87] at hel
      obtain ⟨c0, hc0, _⟩ := hel 0 (by omega)
      have hb := World.cells?_block hc0 (by decide)
      obtain ⟨_, hl0, hcell0⟩ := World.cells?_some hc0
      have hspot : spot = none := by
        have h1 := hcell0 0 (by omega)
        obtain ⟨y, hy⟩ : ∃ y, c0[0]? = some y := ⟨_, List.getElem?_eq_getElem (by omega)⟩
        rw [hy] at h1
        simpa [Addr.add] using World.cell?_spot h1
      subst hspot
      have hb' : b < W.heap.size := by simpa [Addr.add] using hb
      refine (VO.walk (off := off) (ln := len) hb' fun i hi => ?_).mono fun e W' ⟨he, hs⟩ => ?_
      · obtain ⟨c, hc, ht⟩ := hel i (by omega)
        obtain ⟨_, hcl⟩ := Flat.trod_cells 5 kk87 ll87 _ _ _ ht
        obtain ⟨_, hl1, hcell⟩ := World.cells?_some hc
        refine elem_of hcl fun j hj => ?_
        have h1 := hcell j hj
        rw [← h1]
        simp only [Eng.addr_add]
      · subst he
        exact key W' hs

theorem over : Rows.vspaceOthersRow.holds Tryz.pinned (OpenSpec.ofChange Rows.vspaceOthersSpec) :=
  OpenClaim.holds_of_wide 6 Tryz.f6 rfl rfl rfl rfl rfl rfl rfl ⟨rfl, rfl, rfl, rfl, rfl⟩ rfl rfl rfl rfl rfl (by kernel_rfl) Tryz.func6 JVspaceOthers.all
    (of_decide_eq_true (by kernel_rfl)) (by unfold Func.isWrapper; first | (rw [if_pos (by decide +kernel)]; kernel_rfl) | (rw [if_neg (by decide +kernel)]; exact ⟨rfl, rfl⟩))
    (fun os started H enc _ => lifted os started H enc)

theorem proved : Rows.VspaceOthersSaid :=
  over
#print axioms proved
end Go.Proofs.YtpiicallicgdkaaGreat.vspaceOthers
