/- AuditStale holds: which translations are stale is the same by both programs, of any view, words and translations. No conditions beside those in its theorems. -/
import Derived.Test.YtgmdginjikhamaaSS
import Derived.Test.YtgmdginjikhamaaJAuditStale
set_option linter.unusedSimpArgs false
namespace Go.Proofs.AO
open Go.RowKit Go.Maps Go.Shelf Go.Lib Go.Sort Go.ChangeShapes Go.WideShapes Go.ChangeAt Go.Deep
set_option linter.unusedVariables false
set_option maxRecDepth 100000
set_option maxHeartbeats 1000000
theorem of_take1 {l : List Value} {o : Nat} {v : Value} (h : (l.drop o).take 1 = [v]) : l[o]? = some v := by
  have := congrArg (fun x => x[0]?) h
  simpa using this
theorem cells_of : Try.prog.cellsOf 32 = 86 ∧ Try.prog.cellsOf 22 = 1 ∧ Try.prog.cellsOf 23 = 1 ∧ Try.prog.cellsOf 24 = 1 ∧ Try.prog.cellsOf 25 = 1 ∧ Try.prog.cellsOf 29 = 80 ∧ Try.prog.cellsOf 30 = 1 ∧ Try.prog.cellsOf 47 = 9 ∧ Try.prog.cellsOf 83 = 10 ∧ Try.prog.cellsOf 87 = 3 ∧ Try.prog.cellsOf 93 = 24 ∧ Try.prog.cellsOf 3 = 1 := by
  refine ⟨?_, ?_, ?_, ?_, ?_, ?_, ?_, ?_, ?_, ?_, ?_, ?_⟩ <;> kernel_rfl
theorem cells_of2 : Try.prog.cellsOf 57 = 5 ∧ Try.prog.cellsOf 41 = 1 ∧ Try.prog.cellsOf 66 = 1 := by
  refine ⟨?_, ?_, ?_⟩ <;> kernel_rfl
/-- a view among the arguments -/
def Vy (A : Array Value) (W : World) : Prop := ∃ (a0 a1 a2 a3 a5 a6 : Option Addr) (n0 n1 n2 n3 n5 n6 c0 c1 c2 c3 c5 c6 : Nat) (zo : Nat → Nat → Int) (PA : Array Value) (pc : Nat → Array Value) (ro : Nat → Nat → Int), A[0]? = some (.slice a0 n0 c0) ∧ A[1]? = some (.slice a1 n1 c1) ∧ A[2]? = some (.slice a2 n2 c2) ∧ A[3]? = some (.slice a3 n3 c3) ∧ A[84]? = some (.slice a5 n5 c5) ∧ A[85]? = some (.slice a6 n6 c6) ∧
  Big A ∧ (n0 ≤ 40 → Vq W A a0 n0 c0 zo PA pc ro) ∧ ∀ k, k < 8 → ∀ j, j < 4 → A[4 + k * 10 + 2 + j]? = some (.int .i64 (ro k j))
theorem view_open {H : Type} {enc : TypeId × Value → H} {W : World} {spare : Nat → Bool} {held : Bool} {A : Array Value} {fuel : Nat} {x : DataW H × List MemPlace} (h : DataW.trod enc Try.prog W 0 spare held fuel 32 A.toList = some x) : Vy A W := by
  obtain ⟨z32, z22, z23, z24, z25, z29, z30, z47, z83, z87, z93, z3⟩ := cells_of
  obtain ⟨xs, n, _, _, hl, hlen, hf⟩ := DataW.trod_struct Try.underlying32 h
  rw [z32] at hl
  have hlen : xs.length = 7 := hlen
  have g : ∀ i, i < 7 → ∃ y, xs[i]? = some y := fun i hi => ⟨_, List.getElem?_eq_getElem (by omega)⟩
  obtain ⟨y0, e0⟩ := g 0 (by omega)
  obtain ⟨y1, e1⟩ := g 1 (by omega)
  obtain ⟨y2, e2⟩ := g 2 (by omega)
  obtain ⟨y3, e3⟩ := g 3 (by omega)
  obtain ⟨y4, e4⟩ := g 4 (by omega)
  obtain ⟨y5, e5⟩ := g 5 (by omega)
  obtain ⟨y6, e6⟩ := g 6 (by omega)
  have f0 := (hf 0 _ rfl).trans e0
  have f1 := (hf 1 _ rfl).trans e1
  have f2 := (hf 2 _ rfl).trans e2
  have f3 := (hf 3 _ rfl).trans e3
  have f4 := (hf 4 _ rfl).trans e4
  have f5 := (hf 5 _ rfl).trans e5
  have f6 := (hf 6 _ rfl).trans e6
  change DataW.trod enc Try.prog W 0 spare held n 22 ((A.toList.drop 0).take (Try.prog.cellsOf 22)) = _ at f0
  change DataW.trod enc Try.prog W 0 spare held n 23 ((A.toList.drop 1).take (Try.prog.cellsOf 23)) = _ at f1
  change DataW.trod enc Try.prog W 0 spare held n 24 ((A.toList.drop 2).take (Try.prog.cellsOf 24)) = _ at f2
  change DataW.trod enc Try.prog W 0 spare held n 25 ((A.toList.drop 3).take (Try.prog.cellsOf 25)) = _ at f3
  change DataW.trod enc Try.prog W 0 spare held n 29 ((A.toList.drop 4).take (Try.prog.cellsOf 29)) = _ at f4
  change DataW.trod enc Try.prog W 0 spare held n 30 ((A.toList.drop 84).take (Try.prog.cellsOf 30)) = _ at f5
  change DataW.trod enc Try.prog W 0 spare held n 30 ((A.toList.drop 85).take (Try.prog.cellsOf 30)) = _ at f6
  rw [z22] at f0
  rw [z23] at f1
  rw [z24] at f2
  rw [z25] at f3
  rw [z29] at f4
  rw [z30] at f5 f6
  obtain ⟨a0, n0, c0, s0, r0⟩ := rows_open Try.underlying22 k47 l47 z47 (by omega) f0
  obtain ⟨a1, n1, c1, s1, r1⟩ := rows_open Try.underlying23 k83 l83 z83 (by omega) f1
  obtain ⟨a2, n2, c2, s2, r2⟩ := rows_open Try.underlying24 k87 l87 z87 (by omega) f2
  obtain ⟨ks, kk, kk0, kk1⟩ := k93
  obtain ⟨a3, n3, c3, s3, r3⟩ := rows_open Try.underlying25 kk l93 z93 (by omega) f3
  obtain ⟨_, hp⟩ := Flat.trod_cells 5 k80 l80 _ _ _ f4
  obtain ⟨a5, n5, c5, s5, r5⟩ := rows_open Try.underlying30 k3 l3 z3 (by omega) f5
  obtain ⟨a6, n6, c6, s6, r6⟩ := rows_open Try.underlying30 k3 l3 z3 (by omega) f6
  have t0 := of_take1 s0
  have t1 := of_take1 s1
  have t2 := of_take1 s2
  have t3 := of_take1 s3
  have t5 := of_take1 s5
  have t6 := of_take1 s6
  rw [Array.getElem?_toList] at t0 t1 t2 t3 t5 t6
  have hA : A.size = 86 := by simpa using hl
  have hsub : ∀ j, j < 80 → ((A.toList.drop 4).take 80)[j]? = A[4 + j]? := fun j hj => by
    rw [List.getElem?_take, if_pos hj, List.getElem?_drop, Array.getElem?_toList]
  have hbig : Big A := by
    refine ⟨hA, ?_⟩
    rw [Array.all_eq_true]
    intro i hi
    have hone : ∀ v, A[i]? = some v → v.oneCell' = true := by
      intro v hv
      by_cases h0 : i = 0
      · subst h0; rw [t0] at hv; cases hv; rfl
      by_cases h1 : i = 1
      · subst h1; rw [t1] at hv; cases hv; rfl
      by_cases h2 : i = 2
      · subst h2; rw [t2] at hv; cases hv; rfl
      by_cases h3 : i = 3
      · subst h3; rw [t3] at hv; cases hv; rfl
      by_cases h5 : i = 84
      · subst h5; rw [t5] at hv; cases hv; rfl
      by_cases h6 : i = 85
      · subst h6; rw [t6] at hv; cases hv; rfl
      have hh := hsub (i - 4) (by omega)
      rw [show 4 + (i - 4) = i by omega, hv] at hh
      exact hp.one _ (List.mem_of_getElem? hh)
    exact hone _ (Array.getElem?_eq_getElem hi)
  obtain ⟨PA, pc, ro, hpo, hrc⟩ := pools_open A _ hp fun j u hj => by
    have hj80 : j < 80 := by
      have := (List.getElem?_eq_some_iff.1 hj).1
      simp at this
      omega
    rw [← hsub j hj80]
    exact hj
  have hr := r0.rw_int (by omega) (fun t ht => by rw [List.getElem?_replicate, if_pos ht])
  exact ⟨a0, a1, a2, a3, a5, a6, n0, n1, n2, n3, n5, n6, c0, c1, c2, c3, c5, c6, _, PA, pc, ro, t0, t1, t2, t3, t5, t6, hbig, fun hn => ⟨hbig, hn, t0, hr.1, hr.2, hpo⟩, hrc⟩
def lnOf (W : World) (p : Option Addr) (L i : Nat) : Nat := if i < L then (match p with | some ⟨b, off, _⟩ => (match W.cell? ⟨b, off + i, none⟩ with | some (.slice _ n _) => n | _ => 0) | none => 0) else 0
def xwOf (W : World) (p : Option Addr) (L i k : Nat) : Nat := if i < L then (match p with | some ⟨b, off, _⟩ => (match W.cell? ⟨b, off + i, none⟩ with | some (.slice q n _) => (zAt W q 1 n k 0).toNat | _ => 0) | none => 0) else 0
theorem u64_wf {z : Int} (h : (Lit.int .u64 z).wf = true) : 0 ≤ z ∧ z < 18446744073709551616 := by
  simp only [Lit.wf, IntKind.min, IntKind.max, IntKind.signed, IntKind.bits, Bool.and_eq_true, decide_eq_true_eq] at h
  simp at h
  omega
theorem words_open {H : Type} {enc : TypeId × Value → H} {W : World} {spare : Nat → Bool} {held : Bool} {fuel : Nat} {cs : List Value} {x : DataW H × List MemPlace} (h : DataW.trod enc Try.prog W 0 spare held fuel 39 cs = some x) :
    ∃ p L c, cs = [.slice p L c] ∧ Wl0 W p L (lnOf W p L) (xwOf W p L) := by
  obtain ⟨z57, z41, z66⟩ := cells_of2
  obtain ⟨p, L, c, rfl, hL, hrow⟩ := lists_open Try.underlying39 z41 h
  have key : ∀ i, i < L → ∃ B O q n c', p = some ⟨B, O, none⟩ ∧ W.cell? ⟨B, O + i, none⟩ = some (.slice q n c') ∧ n ≤ maxLen ∧ Fr W 1 [.n .u64] q n := by
    intro i hi
    obtain ⟨B, O, v, m, y, h1, h2, h3⟩ := hrow i hi
    obtain ⟨q, n, c', h4, h5⟩ := rows_open Try.underlying41 k66 l66 z66 (by omega) h3
    have h6 := rows_len Try.underlying41 h3 h4
    cases h4
    exact ⟨B, O, q, n, c', h1, h2, h6, h5⟩
  refine ⟨p, L, c, rfl, by unfold maxLen at hL; omega, fun i hi => ?_, fun i hi => ?_, fun i k => ?_⟩
  · obtain ⟨B, O, q, n, c', rfl, h2, h3, h4⟩ := key i hi
    simp only [lnOf, if_pos hi, h2]
    unfold maxLen at h3
    omega
  · obtain ⟨B, O, q, n, c', rfl, h2, h3, h4⟩ := key i hi
    have e1 : lnOf W (some ⟨B, O, none⟩) L i = n := by simp only [lnOf, if_pos hi, h2]
    rw [e1]
    refine ⟨B, O, q, c', rfl, h2, fun k hk => ?_⟩
    obtain ⟨hw, b, off, h5, h6⟩ := h4.z hk (t := 0) (by omega) rfl
    have e2 : xwOf W (some ⟨B, O, none⟩) L i k = (zAt W q 1 n k 0).toNat := by simp only [xwOf, if_pos hi, h2]
    have h7 := u64_wf hw
    rw [e2, Int.toNat_of_nonneg h7.1]
    rw [Nat.mul_one, Nat.add_zero] at h6
    exact ⟨b, off, h5, h6⟩
  · by_cases hi : i < L
    · obtain ⟨B, O, q, n, c', rfl, h2, h3, h4⟩ := key i hi
      have e2 : xwOf W (some ⟨B, O, none⟩) L i k = (zAt W q 1 n k 0).toNat := by simp only [xwOf, if_pos hi, h2]
      rw [e2]
      by_cases hk : k < n
      · have h7 := u64_wf (h4.z hk (t := 0) (by omega) rfl).1
        omega
      · unfold zAt
        rw [if_neg (by omega)]
        decide
    · unfold xwOf
      rw [if_neg hi]
      decide
theorem trans_open {H : Type} {enc : TypeId × Value → H} {W : World} {spare : Nat → Bool} {held : Bool} {fuel : Nat} {cs : List Value} {x : DataW H × List MemPlace} (h : DataW.trod enc Try.prog W 0 spare held fuel 40 cs = some x) :
    ∃ a n c, cs = [.slice a n c] ∧ Tr0 W a n (fun i => zAt W a 5 n i 0) (fun i => zAt W a 5 n i 1) (fun i => zAt W a 5 n i 2) (fun i => bAt W a 5 n i 3) (fun i => bAt W a 5 n i 4) := by
  obtain ⟨z57, z41, z66⟩ := cells_of2
  obtain ⟨a, n, c, hcs, hr⟩ := rows_open Try.underlying40 k57 l57 z57 (by omega) h
  have hn := rows_len Try.underlying40 h hcs
  refine ⟨a, n, c, hcs, by unfold maxLen at hn; omega, fun i => ?_, fun i hi => ?_⟩
  · by_cases hi : i < n
    · exact ⟨(hr.z hi (t := 0) (by omega) rfl).1, (hr.z hi (t := 1) (by omega) rfl).1⟩
    · constructor
      · show WF (zAt W a 5 n i 0)
        unfold zAt
        rw [if_neg (by omega)]
        decide
      · show WF (zAt W a 5 n i 1)
        unfold zAt
        rw [if_neg (by omega)]
        decide
  · obtain ⟨_, b, off, rfl, h0⟩ := hr.z hi (t := 0) (by omega) rfl
    obtain ⟨_, b1, off1, e1, h1⟩ := hr.z hi (t := 1) (by omega) rfl
    obtain ⟨_, b2, off2, e2, h2⟩ := hr.z hi (t := 2) (by omega) rfl
    obtain ⟨b3, off3, e3, h3⟩ := hr.bz hi (t := 3) (by omega) rfl
    obtain ⟨b4, off4, e4, h4⟩ := hr.bz hi (t := 4) (by omega) rfl
    cases e1
    cases e2
    cases e3
    cases e4
    rw [Nat.add_zero] at h0
    exact ⟨b, off, rfl, h0, h1, h2, h3, h4⟩
theorem law_of {A : Array Value} {W : World} (h : Vy A W) {p : Option Addr} {L cw : Nat} {ln : Nat → Nat} {xw : Nat → Nat → Nat} (hw : Wl0 W p L ln xw) {a : Option Addr} {n cc : Nat} {sp pg fr : Nat → Int} {rd wt : Nat → Bool} (hT : Tr0 W a n sp pg fr rd wt) :
    Calls Try.prog 4 #[.agg A, .slice p L cw, .slice a n cc] W (Lw W) := by
  obtain ⟨a0, a1, a2, a3, a5, a6, n0, n1, n2, n3, n5, n6, c0, c1, c2, c3, c5, c6, zo, PA, pc, ro, t0, t1, t2, t3, t5, t6, hb, hv, hrc⟩ := h
  exact law_stale A hb W n0 c0 n1 n2 n3 n5 n6 a0 zo PA pc ro p L cw ln xw a n cc sp pg fr rd wt (fun w => great_any A w a0 a1 a2 a3 a5 a6 n0 n1 n2 n3 n5 n6 c0 c1 c2 c3 c5 c6 t0 t1 t2 t3 t5 t6) hv hrc hw hT
end Go.Proofs.AO
namespace Go.Proofs.Ytgmdginjikhamaa.auditStale
open Go.ChangeShapes Go.WideShapes Go.ChangeAt Go.RowKit Go.Deep Go.Proofs.AO
set_option linter.unusedVariables false
theorem own : ownKnob Try.prog.godebug = none := by kernel_rfl
theorem kids : Kids Try.prog (· < Try.prog.types.size) := kids_rows (by kernel_rfl) (by kernel_rfl)
theorem full : ∀ t e, t < Try.prog.types.size → Try.prog.underlying t = some (.slice e) → 0 < Try.prog.cellsOf e := slices_full_of Try.prog (by kernel_rfl)
theorem same {W W' : World} (u : Up W W') : ∀ p : MemPlace, p.block < W.heap.size → W.sameAt W' p
  | .cell b off, hp => by
    show W'.cell? ⟨b, off, none⟩ = W.cell? ⟨b, off, none⟩
    unfold World.cell?
    rw [show W'.heap[b]? = W.heap[b]? from u.block b hp]
  | .map b, hp => u.block b hp
set_option maxRecDepth 100000 in
theorem lifted (os : Os) (started : os.Started) (H : Type) (enc : TypeId × Value → H) :
    ReturnsInHanded {} Try.checked os 4 .any (Rows.auditStaleSpec.pre6 enc Try.prog Try.f4 Rows.auditStaleRow.domain false) (Rows.auditStaleSpec.post enc Try.prog Try.f4 false true false false) := by
  refine returnsInHanded_of_change (C := Try.checked) own started (by kernel_rfl) Try.func4
    (ChangeSpec.witness6 (enc := enc) (C := Try.checked) false ⟨#[], #[.agg #[.slice none 0 0, .slice none 0 0, .slice none 0 0, .slice none 0 0, .int .i64 0, .bool false, .int .i64 0, .int .i64 0, .int .i64 0, .int .i64 0, .int .i64 0, .int .i64 0, .int .i64 0, .int .i64 0, .int .i64 0, .bool false, .int .i64 0, .int .i64 0, .int .i64 0, .int .i64 0, .int .i64 0, .int .i64 0, .int .i64 0, .int .i64 0, .int .i64 0, .bool false, .int .i64 0, .int .i64 0, .int .i64 0, .int .i64 0, .int .i64 0, .int .i64 0, .int .i64 0, .int .i64 0, .int .i64 0, .bool false, .int .i64 0, .int .i64 0, .int .i64 0, .int .i64 0, .int .i64 0, .int .i64 0, .int .i64 0, .int .i64 0, .int .i64 0, .bool false, .int .i64 0, .int .i64 0, .int .i64 0, .int .i64 0, .int .i64 0, .int .i64 0, .int .i64 0, .int .i64 0, .int .i64 0, .bool false, .int .i64 0, .int .i64 0, .int .i64 0, .int .i64 0, .int .i64 0, .int .i64 0, .int .i64 0, .int .i64 0, .int .i64 0, .bool false, .int .i64 0, .int .i64 0, .int .i64 0, .int .i64 0, .int .i64 0, .int .i64 0, .int .i64 0, .int .i64 0, .int .i64 0, .bool false, .int .i64 0, .int .i64 0, .int .i64 0, .int .i64 0, .int .i64 0, .int .i64 0, .int .i64 0, .int .i64 0, .slice none 0 0, .slice none 0 0], .slice none 0 0, .slice none 0 0], []⟩ 16 (by kernel_rfl) (by kernel_rfl) (by kernel_rfl) (by kernel_rfl)) ?_
  intro W base args ds gs before hval0 hW hcnd _
  have hval : ∀ (j : Nat) t v, Try.f4.params[j]? = some t → args[j]? = some v → Value.okWide Try.prog W .any base t v := hval0
  have hW' := hW
  obtain ⟨p, q, hA0, hV, rfl, hfz, hnd⟩ := hW
  have hA : DataW.TrodAll enc Try.prog W 0 (fun _ => true) true Try.f4.params.toList args.toList ds p := hA0
  rw [Try.params4] at hA hval
  obtain ⟨v0, vs0, d0, ds0, p0, q0, hargs, rfl, rfl, h0, r0⟩ := trodAll_cons hA
  obtain ⟨v1, vs1, d1, ds1, p1, q1, hargs1, rfl, rfl, h1, r1⟩ := trodAll_cons r0
  obtain ⟨v2, vs2, d2, ds2, p2, q2, hargs2, rfl, rfl, h2, r2⟩ := trodAll_cons r1
  obtain ⟨rfl, rfl, rfl⟩ := trodAll_nil r2
  obtain rfl : args = #[v0, v1, v2] := by cases args; simp_all
  obtain ⟨rfl, rfl⟩ := trodVars_none hV
  have h0k := h0
  have h1k := h1
  have h2k := h2
  obtain ⟨fuel0, hf0⟩ := h0
  obtain ⟨fuel1, hf1⟩ := h1
  obtain ⟨fuel2, hf2⟩ := h2
  simp only [List.append_nil] at hW'
  have key : ∀ W', Up W W' → ∃ v, Ending.returned (.bool true) = .returned v ∧ Rows.auditStaleSpec.post enc Try.prog Try.f4 false true false false W #[v0, v1, v2] v W' := by
    intro W' hs
    refine ⟨_, rfl, post_same (pa := p0 ++ (p1 ++ p2)) (pv := []) hW' (fun _ _ _ => trodAll_cons_mk (shut_bool Try.underlying4 _) trodAll_mk0) (fun sp hsp => ?_) (fun _ _ => rfl) (by simp) hs (ok_one (by kernel_rfl) rfl (okWide_bool_mk Try.underlying4 _))⟩
    obtain ⟨m0, hm0⟩ := h0k.respare kids full (by decide +kernel) (spare' := sp) (fun x hx => hsp x (by simp [hx]))
    obtain ⟨m1, hm1⟩ := h1k.respare kids full (by decide +kernel) (spare' := sp) (fun x hx => hsp x (by simp [hx]))
    obtain ⟨m2, hm2⟩ := h2k.respare kids full (by decide +kernel) (spare' := sp) (fun x hx => hsp x (by simp [hx]))
    have g0 : DataW.Trod enc Try.prog W' 0 sp true 32 v0 d0 p0 := ⟨m0, DataW.trod_carry m0 _ _ _ hm0 (fun x hx => same hs x (hW'.lt x (by simp [hx])))⟩
    have g1 : DataW.Trod enc Try.prog W' 0 sp true 39 v1 d1 p1 := ⟨m1, DataW.trod_carry m1 _ _ _ hm1 (fun x hx => same hs x (hW'.lt x (by simp [hx])))⟩
    have g2 : DataW.Trod enc Try.prog W' 0 sp true 40 v2 d2 p2 := ⟨m2, DataW.trod_carry m2 _ _ _ hm2 (fun x hx => same hs x (hW'.lt x (by simp [hx])))⟩
    have this := trodAll_cons_mk g0 (trodAll_cons_mk g1 (trodAll_cons_mk g2 (trodAll_mk0 (P := Try.prog) (enc := enc))))
    have h3 : DataW.TrodAll enc Try.prog W' 0 sp true [32, 39, 40] [v0, v1, v2] [d0, d1, d2] (p0 ++ (p1 ++ p2)) := by simpa using this
    exact h3
  obtain ⟨cs, rfl, _⟩ := okWide_struct Try.underlying32 (hval 0 32 v0 rfl rfl)
  obtain ⟨wp, wl, wc, rfl⟩ := okWide_slice Try.underlying39 (hval 1 39 v1 rfl rfl)
  obtain ⟨tp, tn, tc, rfl⟩ := okWide_slice Try.underlying40 (hval 2 40 v2 rfl rfl)
  obtain ⟨p', L', c', e1, hwl⟩ := words_open hf1
  cases e1
  obtain ⟨a', n', c'', e2, htr⟩ := trans_open hf2
  cases e2
  refine (law_of (view_open hf0) hwl htr).mono fun e W' ⟨he, hs⟩ => ?_
  subst he
  exact key W' hs
theorem over : Rows.auditStaleRow.holds Try.pinned (OpenSpec.ofChange Rows.auditStaleSpec) :=
  OpenClaim.holds_of_wide 4 Try.f4 rfl rfl rfl rfl rfl rfl rfl ⟨rfl, rfl, rfl, rfl, rfl⟩ rfl rfl rfl rfl rfl (by kernel_rfl) Try.func4 JAuditStale.all
    (of_decide_eq_true (by kernel_rfl)) (by unfold Func.isWrapper; first | (rw [if_pos (by decide +kernel)]; kernel_rfl) | (rw [if_neg (by decide +kernel)]; exact ⟨rfl, rfl⟩))
    (fun os started H enc _ => lifted os started H enc)
theorem proved : Rows.AuditStaleSaid :=
  over
#print axioms proved
end Go.Proofs.Ytgmdginjikhamaa.auditStale
