/- awake() of chapter 33 answers true wherever it is called. No conditions. -/
import Derived.Test.YtgmdginjikhamaaTabF
import Derived.Test.YtgmdginjikhamaaE7
import Derived.WalkKit
import Derived.IntWalk
import Derived.Lib.AppendZeros
import Derived.Shelf.Abstract
set_option linter.unusedVariables false
namespace Go.Proofs.AWG
open Go.RowKit Go.Shelf
set_option maxRecDepth 100000
theorem info38 : (Try.prog.info? 38).map (fun i => (i.zero, i.size, i.bytes)) = some (some (.agg #[.int .i64 0, .int .i64 0, .int .i64 0]), 3, 24) := by kernel_rfl
set_option maxRecDepth 100000 in
theorem growN (n : Nat) (h0 : n ≠ 0) (hn : n ≤ 100000) (W : World) : Calls Try.prog 28 #[.slice none 0 0, .int .i64 n] W fun e w' => e = .returned (.slice (some ⟨W.heap.size, 0, none⟩) 0 (grownCap W n 0 38)) ∧
    w' = W.drew.alloc (.cells (Builtin.zeroCells #[.int .i64 0, .int .i64 0, .int .i64 0] n ++ Builtin.zeroCells #[.int .i64 0, .int .i64 0, .int .i64 0] (grownCap W n 0 38 - n)) 38) := by
  obtain ⟨i0, hi, hz0, hz1, hz2⟩ := info_parts info38
  have hr : ∀ ty, (Builtin.append_ #[35, 3] ty #[.slice none 0 0, .int .i64 n]).run Try.prog W = _ := fun ty =>
    Lib.run_append_nil_zeros W 35 3 ty 38 i0 _ .i64 .i64 Try.underlying35 Try.underlying3 hi hz0 n (by omega) (by rw [hz1]; omega) (by omega) (by rw [hz2]; omega)
  have hG : n ≤ grownCap W n 0 38 := grownCap_ge W _ _ _
  have hM : grownCap W n 0 38 ≤ maxLen := grownCap_le_maxLen W n 0 38 (by unfold maxLen; omega)
  generalize grownCap W n 0 38 = G at hr hG hM ⊢
  have hG63 : G ≤ 9223372036854775807 := by unfold maxLen at hM; omega
  have h1 : ¬ ((n : Int) < 0) := by omega
  have h4 : (n : Int) > 0 := by omega
  clear hi
  go_enter Try.func28, Try.ntmps28
  go_wp2_with (at_builtin; refine Lib.wpList_append_run _ rfl _ _ _ _ rfl _ _ rfl rfl _ _ (hr _) ?_)
  all_goals go_ret
  all_goals exact ⟨rfl, rfl⟩
theorem grow2 (W : World) : Calls Try.prog 28 #[.slice none 0 0, .int .i64 2] W fun e w' => e = .returned (.slice (some ⟨W.heap.size, 0, none⟩) 0 (grownCap W 2 0 38)) ∧
    w' = W.drew.alloc (.cells (Builtin.zeroCells #[.int .i64 0, .int .i64 0, .int .i64 0] 2 ++ Builtin.zeroCells #[.int .i64 0, .int .i64 0, .int .i64 0] (grownCap W 2 0 38 - 2)) 38) := growN 2 (by omega) (by omega) W
theorem enters28 : Enters Try.prog 28 := enters_of Try.func28 (by kernel_rfl) rfl
end Go.Proofs.AWG
noncomputable section
namespace AW
open Go Eng Go.Proofs Go.RowKit
def growO (args : List AV) (h : H) : Option (AV × H) :=
  match args with
  | [.one .nils, .one (.int .i64 (.ofNat 2))] => some (.one (.fsl h.2 0 0 3), h.new (.cells (T.ofList [.int .i64 0, .int .i64 0, .int .i64 0, .int .i64 0, .int .i64 0, .int .i64 0]) 6 false none))
  | _ => none
def cfg : Cfg := { ty := Tab.tyT.get, fu := Tab.fuT.get, cmp := fun _ _ _ => none, ext := fun f a h => bif Nat.beq f 28 then growO a h else none }
def X0 : Ctx := ⟨0, 0, 0, none⟩
theorem awake6 : says true (eval cfg 300 X0 (.call 6 []) ⟨.nil, 0⟩) = true := by decide +kernel
theorem ok (σ : Sig) : CfgOK Try.prog cfg σ := CfgOK.of (by rw [Tab.tyT_eq]; rfl) (by rw [Tab.fuT_eq]; rfl) Tab.tys Tab.fus (fun _ _ _ _ h => nomatch h) Tab.mixed (fun _ _ h => nomatch h)
theorem ext (σ : Sig) : ExtOK cfg Try.prog σ := by
  intro f args h v h' hk ρ w vs hr ha
  simp only [cfg] at hk
  cases hf : Nat.beq f 28 with
  | false => rw [hf] at hk; cases hk
  | true =>
    rw [hf] at hk
    obtain rfl : f = 28 := Nat.eq_of_beq_eq_true hf
    simp only [cond_true] at hk
    unfold growO at hk
    split at hk
    · cases hk
      cases ha with
      | cons ha0 ha =>
      cases ha with
      | cons ha1 ha =>
      cases ha
      obtain rfl := ha0
      obtain rfl := ha1
      have hen := AWG.enters28
      have hF : F2 (AR ρ σ) [A.int .i64 0, .int .i64 0, .int .i64 0, .int .i64 0, .int .i64 0, .int .i64 0] [.int .i64 0, .int .i64 0, .int .i64 0, .int .i64 0, .int .i64 0, .int .i64 0] :=
        .cons rfl (.cons rfl (.cons rfl (.cons rfl (.cons rfl (.cons rfl .nil)))))
      obtain ⟨_, hR, hE⟩ := hr.grow hF (size := 3) (need := 2) (cap := grownCap w 2 0 38) rfl (grownCap_ge w _ _ _) (z := #[.int .i64 0, .int .i64 0, .int .i64 0]) rfl 38 none (w.drawn + 1)
      refine ⟨.slice (some ⟨w.heap.size, 0, none⟩) 0 (grownCap w 2 0 38), _, _, ⟨hen, fun cs => ?_⟩, ?_, hR, hE⟩
      · obtain ⟨e, W, fr, ⟨rfl, hW⟩, h1, h2, h3⟩ := AWG.grow2 w cs
        have hz : Builtin.zeroCells #[.int .i64 0, .int .i64 0, .int .i64 0] 2 = #[.int .i64 0, .int .i64 0, .int .i64 0, .int .i64 0, .int .i64 0, .int .i64 0] := by kernel_rfl
        rw [hz] at hW
        subst hW
        exact ⟨fr, h1, h2, h3⟩
      · exact ⟨w.heap.size, grownCap w 2 0 38 * 3, grownCap w 2 0 38, upd_self _ _ _, rfl, by omega⟩
    · cases hk
/-- awake answers true; what was there is as it was -/
theorem true6 (w : World) : Calls Try.prog 6 #[] w fun e w' => e = .returned (.bool true) ∧ w.heap.size ≤ w'.heap.size ∧ (∀ r, r < w.heap.size → w'.heap[r]? = w.heap[r]?) ∧ w'.os = w.os ∧ w'.tape = w.tape ∧ w'.output = w.output := by
  obtain ⟨h', hk'⟩ := says_some awake6
  refine (calls_eval (σ := fun _ => 0) (ok _) (ext _) hk' .nil w).mono ?_
  rintro e w' ⟨v', rfl, ⟨ρ, hv⟩, h1, h2, h3, h4, h5, h6⟩
  exact ⟨congrArg _ hv, h1, h2, h3, h4, h5⟩
end AW
