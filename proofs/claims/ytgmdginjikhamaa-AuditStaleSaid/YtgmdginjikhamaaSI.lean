/- audit.first. No conditions beside those in its theorems. -/
import Derived.Test.YtgmdginjikhamaaSE
import Derived.Test.YtgmdginjikhamaaSX4
set_option linter.unusedSimpArgs false
namespace Go.Proofs.AO
open Go.RowKit Go.Maps Go.Shelf Go.Sort
set_option linter.unusedVariables false
set_option linter.unusedSimpArgs false
set_option maxRecDepth 100000
set_option maxHeartbeats 2000000
/-- the first object of a number, of the last m -/
def ob (no : Nat) (zo : Nat → Nat → Int) (id : Int) : Nat → Option Nat
  | 0 => none
  | m + 1 => if zo (no - (m + 1)) 0 = id then some (no - (m + 1)) else ob no zo id m
theorem ob_step {no : Nat} {zo : Nat → Nat → Int} {id : Int} {k : Nat} (h : k < no) : ob no zo id (no - k) = if zo k 0 = id then some k else ob no zo id (no - (k + 1)) := by
  obtain ⟨m, hm⟩ : ∃ m, no - k = m + 1 := ⟨no - k - 1, by omega⟩
  rw [hm, ob, show no - (m + 1) = k by omega, show no - (k + 1) = m by omega]
/-- the object of a space's root, looked for among the last m of 32 places -/
def sr (no : Nat) (zo : Nat → Nat → Int) (ro : Nat → Nat → Int) (sp : Int) : Nat → Option Nat
  | 0 => none
  | m + 1 => if ((32 - (m + 1) : Nat) : Int) = sp ∧ ro ((32 - (m + 1)) / 4) ((32 - (m + 1)) % 4) ≠ 0 then
      (match ob no zo (ro ((32 - (m + 1)) / 4) ((32 - (m + 1)) % 4)) no with | some k => some k | none => sr no zo ro sp m) else sr no zo ro sp m
theorem sr_step {no : Nat} {zo : Nat → Nat → Int} {ro : Nat → Nat → Int} {sp : Int} {p i : Nat} (hp : p < 8) (hi : i < 4) :
    sr no zo ro sp (32 - (4 * p + i)) = if ((4 * p + i : Nat) : Int) = sp ∧ ro p i ≠ 0 then (match ob no zo (ro p i) no with | some k => some k | none => sr no zo ro sp (32 - (4 * p + (i + 1)))) else sr no zo ro sp (32 - (4 * p + (i + 1))) := by
  obtain ⟨m, hm⟩ : ∃ m, 32 - (4 * p + i) = m + 1 := ⟨32 - (4 * p + i) - 1, by omega⟩
  rw [hm, sr, show 32 - (m + 1) = 4 * p + i by omega, show 32 - (4 * p + (i + 1)) = m by omega, show (4 * p + i) / 4 = p by omega, show (4 * p + i) % 4 = i by omega]
theorem sr_lt {no : Nat} {zo : Nat → Nat → Int} {ro : Nat → Nat → Int} {sp : Int} {m k : Nat} (h : sr no zo ro sp m = some k) : k < no := by
  have h1 : ∀ id m k, m ≤ no → ob no zo id m = some k → k < no := by
    intro id m
    induction m with
    | zero => intro k _ h; cases h
    | succ m ih =>
      intro k hm h
      rw [ob] at h
      split at h
      · cases h; omega
      · exact ih k (by omega) h
  induction m with
  | zero => cases h
  | succ m ih =>
    rw [sr] at h
    split at h
    · split at h
      · rename_i hh
        cases h
        exact h1 _ _ _ (Nat.le_refl _) hh
      · exact ih h
    · exact ih h
/-- a view as Stale looks at it -/
structure Vq (W : World) (A : Array Value) (ao : Option Addr) (no co : Nat) (zo : Nat → Nat → Int) (PA : Array Value) (pc : Nat → Array Value) (ro : Nat → Nat → Int) : Prop where
  big : Big A
  n40 : no ≤ 40
  h0 : A[0]? = some (.slice ao no co)
  rows : Rw 9 W ao no fun j t => .int .i64 (zo j t)
  wf : ∀ j t, WF (zo j t)
  po : Po A PA pc ro
theorem Vq.up {W w : World} {A : Array Value} {ao : Option Addr} {no co : Nat} {zo : Nat → Nat → Int} {PA : Array Value} {pc : Nat → Array Value} {ro : Nat → Nat → Int} (h : Vq W A ao no co zo PA pc ro) (u : Up W w) : Vq w A ao no co zo PA pc ro := ⟨h.big, h.n40, h.h0, h.rows.up u, h.wf, h.po⟩
/-- the view's box beside what was -/
structure Sv (W : World) (A : Array Value) (w : World) : Prop where
  up : Up W w
  box : w.heap[W.heap.size]? = some (.cells A 32 (0, 0))
theorem Sv.to {W w w' : World} {A : Array Value} (h : Sv W A w) (u : Up w w') : Sv W A w' := ⟨h.up.trans u, u.heap h.box⟩
theorem Sv.made (W : World) (A : Array Value) : Sv W A (W.alloc (.cells A 32)) := ⟨Up.alloc W _ _, heap_alloc_last W _⟩
theorem Sv.cell {W w : World} {A : Array Value} (h : Sv W A w) (j : Nat) : w.cell? ⟨W.heap.size, j, none⟩ = A[j]? := cell_of_row _ _ _ _ _ _ h.box
theorem Sv.rgs {W w : World} {A : Array Value} (t : Sv W A w) {l : List Value} {o : Nat} (hl : ∀ j u, l[j]? = some u → A[o + j]? = some u) : w.rangeAt W.heap.size o l := fun j u hj => by
  rw [t.cell (o + j)]
  exact hl j u hj
theorem bx_rgs {w : World} {g : Nat} {A : Array Value} {T : TypeId} (h : w.heap[g]? = some (.cells A T (0, 0))) {l : List Value} {o : Nat} (hl : ∀ j u, l[j]? = some u → A[o + j]? = some u) : w.rangeAt g o l := fun j u hj => by
  rw [cell_of_row _ _ _ _ _ _ h]
  exact hl j u hj
def ff (zo : Nat → Nat → Int) (R : Option Nat) : Int := match R with | some k => zo k 3 | none => -1
/-- the first frame of a space's root -/
def fsr (no : Nat) (zo : Nat → Nat → Int) (ro : Nat → Nat → Int) (sp : Int) : Int := ff zo (sr no zo ro sp 32)
theorem first_f (A : Array Value) (ao : Option Addr) (no co : Nat) (zo : Nat → Nat → Int) (PA : Array Value) (pc : Nat → Array Value) (ro : Nat → Nat → Int) (sp : Int) (hsp : WF sp) (W : World) (hv : Vq W A ao no co zo PA pc ro) :
    Calls Try.prog 25 #[.agg A, .int .i64 sp] W fun e w' => e = .returned (.int .i64 (fsr no zo ro sp)) ∧ Up W w' := by
  have hp := hv.po
  have hno := hv.n40
  have ho := hv.rows
  have h0 := hv.h0
  have hs := hv.big
  have hl29 : (Try.prog.info? 29).map (·.size) = some PA.toList.length := by rw [size29, Array.length_toList, hp.size]
  have t0 := Sv.made W A
  obtain ⟨R, hR⟩ : ∃ R, sr no zo ro sp 32 = R := ⟨_, rfl⟩
  have hfs : fsr no zo ro sp = ff zo R := by unfold fsr; rw [hR]
  clear hv
  go_enter Try.func25, Try.ntmps25
  go_wp2_with (first
    | ((with_reducible refine g_load29 ?_); refine arm_load 29 _ rfl W.heap.size 4 rfl PA.toList _ (t0.rgs hp.sub) Try.underlying29 rfl hl29 ?_ ?_ <;> (go_simp; try intros)))
  go_loopw [13] (fun i w' => ∃ k : Nat, k ≤ 8 ∧ i = .int .i64 k ∧ Sv W A w' ∧ sr no zo ro sp (32 - 4 * k) = R) (fun i _ => 8 - (intOf i).toNat)
  case atStart => exact ⟨0, Nat.zero_le _, rfl, t0, hR⟩
  case round =>
    clear t0
    obtain ⟨k, hk, rfl, t, hR⟩ := hrel
    by_cases hlt : k < 8
    · have hix := hp.ix k hlt
      obtain ⟨hsz, hone⟩ := hp.es k hlt
      have hro := hp.roots k hlt
      have hls : ∀ j u, [Value.int .i64 (ro k 0), .int .i64 (ro k 1), .int .i64 (ro k 2), .int .i64 (ro k 3)][j]? = some u → (pc k)[2 + j]? = some u := by
        intro j u hj
        match j, hj with
        | 0, hj => cases hj; exact hro 0 (by omega)
        | 1, hj => cases hj; exact hro 1 (by omega)
        | 2, hj => cases hj; exact hro 2 (by omega)
        | 3, hj => cases hj; exact hro 3 (by omega)
      have t1 := t.to (Up.alloc wr (pc k) 28)
      go_wp2_with (first
        | ((with_reducible refine g_store28 ?_); refine arm_store rfl 28 _ _ rfl rfl (pc k) rfl rfl (by rw [size28, hsz]) hsz.symm hone ?_)
        | ((with_reducible refine g_load26 ?_); refine arm_load 26 _ rfl wr.heap.size 2 rfl [.int .i64 (ro k 0), .int .i64 (ro k 1), .int .i64 (ro k 2), .int .i64 (ro k 3)] _ (bx_rgs (heap_alloc_last wr _) hls) Try.underlying26 rfl size26 ?_ ?_ <;> (go_simp; try intros)))
      clear t
      go_loopw [19] (fun i w' => ∃ j : Nat, j ≤ 4 ∧ i = .int .i64 j ∧ Sv W A w' ∧ sr no zo ro sp (32 - (4 * k + j)) = R) (fun i _ => 4 - (intOf i).toNat)
      case atStart => exact ⟨0, Nat.zero_le _, rfl, t1, hR⟩
      case round =>
        clear t1
        obtain ⟨j, hj, rfl, t, hR⟩ := hrel
        by_cases hlt2 : j < 4
        · have hi6 := index26 (ro k) j hlt2
          rw [sr_step hlt hlt2] at hR
          have b0 := (t.cell 0).trans h0
          by_cases hz : ro k j = 0
          · rw [if_neg (fun hh => hh.2 hz)] at hR
            rw [hz] at hi6
            go_wp2
            go_roundw
            case rel => exact ⟨j + 1, by omega, by go_num, t, hR⟩
            case measure => simp [intOf]; omega
          · by_cases hsk : ((4 * k + j : Nat) : Int) = sp
            · rw [if_pos ⟨hsk, hz⟩] at hR
              have hsk' : (4 * (k : Int) + (j : Int) != sp) = false := by simp; omega
              obtain ⟨id, hid⟩ : ∃ id, id = ro k j := ⟨_, rfl⟩
              rw [← hid] at hi6 hz hR
              clear hid hsk
              have hz' : (id == 0) = false := by simpa using hz
              go_wp2
              go_loopw [36] (fun i w' => ∃ m : Nat, m ≤ no ∧ i = .int .i64 m ∧ Sv W A w' ∧ (match ob no zo id (no - m) with | some k => some k | none => sr no zo ro sp (32 - (4 * k + (j + 1)))) = R) (fun i _ => no - (intOf i).toNat)
              case atStart => exact ⟨0, Nat.zero_le _, rfl, t, hR⟩
              case round =>
                clear t
                obtain ⟨m, hm, rfl, t, hR⟩ := hrel
                by_cases hlt3 : m < no
                · obtain ⟨b, off, rfl, h1⟩ := ho m hlt3
                  have c0 : wr.cell? ⟨b, off + m * 9, none⟩ = some (.int .i64 (zo m 0)) := t.up.keeps (h1 0 (by omega))
                  have c1 : wr.cell? ⟨b, off + m * 9 + 1, none⟩ = some (.int .i64 (zo m 1)) := t.up.keeps (h1 1 (by omega))
                  have c2 : wr.cell? ⟨b, off + m * 9 + 2, none⟩ = some (.int .i64 (zo m 2)) := t.up.keeps (h1 2 (by omega))
                  have c3 : wr.cell? ⟨b, off + m * 9 + 3, none⟩ = some (.int .i64 (zo m 3)) := t.up.keeps (h1 3 (by omega))
                  have c4 : wr.cell? ⟨b, off + m * 9 + 4, none⟩ = some (.int .i64 (zo m 4)) := t.up.keeps (h1 4 (by omega))
                  have c5 : wr.cell? ⟨b, off + m * 9 + 5, none⟩ = some (.int .i64 (zo m 5)) := t.up.keeps (h1 5 (by omega))
                  have c6 : wr.cell? ⟨b, off + m * 9 + 6, none⟩ = some (.int .i64 (zo m 6)) := t.up.keeps (h1 6 (by omega))
                  have c7 : wr.cell? ⟨b, off + m * 9 + 7, none⟩ = some (.int .i64 (zo m 7)) := t.up.keeps (h1 7 (by omega))
                  have c8 : wr.cell? ⟨b, off + m * 9 + 8, none⟩ = some (.int .i64 (zo m 8)) := t.up.keeps (h1 8 (by omega))
                  have t2 := fun cs => t.to (Up.alloc wr cs 47)
                  rw [ob_step hlt3] at hR
                  clear h1
                  by_cases hid : zo m 0 = id
                  · rw [if_pos hid] at hR
                    simp only at hR
                    subst hR
                    go_wp2
                    go_ret
                    exact ⟨by rw [hfs]; rfl, (t2 _).up⟩
                  · rw [if_neg hid] at hR
                    go_wp2
                    go_roundw
                    case rel => exact ⟨m + 1, by omega, by go_num, t2 _, hR⟩
                    case measure => simp [intOf]; omega
                · obtain rfl : m = no := by omega
                  rw [Nat.sub_self] at hR
                  simp only [ob] at hR
                  go_wp2
                  go_roundw
                  case rel => exact ⟨j + 1, by omega, by go_num, t, hR⟩
                  case measure => simp [intOf]; omega
            · rw [if_neg (fun hh => hsk hh.1)] at hR
              have hsk' : (4 * (k : Int) + (j : Int) != sp) = true := by simp; omega
              go_wp2
              go_roundw
              case rel => exact ⟨j + 1, by omega, by go_num, t, hR⟩
              case measure => simp [intOf]; omega
        · have hR' : sr no zo ro sp (32 - 4 * (k + 1)) = R := by rw [← hR]; congr 1; omega
          clear hR
          go_wp2
          go_roundw
          case rel => exact ⟨k + 1, by omega, by go_num, t, hR'⟩
          case measure => simp [intOf]; omega
    · obtain rfl : k = 8 := by omega
      have hRn : R = none := hR.symm
      subst hRn
      go_wp2
      go_ret
      exact ⟨by rw [hfs]; rfl, t.up⟩
end Go.Proofs.AO
