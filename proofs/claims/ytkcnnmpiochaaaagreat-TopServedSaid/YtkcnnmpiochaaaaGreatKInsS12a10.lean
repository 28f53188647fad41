/- The summary of slices.Insert of one object into 12 at 10, for the evaluator. No conditions beside those in its theorems. -/
import Derived.Test.YtkcnnmpiochaaaaGreatIns12a10
import Derived.Test.YtkcnnmpiochaaaaGreatKTabF
import Derived.Test.YtkcnnmpiochaaaaGreatKE7
set_option linter.unusedVariables false
noncomputable section
namespace Go.Proofs
open Go.Shelf Go.RowKit Go.Lib Eng
namespace Ins12a10
variable {C : Cfg} {σ : Sig} {ρ : Rho}
theorem setCells_put {w : World} {r o : Nat} {e : TypeId} {cur : Array Value} {vs : List Value} (hw : w.heap[r]? = some (.cells cur e (0, 0))) (hl : o + vs.length ≤ cur.size) (h1 : ∀ v ∈ vs, v.oneCell' = true) :
    w.setCells r o vs = putObj w r (.cells (cur.toList.take o ++ vs ++ cur.toList.drop (o + vs.length)).toArray e (0, 0)) := by
  have a := run_storeCells_at (P := Tryz.prog) r o e vs 0 cur w hw (by omega) h1
  have b := run_storeCells_cells (P := Tryz.prog) r o vs 0 w (fun j hj => by
      simp only [World.cell?, hw]
      rw [Array.getElem?_eq_getElem (by omega)]; rfl) (fun j hj => by simp [World.frozen?, hw]) h1
  rw [setRow_putObj w r cur _ e hw] at a
  rw [a] at b
  simp only [Nat.add_zero] at b
  injection b with _ hb
  exact hb.symm
def insL (cs ds : List A) : List A := app (takeL cs 90) (app ds (dropL 90 cs))
def sibNot (s : Option Nat) (v : Nat) : Bool := match s with | none => true | some x => bnot (Nat.beq x v)
def insO (args : List AV) (h : H) : Option (AV × H) :=
  match args with
  | [.one (.fsl b o n es), .one (.int .i64 (.ofNat i)), .one (.slice v p m mc)] =>
    bif Nat.beq o 0 && (Nat.beq n 12 && (Nat.beq es 9 && (Nat.beq i 10 && (Nat.beq p 0 && (Nat.beq m 1 && bnot (Nat.beq b v)))))) then
      match h.get b with
      | some (.cells c k f s) => match h.get v with
        | some (.cells d j g none) => bif Nat.ble 108 k && (Nat.ble 9 j && sibNot s v) then
            match T.slice c 0 108 with
            | some cs => match T.slice d 0 9 with
              | some ds => some (.one (.fsl h.2 0 13 9), sibDie ((h.new (.cells (T.ofList (insL cs ds)) 117 false none)).put b .dead) s)
              | none => none
            | none => none
          else none
        | _ => none
      | _ => none
    else none
  | _ => none
theorem callR_of_calls {f : FuncId} {args : Array Value} {w w' : World} {v : Value} (he : Enters Tryz.prog f) (h : Calls Tryz.prog f args w fun e W => e = .returned v ∧ W = w') : CallR Tryz.prog f args w v w' := by
  refine ⟨he, fun cs => ?_⟩
  obtain ⟨e, W, fr, ⟨rfl, rfl⟩, h1, h2, h3⟩ := h cs
  exact ⟨fr, h1, h2, h3⟩
theorem drop_app {α : Type} {a b : List α} {n k : Nat} (h : a.length = n) : (a ++ b).drop (n + k) = b.drop k := by
  subst h
  rw [List.drop_append, List.drop_of_length_le (by omega), List.nil_append]
  congr 1
  omega
theorem push_set (l : Array Obj) (x y z : Obj) : ((l.push x).setIfInBounds l.size y).setIfInBounds l.size z = l.push z := by
  apply Array.ext_getElem?
  intro i
  by_cases hi : i = l.size
  · subst hi; simp
  · simp [Array.getElem?_push, hi, Ne.symm hi]
theorem put_put (w : World) (r : Nat) (o1 o2 : Obj) : putObj (putObj w r o1) r o2 = putObj w r o2 := by
  simp [putObj]
theorem insO_ok {args : List AV} {h h' : H} {v : AV} (hk : insO args h = some (v, h')) {w : World} {vals : List Value} (hr : Rel ρ σ C h w) (ha : F2 (AVR ρ σ) args vals) :
    ∃ v' w' ρ', CallR Tryz.prog 146 vals.toArray w v' w' ∧ AVR ρ' σ v v' ∧ Rel ρ' σ C h' w' ∧ Ext ρ ρ' h h' w w' := by
  unfold insO at hk
  split at hk
  · rename_i b o n es i v0 p m mc
    cases hcond : (Nat.beq o 0 && (Nat.beq n 12 && (Nat.beq es 9 && (Nat.beq i 10 && (Nat.beq p 0 && (Nat.beq m 1 && bnot (Nat.beq b v0))))))) with
    | false => rw [hcond] at hk; cases hk
    | true =>
    rw [hcond] at hk
    simp only [cond_true] at hk
    simp only [Bool.and_eq_true] at hcond
    obtain ⟨q1, q2, q3, q4, q5, q6, q7⟩ := hcond
    have q1 := beq_eq q1
    have q2 := beq_eq q2
    have q3 := beq_eq q3
    have q4 := beq_eq q4
    have q5 := beq_eq q5
    have q6 := beq_eq q6
    subst q1 q2 q3 q4 q5 q6
    have hbv : b ≠ v0 := fun e => by subst e; simp [bnot_eq] at q7
    split at hk
    · rename_i c k f sb hgb
      split at hk
      · rename_i d j g hgv
        cases hc2 : (Nat.ble 108 k && (Nat.ble 9 j && sibNot sb v0)) with
        | false => rw [hc2] at hk; cases hk
        | true =>
        rw [hc2] at hk
        simp only [cond_true] at hk
        simp only [Bool.and_eq_true] at hc2
        have hkk := ble_le hc2.1
        have hj9 := ble_le hc2.2.1
        have hsn := hc2.2.2
        split at hk
        · rename_i cs hcs
          split at hk
          · rename_i ds hds
            cases hk
            -- the arguments
            cases ha with
            | cons ha0 ha =>
            cases ha with
            | cons ha1 ha =>
            cases ha with
            | cons ha2 ha =>
            cases ha
            obtain ⟨r, S, cap, hρb, rfl, hS⟩ := ha0
            obtain rfl := ha1
            obtain ⟨r2, S2, hρv, rfl⟩ := ha2
            obtain ⟨ob, hob, hx⟩ := hr.blk b r S hρb
            obtain ⟨cs0, e, rfl, i1, i2, i3, i4⟩ := hx _ hgb
            obtain ⟨ob2, hob2, hx2⟩ := hr.blk v0 r2 S2 hρv
            obtain ⟨ds0, e2, rfl, j1, j2, j3, j4⟩ := hx2 _ hgv
            obtain ⟨olds, hfo, hol, hoc⟩ := hr.cells hρb hgb (off := 0) (m := 108) (by omega) hcs
            obtain ⟨news, hfn, hnl, hnc⟩ := hr.cells hρv hgv (off := 0) (m := 9) (by omega) hds
            have hne : r2 ≠ r := by
              intro e1
              subst e1
              rcases hr.inj b v0 r2 S S2 hρb hρv ⟨_, hgb, by simp⟩ ⟨_, hgv, by simp⟩ with e3 | ⟨_, _, _, e3⟩
              · exact hbv e3
              · rw [hgb] at e3; cases e3; simp [sibNot, bnot_eq] at hsn
            have hoc' : ∀ j v, olds[j]? = some v → w.cell? ⟨r, j, none⟩ = some v := fun j v hv => by
              have := hoc j v hv
              rwa [Addr.add_lit, Nat.zero_add] at this
            have hnc' : ∀ j v, news[j]? = some v → w.cell? ⟨r2, j, none⟩ = some v := fun j v hv => by
              have := hnc j v hv
              rwa [Addr.add_lit, Nat.zero_add] at this
            have h1o := hfo.one
            have h1n := hfn.one
            have hF : F2 (AR ρ σ) (insL cs ds) (olds.take 90 ++ (news ++ olds.drop 90)) := by
              unfold insL
              rw [app_eq, app_eq, takeL_eq, dropL_eq]
              exact (hfo.take 90).append (hfn.append (hfo.drop 90))
            have hen : Enters Tryz.prog 146 := by
              obtain ⟨fn, hfn, hbody, _, _, hname⟩ := Tab.fu146.ex
              exact fun args w => by simp [callFunc, hfn, hname, hbody]
            have hlt := hr.lt_size hρb
            by_cases hcap : cap = 12
            · subst hcap
              obtain ⟨i0, hi0, hz1, hz2, z, hz, zs, hzc, _, hzl0, _⟩ := Tab.ty104.info
              have hzl : zs.length = 9 := by
                rename_i hz3 _
                have := (hz3 ρ σ).length
                rw [← this]; rfl
              have hcall := callR_of_calls hen (grow r r2 mc olds news zs w i0 z hi0 hz hz1 hz2 hzc hzl hol hnl hoc' hnc' h1o h1n)
              have hge := grownCap_ge w 13 12 104
              obtain ⟨G, hG⟩ : ∃ G, G = grownCap w 13 12 104 := ⟨_, rfl⟩
              rw [← hG] at hcall hge
              have hzn : ∀ m, (Builtin.zeroCells z.cells m).size = m * 9 := fun m => by rw [size_zeroCells, hzc]; simp [hzl]
              obtain ⟨V, hV⟩ : ∃ V, V = olds.take 90 ++ (news ++ olds.drop 90) := ⟨_, rfl⟩
              rw [← hV] at hF
              have hVl : V.length = 117 := by rw [hV]; simp; omega
              have hw : (((w.alloc (.cells ((olds.take 90).toArray ++ Builtin.zeroCells z.cells 3 ++ Builtin.zeroCells z.cells (G - 13)) 104)).drew.setCells w.heap.size 90 news).drew).setCells w.heap.size 99 (olds.drop 90) =
                  push { w with drawn := w.drawn + 1 + 1 } (.cells (V.toArray ++ Builtin.zeroCells z.cells (G - 13)) 104 (0, 0)) := by
                obtain ⟨R0, hR0⟩ : ∃ R0 : Array Value, R0 = (olds.take 90).toArray ++ Builtin.zeroCells z.cells 3 ++ Builtin.zeroCells z.cells (G - 13) := ⟨_, rfl⟩
                have hR0s : R0.size = 117 + (G - 13) * 9 := by rw [hR0]; simp [hzn]; omega
                rw [← hR0]
                have g1 : ((w.alloc (.cells R0 104)).drew).heap[w.heap.size]? = some (.cells R0 104 (0, 0)) := by
                  show (w.heap.push _)[w.heap.size]? = _
                  simp
                rw [setCells_put g1 (by omega) h1n]
                obtain ⟨R1, hR1⟩ : ∃ R1 : Array Value, R1 = (R0.toList.take 90 ++ news ++ R0.toList.drop (90 + news.length)).toArray := ⟨_, rfl⟩
                rw [← hR1]
                have hR1s : R1.size = 117 + (G - 13) * 9 := by rw [hR1]; simp; omega
                have g2 : ((putObj ((w.alloc (.cells R0 104)).drew) w.heap.size (.cells R1 104 (0, 0))).drew).heap[w.heap.size]? = some (.cells R1 104 (0, 0)) := by
                  show (putObj ((w.alloc (.cells R0 104)).drew) w.heap.size (.cells R1 104 (0, 0))).heap[w.heap.size]? = _
                  exact putObj_self _ _ (by show w.heap.size < (w.heap.push _).size; simp)
                rw [setCells_put g2 (by simp; omega) (fun v hv => h1o v (List.mem_of_mem_drop hv))]
                have hrow : (R1.toList.take 99 ++ olds.drop 90 ++ R1.toList.drop (99 + (olds.drop 90).length)).toArray = V.toArray ++ Builtin.zeroCells z.cells (G - 13) := by
                  have hZ : (Builtin.zeroCells z.cells 3).toList.length = 27 := by rw [Array.length_toList, hzn]
                  have hT : (olds.take 90).length = 90 := by simp; omega
                  have a0 : R0.toList = olds.take 90 ++ ((Builtin.zeroCells z.cells 3).toList ++ (Builtin.zeroCells z.cells (G - 13)).toList) := by rw [hR0]; simp
                  have a1 : R0.toList.take 90 = olds.take 90 := by rw [a0, List.take_append_of_le_length (by omega), List.take_of_length_le (by omega)]
                  have a2 : R0.toList.drop (90 + news.length) = (Builtin.zeroCells z.cells 3).toList.drop 9 ++ (Builtin.zeroCells z.cells (G - 13)).toList := by
                    rw [a0, hnl, drop_app hT, List.drop_append_of_le_length (by omega)]
                  have a3 : R1.toList = olds.take 90 ++ news ++ ((Builtin.zeroCells z.cells 3).toList.drop 9 ++ (Builtin.zeroCells z.cells (G - 13)).toList) := by rw [hR1, a1, a2]
                  have hTn : (olds.take 90 ++ news).length = 99 := by rw [List.length_append, hT, hnl]
                  have a4 : R1.toList.take 99 = olds.take 90 ++ news := by rw [a3, List.take_append_of_le_length (by omega), List.take_of_length_le (by omega)]
                  have a5 : R1.toList.drop (99 + (olds.drop 90).length) = (Builtin.zeroCells z.cells (G - 13)).toList := by
                    have hd : (olds.drop 90).length = 18 := by simp; omega
                    rw [a3, hd, drop_app hTn]
                    exact drop_app (k := 0) (by rw [List.length_drop]; omega)
                  rw [a4, a5, hV]
                  apply Array.ext'
                  simp
                rw [hrow]
                show ({ w with heap := ((w.heap.push _).setIfInBounds w.heap.size _).setIfInBounds w.heap.size _, drawn := w.drawn + 1 + 1 } : World) = { w with heap := w.heap.push _, drawn := w.drawn + 1 + 1 }
                rw [push_set]
              rw [hw] at hcall
              obtain ⟨hB, _, _⟩ := hr.grow hF (size := 9) (need := 13) (cap := G) (by rw [← hF.length.symm, hVl]) hge (z := z.cells) (by rw [hzc]; simp [hzl]) 104 none (w.drawn + 1 + 1)
              obtain ⟨x1, x2⟩ := hr.mayNew hρb hgb (dn := w.drawn + 1 + 1) hB (Y := .dead) (.inl rfl)
              exact ⟨_, _, _, hcall, ⟨w.heap.size, G * 9, G, upd_self _ _ _, rfl, by omega⟩, x1, x2⟩
            · have hc4 : 13 ≤ cap := by omega
              have hsz0 : 117 ≤ cs0.size := by omega
              have hcall := callR_of_calls hen (shift r r2 cap mc olds news w hc4 hne hol hnl hoc' (fun j hj => by
                  rw [cell_of hob, Array.getElem?_eq_getElem (by omega)]; rfl) (fun j hj => by simp [World.frozen?, hob]) hnc' h1o h1n e2 e ds0.size cs0.size (by simp [World.shape?, hob2]) (by simp [World.shape?, hob]) (by omega) (by simp [World.frozen?, hob2]) (by simp [World.frozen?, hob2]))
              obtain ⟨V, hV⟩ : ∃ V, V = olds.take 90 ++ (news ++ olds.drop 90) := ⟨_, rfl⟩
              rw [← hV] at hF
              have hVl : V.length = 117 := by rw [hV]; simp; omega
              have hd : (olds.drop 90).length = 18 := by simp; omega
              have hot : cs0.toList.take 108 = olds := by
                apply List.ext_getElem?
                intro t
                by_cases ht : t < 108
                · rw [List.getElem?_take_of_lt ht]
                  have hq : olds[t]? = some olds[t] := List.getElem?_eq_getElem (by omega)
                  have := hoc' t _ hq
                  rw [cell_of hob] at this
                  rw [hq, Array.getElem?_toList]
                  exact this
                · rw [List.getElem?_eq_none (by simp; omega), List.getElem?_eq_none (by omega)]
              have hw : (w.drew.setCells r 99 (olds.drop 90)).setCells r 90 news = putObj w.drew r (.cells (V ++ cs0.toList.drop 117).toArray e (0, 0)) := by
                rw [setCells_put (w := w.drew) hob (by omega) (fun v hv => h1o v (List.mem_of_mem_drop hv))]
                obtain ⟨R1, hR1⟩ : ∃ R1 : Array Value, R1 = (cs0.toList.take 99 ++ olds.drop 90 ++ cs0.toList.drop (99 + (olds.drop 90).length)).toArray := ⟨_, rfl⟩
                rw [← hR1]
                have hR1s : R1.size = cs0.size := by rw [hR1]; simp; omega
                have g2 : (putObj w.drew r (.cells R1 e (0, 0))).heap[r]? = some (.cells R1 e (0, 0)) := putObj_self _ _ hlt
                rw [setCells_put g2 (by omega) h1n, put_put]
                have hot2 : cs0.toList.take 99 = olds.take 99 := by rw [← hot, List.take_take]; rfl
                have hol2 : (olds.take 99).length = 99 := by rw [List.length_take]; omega
                have a3 : R1.toList = olds.take 99 ++ (olds.drop 90 ++ cs0.toList.drop 117) := by rw [hR1, hot2, hd]; simp
                have a4 : R1.toList.take 90 = olds.take 90 := by rw [a3, List.take_append_of_le_length (by omega), List.take_take]; rfl
                have a5 : R1.toList.drop (90 + news.length) = olds.drop 90 ++ cs0.toList.drop 117 := by
                  rw [a3, hnl]
                  exact drop_app (k := 0) hol2
                rw [a4, a5, hV]
                simp
              rw [hw] at hcall
              have hX : BR ρ σ C (.cells (T.ofList (insL cs ds)) 117 false (bif false then some b else none)) (.cells (V ++ cs0.toList.drop 117).toArray e (0, 0)) S := by
                refine ⟨_, e, rfl, by simp; omega, by omega, by simp, ?_⟩
                intro t a ht hga
                obtain ⟨v, hv, har⟩ := hF.get (T.get_ofList hga)
                refine ⟨v, ?_, har⟩
                simp only [List.getElem?_toArray]
                rw [List.getElem?_append_left (by omega)]
                exact hv
              obtain ⟨x1, x2⟩ := (hr.drew (w.drawn + 1)).mayOld hρb hgb (keep := false) hX (fun h => nomatch h)
              exact ⟨_, _, _, hcall, ⟨r, S, cap, upd_self _ _ _, rfl, hS⟩, x1, (Ext.drew hr (w.drawn + 1)).trans hr (hr.drew (w.drawn + 1)) x2⟩
          · cases hk
        · cases hk
      · cases hk
    · cases hk
  · cases hk
def extI (ext : FuncId → List AV → H → Option (AV × H)) (f : FuncId) (args : List AV) (h : H) : Option (AV × H) :=
  @Bool.rec (fun _ => Option (AV × H)) (ext f args h) (@Option.rec (AV × H) (fun _ => Option (AV × H)) (ext f args h) (fun r => some r) (insO args h)) (Nat.beq f 146)
theorem extI_ok {ext : FuncId → List AV → H → Option (AV × H)} (h0 : ExtS Tryz.prog σ C ext) : ExtS Tryz.prog σ C (extI ext) := by
  intro f args h v h' hk ρ w vs hr ha
  unfold extI at hk
  cases hb : Nat.beq f 146 with
  | false => rw [hb] at hk; exact h0 f args h v h' hk ρ w vs hr ha
  | true =>
    rw [hb] at hk
    have hf := beq_eq hb
    subst hf
    cases hi : insO args h with
    | none => rw [hi] at hk; exact h0 146 args h v h' hk ρ w vs hr ha
    | some q =>
      rw [hi] at hk
      cases hk
      exact insO_ok hi hr ha
end Ins12a10
end Go.Proofs
