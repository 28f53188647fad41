/- The engine, part 4: ranges, copying, append and calls of the evaluator are right. No conditions beside those in its theorems. -/
import Derived.Test.YtikjmnimdlcehaaGreatE3
import Derived.Deep.AppendSrc
import Derived.Room.Entries
import Derived.Lib.AppendZeros
import Derived.AtR
import Derived.RangeFuncRecord
set_option linter.unusedVariables false
noncomputable section
namespace Eng
open Go
variable {ρ ρ' : Rho} {σ : Sig} {C : Cfg} {P : Program} {nl : Nat} {o : Oper}

theorem mapEntry_eff {t : TypeId} {m q : Operand} (ho : o.op = .mapEntry t m q) : EffL C nl o (runOp (keyK C t fun ka kc => cMapV C t fun z => .n2 (opMapEntry C ka kc z) (od nl m) (od nl q))) := by
  refine keyK_ind (fun a => EffL C nl o (runOp a)) bad_eff ?_
  intro ti kt et tt kc ht hu0 htt hkc
  refine cMapV_ind (fun a => EffL C nl o (runOp a)) bad_eff ?_
  intro ti' kt' et' ei z ht' hu0' hei hz
  rw [ht] at ht'; cases ht'
  rw [hu0] at hu0'; cases hu0'
  intro rec X k pt tl h r hk
  obtain ⟨u, hu, hk1⟩ := ev_some (show ev (od nl m) pt tl _ = some r from hk)
  obtain ⟨b, es, clock, rfl, hg, hk2⟩ := mapK_some hk1
  obtain ⟨u', hu', hk3⟩ := ev_some (show ev (od nl q) pt tl _ = some r from hk2)
  obtain ⟨qv, rfl, hk4⟩ := vK_some hk3
  obtain ⟨hok, hk7⟩ := ifK_some hk4
  have hexec : ∀ {P : Program} {σ : Sig} {ρ : Rho} {e : Operand → Value}, OpdR ρ σ nl o.op pt tl e → (∃ rr S, ρ b = some (rr, S) ∧ e m = .map (some rr)) ∧ VR ρ σ qv (e q) ∧
      ∀ w w' v, (Instr.mapEntry t (e m) (e q)).run P w = .ok v w' → Exec P e o w v w' := by
    intro P σ ρ e hop
    refine ⟨hop m (by simp [ho, Op.operands]) _ hu, AVR.ofV _ _ (hop q (by simp [ho, Op.operands]) _ hu'), ?_⟩
    intro w w' v hrun
    left
    simp [execOp, ho, hrun]
  cases hfind : findK C tt.agg kc qv es 0 with
  | none => rw [hfind] at hk7; cases hk7
  | some res =>
    rw [hfind] at hk7
    cases res with
    | none =>
      refine ⟨_, _, hk7, ?_⟩
      intro P σ ρ e w hc hr hop
      obtain ⟨⟨rr, S, hb, hm⟩, hq, hex⟩ := hexec (P := P) hop
      have h1 := (hc.ty t ti ht).runUnd w
      rw [hu0] at h1
      obtain ⟨zv, hz1, hz2⟩ := zeroV_run (hc.ty _ ei hei) hz w
      obtain ⟨ms, hw, hms⟩ := hr.map hb hg
      rcases findKey_run hc hkc htt hq w hms hfind with ⟨_, hf⟩ | ⟨j, e', m', h2, _⟩
      · have hnew : F2 (MER ρ σ) (app es [⟨qv, z, clock⟩]) (ms ++ [({ key := e q, val := zv, born := clock } : MapEntry)]) := by
          rw [app_eq]; exact hms.append (.cons (show MER ρ σ ⟨qv, z, clock⟩ { key := e q, val := zv, born := clock } from ⟨hq, hz2 ρ σ, rfl⟩) .nil)
        obtain ⟨r1, x1⟩ := hr.putMap hb hg (clock' := clock + 1) hnew
        refine ⟨.tuple #[zv, goInt clock], _, ρ, hex w _ _ ?_, ⟨[zv, goInt clock], rfl, .cons (hz2 ρ σ) (.cons rfl .nil)⟩, r1, x1⟩
        have h3 := keyOk_run hc hkc htt hq hok false w
        have h4 := run_setMap (P := P) (.map (ms ++ [({ key := e q, val := zv, born := clock } : MapEntry)]).toArray (clock + 1)) hw
        simp only [Instr.mapEntry, Sem.run_bind, h1, Result.andThen_ok, hm, run_getMap (P := P) hw, h3, hf, hz1, List.push_toArray]
        rw [h4]
        rfl
      · cases h2
    | some p =>
      obtain ⟨j, e0⟩ := p
      refine ⟨_, _, hk7, ?_⟩
      intro P σ ρ e w hc hr hop
      obtain ⟨⟨rr, S, hb, hm⟩, hq, hex⟩ := hexec (P := P) hop
      have h1 := (hc.ty t ti ht).runUnd w
      rw [hu0] at h1
      obtain ⟨ms, hw, hms⟩ := hr.map hb hg
      rcases findKey_run hc hkc htt hq w hms hfind with ⟨h2, _⟩ | ⟨j', e', m', h2, he', hm', hf, heq⟩
      · cases h2
      · cases h2
        obtain ⟨m2, hm2, hmr⟩ := hms.get he'
        rw [hm'] at hm2; cases hm2
        obtain ⟨hkey, hsame⟩ := eqV_true hc heq hq hmr.1
        have hnew : F2 (MER ρ σ) (modNth es j ⟨qv, e0.val, e0.born⟩) (ms.set j { m' with key := e q }) := by
          rw [modNth_eq]; exact hms.set (show MER ρ σ ⟨qv, e0.val, e0.born⟩ { m' with key := e q } from ⟨hq, hmr.2.1, hmr.2.2⟩) j
        obtain ⟨r1, x1⟩ := hr.putMap hb hg (clock' := clock) hnew
        refine ⟨.tuple #[m'.val, goInt m'.born], _, ρ, hex w _ _ ?_, ⟨[m'.val, goInt m'.born], rfl, .cons hmr.2.1 (.cons (by rw [hmr.2.2]; rfl) .nil)⟩, r1, x1⟩
        have h3 := keyOk_run hc hkc htt hq hok false w
        have h4 := run_setMap (P := P) (.map (ms.set j { m' with key := e q }).toArray clock) hw
        have h5 := keyStays (P := P) hsame w
        have h6 : ((ms.toArray[j]?).map (·.key)).getD (e q) = e q := by simp [hm', ← hkey]
        simp only [Instr.mapEntry, Sem.run_bind, h1, Result.andThen_ok, hm, run_getMap (P := P) hw, h3, hf, h6, h5]
        rw [modify_set ms j _ hm', h4]
        simp [hm']
theorem setBorn_F2 {st : Nat} {v : V} {va : Value} (hv : VR ρ σ v va) : ∀ {es : List ME} {ms : List MapEntry}, F2 (MER ρ σ) es ms → (es.any fun e => Nat.beq e.born st) = true →
    ∃ i m, ms[i]? = some m ∧ ms.findIdx? (fun e => (e.born : Int) == (st : Int)) = some i ∧ F2 (MER ρ σ) (setBorn st v es) (ms.set i { m with val := va }) := by
  intro es ms hf
  induction hf with
  | nil => intro h; cases h
  | cons hm hf ih =>
    rename_i e m es ms
    intro h
    cases hb : Nat.beq e.born st with
    | true =>
      have e1 := beq_eq hb
      refine ⟨0, m, rfl, ?_, ?_⟩
      · rw [List.findIdx?_cons]
        simp [hm.2.2, e1]
      · have : setBorn st v (e :: es) = ⟨e.key, v, e.born⟩ :: es := by
          show @Bool.rec (fun _ => List ME) (e :: setBorn st v es) (⟨e.key, v, e.born⟩ :: es) (Nat.beq e.born st) = _
          rw [hb]
        rw [this]
        exact .cons ⟨hm.1, hv, hm.2.2⟩ hf
    | false =>
      have e1 := beq_false_ne hb
      have h' : (es.any fun e => Nat.beq e.born st) = true := by
        simp only [List.any_cons, hb, Bool.false_or] at h; exact h
      obtain ⟨i, m', h1, h2, h3⟩ := ih h'
      refine ⟨i + 1, m', h1, ?_, ?_⟩
      · rw [List.findIdx?_cons, h2]
        have : ((m.born : Int) == (st : Int)) = false := by
          rw [hm.2.2]
          simp only [beq_eq_false_iff_ne, ne_eq]
          omega
        simp [this]
      · have : setBorn st v (e :: es) = e :: setBorn st v es := by
          show @Bool.rec (fun _ => List ME) (e :: setBorn st v es) (⟨e.key, v, e.born⟩ :: es) (Nat.beq e.born st) = _
          rw [hb]
        rw [this]
        exact .cons hm h3
theorem entryStore_eff {t : TypeId} {m s x : Operand} (ho : o.op = .entryStore t m s x) : EffL C nl o (runOp (.n3 opEntryStore (od nl m) (od nl s) (od nl x))) := by
  intro rec X k pt tl h r hk
  obtain ⟨u, hu, hk1⟩ := ev_some (show ev (od nl m) pt tl _ = some r from hk)
  obtain ⟨b, es, clock, rfl, hg, hk2⟩ := mapK_some hk1
  obtain ⟨u', hu', hk3⟩ := ev_some (show ev (od nl s) pt tl _ = some r from hk2)
  obtain ⟨q, st, rfl, hk4⟩ := natK_some hk3
  obtain ⟨u'', hu'', hk5⟩ := ev_some (show ev (od nl x) pt tl _ = some r from hk4)
  obtain ⟨xv, rfl, hk6⟩ := vK_some hk5
  obtain ⟨hany, hk7⟩ := ifK_some hk6
  refine ⟨.tup [], _, hk7, ?_⟩
  intro P σ ρ e w hc hr hop
  obtain ⟨rr, S, hb, hm⟩ := hop m (by simp [ho, Op.operands]) _ hu
  have hs : e s = .int q (st : Int) := hop s (by simp [ho, Op.operands]) _ hu'
  have hx := AVR.ofV _ _ (hop x (by simp [ho, Op.operands]) _ hu'')
  obtain ⟨ms, hw, hms⟩ := hr.map hb hg
  obtain ⟨i, m', h1, h2, h3⟩ := setBorn_F2 hx hms hany
  obtain ⟨r1, x1⟩ := hr.putMap hb hg (clock' := clock) h3
  refine ⟨undef, _, ρ, .inr ⟨rfl, ?_⟩, ⟨[], rfl, .nil⟩, r1, x1⟩
  have h4 := run_setMap (P := P) (.map (ms.set i { m' with val := e x }).toArray clock) hw
  have h5 : (asInt (e s)).run P w = .ok (st : Int) w := by rw [hs]; rfl
  have h6 : ms.toArray.findIdx? (fun e => (e.born : Int) == (st : Int)) = some i := by rw [List.findIdx?_toArray]; exact h2
  simp only [execOp, ho, Instr.entryStore, Sem.run_bind, Result.andThen_ok, hm, run_getMap (P := P) hw, h5, h6]
  rw [modify_set ms i _ h1, h4]
  rfl
theorem range_eff {t : TypeId} {x : Operand} (ho : o.op = .range t x) : EffL C nl o (runOp (tyK C t (.n0 opBad) fun ti => match ti.und with | .map .. => .n1 opRange (od nl x) | _ => (.n0 opBad))) := by
  cases ht : C.ty t with
  | none => rw [tyK_none ht]; exact bad_eff
  | some ti =>
    rw [tyK_some ht]
    split
    · rename_i kt et hu0
      intro rec X k pt tl h r hk
      obtain ⟨u, hu, hk1⟩ := ev_some (show ev (od nl x) pt tl _ = some r from hk)
      obtain ⟨a, rfl, hk2⟩ := oneK_some hk1
      cases a with
      | nilm =>
        refine ⟨_, _, hk2, ?_⟩
        intro P σ ρ e w hc hr hop
        have hx : e x = .map none := hop x (by simp [ho, Op.operands]) _ hu
        have h1 := (hc.ty t ti ht).runUnd w
        rw [hu0] at h1
        obtain ⟨r1, x1⟩ := hr.new (.iter none 0 [] 0) (.mapIter none 0 #[] 0) 0 ⟨none, rfl, rfl⟩
        refine ⟨.pointer (some ⟨w.heap.size, 0, none⟩), _, _, .inl ?_, ⟨_, _, upd_self _ _ _, rfl⟩, r1, x1⟩
        simp [execOp, ho, Instr.range, h1, hx, push]
      | map b =>
        have hk3 : (match h.get b with | some (.map _ clock) => k (.one (.ptr h.2 0)) (h.new (.iter (some b) clock [] clock)) | _ => none) = some r := hk2
        split at hk3
        · rename_i es clock hg
          refine ⟨_, _, hk3, ?_⟩
          intro P σ ρ e w hc hr hop
          obtain ⟨rr, S, hb, hm⟩ := hop x (by simp [ho, Op.operands]) _ hu
          have h1 := (hc.ty t ti ht).runUnd w
          rw [hu0] at h1
          obtain ⟨ms, hw, hms⟩ := hr.map hb hg
          obtain ⟨r1, x1⟩ := hr.new (.iter (some b) clock [] clock) (.mapIter (some rr) clock #[] clock) 0 ⟨some rr, rfl, rr, S, hr.sub_upd _ _ _ hb, rfl⟩
          refine ⟨.pointer (some ⟨w.heap.size, 0, none⟩), _, _, .inl ?_, ⟨_, _, upd_self _ _ _, rfl⟩, r1, x1⟩
          simp [execOp, ho, Instr.range, h1, hm, run_getMap (P := P) hw, push]
        · cases hk3
      | _ => cases hk2
    · exact bad_eff
theorem Rel.iter {h : H} {w : World} (hr : Rel ρ σ C h w) {b r S : Nat} (hb : ρ b = some (r, S)) {m : Option Nat} {since last : Nat} {seen : List Nat} (hg : h.get b = some (.iter m since seen last)) :
    ∃ m', w.heap[r]? = some (.mapIter m' since seen.toArray last) ∧ optR ρ m m' := by
  obtain ⟨ob, hw, hx⟩ := hr.blk b r S hb
  obtain ⟨m', rfl, hm⟩ := hx _ hg
  exact ⟨m', hw, hm⟩
theorem run_getIter {w : World} {r since last : Nat} {m : Option Nat} {seen : Array Nat} (hb : w.heap[r]? = some (.mapIter m since seen last)) : (getObj r).run P w = .ok (.mapIter m since seen last) w := by
  simp [getObj, Sem.run, hb]
theorem run_setIter {w : World} {r since last : Nat} {m : Option Nat} {seen : Array Nat} (ob : Obj) (hb : w.heap[r]? = some (.mapIter m since seen last)) : (setObj r ob).run P w = .ok () (putObj w r ob) := by
  simp [setObj, Sem.run, hb, putObj]
theorem nb (a b : Nat) : (a == b) = Nat.beq a b := by
  cases h : Nat.beq a b with
  | true => rw [beq_eq h]; simp
  | false => simp [beq_false_ne h]
theorem leftOf_F2 {seen : List Nat} : ∀ {es : List ME} {ms : List MapEntry}, F2 (MER ρ σ) es ms → F2 (MER ρ σ) (leftOf seen es) (ms.filter fun e => !seen.toArray.contains e.born) := by
  intro es ms hf
  induction hf with
  | nil => exact .nil
  | cons hm hf ih =>
    rename_i e m es ms
    have h1 : leftOf seen (e :: es) = @Bool.rec (fun _ => List ME) (e :: leftOf seen es) (leftOf seen es) (seen.any (Nat.beq e.born)) := rfl
    have h2 : seen.toArray.contains m.born = seen.any (Nat.beq e.born) := by
      rw [hm.2.2]
      simp only [List.contains_toArray]
      clear h1 ih
      induction seen with
      | nil => rfl
      | cons s seen ih =>
        simp only [List.contains_cons, List.any_cons, ih, nb]
    rw [List.filter_cons, h1, h2]
    cases seen.any (Nat.beq e.born) with
    | true => exact ih
    | false => exact .cons hm ih
theorem next_eff {it : Operand} (ho : o.op = .next it false) : EffL C nl o (runOp (.n1 opNext (od nl it))) := by
  intro rec X k pt tl h r hk
  obtain ⟨u, hu, hk1⟩ := ev_some (show ev (od nl it) pt tl _ = some r from hk)
  obtain ⟨b, off, rfl, hk2⟩ := ptrK_some hk1
  obtain ⟨hoff, hk3⟩ := ifK_some hk2
  have hoff := beq_eq hoff
  subst hoff
  split at hk3
  · rename_i since seen last hg
    refine ⟨_, _, hk3, ?_⟩
    intro P σ ρ e w hc hr hop
    obtain ⟨rr, S, hb, he⟩ := hop it (by simp [ho, Op.operands]) _ hu
    obtain ⟨m', hw, hm⟩ := hr.iter hb hg
    have hm : m' = none := hm
    subst hm
    exact ⟨.tuple #[.bool false], w, ρ, .inl (by simp [execOp, ho, Instr.next, he, run_getIter (P := P) hw]), ⟨[.bool false], rfl, .cons rfl .nil⟩, hr, Ext.refl ρ h w hr⟩
  · rename_i m since seen last hg
    split at hk3
    · rename_i es clock hgm
      obtain ⟨hcond, hk4⟩ := ifK_some hk3
      have base : ∀ (P : Program) (σ : Sig) (ρ : Rho) (e : Operand → Value) (w : World), Rel ρ σ C h w → OpdR ρ σ nl o.op pt tl e → ∃ rr S rm Sm, ρ b = some (rr, S) ∧ e it = .pointer (some ⟨rr, 0, none⟩) ∧ ρ m = some (rm, Sm) ∧
          w.heap[rr]? = some (.mapIter (some rm) since seen.toArray last) ∧ ∃ ms : List MapEntry, w.heap[rm]? = some (.map ms.toArray clock) ∧ F2 (MER ρ σ) es ms ∧
            (!seen.toArray.isEmpty && !ms.toArray.isEmpty && ms.toArray.all (·.born ≥ last)) = false := by
        intro P σ ρ e w hr hop
        obtain ⟨rr, S, hb, he⟩ := hop it (by simp [ho, Op.operands]) _ hu
        obtain ⟨m', hw, rm, Sm, hbm, hm⟩ := hr.iter hb hg
        subst hm
        obtain ⟨ms, hwm, hms⟩ := hr.map hbm hgm
        refine ⟨rr, S, rm, Sm, hb, he, hbm, hw, ms, hwm, hms, ?_⟩
        simp only [Bool.or_eq_true] at hcond
        rcases hcond with h1 | h1
        · cases seen with
          | nil => rfl
          | cons s t => cases h1
        · have : ms.toArray.all (·.born ≥ last) = false := by
            simp only [List.any_eq_true] at h1
            obtain ⟨x, hx, hxl⟩ := h1
            have hxl : x.born + 1 ≤ last := ble_le hxl
            obtain ⟨i, hi⟩ := List.getElem?_of_mem hx
            obtain ⟨y, hy, hyr⟩ := hms.get hi
            cases hall : ms.toArray.all (·.born ≥ last) with
            | false => rfl
            | true =>
              simp only [List.all_toArray, List.all_eq_true] at hall
              have := hall y (List.mem_of_getElem? hy)
              simp only [ge_iff_le, decide_eq_true_eq] at this
              have := hyr.2.2
              omega
          rw [this, Bool.and_false]
      split at hk4
      · rename_i hleft
        refine ⟨_, _, hk4, ?_⟩
        intro P σ ρ e w hc hr hop
        obtain ⟨rr, S, rm, Sm, hb, he, hbm, hw, ms, hwm, hms, hbad⟩ := base P σ ρ e w hr hop
        have hl := leftOf_F2 (seen := seen) hms
        rw [hleft] at hl
        have hnil : ms.filter (fun e => !seen.toArray.contains e.born) = [] := by
          generalize ms.filter (fun e => !seen.toArray.contains e.born) = fl at hl
          cases hl with | nil => rfl
        refine ⟨.tuple #[.bool false], w, ρ, .inl ?_, ⟨[.bool false], rfl, .cons rfl .nil⟩, hr, Ext.refl ρ h w hr⟩
        have hfil : ms.toArray.filter (fun e => !seen.toArray.contains e.born) = #[] := by
          apply Array.ext'
          rw [Array.toList_filter]
          exact hnil
        simp only [execOp, ho, Instr.next, he, Sem.run_bind, run_getIter (P := P) hw, run_getMap (P := P) hwm, Result.andThen_ok, hbad, hfil]
        simp [Question.forced]
      · rename_i e0 hleft
        obtain ⟨hsince, hk5⟩ := ifK_some hk4
        have hsince : e0.born + 1 ≤ since := ble_le hsince
        refine ⟨_, _, hk5, ?_⟩
        intro P σ ρ e w hc hr hop
        obtain ⟨rr, S, rm, Sm, hb, he, hbm, hw, ms, hwm, hms, hbad⟩ := base P σ ρ e w hr hop
        have hl := leftOf_F2 (seen := seen) hms
        rw [hleft] at hl
        obtain ⟨m0, hone, hm0⟩ : ∃ m0, ms.filter (fun e => !seen.toArray.contains e.born) = [m0] ∧ MER ρ σ e0 m0 := by
          generalize ms.filter (fun e => !seen.toArray.contains e.born) = fl at hl
          cases hl with
          | cons h0 h1 => cases h1; exact ⟨_, rfl, h0⟩
        have hfil : ms.toArray.filter (fun e => !seen.toArray.contains e.born) = #[m0] := by
          apply Array.ext'
          rw [Array.toList_filter]
          exact hone
        obtain ⟨r1, x1⟩ := hr.put hb ⟨_, hg, by simp⟩ (hr.one hb hg (by simp) (by simp)) (.iter (some m) since (app seen [e0.born]) clock) (.mapIter (some rm) since (seen ++ [e0.born]).toArray clock) ⟨some rm, by rw [app_eq], rm, Sm, hbm, rfl⟩
        refine ⟨.tuple #[.bool true, m0.key, m0.val], _, ρ, .inl ?_, ⟨[.bool true, m0.key, m0.val], rfl, .cons rfl (.cons hm0.1 (.cons hm0.2.1 .nil))⟩, r1, x1⟩
        have hset := run_setIter (P := P) (.mapIter (some rm) since (seen ++ [e0.born]).toArray clock) hw
        have hb0 : m0.born = e0.born := hm0.2.2
        have h8 : (#[m0].filter (·.born < since) : Array MapEntry) = #[m0] := by
          apply Array.ext'; simp [hb0]; omega
        have h9 : (#[m0].filter (·.born ≥ since) : Array MapEntry) = #[] := by
          apply Array.ext'; simp [hb0]; omega
        simp only [execOp, ho, Instr.next, he, Sem.run_bind, run_getIter (P := P) hw, run_getMap (P := P) hwm, Result.andThen_ok, hbad, hfil, h8, h9]
        have h10 : seen.toArray.push e0.born = (seen ++ [e0.born]).toArray := by simp
        simp [Question.forced, hb0, hset]
      · cases hk4
    · cases hk3
  · cases hk3
theorem findBorn_F2 {st : Nat} : ∀ {es : List ME} {ms : List MapEntry}, F2 (MER ρ σ) es ms → ∀ {x : ME}, findBorn st es = some x → ∃ m, ms.find? (·.born == st) = some m ∧ MER ρ σ x m := by
  intro es ms hf
  induction hf with
  | nil => intro x h; cases h
  | cons hm hf ih =>
    rename_i e m es ms
    intro x h
    have h' : @Bool.rec (fun _ => Option ME) (findBorn st es) (some e) (Nat.beq e.born st) = some x := h
    have hb0 : (m.born == st) = Nat.beq e.born st := by rw [hm.2.2, nb]
    cases hb : Nat.beq e.born st with
    | true =>
      rw [hb] at h'
      cases h'
      exact ⟨m, by simp only [List.find?_cons, hb0, hb], hm⟩
    | false =>
      rw [hb] at h'
      obtain ⟨m', h1, h2⟩ := ih h'
      exact ⟨m', by simp only [List.find?_cons, hb0, hb]; exact h1, h2⟩
theorem entry_read {it : Operand} (ho : o.op = .entry it) : ReadL C nl o (runOp (.n1 opEntry (od nl it))) := by
  intro rec X k pt tl h r hk
  obtain ⟨u, hu, hk1⟩ := ev_some (show ev (od nl it) pt tl _ = some r from hk)
  obtain ⟨b, off, rfl, hk2⟩ := ptrK_some hk1
  obtain ⟨hoff, hk3⟩ := ifK_some hk2
  have hoff' := beq_eq hoff
  subst hoff'
  cases hg : h.get b with
  | none => rw [hg] at hk3; cases hk3
  | some blk =>
    rw [hg] at hk3
    cases blk with
    | iter m0 since seen last =>
      cases m0 with
      | none => cases hk3
      | some m =>
        cases hgm : h.get m with
        | none => simp only [hgm] at hk3; cases hk3
        | some mb =>
          simp only [hgm] at hk3
          cases mb with
          | map es clock =>
            obtain ⟨hcl, hk4⟩ := ifK_some hk3
            obtain ⟨st, hst, hk5⟩ := optK_some hk4
            obtain ⟨x, hx, hk6⟩ := optK_some hk5
            refine ⟨.tup [x.key, x.val], ?_, ?_⟩
            · intro rec' X' k'
              show ev (od nl it) pt tl _ = _
              rw [ev_eq hu]
              show ifK (Nat.beq 0 0) _ = _
              rw [ifK_eq hoff, hg]
              simp only [hgm]
              rw [ifK_eq hcl, optK_eq hst, optK_eq hx]
              exact ifK_eq rfl
            · intro P σ ρ e w hc hr hop
              obtain ⟨rr, S, hb, he⟩ := hop it (by simp [ho, Op.operands]) _ hu
              obtain ⟨m', hw, rm, Sm, hbm, hm⟩ := hr.iter hb hg
              subst hm
              obtain ⟨ms, hwm, hms⟩ := hr.map hbm hgm
              obtain ⟨y, hy, hyr⟩ := findBorn_F2 hms hx
              refine ⟨.tuple #[y.key, y.val], .inl ?_, ⟨[y.key, y.val], rfl, .cons hyr.1 (.cons hyr.2.1 .nil)⟩⟩
              have h1 : seen.toArray.back? = some st := by
                unfold lastOf at hst
                simpa using hst
              have h2 : ms.toArray.find? (·.born == st) = some y := by
                rw [List.find?_toArray]; exact hy
              have h3 := beq_eq hcl
              simp only [execOp, ho, Instr.entry, he, Sem.run_bind, run_getIter (P := P) hw, run_getMap (P := P) hwm, Result.andThen_ok, h1, h2, h3]
              simp
          | _ => cases hk3
    | _ => cases hk3
end Eng
end

noncomputable section
namespace Eng
open Go
variable {ρ ρ' : Rho} {σ : Sig} {C : Cfg} {P : Program} {nl : Nat} {o : Oper}

theorem F2.one {l : List A} {vs : List Value} (h : F2 (AR ρ σ) l vs) : ∀ v ∈ vs, v.oneCell' = true := by
  induction h with
  | nil => intro v hv; cases hv
  | cons hab _ ih =>
    intro v hv
    rcases List.mem_cons.1 hv with e | e
    · exact e ▸ oneCell_of_AR hab
    · exact ih v e
theorem firstK_some {h : H} {size n : Nat} {a : A} {k : List A → OR} {r : Rs} (hk : firstK h size n a k = some r) : ∃ l, k l = some r ∧ l.length = n * size ∧
    ∀ (P : Program) (σ : Sig) (ρ : Rho) (w : World) (v : Value), Rel ρ σ C h w → AR ρ σ a v → ∃ vs : List Value, F2 (AR ρ σ) l vs ∧ ∀ dn, (Builtin.firstCells size n v).run P { w with drawn := dn } = .ok vs.toArray { w with drawn := dn } := by
  have sl : ∀ b off, (∀ (ρ : Rho) (σ : Sig) v, AR ρ σ a v → ∃ rr S ln c, ρ b = some (rr, S) ∧ v = .slice (some ⟨rr, off, none⟩) ln c) → h.readN b off (Nat.mul n size) k = some r → ∃ l, k l = some r ∧ l.length = n * size ∧
      ∀ (P : Program) (σ : Sig) (ρ : Rho) (w : World) (v : Value), Rel ρ σ C h w → AR ρ σ a v → ∃ vs : List Value, F2 (AR ρ σ) l vs ∧ ∀ dn, (Builtin.firstCells size n v).run P { w with drawn := dn } = .ok vs.toArray { w with drawn := dn } := by
    intro b off hv hk
    obtain ⟨c, m, f, s, l, hg, hle, hl, hk1⟩ := readN_some hk
    refine ⟨l, hk1, (T.slice_get _ _ _ _ hl).1, ?_⟩
    intro P σ ρ w v hr ha
    obtain ⟨rr, S, ln, cp, hb, rfl⟩ := hv ρ σ v ha
    obtain ⟨vs, hf, hlen, hc⟩ := hr.cells hb hg hle hl
    refine ⟨vs, hf, fun dn => ?_⟩
    have h3 := run_loadCells_list (P := P) (w := { w with drawn := dn }) ⟨rr, off, none⟩ vs hc
    rw [hlen] at h3
    exact h3
  cases a with
  | slice b off ln c => exact sl b off (fun ρ σ v ⟨r, S, h1, h2⟩ => ⟨r, S, _, _, h1, h2⟩) hk
  | fsl b off ln es => exact sl b off (fun ρ σ v ⟨r, S, c, h1, h2, _⟩ => ⟨r, S, _, _, h1, h2⟩) hk
  | nils =>
    obtain ⟨h0, hk1⟩ := ifK_some hk
    have := beq_eq h0
    subst this
    refine ⟨[], hk1, by simp, ?_⟩
    intro P σ ρ w v _ hv
    have hv : v = _ := hv
    exact ⟨[], .nil, fun _ => by rw [hv]; rfl⟩
  | emp =>
    obtain ⟨h0, hk1⟩ := ifK_some hk
    have := beq_eq h0
    subst this
    refine ⟨[], hk1, by simp, ?_⟩
    intro P σ ρ w v _ hv
    obtain ⟨a, c, rfl⟩ := hv
    exact ⟨[], .nil, fun _ => by simp [Builtin.firstCells, loadCells, loadCellsFrom]⟩
  | _ => cases hk
theorem storeAt_some {h : H} {a : A} {cs : List A} {k : H → OR} {r : Rs} (hk : storeAtK h a cs k = some r) : ∃ h', k h' = some r ∧
    ∀ (P : Program) (σ : Sig) (ρ : Rho) (w : World) (v : Value) (vs : List Value), Rel ρ σ C h w → AR ρ σ a v → F2 (AR ρ σ) cs vs → ∃ base ln c w', v = .slice base ln c ∧
      ((base = none ∧ w' = w ∧ vs = []) ∨ ∃ ad, base = some ad ∧ (storeCells ad vs).run P w = .ok () w') ∧ Rel ρ σ C h' w' ∧ Ext ρ ρ h h' w w' := by
  have sl : ∀ b off, (∀ (ρ : Rho) (σ : Sig) v, AR ρ σ a v → ∃ rr S ln c, ρ b = some (rr, S) ∧ v = .slice (some ⟨rr, off, none⟩) ln c) → h.write b off cs k = some r → ∃ h', k h' = some r ∧
      ∀ (P : Program) (σ : Sig) (ρ : Rho) (w : World) (v : Value) (vs : List Value), Rel ρ σ C h w → AR ρ σ a v → F2 (AR ρ σ) cs vs → ∃ base ln c w', v = .slice base ln c ∧
        ((base = none ∧ w' = w ∧ vs = []) ∨ ∃ ad, base = some ad ∧ (storeCells ad vs).run P w = .ok () w') ∧ Rel ρ σ C h' w' ∧ Ext ρ ρ h h' w w' := by
    intro b off hv hk
    obtain ⟨c, m, f, s, hg, hle, hk1⟩ := write_some hk
    refine ⟨_, hk1, ?_⟩
    intro P σ ρ w v vs hr ha hf
    obtain ⟨rr, S, ln, cp, hb, rfl⟩ := hv ρ σ v ha
    obtain ⟨w', h3, h4, h5⟩ := hr.write (P := P) hb hg hle hf
    exact ⟨_, _, _, w', rfl, .inr ⟨_, rfl, h3⟩, h4, h5⟩
  cases a with
  | slice b off ln c => exact sl b off (fun ρ σ v ⟨r, S, h1, h2⟩ => ⟨r, S, _, _, h1, h2⟩) hk
  | fsl b off ln es => exact sl b off (fun ρ σ v ⟨r, S, c, h1, h2, _⟩ => ⟨r, S, _, _, h1, h2⟩) hk
  | nils =>
    have hk' : (bif cs.isEmpty then k h else none) = some r := hk
    cases cs with
    | cons _ _ => cases hk'
    | nil =>
      refine ⟨h, hk', ?_⟩
      intro P σ ρ w v vs hr hv hf
      cases hf
      have hv : v = _ := hv
      exact ⟨none, 0, 0, w, hv, .inl ⟨rfl, rfl, rfl⟩, hr, Ext.refl ρ h w hr⟩
  | emp =>
    have hk' : (bif cs.isEmpty then k h else none) = some r := hk
    cases cs with
    | cons _ _ => cases hk'
    | nil =>
      refine ⟨h, hk', ?_⟩
      intro P σ ρ w v vs hr hv hf
      cases hf
      obtain ⟨a, c, rfl⟩ := hv
      exact ⟨some a, 0, c, w, rfl, .inr ⟨a, rfl, rfl⟩, hr, Ext.refl ρ h w hr⟩
  | _ => cases hk
theorem copy_eff {c : Call} {t el : TypeId} {ts : List TypeId} {d s : Operand} {ti ei : TI} (ho : o.op = .call c) (hcal : c.callee = .builtin .copy) (hts : c.argTypes.toList = t :: ts) (hxs : c.args.toList = [d, s])
    (ht : C.ty t = some ti) (hu0 : ti.und = .slice el) (hei : C.ty el = some ei) : EffL C nl o (runOp (.n2 (opCopy ei.size) (od nl d) (od nl s))) := by
  intro rec X k pt tl h r hk
  obtain ⟨u, hu, hk1⟩ := ev_some (show ev (od nl d) pt tl _ = some r from hk)
  obtain ⟨da, rfl, hk2⟩ := oneK_some hk1
  obtain ⟨n2, hk3, _, hn2⟩ := lenA_some hk2
  obtain ⟨u', hu', hk4⟩ := ev_some (show ev (od nl s) pt tl _ = some r from hk3)
  obtain ⟨sa, rfl, hk5⟩ := oneK_some hk4
  obtain ⟨n1, hk6, _, hn1⟩ := lenA_some hk5
  obtain ⟨cs, hk7, hlen, hfirst⟩ := firstK_some (C := C) hk6
  obtain ⟨h', hk8, hstore⟩ := storeAt_some (C := C) hk7
  refine ⟨_, h', hk8, ?_⟩
  intro P σ ρ e w hc hr hop
  have hd := hop d (by simp [ho, Op.operands, Call.operands, hcal, arr2 hxs]) _ hu
  have hs := hop s (by simp [ho, Op.operands, Call.operands, hcal, arr2 hxs]) _ hu'
  obtain ⟨bs, cps, hsv⟩ := hn1 ρ σ _ hs
  obtain ⟨bd, cpd, hdv⟩ := hn2 ρ σ _ hd
  obtain ⟨vs, hf, hrun⟩ := hfirst P σ ρ w _ hr hs
  have hrun : (Builtin.firstCells ei.size (Nat.min n1 n2) (e s)).run P w = .ok vs.toArray w := hrun w.drawn
  obtain ⟨base, ln, cp, w', hv, hst, hr', hx'⟩ := hstore P σ ρ w _ vs hr hd hf
  rw [hdv] at hv
  cases hv
  have h1 := (hc.ty t ti ht).runUnd w
  have h2 := (hc.ty el ei hei).runSize w
  rw [hu0] at h1
  refine ⟨goInt (Nat.min n1 n2), w', ρ, .inl ?_, rfl, hr', hx'⟩
  rw [exec_b ho hcal]
  have ha : Array.map e c.args = #[e d, e s] := by rw [arr2 hxs]; simp
  have hl : (Builtin.lenOf (e s)).run P w = .ok n1 w := by rw [hsv]; rfl
  rcases hst with ⟨rfl, rfl, rfl⟩ | ⟨ad, rfl, hst⟩
  · simp only [builtin, Builtin.copy_, arr0 hts, ha, Sem.run_bind, hdv]
    simp [h1, hl, h2, hrun]
  · have hst' : (storeCells ad vs).run P w = .ok () w' := hst
    simp only [builtin, Builtin.copy_, arr0 hts, ha, Sem.run_bind, hdv]
    simp [h1, hl, h2, hrun, hst']
theorem clear_eff {c : Call} {t el : TypeId} {ts : List TypeId} {x : Operand} {ti ei : TI} (ho : o.op = .call c) (hcal : c.callee = .builtin .clear) (hts : c.argTypes.toList = t :: ts) (hxs : c.args.toList = [x])
    (ht : C.ty t = some ti) (hu0 : ti.und = .slice el) (hei : C.ty el = some ei) : EffL C nl o (runOp (.n1 (opClearS ei.zero) (od nl x))) := by
  intro rec X k pt tl h r hk
  obtain ⟨u, hu, hk1⟩ := ev_some (show ev (od nl x) pt tl _ = some r from hk)
  obtain ⟨xa, rfl, hk2⟩ := oneK_some hk1
  obtain ⟨n, hk3, _, hn⟩ := lenA_some hk2
  have hmem : x ∈ o.op.operands := by simp [ho, Op.operands, Call.operands, hcal, arr1 hxs]
  have ha : ∀ e : Operand → Value, Array.map e c.args = #[e x] := fun e => by rw [arr1 hxs]; simp
  rcases boolRec_some (show @Bool.rec (fun _ => OR) (storeAtK h xa (repeatL ei.zero n) fun h => k (.tup []) h) (k (.tup []) h) (Nat.beq n 0) = some r from hk3) with ⟨hb, hk4⟩ | ⟨hb, hk4⟩
  · obtain ⟨h', hk5, hstore⟩ := storeAt_some (C := C) hk4
    have hn0 := beq_false_ne hb
    refine ⟨_, h', hk5, ?_⟩
    intro P σ ρ e w hc hr hop
    have hx := hop x hmem _ hu
    obtain ⟨bs, cps, hxv⟩ := hn ρ σ _ hx
    have h1 := (hc.ty t ti ht).runUnd w
    rw [hu0] at h1
    obtain ⟨z, zs, hz1, hz2, hz3, hz4, _⟩ := (hc.ty el ei hei).runZero w
    have hF := repeat_F2 (hz3 ρ σ) n (n * ei.zero.length) rfl
    obtain ⟨base, ln, cp, w', hv, hst, hr', hx'⟩ := hstore P σ ρ w _ _ hr hx hF
    rw [hxv] at hv
    cases hv
    refine ⟨.tuple #[], w', ρ, .inl ?_, ⟨[], rfl, .nil⟩, hr', hx'⟩
    rw [exec_b ho hcal]
    have hzl : zs.length = ei.zero.length := (hz3 ρ σ).length.symm
    have hcells : (Builtin.zeroCells z.cells n).toList = (List.range (n * ei.zero.length)).map fun i => zs.toArray[i % zs.toArray.size]! := by
      unfold Builtin.zeroCells
      rw [hz2]
      simp [hzl]
    rcases hst with ⟨rfl, rfl, hnil⟩ | ⟨ad, rfl, hst⟩
    · simp [builtin, Builtin.clear_, arr0 hts, ha, h1, hxv]
    · have hst' : (storeCells ad (Builtin.zeroCells z.cells n).toList).run P w = .ok () w' := by rw [hcells]; exact hst
      obtain ⟨n', rfl⟩ : ∃ n', n = n' + 1 := ⟨n - 1, by omega⟩
      simp only [builtin, Builtin.clear_, arr0 hts, ha, Sem.run_bind, hxv]
      simp [h1, hz1, hst']
  · have := beq_eq hb
    subst this
    refine ⟨.tup [], h, hk4, ?_⟩
    intro P σ ρ e w hc hr hop
    have hx := hop x hmem _ hu
    obtain ⟨bs, cps, hxv⟩ := hn ρ σ _ hx
    have h1 := (hc.ty t ti ht).runUnd w
    rw [hu0] at h1
    refine ⟨.tuple #[], w, ρ, .inl ?_, ⟨[], rfl, .nil⟩, hr, Ext.refl ρ h w hr⟩
    rw [exec_b ho hcal]
    cases bs <;> simp [builtin, Builtin.clear_, arr0 hts, ha, h1, hxv]
end Eng
end

noncomputable section
namespace Eng
open Go
variable {ρ ρ' : Rho} {σ : Sig} {C : Cfg} {P : Program} {nl : Nat} {o : Oper}

theorem grown_ge (w : World) (need old : Nat) (e : TypeId) : need ≤ grownCap w need old e := by
  unfold grownCap Question.cut
  simp
/-- a new row -/
theorem Rel.grow {h : H} {w : World} (hr : Rel ρ σ C h w) {cs : List A} {vs : List Value} (hf : F2 (AR ρ σ) cs vs) {size need cap : Nat} (hlen : cs.length = need * size) (hcap : need ≤ cap) {z : Array Value} (hz : z.size = size) (e : TypeId) (sib : Option Nat) (dn : Nat) :
    BR (upd ρ h.next (w.heap.size, cap * size)) σ C (.cells (T.ofList cs) (Nat.mul need size) false sib) (.cells (vs.toArray ++ Builtin.zeroCells z (cap - need)) e (0, 0)) (cap * size) ∧
    Rel (upd ρ h.next (w.heap.size, cap * size)) σ C (h.new (.cells (T.ofList cs) (Nat.mul need size) false sib)) (push { w with drawn := dn } (.cells (vs.toArray ++ Builtin.zeroCells z (cap - need)) e (0, 0))) ∧
    Ext ρ (upd ρ h.next (w.heap.size, cap * size)) h (h.new (.cells (T.ofList cs) (Nat.mul need size) false sib)) w (push { w with drawn := dn } (.cells (vs.toArray ++ Builtin.zeroCells z (cap - need)) e (0, 0))) := by
  have hr1 := hr.drew dn
  have hs := hr.sub_upd (w.heap.size, cap * size)
  have hmul : need * size ≤ cap * size := Nat.mul_le_mul_right _ hcap
  have hsize : (vs.toArray ++ Builtin.zeroCells z (cap - need)).size = cap * size := by
    have h1 : (Builtin.zeroCells z (cap - need)).size = (cap - need) * size := by simp [Builtin.zeroCells, hz]
    rw [Array.size_append, h1]
    have h2 := hf.length
    simp
    rw [← h2, hlen, Nat.sub_mul]
    omega
  have hB : BR (upd ρ h.next (w.heap.size, cap * size)) σ C (.cells (T.ofList cs) (Nat.mul need size) false sib) (.cells (vs.toArray ++ Builtin.zeroCells z (cap - need)) e (0, 0)) (cap * size) := by
    refine ⟨_, e, rfl, hsize, hmul, by simp, ?_⟩
    intro i a hi ha
    obtain ⟨v, hv, har⟩ := hf.get (T.get_ofList ha)
    refine ⟨v, ?_, har.mono hs⟩
    have hlt := (List.getElem?_eq_some_iff.1 hv).1
    rw [Array.getElem?_append_left (by simpa using hlt)]
    simpa using hv
  obtain ⟨r1, x1⟩ := hr1.new (.cells (T.ofList cs) (Nat.mul need size) false sib) (.cells (vs.toArray ++ Builtin.zeroCells z (cap - need)) e (0, 0)) (cap * size) hB
  exact ⟨hB, r1, (Ext.drew hr dn).trans hr hr1 x1⟩
theorem may_get {h : H} {b : Nat} {X Y : Blk} {sib : Option Nat} {i : Nat} {y : Blk} (hg : (sibDie ((h.new X).put b Y) sib).get i = some y) (hd : y ≠ .dead) :
    sib ≠ some i ∧ ((i = b ∧ y = Y) ∨ (i ≠ b ∧ i = h.next ∧ y = X) ∨ (i ≠ b ∧ i ≠ h.next ∧ h.get i = some y)) := by
  obtain ⟨h1, h2⟩ := get_sibDie hg hd
  refine ⟨h1, ?_⟩
  rcases H.get_put h2 with ⟨e1, e2⟩ | ⟨e1, e2⟩
  · exact .inl ⟨e1, e2⟩
  · rcases H.get_new e2 with ⟨e3, e4⟩ | ⟨e3, e4⟩
    · exact .inr (.inl ⟨e1, e3, e4⟩)
    · exact .inr (.inr ⟨e1, e3, e4⟩)
/-- the row grew: where it lay, all is as it was -/
theorem Rel.mayNew {h : H} {w : World} (hr : Rel ρ σ C h w) {b r S : Nat} (hb : ρ b = some (r, S)) {c : T A} {m : Nat} {f : Bool} {s : Option Nat} (hg : h.get b = some (.cells c m f s)) {X Y : Blk} {ob : Obj} {S1 dn : Nat}
    (hX : BR (upd ρ h.next (w.heap.size, S1)) σ C X ob S1) (hY : Y = .dead ∨ Y = .cells c m f (some h.next)) (hXd : X ≠ .dead := by simp) :
    Rel (upd ρ h.next (w.heap.size, S1)) σ C (sibDie ((h.new X).put b Y) s) (push { w with drawn := dn } ob) ∧
    Ext ρ (upd ρ h.next (w.heap.size, S1)) h (sibDie ((h.new X).put b Y) s) w (push { w with drawn := dn } ob) := by
  have hs := hr.sub_upd (w.heap.size, S1)
  have hlt := hr.lt b r S hb
  have hnext : (sibDie ((h.new X).put b Y) s).next = h.next + 1 := by rw [sibDie_next]; rfl
  have live_old : ∀ i, i ≠ h.next → Live (sibDie ((h.new X).put b Y) s) i → Live h i := by
    rintro i hi ⟨y, hy, hd⟩
    obtain ⟨_, h1⟩ := may_get hy hd
    rcases h1 with ⟨rfl, rfl⟩ | ⟨_, e, _⟩ | ⟨_, _, e⟩
    · exact ⟨_, hg, by simp⟩
    · exact absurd e hi
    · exact ⟨y, e, hd⟩
  refine ⟨⟨?_, ?_, ?_⟩, ⟨?_, ?_, ?_, ?_, ?_, ?_, rfl, rfl, rfl, frozen_push { w with drawn := dn } (hX.noFrz hXd)⟩⟩
  · intro i r' S' hi
    rw [hnext]
    by_cases e : i = h.next
    · omega
    · rw [upd_ne ρ _ e] at hi; have := hr.lt i r' S' hi; omega
  · intro i r' S' hi
    by_cases e : i = h.next
    · subst e
      rw [upd_self] at hi
      cases hi
      refine ⟨ob, push_get_new { w with drawn := dn } ob, ?_⟩
      intro y hy
      by_cases hd : y = .dead
      · subst hd; trivial
      · obtain ⟨_, h1⟩ := may_get hy hd
        rcases h1 with ⟨e, _⟩ | ⟨_, _, rfl⟩ | ⟨_, e, _⟩
        · omega
        · exact hX
        · exact absurd rfl e
    · rw [upd_ne ρ _ e] at hi
      obtain ⟨o', ho, hx⟩ := hr.blk i r' S' hi
      refine ⟨o', by rw [push_get_lt { w with drawn := dn } ob (hr.lt_size hi)]; exact ho, ?_⟩
      intro y hy
      by_cases hd : y = .dead
      · subst hd; trivial
      · obtain ⟨_, h1⟩ := may_get hy hd
        rcases h1 with ⟨rfl, rfl⟩ | ⟨_, e2, _⟩ | ⟨_, _, e2⟩
        · rcases hY with hY | hY
          · exact absurd hY hd
          · subst hY
            exact (BR.mono hs (hx _ hg) : BR _ σ C (.cells c m f s) o' S')
        · exact absurd e2 e
        · exact (hx y e2).mono hs
  · intro i j r' S1' S2' hi hj hli hlj
    by_cases e : i = h.next
    · by_cases e' : j = h.next
      · exact .inl (e.trans e'.symm)
      · subst e
        rw [upd_self] at hi; rw [upd_ne ρ _ e'] at hj
        cases hi
        have := hr.lt_size hj
        omega
    · by_cases e' : j = h.next
      · subst e'
        rw [upd_self] at hj; rw [upd_ne ρ _ e] at hi
        cases hj
        have := hr.lt_size hi
        omega
      · rw [upd_ne ρ _ e] at hi; rw [upd_ne ρ _ e'] at hj
        rcases hr.inj i j r' S1' S2' hi hj (live_old i e hli) (live_old j e' hlj) with h1 | ⟨c1, n1, f1, h1⟩
        · exact .inl h1
        · obtain ⟨y, hy, hd⟩ := hli
          obtain ⟨_, h2⟩ := may_get hy hd
          rcases h2 with ⟨rfl, rfl⟩ | ⟨_, e2, _⟩ | ⟨_, _, e2⟩
          · rw [hg] at h1
            cases h1
            obtain ⟨y', hy', hd'⟩ := hlj
            exact absurd rfl (may_get hy' hd').1
          · exact absurd e2 e
          · rw [h1] at e2
            cases e2
            exact .inr ⟨c1, n1, f1, hy⟩
  · rw [hnext]; omega
  · intro i hi; exact upd_ne ρ _ (by omega)
  · intro i r' S' hi he
    by_cases e : i = h.next
    · subst e; rw [upd_self] at he; cases he; exact .inl (Nat.le_refl _)
    · rw [upd_ne ρ _ e, hr.absent hi] at he; simp at he
  · show _ ≤ (w.heap.push ob).size; simp
  · intro i hi hl
    exact live_old i (by omega) hl
  · intro r' hr' _
    exact push_get_lt { w with drawn := dn } ob hr'
/-- the row stayed where it lay -/
theorem Rel.mayOld {h : H} {w : World} (hr : Rel ρ σ C h w) {b r S : Nat} (hb : ρ b = some (r, S)) {c : T A} {m : Nat} {f : Bool} {s : Option Nat} (hg : h.get b = some (.cells c m f s)) {c' : T A} {n' : Nat} {keep : Bool} {ob : Obj}
    (hX : BR ρ σ C (.cells c' n' false (bif keep then some b else none)) ob S) (hY : keep = true → BR ρ σ C (.cells c m f (some h.next)) ob S) :
    Rel (upd ρ h.next (r, S)) σ C (sibDie ((h.new (.cells c' n' false (bif keep then some b else none))).put b (bif keep then .cells c m f (some h.next) else .dead)) s) (putObj w r ob) ∧
    Ext ρ (upd ρ h.next (r, S)) h (sibDie ((h.new (.cells c' n' false (bif keep then some b else none))).put b (bif keep then .cells c m f (some h.next) else .dead)) s) w (putObj w r ob) := by
  have hs := hr.sub_upd (r, S)
  have hlt := hr.lt b r S hb
  have hlive : Live h b := ⟨_, hg, by simp⟩
  generalize hXe : Blk.cells c' n' false (bif keep then some b else none) = X at hX
  generalize hYe : (bif keep then Blk.cells c m f (some h.next) else .dead) = Y
  have hnext : (sibDie ((h.new X).put b Y) s).next = h.next + 1 := by rw [sibDie_next]; rfl
  have live_old : ∀ i, i ≠ h.next → Live (sibDie ((h.new X).put b Y) s) i → Live h i := by
    rintro i hi ⟨y, hy, hd⟩
    obtain ⟨_, h1⟩ := may_get hy hd
    rcases h1 with ⟨rfl, rfl⟩ | ⟨_, e, _⟩ | ⟨_, _, e⟩
    · exact ⟨_, hg, by simp⟩
    · exact absurd e hi
    · exact ⟨y, e, hd⟩
  -- a live old block at r is b, and it is kept
  have at_r : ∀ i S', i ≠ h.next → ρ i = some (r, S') → Live (sibDie ((h.new X).put b Y) s) i → i = b ∧ keep = true := by
    intro i S' hi hir hl
    rcases hr.shares hb hg hir (live_old i hi hl) with e | e
    · refine ⟨e, ?_⟩
      subst e
      cases hk : keep with
      | true => rfl
      | false =>
        rw [hk] at hYe
        obtain ⟨y, hy, hd⟩ := hl
        rcases (may_get hy hd).2 with ⟨_, rfl⟩ | ⟨e2, _⟩ | ⟨e2, _⟩
        · exact absurd hYe.symm hd
        · exact absurd rfl e2
        · exact absurd rfl e2
    · obtain ⟨y, hy, hd⟩ := hl
      exact absurd e (may_get hy hd).1
  refine ⟨⟨?_, ?_, ?_⟩, ⟨?_, ?_, ?_, ?_, ?_, ?_, rfl, rfl, rfl, hr.frozen_putObj hb hlive (hX.noFrz (by rw [← hXe]; simp))⟩⟩
  · intro i r' S' hi
    rw [hnext]
    by_cases e : i = h.next
    · omega
    · rw [upd_ne ρ _ e] at hi; have := hr.lt i r' S' hi; omega
  · intro i r' S' hi
    by_cases e : i = h.next
    · subst e
      rw [upd_self] at hi
      cases hi
      refine ⟨ob, putObj_self w ob (hr.lt_size hb), ?_⟩
      intro y hy
      by_cases hd : y = .dead
      · subst hd; trivial
      · obtain ⟨_, h1⟩ := may_get hy hd
        rcases h1 with ⟨e, _⟩ | ⟨_, _, rfl⟩ | ⟨_, e, _⟩
        · omega
        · exact hX.mono hs
        · exact absurd rfl e
    · rw [upd_ne ρ _ e] at hi
      by_cases er : r' = r
      · subst er
        refine ⟨ob, putObj_self w ob (hr.lt_size hb), ?_⟩
        intro y hy
        by_cases hd : y = .dead
        · subst hd; trivial
        · obtain ⟨rfl, hk⟩ := at_r i S' e hi ⟨y, hy, hd⟩
          rw [hb] at hi; cases hi
          rcases (may_get hy hd).2 with ⟨_, rfl⟩ | ⟨e2, _⟩ | ⟨e2, _⟩
          · rw [← hYe, hk]; exact (hY hk).mono hs
          · exact absurd rfl e2
          · exact absurd rfl e2
      · obtain ⟨o', ho, hx⟩ := hr.blk i r' S' hi
        refine ⟨o', by rw [putObj_ne w ob er]; exact ho, ?_⟩
        intro y hy
        by_cases hd : y = .dead
        · subst hd; trivial
        · obtain ⟨_, h1⟩ := may_get hy hd
          rcases h1 with ⟨rfl, _⟩ | ⟨_, e2, _⟩ | ⟨_, _, e2⟩
          · rw [hb] at hi; cases hi; exact absurd rfl er
          · exact absurd e2 e
          · exact (hx y e2).mono hs
  · intro i j r' S1' S2' hi hj hli hlj
    by_cases e : i = h.next
    · by_cases e' : j = h.next
      · exact .inl (e.trans e'.symm)
      · subst e
        rw [upd_self] at hi; rw [upd_ne ρ _ e'] at hj
        cases hi
        obtain ⟨rfl, hk⟩ := at_r j _ e' hj hlj
        obtain ⟨y, hy, hd⟩ := hli
        rcases (may_get hy hd).2 with ⟨e2, _⟩ | ⟨_, _, rfl⟩ | ⟨_, e2, _⟩
        · omega
        · rw [hk] at hXe; exact .inr ⟨c', n', false, hy.trans (congrArg some hXe.symm)⟩
        · exact absurd rfl e2
    · by_cases e' : j = h.next
      · subst e'
        rw [upd_self] at hj; rw [upd_ne ρ _ e] at hi
        cases hj
        obtain ⟨rfl, hk⟩ := at_r i _ e hi hli
        obtain ⟨y, hy, hd⟩ := hli
        rcases (may_get hy hd).2 with ⟨_, rfl⟩ | ⟨e2, _⟩ | ⟨e2, _⟩
        · rw [hk] at hYe; exact .inr ⟨c, m, f, hy.trans (congrArg some hYe.symm)⟩
        · exact absurd rfl e2
        · exact absurd rfl e2
      · rw [upd_ne ρ _ e] at hi; rw [upd_ne ρ _ e'] at hj
        rcases hr.inj i j r' S1' S2' hi hj (live_old i e hli) (live_old j e' hlj) with h1 | ⟨c1, n1, f1, h1⟩
        · exact .inl h1
        · obtain ⟨y, hy, hd⟩ := hli
          obtain ⟨_, h2⟩ := may_get hy hd
          rcases h2 with ⟨rfl, _⟩ | ⟨_, e2, _⟩ | ⟨_, _, e2⟩
          · rw [hg] at h1
            cases h1
            obtain ⟨y', hy', hd'⟩ := hlj
            exact absurd rfl (may_get hy' hd').1
          · exact absurd e2 e
          · rw [h1] at e2
            cases e2
            exact .inr ⟨c1, n1, f1, hy⟩
  · rw [hnext]; omega
  · intro i hi; exact upd_ne ρ _ (by omega)
  · intro i r' S' hi he
    by_cases e : i = h.next
    · subst e; rw [upd_self] at he; cases he; exact .inr ⟨b, S, hb, hlive⟩
    · rw [upd_ne ρ _ e, hr.absent hi] at he; simp at he
  · show _ ≤ (w.heap.setIfInBounds r ob).size; simp
  · intro i hi hl
    exact live_old i (by omega) hl
  · intro r' hr' hn
    by_cases e : r' = r
    · subst e; exact absurd hlive (hn b S hb)
    · exact putObj_ne w ob e
/- append -/
theorem elem_ty {t el : TypeId} (hc : CfgOK P C σ) {ti : TI} (ht : C.ty t = some ti) (hu : ti.und = .slice el) : P.underlying t = some (.slice el) := by rw [← hu]; exact (hc.ty t ti ht).und
theorem append_room {t t2 ty el e2 : TypeId} {i : TypeInfo} (ht : P.underlying t = some (.slice el)) (h2 : P.underlying t2 = some (.slice e2)) (hi : P.info? el = some i) {base : Option Addr} {sLen sCap n : Nat} {x : Value} {news : List Value} {w : World}
    (hl : (Builtin.lenOf x).run P w = .ok n w) (hcl : (Builtin.firstCells i.size n x).run P w = .ok news.toArray w) (hroom : sLen + n ≤ sCap) :
    (Builtin.append_ #[t, t2] ty #[.slice base sLen sCap, x]).run P w = (match base with | some a => (storeCells (a.add (sLen * i.size)) news).run P w | none => .ok () w).andThen fun _ w' => .ok (.slice base (sLen + n) sCap) w' := by
  cases base with
  | none => simp [Builtin.append_, run_underlying ht, run_underlying h2, Go.sizeOf, typeInfo, hi, hl, hroom, hcl]
  | some a =>
    simp [Builtin.append_, run_underlying ht, run_underlying h2, Go.sizeOf, typeInfo, hi, hl, hroom, hcl]
theorem append_eff {c : Call} {t t2 el e2 : TypeId} {s x : Operand} {ti ei ti2 : TI} (ho : o.op = .call c) (hcal : c.callee = .builtin .append) (hts : c.argTypes.toList = [t, t2]) (hxs : c.args.toList = [s, x])
    (ht : C.ty t = some ti) (hu0 : ti.und = .slice el) (hei : C.ty el = some ei) (ht2 : C.ty t2 = some ti2) (hu2 : ti2.und = .slice e2) (hby : ei.bytes ≤ 65536) (hpos : 1 ≤ ei.size) : EffL C nl o (runOp (.n2 (opAppend ei.size) (od nl s) (od nl x))) := by
  intro rec X k pt tl h r hk
  obtain ⟨u, hu, hk1⟩ := ev_some (show ev (od nl s) pt tl _ = some r from hk)
  obtain ⟨sa, rfl, hk2⟩ := oneK_some hk1
  obtain ⟨u', hu', hk3⟩ := ev_some (show ev (od nl x) pt tl _ = some r from hk2)
  obtain ⟨xa, rfl, hk4⟩ := oneK_some hk3
  obtain ⟨n, hk5, _, hn⟩ := lenA_some (show lenA xa _ = some r from hk4)
  obtain ⟨new, hk6, hnl, hfirst⟩ := firstK_some (C := C) hk5
  have hmem : s ∈ o.op.operands ∧ x ∈ o.op.operands := by simp [ho, Op.operands, Call.operands, hcal, arr2 hxs]
  have hexec : ∀ {P : Program} {e : Operand → Value} {w w' : World} {v : Value}, (Builtin.append_ #[t, t2] o.type #[e s, e x]).run P w = .ok v w' → Exec P e o w v w' := by
    intro P e w w' v h
    left
    rw [exec_b ho hcal]
    have : Array.map e c.args = #[e s, e x] := by rw [arr2 hxs]; simp
    simp only [builtin, this, arr2 hts, Sem.run_bind, h, Result.andThen_ok, Sem.run_pure]
  -- what is appended
  have src : ∀ (P : Program) (σ : Sig) (ρ : Rho) (e : Operand → Value) (w : World), CfgOK P C σ → Rel ρ σ C h w → OpdR ρ σ nl o.op pt tl e →
      ∃ (i : TypeInfo) (z : Value) (news : List Value), P.underlying t = some (.slice el) ∧ P.underlying t2 = some (.slice e2) ∧ P.info? el = some i ∧ i.zero = some z ∧ i.size = ei.size ∧ i.bytes = ei.bytes ∧ z.cells.size = ei.size ∧
        F2 (AR ρ σ) new news ∧ Src P i.size t2 (e x) n news w := by
    intro P σ ρ e w hc hr hop
    obtain ⟨i, h1, h2, h3, z, h4, zs, h5, h6, h7, _⟩ := (hc.ty el ei hei).info
    have hx := hop x hmem.2 _ hu'
    obtain ⟨base, cp, hxv⟩ := hn ρ σ _ hx
    obtain ⟨news, hf, hrun⟩ := hfirst P σ ρ w _ hr hx
    refine ⟨i, z, news, elem_ty hc ht hu0, elem_ty hc ht2 hu2, h1, h4, h2, h3, by rw [h5, ← h7, (h6 ρ σ).length]; simp, hf, ⟨.inl ⟨e2, elem_ty hc ht2 hu2⟩, fun w' => by rw [hxv]; rfl, ?_, ?_, ?_, hf.one⟩⟩
    · rw [h2]; exact hrun w.drawn
    · rw [h2]; exact hrun (w.drawn + 1)
    · rw [← hf.length, hnl, h2]
  -- a new row
  have grow : ∀ (P : Program) (σ : Sig) (ρ : Rho) (e : Operand → Value) (w : World) (base : Option Addr) (ln cap : Nat) (old : List A) (olds : List Value) (sib : Option Nat), CfgOK P C σ → Rel ρ σ C h w → OpdR ρ σ nl o.op pt tl e →
      e s = .slice base ln cap → cap < ln + n → ln + n ≤ 65536 → F2 (AR ρ σ) old olds → old.length = ln * ei.size → (∀ dn, (Builtin.firstCells ei.size ln (e s)).run P { w with drawn := dn } = .ok olds.toArray { w with drawn := dn }) →
      ∃ v' ob S1 dn, Exec P e o w v' (push { w with drawn := dn } ob) ∧ AR (upd ρ h.next (w.heap.size, S1)) σ (.fsl h.next 0 (Nat.add ln n) ei.size) v' ∧
        BR (upd ρ h.next (w.heap.size, S1)) σ C (.cells (T.ofList (app old new)) (Nat.mul (Nat.add ln n) ei.size) false sib) ob S1 ∧
        Rel (upd ρ h.next (w.heap.size, S1)) σ C (h.new (.cells (T.ofList (app old new)) (Nat.mul (Nat.add ln n) ei.size) false sib)) (push { w with drawn := dn } ob) ∧
        Ext ρ (upd ρ h.next (w.heap.size, S1)) h (h.new (.cells (T.ofList (app old new)) (Nat.mul (Nat.add ln n) ei.size) false sib)) w (push { w with drawn := dn } ob) := by
    intro P σ ρ e w base ln cap old olds sib hc hr hop hes hcap h64 hfo hol hfirsts
    obtain ⟨i, z, news, g1, g2, g3, g4, g5, g6, g7, hfn, hsrc⟩ := src P σ ρ e w hc hr hop
    have hfit : Builtin.nextslicecap (ln + n) cap * i.bytes ≤ 281474976710656 := by
      have h1 := Room.nextslicecap_le' hcap
      have h2 : Builtin.nextslicecap (ln + n) cap * i.bytes ≤ 131072 * 65536 := Nat.mul_le_mul (by omega) (by rw [g6]; exact hby)
      omega
    have hrun := run_append_grow_src (P := P) w t t2 o.type el i z g1 g3 g4 base ln cap olds (by rw [g5, ← hes]; exact hfirsts (w.drawn + 1)) (e x) n news hsrc hcap (by omega) hfit
    rw [← hes] at hrun
    have hF : F2 (AR ρ σ) (app old new) (olds ++ news) := by rw [app_eq]; exact hfo.append hfn
    have hge := grown_ge w (ln + n) cap el
    obtain ⟨hB, r1, x1⟩ := hr.grow hF (size := ei.size) (need := ln + n) (cap := grownCap w (ln + n) cap el) (by rw [app_eq, List.length_append, hol, hnl, Nat.add_mul]) hge g7 el sib (w.drawn + 1)
    have hid : upd ρ h.next (w.heap.size, grownCap w (ln + n) cap el * ei.size) h.next = some (w.heap.size, grownCap w (ln + n) cap el * ei.size) := upd_self _ _ _
    exact ⟨_, _, grownCap w (ln + n) cap el * ei.size, w.drawn + 1, hexec hrun, ⟨_, _, _, hid, rfl, by omega⟩, hB, r1, x1⟩
  -- in place
  have room : ∀ (P : Program) (σ : Sig) (ρ : Rho) (e : Operand → Value) (w : World) (ad : Addr) (ln cap : Nat), CfgOK P C σ → Rel ρ σ C h w → OpdR ρ σ nl o.op pt tl e →
      e s = .slice (some ad) ln cap → ln + n ≤ cap → ∃ news : List Value, F2 (AR ρ σ) new news ∧ ∀ w', (storeCells (ad.add (ln * ei.size)) news).run P w = .ok () w' → Exec P e o w (.slice (some ad) (ln + n) cap) w' := by
    intro P σ ρ e w ad ln cap hc hr hop hes hcap
    obtain ⟨i, z, news, g1, g2, g3, g4, g5, g6, g7, hfn, hsrc⟩ := src P σ ρ e w hc hr hop
    refine ⟨news, hfn, fun w' hst => hexec ?_⟩
    have := append_room (P := P) (ty := o.type) g1 g2 g3 (base := some ad) (hsrc.len w) hsrc.cells hcap
    rw [← hes] at this
    rw [this]
    simp only [g5]
    rw [hst]
    rfl
  cases sa with
  | nils =>
    have hk7 : @Bool.rec (fun _ => OR) (growA h ei.size n new k) (k (.one .nils) h) (Nat.beq n 0) = some r := hk6
    rcases boolRec_some hk7 with ⟨hb, hk8⟩ | ⟨hb, hk8⟩
    · have hn0 := beq_false_ne hb
      obtain ⟨h64, hk9⟩ := ifK_some (show ifK (Nat.ble n 65536) _ = some r from hk8)
      refine ⟨_, _, hk9, ?_⟩
      intro P σ ρ e w hc hr hop
      have hs : e s = .slice none 0 0 := hop s hmem.1 _ hu
      obtain ⟨v', ob, S1, dn, h1, h2, h3, h4, h5⟩ := grow P σ ρ e w none 0 0 [] [] none hc hr hop hs (by omega) (by have := ble_le h64; omega) .nil (by simp) (fun dn => by rw [hs]; rfl)
      rw [show Nat.add 0 n = n from Nat.zero_add n] at h2 h3 h4 h5
      exact ⟨v', _, _, h1, h2, h4, h5⟩
    · have := beq_eq hb
      subst this
      refine ⟨_, _, hk8, ?_⟩
      intro P σ ρ e w hc hr hop
      have hs : e s = .slice none 0 0 := hop s hmem.1 _ hu
      obtain ⟨i, z, news, g1, g2, g3, g4, g5, g6, g7, hfn, hsrc⟩ := src P σ ρ e w hc hr hop
      have := append_room (P := P) (ty := o.type) g1 g2 g3 (base := none) (sLen := 0) (sCap := 0) (hsrc.len w) hsrc.cells (by omega)
      rw [← hs] at this
      exact ⟨_, w, ρ, hexec this, hs, hr, Ext.refl ρ h w hr⟩
  | slice b off ln cap =>
    have hk7 : @Bool.rec (fun _ => OR) (h.readN b off (Nat.mul ln ei.size) fun old => growA h ei.size (Nat.add ln n) (app old new) k)
      (h.write b (Nat.add off (Nat.mul ln ei.size)) new fun h => k (.one (.slice b off (Nat.add ln n) cap)) h) (Nat.ble (Nat.add ln n) cap) = some r := hk6
    rcases boolRec_some hk7 with ⟨hb, hk8⟩ | ⟨hb, hk8⟩
    · have hcap := ble_false hb
      obtain ⟨cc, m, f, sb, old, hg, hle, hold, hk9⟩ := readN_some hk8
      obtain ⟨h64, hk10⟩ := ifK_some (show ifK (Nat.ble (Nat.add ln n) 65536) _ = some r from hk9)
      refine ⟨_, _, hk10, ?_⟩
      intro P σ ρ e w hc hr hop
      obtain ⟨rr, S, hbm, hs⟩ := hop s hmem.1 _ hu
      obtain ⟨olds, hfo, holen, hcells⟩ := hr.cells hbm hg hle hold
      obtain ⟨v', ob, S1, dn, h1, h2, h3, h4, h5⟩ := grow P σ ρ e w _ ln cap old olds none hc hr hop hs hcap (ble_le h64) hfo (T.slice_get _ _ _ _ hold).1 (fun dn => by
        rw [hs]
        have h3 := run_loadCells_list (P := P) (w := { w with drawn := dn }) ⟨rr, off, none⟩ olds hcells
        rw [holen] at h3
        exact h3)
      exact ⟨v', _, _, h1, h2, h4, h5⟩
    · obtain ⟨cc, m, f, sb, hg, hle, hk9⟩ := write_some hk8
      refine ⟨_, _, hk9, ?_⟩
      intro P σ ρ e w hc hr hop
      obtain ⟨rr, S, hbm, hs⟩ := hop s hmem.1 _ hu
      obtain ⟨news, hfn, hex⟩ := room P σ ρ e w _ ln cap hc hr hop hs (ble_le hb)
      obtain ⟨w', h3, h4, h5⟩ := hr.write (P := P) hbm hg hle hfn
      refine ⟨_, w', ρ, hex w' ?_, ⟨rr, S, hbm, rfl⟩, h4, h5⟩
      rw [addr_add]; exact h3
  | fsl b off ln es =>
    obtain ⟨hes, hk7⟩ := ifK_some (show ifK (Nat.beq es ei.size) _ = some r from hk6)
    have hes' := beq_eq hes
    subst hes'
    obtain ⟨blk, hgb, hk8⟩ := optK_some hk7
    obtain ⟨cc, m, f, sb, rfl, hk9⟩ := cellsK_some hk8
    rcases boolRec_some hk9 with ⟨hb, hk10⟩ | ⟨hb, hk10⟩
    · have hnot := ble_false hb
      obtain ⟨hoff, hk11⟩ := ifK_some hk10
      have := beq_eq hoff
      subst this
      obtain ⟨cc2, m2, f2, sb2, old, hg2, hle, hold, hk12⟩ := readN_some hk11
      rw [hgb] at hg2; cases hg2
      obtain ⟨h64, hk13⟩ := ifK_some (show ifK (Nat.ble (Nat.add ln n) 65536) _ = some r from hk12)
      refine ⟨_, _, hk13, ?_⟩
      intro P σ ρ e w hc hr hop
      obtain ⟨rr, S, cap, hbm, hs, hS⟩ := hop s hmem.1 _ hu
      obtain ⟨olds, hfo, holen, hcells⟩ := hr.cells hbm hgb hle hold
      have hol := (T.slice_get _ _ _ _ hold).1
      have hloads : ∀ dn, (Builtin.firstCells ei.size ln (e s)).run P { w with drawn := dn } = .ok olds.toArray { w with drawn := dn } := fun dn => by
        rw [hs]
        have h3 := run_loadCells_list (P := P) (w := { w with drawn := dn }) ⟨rr, 0, none⟩ olds hcells
        rw [holen] at h3
        exact h3
      by_cases hcap : ln + n ≤ cap
      · obtain ⟨news, hfn, hex⟩ := room P σ ρ e w _ ln cap hc hr hop hs hcap
        obtain ⟨obj, hw, hx⟩ := hr.blk b rr S hbm
        obtain ⟨cs, et, rfl, i1, i2, i3, i4⟩ := hx _ hgb
        have hnn := hfn.length
        have hmul : (ln + n) * ei.size ≤ cap * ei.size := Nat.mul_le_mul_right _ hcap
        have hadd : (ln + n) * ei.size = ln * ei.size + n * ei.size := Nat.add_mul _ _ _
        have hrun := run_storeCells_at (P := P) rr (ln * ei.size) et news 0 cs w hw (by omega) hfn.one
        rw [setRow_putObj w rr cs _ et hw] at hrun
        have hget : ∀ i, i < ln * ei.size → (cs.toList.take (ln * ei.size + 0) ++ news ++ cs.toList.drop (ln * ei.size + 0 + news.length)).toArray[i]? = cs[i]? := by
          intro i hi
          simp only [Nat.add_zero, List.getElem?_toArray]
          rw [List.append_assoc, List.getElem?_append_left (by simp; omega), List.getElem?_take_of_lt hi]
          simp
        have hsize : (cs.toList.take (ln * ei.size + 0) ++ news ++ cs.toList.drop (ln * ei.size + 0 + news.length)).toArray.size = S := by simp; omega
        have hX : BR ρ σ C (.cells (T.ofList (app old new)) (Nat.mul (Nat.add ln n) ei.size) false (bif Nat.beq (Nat.mul ln ei.size) m then some b else none))
            (.cells (cs.toList.take (ln * ei.size + 0) ++ news ++ cs.toList.drop (ln * ei.size + 0 + news.length)).toArray et (0, 0)) S := by
          refine ⟨_, et, rfl, hsize, by show (ln + n) * ei.size ≤ S; omega, by simp, ?_⟩
          intro i a hi ha
          have hF : F2 (AR ρ σ) (app old new) (olds ++ news) := by rw [app_eq]; exact hfo.append hfn
          obtain ⟨v, hv, har⟩ := hF.get (T.get_ofList ha)
          refine ⟨v, ?_, har⟩
          by_cases hi2 : i < ln * ei.size
          · rw [hget i hi2]
            rw [List.getElem?_append_left (by rw [holen]; exact hi2)] at hv
            have := hcells i v hv
            rw [addr_add, Nat.zero_add] at this
            rw [cell_of hw] at this
            exact this
          · rw [List.getElem?_append_right (by rw [holen]; exact Nat.le_of_not_lt hi2)] at hv
            simp only [Nat.add_zero, List.getElem?_toArray]
            have hlt := (List.getElem?_eq_some_iff.1 hv).1
            have e1 : olds.length = ln * ei.size := holen
            have e2 : (cs.toList.take (ln * ei.size)).length = ln * ei.size := by simp; omega
            rw [List.append_assoc, List.getElem?_append_right (by omega), List.getElem?_append_left (by omega), ← hv, e1, e2]
        have hY : Nat.beq (Nat.mul ln ei.size) m = true → BR ρ σ C (.cells cc m f (some h.next)) (.cells (cs.toList.take (ln * ei.size + 0) ++ news ++ cs.toList.drop (ln * ei.size + 0 + news.length)).toArray et (0, 0)) S := by
          intro hkeep
          have hm := beq_eq hkeep
          have hm' : ln * ei.size = m := hm
          refine ⟨_, et, rfl, hsize, i2, i3, ?_⟩
          intro i a hi ha
          obtain ⟨v, hv, har⟩ := i4 i a hi ha
          exact ⟨v, by rw [hget i (by omega)]; exact hv, har⟩
        obtain ⟨r1, x1⟩ := hr.mayOld hbm hgb hX hY
        refine ⟨_, _, _, hex _ ?_, ⟨rr, S, cap, upd_self _ _ _, rfl, hS⟩, r1, x1⟩
        rw [addr_add, Nat.zero_add]; exact hrun
      · obtain ⟨v', ob, S1, dn, h1, h2, h3, h4, h5⟩ := grow P σ ρ e w _ ln cap old olds (bif Nat.beq (Nat.mul ln ei.size) m then some b else none) hc hr hop hs (by omega) (ble_le h64) hfo hol hloads
        obtain ⟨r1, x1⟩ := hr.mayNew hbm hgb (dn := dn) h3 (Y := bif Nat.beq (Nat.mul ln ei.size) m then .cells cc m f (some h.next) else .dead) (by cases Nat.beq (Nat.mul ln ei.size) m <;> simp)
        exact ⟨v', _, _, h1, h2, r1, x1⟩
    · have hin : off + (ln + n) * ei.size ≤ m := ble_le hb
      obtain ⟨cc2, m2, f2, sb2, hg2, hle, hk11⟩ := write_some hk10
      rw [hgb] at hg2; cases hg2
      refine ⟨_, _, hk11, ?_⟩
      intro P σ ρ e w hc hr hop
      obtain ⟨rr, S, cap, hbm, hs, hS⟩ := hop s hmem.1 _ hu
      have hcap : ln + n ≤ cap := by
        obtain ⟨obj, hw, hx⟩ := hr.blk b rr S hbm
        obtain ⟨cs, et, _, _, i2, _⟩ := hx _ hgb
        have h1 : (ln + n) * ei.size ≤ cap * ei.size := by omega
        exact Nat.le_of_mul_le_mul_right h1 (by omega)
      obtain ⟨news, hfn, hex⟩ := room P σ ρ e w _ ln cap hc hr hop hs hcap
      obtain ⟨w', h3, h4, h5⟩ := hr.write (P := P) hbm hgb hle hfn
      refine ⟨_, w', ρ, hex w' ?_, ⟨rr, S, cap, hbm, rfl, hS⟩, h4, h5⟩
      rw [addr_add]; exact h3
  | _ => cases hk6
theorem zeroCells_eq (z : Array Value) (n : Nat) : Builtin.zeroCells z n = ((List.range (n * z.size)).map fun i => z[i % z.size]!).toArray := by
  unfold Builtin.zeroCells
  apply Array.ext'
  simp
theorem appendZ_eff {c : Call} {t t2 el : TypeId} {kn : IntKind} {s x : Operand} {ti ei ti2 : TI} (ho : o.op = .call c) (hcal : c.callee = .builtin .append) (hts : c.argTypes.toList = [t, t2]) (hxs : c.args.toList = [s, x])
    (ht : C.ty t = some ti) (hu0 : ti.und = .slice el) (hei : C.ty el = some ei) (ht2 : C.ty t2 = some ti2) (hu2 : ti2.und = .int kn) (hby : ei.bytes ≤ 65536) (hpos : 1 ≤ ei.size) : EffL C nl o (runOp (.n2 (opAppendZ ei.zero ei.size) (od nl s) (od nl x))) := by
  intro rec X k pt tl h r hk
  obtain ⟨u, hu, hk1⟩ := ev_some (show ev (od nl s) pt tl _ = some r from hk)
  obtain ⟨sa, rfl, hk2⟩ := oneK_some hk1
  have hmem : s ∈ o.op.operands ∧ x ∈ o.op.operands := by simp [ho, Op.operands, Call.operands, hcal, arr2 hxs]
  cases sa with
  | nils =>
    obtain ⟨u', hu', hk3⟩ := ev_some (show ev (od nl x) pt tl _ = some r from hk2)
    obtain ⟨q, n, rfl, hk4⟩ := natK_some hk3
    obtain ⟨h1n, hk5⟩ := ifK_some hk4
    obtain ⟨h64, hk9⟩ := ifK_some (show ifK (Nat.ble n 65536) _ = some r from hk5)
    refine ⟨_, _, hk9, ?_⟩
    intro P σ ρ e w hc hr hop
    have hs : e s = .slice none 0 0 := hop s hmem.1 _ hu
    have hx : e x = .int q (n : Int) := hop x hmem.2 _ hu'
    have h1 := ble_le h1n
    have h2 := ble_le h64
    obtain ⟨i, g1, g2, g3, z, g4, zs, g5, g6, g7, _⟩ := (hc.ty el ei hei).info
    have hprod : n * i.bytes ≤ 65536 * 65536 := Nat.mul_le_mul h2 (by rw [g3]; exact hby)
    have htn : P.underlying t2 = some (.int kn) := by rw [← hu2]; exact (hc.ty t2 ti2 ht2).und
    have hzs : z.cells.size = ei.size := by rw [g5, ← g7, (g6 ρ σ).length]; simp
    have hrun := Lib.run_append_nil_zeros (P := P) w t t2 o.type el i z q kn (elem_ty hc ht hu0) htn g1 g4 n (by omega) (by rw [g2]; omega) (by omega) (by omega)
    have hF : F2 (AR ρ σ) (repeatL ei.zero n) ((List.range (n * ei.size)).map fun i => zs.toArray[i % zs.toArray.size]!) := repeat_F2 (g6 ρ σ) n (n * ei.size) (by rw [g7])
    have hge := grown_ge w n 0 el
    obtain ⟨hB, r1, x1⟩ := hr.grow hF (size := ei.size) (need := n) (cap := grownCap w n 0 el) (by rw [repeatL_length, g7]) hge hzs el none (w.drawn + 1)
    have hid : upd ρ h.next (w.heap.size, grownCap w n 0 el * ei.size) h.next = some (w.heap.size, grownCap w n 0 el * ei.size) := upd_self _ _ _
    have hz1 : Builtin.zeroCells z.cells n = ((List.range (n * ei.size)).map fun i => zs.toArray[i % zs.toArray.size]!).toArray := by
      have e2 : zs.toArray.size = ei.size := by rw [← g5]; exact hzs
      rw [zeroCells_eq, g5, e2]
    rw [hz1] at hrun
    refine ⟨_, _, _, ?_, ⟨_, _, grownCap w n 0 el, hid, rfl, by omega⟩, r1, x1⟩
    left
    rw [exec_b ho hcal]
    have hargs : Array.map e c.args = #[e s, e x] := by rw [arr2 hxs]; simp
    simp only [builtin, hargs, arr2 hts, Sem.run_bind, hs, hx, hrun, Result.andThen_ok, Sem.run_pure]
    rfl
  | _ => cases hk2
end Eng
end

noncomputable section
namespace Eng
open Go
variable {ρ ρ' : Rho} {σ : Sig} {C : Cfg} {P : Program} {nl : Nat} {o : Oper}

/-- a call's run -/
def Enters (P : Program) (f : FuncId) : Prop := ∀ args w, (callFunc f args).run P w = .ok (.enter f args) w
def CallR (P : Program) (f : FuncId) (args : Array Value) (w : World) (v : Value) (w' : World) : Prop :=
  Enters P f ∧ ∀ cs, ∃ fr, Steps P (lone (Frame.enter P f args .normal) cs w) (lone fr cs w') ∧ fr.fn = f ∧ fr.leaving P w' (.returned v)
def YieldR (P : Program) (l : Nat) (args : Array Value) (w : World) (v : Value) (w' : World) : Prop :=
  ∃ tmps assign body fn, (Instr.yield l args).run P w = .ok (.round l fn tmps assign body) w ∧
    ∀ c cs, Steps P (lone (Frame.round l fn tmps assign body .normal) (c :: cs) w) (lone (c.finish v) cs w')
structure CY (C : Cfg) (P : Program) (σ : Sig) (rec : Rec) : Prop where
  call : ∀ X f args h v h', rec X (.call f args) h = some (.val v h') → ∀ ρ w vs, Rel ρ σ C h w → F2 (AVR ρ σ) args vs →
    ∃ v' w' ρ', CallR P f vs.toArray w v' w' ∧ AVR ρ' σ v v' ∧ Rel ρ' σ C h' w' ∧ Ext ρ ρ' h h' w w'
  yld : ∀ X l args h v h', rec X (.yld l args) h = some (.val v h') → ∀ ρ w vs r S, ρ l = some (r, S) → Rel ρ σ C h w → F2 (AVR ρ σ) args vs →
    ∃ v' w' ρ', YieldR P r vs.toArray w v' w' ∧ AVR ρ' σ v v' ∧ Rel ρ' σ C h' w' ∧ Ext ρ ρ' h h' w w'
/-- an operation's steps -/
def Does (P : Program) (o : Oper) (b : Frame) (a : Act) (w : World) (v : Value) (w' : World) : Prop :=
  ∀ ops i rest k cs, ops[i]? = some o → Region.wanted o (yielded ops a.tmps) = true →
    Steps P (lone (b.atR a (.inRegion ops (i :: rest) :: k)) cs w) (lone (b.atR (a.put o.dst v) (.inRegion ops rest :: k)) cs w')
theorem does_of_exec {b : Frame} {a : Act} {w w' : World} {v : Value} (hd : ∀ c, o.op ≠ .defer c) (h : Exec P a.eval o w v w') : Does P o b a w v w' := by
  intro ops i rest k cs ho hw
  have hg := stepGR_op (P := P) (b := b) (k := k) (cs := cs) (w := w) (rest := rest) ho hw
  rw [Oper.semAt_eq _ _ _ hd] at hg
  have hfin : ∀ v, (b.atR a (.inRegion ops (i :: rest) :: k)).finish v = b.atR (a.put o.dst v) (.inRegion ops rest :: k) := by
    intro v; rw [Frame.finish_atR, ho]; rfl
  rcases h with h | ⟨rfl, h⟩
  · refine .one (step_lone_go ?_)
    rw [hg, ← hfin]; simp [stepG.apply, h]
  · refine .one (step_lone_go ?_)
    rw [hg, ← hfin]; simp [stepG.apply, h]
theorem does_of_enter {b : Frame} {a : Act} {w w' : World} {v : Value} {f : FuncId} {args : Array Value} (hd : ∀ c, o.op ≠ .defer c) (hx : (execOp a.eval o).run P w = .ok (.enter f args) w) (h : CallR P f args w v w') : Does P o b a w v w' := by
  intro ops i rest k cs ho hw
  have hg := stepGR_op (P := P) (b := b) (k := k) (cs := cs) (w := w) (rest := rest) ho hw
  rw [Oper.semAt_eq _ _ _ hd] at hg
  have hfin : ∀ v, (b.atR a (.inRegion ops (i :: rest) :: k)).finish v = b.atR (a.put o.dst v) (.inRegion ops rest :: k) := by
    intro v; rw [Frame.finish_atR, ho]; rfl
  obtain ⟨fr, hs, _, hl⟩ := h.2 (b.atR a (.inRegion ops (i :: rest) :: k) :: cs)
  have henter : step P (lone (b.atR a (.inRegion ops (i :: rest) :: k)) cs w) =
      .next (lone (Frame.enter P f args .normal) (b.atR a (.inRegion ops (i :: rest) :: k) :: cs) w) :=
    step_lone_go (by rw [hg]; simp [stepG.apply, hx, Frame.atR])
  refine .head henter (hs.trans (.one ?_))
  rw [← hfin]; exact step_leave_returned hl
theorem does_of_round {b : Frame} {a : Act} {w w' : World} {v : Value} {l : Nat} {args : Array Value} (hd : ∀ c, o.op ≠ .defer c) (hx : (execOp a.eval o).run P w = (Instr.yield l args).run P w) (h : YieldR P l args w v w') : Does P o b a w v w' := by
  intro ops i rest k cs ho hw
  have hg := stepGR_op (P := P) (b := b) (k := k) (cs := cs) (w := w) (rest := rest) ho hw
  rw [Oper.semAt_eq _ _ _ hd] at hg
  have hfin : ∀ v, (b.atR a (.inRegion ops (i :: rest) :: k)).finish v = b.atR (a.put o.dst v) (.inRegion ops rest :: k) := by
    intro v; rw [Frame.finish_atR, ho]; rfl
  obtain ⟨tmps, assign, body, fn, hy, hs⟩ := h
  rw [hy] at hx
  have henter : step P (lone (b.atR a (.inRegion ops (i :: rest) :: k)) cs w) =
      .next (lone (Frame.round l fn tmps assign body .normal) (b.atR a (.inRegion ops (i :: rest) :: k) :: cs) w) :=
    step_lone_go (by rw [hg]; simp [stepG.apply, hx, Frame.atR])
  refine .head henter ?_
  rw [← hfin]; exact hs _ _
/-- what one operation's evaluation shows -/
def OpOK (C : Cfg) (nl : Nat) (o : Oper) (f : OpS) : Prop := ∀ rec X k pt tl h r, f rec X k pt tl h = some r → ∃ v h', k v h' = some r ∧
  ∀ P σ ρ w (a : Act) (b : Frame), CfgOK P C σ → CY C P σ rec → Rel ρ σ C h w → OpdR ρ σ nl o.op pt tl a.eval →
    ∃ v' w' ρ', Does P o b a w v' w' ∧ AVR ρ' σ v v' ∧ Rel ρ' σ C h' w' ∧ Ext ρ ρ' h h' w w'
theorem EffL.ok {f : OpS} (hd : ∀ c, o.op ≠ .defer c) (h : EffL C nl o f) : OpOK C nl o f := by
  intro rec X k pt tl hh r hk
  obtain ⟨v, h', h1, h2⟩ := h rec X k pt tl hh r hk
  refine ⟨v, h', h1, ?_⟩
  intro P σ ρ w a b hc _ hr hop
  obtain ⟨v', w', ρ', h3, h4⟩ := h2 P σ ρ a.eval w hc hr hop
  exact ⟨v', w', ρ', does_of_exec hd h3, h4⟩
theorem bad_ok : OpOK C nl o (runOp (.n0 opBad)) := by intro rec X k pt tl h r hk; cases hk
theorem valK_some {x : OR} {k : K} {r : Rs} (h : valK x k = some r) : ∃ v h', x = some (.val v h') ∧ k v h' = some r := by
  cases x with
  | none => cases h
  | some y => cases y with
    | code o fr hh => cases h
    | val v hh => exact ⟨v, hh, rfl, h⟩
/-- the arguments -/
theorem args_R {pt : T AV} {tl : TL} {e : Operand → Value} : ∀ {l : List Operand} {vs : List AV}, (∀ x ∈ l, ∀ u, (od nl x).val pt tl = some u → AVR ρ σ u (e x)) → vals pt tl (ods nl l) = some vs → F2 (AVR ρ σ) vs (l.map e) := by
  intro l
  induction l with
  | nil => intro vs _ h; cases h; exact .nil
  | cons x l ih =>
    intro vs hx h
    have h' : vals pt tl (od nl x :: ods nl l) = some vs := h
    simp only [vals] at h'
    split at h'
    · rename_i v us h1 h2
      cases h'
      exact .cons (hx x (by simp) v h1) (ih (fun y hy => hx y (List.mem_cons_of_mem _ hy)) h2)
    · cases h'
theorem call_ok {c : Call} {f : FuncId} (ho : o.op = .call c) (hcal : c.callee = .value (.func f)) : OpOK C nl o (runOp (.nl (opCallF f) (ods nl c.args.toList))) := by
  intro rec X k pt tl h r hk
  obtain ⟨vs, hvs, hk1⟩ := evAll_some (show evAll (ods nl c.args.toList) pt tl _ = some r from hk)
  obtain ⟨v, h', hv, hk2⟩ := valK_some hk1
  refine ⟨v, h', hk2, ?_⟩
  intro P σ ρ w a b hc hcy hr hop
  have hargs := args_R (fun x hx u hu => hop x (by simp [ho, Op.operands, Call.operands]; right; simpa using hx) u hu) hvs
  obtain ⟨v', w', ρ', h1, h2⟩ := hcy.call X f vs h v h' hv ρ w _ hr hargs
  refine ⟨v', w', ρ', does_of_enter (args := (c.args.toList.map a.eval).toArray) (by intro c'; rw [ho]; simp) ?_ h1, h2⟩
  have := h1.1 (c.args.map a.eval) w
  simp only [execOp, ho, resolve, hcal, Act.eval, Deferred.ofValue, Sem.run_bind, Sem.run_pure, Result.andThen_ok, invoke, Array.append_empty, Array.empty_append]
  rw [this]
  simp [← Array.toList_map]
theorem callV_ok {c : Call} {g : Operand} (ho : o.op = .call c) (hcal : c.callee = .value g) : OpOK C nl o (runOp (.n1l opCallV (od nl g) (ods nl c.args.toList))) := by
  intro rec X k pt tl h r hk
  obtain ⟨u, hu, hk1⟩ := ev_some (show ev (od nl g) pt tl _ = some r from hk)
  obtain ⟨fv, rfl, hk2⟩ := oneK_some hk1
  obtain ⟨vs, hvs, hk3⟩ := evAll_some (show evAll (ods nl c.args.toList) pt tl _ = some r from hk2)
  cases fv with
  | fn f caps =>
    obtain ⟨v, h', hv, hk4⟩ := valK_some hk3
    refine ⟨v, h', hk4, ?_⟩
    intro P σ ρ w a b hc hcy hr hop
    have hargs := args_R (fun x hx u hu => hop x (by simp [ho, Op.operands, Call.operands]; right; simpa using hx) u hu) hvs
    obtain ⟨cvs, hg, hcaps⟩ := hop g (by simp [ho, Op.operands, Call.operands, hcal]) _ hu
    have hall : F2 (AVR ρ σ) (app vs (capsAV caps)) (c.args.toList.map a.eval ++ cvs) := by
      rw [app_eq]
      refine hargs.append ?_
      clear hk1 hk2 hk3 hv hu hg
      induction hcaps with
      | nil => exact .nil
      | cons hx _ ih => exact .cons hx ih
    obtain ⟨v', w', ρ', h1, h2⟩ := hcy.call X f _ h v h' hv ρ w _ hr hall
    refine ⟨v', w', ρ', does_of_enter (by intro c'; rw [ho]; simp) ?_ h1, h2⟩
    have := h1.1 (c.args.map a.eval ++ cvs.toArray) w
    simp only [execOp, ho, resolve, hcal, hg, Deferred.ofValue, Sem.run_bind, Sem.run_pure, Result.andThen_ok, invoke, Array.empty_append]
    rw [this]
    simp
  | yld l =>
    obtain ⟨v, h', hv, hk4⟩ := valK_some hk3
    refine ⟨v, h', hk4, ?_⟩
    intro P σ ρ w a b hc hcy hr hop
    have hargs := args_R (fun x hx u hu => hop x (by simp [ho, Op.operands, Call.operands]; right; simpa using hx) u hu) hvs
    obtain ⟨rr, S, hl, hg⟩ := hop g (by simp [ho, Op.operands, Call.operands, hcal]) _ hu
    obtain ⟨v', w', ρ', h1, h2⟩ := hcy.yld X l vs h v h' hv ρ w _ rr S hl hr hargs
    refine ⟨v', w', ρ', does_of_round (by intro c'; rw [ho]; simp) ?_ h1, h2⟩
    simp only [execOp, ho, resolve, hcal, hg, Deferred.ofValue, Sem.run_bind, Sem.run_pure, Result.andThen_ok, invoke, Array.empty_append]
    simp [← Array.toList_map]
  | _ => cases hk3
theorem bin_ok {op : BinOp} {t t' : TypeId} {x y : Operand} (ho : o.op = .binOp op t x y t') : ReadL C nl o (runOp (cBin C nl op t x y)) := by
  unfold cBin
  cases ht : C.ty t with
  | none => rw [tyK_none ht]; exact bad_read
  | some ti =>
    rw [tyK_some ht]
    have two : ∀ (f : Bool → AOp), (∀ ne, op = opOf ne → ReadL C nl o (runOp (f ne))) → ReadL C nl o (runOp (eqOp op f)) := by
      intro f hf
      cases op with
      | eql => exact hf false rfl
      | neq => exact hf true rfl
      | _ => exact bad_read
    cases hu : ti.und with
    | int q => exact (bin_pure ho).read
    | bool => exact two _ fun ne hne => (eqBool_pure (hne ▸ ho) ht hu).read
    | pointer el =>
      show ReadL C nl o (runOp (tyK C el _ _))
      cases hel : C.ty el with
      | none => rw [tyK_none hel]; exact bad_read
      | some ei =>
        rw [tyK_some hel]
        cases hz : Nat.beq ei.size 0 with
        | true => exact bad_read
        | false => exact two _ fun ne hne => eqPtr_read (hne ▸ ho) ht hu hel hz
    | slice e => exact two _ fun ne hne => (eqNilS_pure (hne ▸ ho) ht ⟨_, hu⟩).read
    | map q e => exact two _ fun ne hne => (eqNilM_pure (hne ▸ ho) ht ⟨_, _, hu⟩).read
    | func q e v => exact two _ fun ne hne => (eqNilF_pure (hne ▸ ho) ht ⟨_, _, _, hu⟩).read
    | struct fs =>
      cases hcs : cks C 8 t with
      | none => exact bad_read
      | some cs => exact two (fun ne => .n2 (opEqAgg C ne cs) (od nl x) (od nl y)) fun ne hne => (eqAgg_pure (hne ▸ ho) ht (.inl ⟨_, hu⟩) hcs).read
    | array n e =>
      cases hcs : cks C 8 t with
      | none => exact bad_read
      | some cs => exact two (fun ne => .n2 (opEqAgg C ne cs) (od nl x) (od nl y)) fun ne hne => (eqAgg_pure (hne ▸ ho) ht (.inr ⟨_, _, hu⟩) hcs).read
    | _ => exact bad_read
end Eng
end

noncomputable section
namespace Eng
open Go
variable {ρ ρ' : Rho} {σ : Sig} {C : Cfg} {P : Program} {nl nt : Nat} {o : Oper}

theorem elemK_ind {t : TypeId} {k : TI → AOp} (M : AOp → Prop) (hbad : M (.n0 opBad)) (h : ∀ ti el ei, C.ty t = some ti → ti.und = .slice el → C.ty el = some ei → M (k ei)) : M (elemK C t k) := by
  unfold elemK
  cases ht : C.ty t with
  | none => rw [tyK_none ht]; exact hbad
  | some ti =>
    rw [tyK_some ht]
    split
    · rename_i el hu
      cases he : C.ty el with
      | none => rw [tyK_none he]; exact hbad
      | some ei => rw [tyK_some he]; exact h ti el ei ht hu he
    · exact hbad
theorem len_all {c : Call} {t : TypeId} {ts : List TypeId} {x : Operand} (ho : o.op = .call c) (hcal : c.callee = .builtin .len) (hts : c.argTypes.toList = t :: ts) (hxs : c.args.toList = [x]) : ReadL C nl o (runOp (cLen C t (od nl x))) := by
  unfold cLen
  cases ht : C.ty t with
  | none => rw [tyK_none ht]; exact bad_read
  | some ti =>
    rw [tyK_some ht]
    split
    · exact (len_pure ho hcal hts hxs ht (by assumption)).read
    · rename_i n el hu
      refine (lenC_pure ho hcal hts hxs ?_).read
      intro P σ w v hc
      have h1 := (hc.ty t ti ht).runUnd w
      rw [hu] at h1
      simp [Builtin.len_, arr0 hts, h1]
    · rename_i a hu
      cases ha : C.ty a with
      | none => rw [tyK_none ha]; exact bad_read
      | some ai =>
        rw [tyK_some ha]
        split
        · rename_i n el hu2
          refine (lenC_pure ho hcal hts hxs ?_).read
          intro P σ w v hc
          have h1 := (hc.ty t ti ht).runUnd w
          have h2 := (hc.ty a ai ha).runUnd w
          rw [hu] at h1
          rw [hu2] at h2
          simp [Builtin.len_, arr0 hts, h1, h2]
        · exact bad_read
    · exact lenMap_read ho hcal hts hxs ht (by assumption)
    · exact bad_read
theorem isSl_some {t : TypeId} (h : isSl C t = true) : ∃ ti e, C.ty t = some ti ∧ ti.und = .slice e := by
  unfold isSl at h
  split at h
  · rename_i ti hti
    split at h
    · rename_i e he; exact ⟨ti, e, hti, he⟩
    · cases h
  · cases h
theorem ods_one {l : List Operand} {x : Od} (h : ods nl l = [x]) : ∃ a, l = [a] ∧ x = od nl a := by
  cases l with
  | nil => cases h
  | cons a l => cases l with
    | nil => cases h; exact ⟨a, rfl, rfl⟩
    | cons b l => cases h
theorem ods_two {l : List Operand} {x y : Od} (h : ods nl l = [x, y]) : ∃ a b, l = [a, b] ∧ x = od nl a ∧ y = od nl b := by
  cases l with
  | nil => cases h
  | cons a l => cases l with
    | nil => cases h
    | cons b l => cases l with
      | nil => cases h; exact ⟨a, b, rfl, rfl, rfl⟩
      | cons c l => cases h
theorem isIntT_some {t : TypeId} (h : isIntT C t = true) : ∃ ti k, C.ty t = some ti ∧ ti.und = .int k := by
  unfold isIntT at h
  split at h
  · rename_i ti ht
    split at h
    · rename_i k hk
      exact ⟨ti, k, ht, hk⟩
    · cases h
  · cases h
theorem builtin_ok {c : Call} {b : Builtin} (ho : o.op = .call c) (hcal : c.callee = .builtin b) : EffL C nl o (runOp (cBuiltin C b c.argTypes.toList (ods nl c.args.toList))) := by
  generalize hts : c.argTypes.toList = ts
  generalize hxs : ods nl c.args.toList = xs
  unfold cBuiltin
  split
  · rename_i t t2 s x
    obtain ⟨a, b', h1, rfl, rfl⟩ := ods_two hxs
    refine elemK_ind (fun q => EffL C nl o (runOp q)) bad_eff ?_
    intro ti el ei ht hu hei
    cases hq : (Nat.ble ei.bytes 65536 && Nat.ble 1 ei.size && isSl C t2) with
    | false =>
      cases hq2 : (Nat.ble ei.bytes 65536 && Nat.ble 1 ei.size && isIntT C t2) with
      | false => exact bad_eff
      | true =>
        simp only [Bool.and_eq_true] at hq2
        obtain ⟨ti2, kn, ht2, hu2⟩ := isIntT_some hq2.2
        exact appendZ_eff ho hcal hts h1 ht hu hei ht2 hu2 (ble_le hq2.1.1) (ble_le hq2.1.2)
    | true =>
      simp only [Bool.and_eq_true] at hq
      obtain ⟨ti2, e2, ht2, hu2⟩ := isSl_some hq.2
      exact append_eff ho hcal hts h1 ht hu hei ht2 hu2 (ble_le hq.1.1) (ble_le hq.1.2)
  · obtain ⟨a, h1, rfl⟩ := ods_one hxs
    exact (len_all ho hcal hts h1).eff
  · obtain ⟨a, h1, rfl⟩ := ods_one hxs
    refine elemK_ind (fun q => EffL C nl o (runOp q)) bad_eff ?_
    intro ti el ei ht hu hei
    exact (cap_pure ho hcal hts h1 ht hu).read.eff
  · obtain ⟨a, b', h1, rfl, rfl⟩ := ods_two hxs
    refine elemK_ind (fun q => EffL C nl o (runOp q)) bad_eff ?_
    intro ti el ei ht hu hei
    exact copy_eff ho hcal hts h1 ht hu hei
  · obtain ⟨a, h1, rfl⟩ := ods_one hxs
    refine elemK_ind (fun q => EffL C nl o (runOp q)) bad_eff ?_
    intro ti el ei ht hu hei
    exact clear_eff ho hcal hts h1 ht hu hei
  · obtain ⟨a, b', h1, rfl, rfl⟩ := ods_two hxs
    exact delete_eff ho hcal hts h1
  · obtain ⟨a, b', h1, rfl, rfl⟩ := ods_two hxs
    exact (minmax_pure (mx := true) ho hcal h1).read.eff
  · obtain ⟨a, b', h1, rfl, rfl⟩ := ods_two hxs
    exact (minmax_pure (mx := false) ho hcal h1).read.eff
  · exact bad_eff
theorem op_ok (o : Oper) : OpOK C nl o (runOp (cOp C nl o.op)) := by
  cases ho : o.op with
  | move x => exact (mov_pure (.inl ho)).read.eff.ok (by simp [ho])
  | assign x => exact (mov_pure (.inr ho)).read.eff.ok (by simp [ho])
  | pick c a b => exact (pick_pure ho).read.eff.ok (by simp [ho])
  | alloc t => exact (alloc_alloc ho).eff.ok (by simp [ho])
  | box t x => exact (box_alloc ho).eff.ok (by simp [ho])
  | build t ps => exact (build_pure ho).read.eff.ok (by simp [ho])
  | buildSlice t ln ps => exact (buildSlice_alloc ho).eff.ok (by simp [ho])
  | load t a => exact (load_read ho).eff.ok (by simp [ho])
  | store t a x => exact (store_eff ho).ok (by simp [ho])
  | nilCheck x => exact (nil_pure ho).read.eff.ok (by simp [ho])
  | binOp op t x y t' => exact (bin_ok ho).eff.ok (by simp [ho])
  | unOp op t x => exact (un_pure ho).read.eff.ok (by simp [ho])
  | convert src dst x =>
    refine EffL.ok (by simp [ho]) ?_
    show EffL C nl o (runOp (tyK C src (.n0 opBad) _))
    cases hs : C.ty src with
    | none => rw [tyK_none hs]; exact bad_eff
    | some ts =>
      rw [tyK_some hs]
      cases hd : C.ty dst with
      | none => rw [tyK_none hd]; exact bad_eff
      | some td =>
        rw [tyK_some hd]
        split
        · exact (conv_pure ho hs hd (by assumption)).read.eff
        · exact bad_eff
  | makeFunc fn first caps =>
    refine EffL.ok (by simp [ho]) ?_
    cases fn with
    | func f =>
      obtain ⟨l⟩ := first
      cases l with
      | nil => exact (makeFunc_pure ho).read.eff
      | cons y l => exact bad_eff
    | _ => exact bad_eff
  | makeMap t r =>
    cases r with
    | none => exact (makeMap_alloc ho).eff.ok (by simp [ho])
    | some x => exact bad_ok
  | makeSlice t l c => exact (makeSlice_alloc ho).eff.ok (by simp [ho])
  | slice t x lo hi mx => exact (slice_read ho).eff.ok (by simp [ho])
  | fieldAddr s x f => exact (fld_pure ho).read.eff.ok (by simp [ho])
  | field s x f => exact (field_pure ho).read.eff.ok (by simp [ho])
  | indexAddr t x i => exact (idxAddr_pure ho).read.eff.ok (by simp [ho])
  | index t x i => exact (index_pure ho).read.eff.ok (by simp [ho])
  | lookup t x q ok => exact (lookup_read ho).eff.ok (by simp [ho])
  | mapUpdate t m q x => exact (mapSet_eff (.inl ho)).ok (by simp [ho])
  | insert t m q x => exact (mapSet_eff (.inr ho)).ok (by simp [ho])
  | mapEntry t m q => exact (mapEntry_eff ho).ok (by simp [ho])
  | entryStore t m s x => exact (entryStore_eff ho).ok (by simp [ho])
  | range t x => exact (range_eff ho).ok (by simp [ho])
  | next it isStr =>
    cases isStr with
    | true => exact bad_ok
    | false => exact (next_eff ho).ok (by simp [ho])
  | entry it => exact (entry_read ho).eff.ok (by simp [ho])
  | extract x i => exact (extract_pure ho).read.eff.ok (by simp [ho])
  | call c =>
    show OpOK C nl o (runOp (match c.callee with
      | .value (.func f) => .nl (opCallF f) (ods nl c.args.toList)
      | .value f => .n1l opCallV (od nl f) (ods nl c.args.toList)
      | .builtin b => cBuiltin C b c.argTypes.toList (ods nl c.args.toList)
      | _ => (.n0 opBad)))
    split
    · exact call_ok ho (by assumption)
    · exact callV_ok ho (by assumption)
    · exact (builtin_ok ho (by assumption)).ok (by simp [ho])
    · exact bad_ok
  | _ => exact bad_ok

/- frames -/
def markR (ρ : Rho) (m : Nat) (d : Deferred) : Prop := ∃ r S, ρ m = some (r, S) ∧ d = { target := .collected r, args := #[] }
structure FrR (ρ : Rho) (σ : Sig) (nt nl : Nat) (fr : FR) (a : Act) : Prop where
  size : nt ≤ a.tmps.size
  pt : PtR ρ σ nl fr.pt a.tmps
  tl : TlR ρ σ nl fr.tl a.tmps
  marks : F2 (markR ρ) fr.marks a.defers
structure CtxR (C : Cfg) (ρ : Rho) (X : Ctx) (b : Frame) : Prop where
  fi : ∃ fi, C.fu X.fn = some fi ∧ fi.nt = X.nt ∧ fi.nl = X.nl
  fn : b.fn = X.fn
  kind : b.kind = .normal
  round : match X.round with | none => b.roundOf = none | some l => ∃ r S, ρ l = some (r, S) ∧ b.roundOf = some r
theorem FrR.mono {fr : FR} {a : Act} (hs : Sub ρ ρ') (h : FrR ρ σ nt nl fr a) : FrR ρ' σ nt nl fr a :=
  ⟨h.size, h.pt.mono hs, h.tl.mono hs, h.marks.mono fun _ _ ⟨r, S, h1, h2⟩ => ⟨r, S, hs _ _ h1, h2⟩⟩
theorem CtxR.mono {X : Ctx} {b : Frame} (hs : Sub ρ ρ') (h : CtxR C ρ X b) : CtxR C ρ' X b := by
  refine ⟨h.fi, h.fn, h.kind, ?_⟩
  have := h.round
  cases hr : X.round with
  | none => rw [hr] at this; exact this
  | some l => rw [hr] at this; obtain ⟨r, S, h1, h2⟩ := this; exact ⟨r, S, hs _ _ h1, h2⟩
theorem scalar_AR {v : Value} {a : A} (h : scalarOf v = some a) : AR ρ σ a v := by
  unfold scalarOf at h
  split at h <;> cases h <;> first | rfl | exact ⟨[], rfl, .nil⟩
theorem scalars_F2 : ∀ {vs : List Value} {l : List A}, mapO scalarOf vs = some l → F2 (AR ρ σ) l vs := by
  intro vs
  induction vs with
  | nil => intro l h; cases h; exact .nil
  | cons v vs ih =>
    intro l h
    obtain ⟨x, xs, h1, h2, rfl⟩ := consO_some (show consO (scalarOf v) (mapO scalarOf vs) = some l from h)
    exact .cons (scalar_AR h1) (ih h2)
theorem value_AVR {v : Value} {u : AV} (h : valueOf v = some u) : AVR ρ σ u v := by
  unfold valueOf at h
  split at h
  · rename_i cs
    split at h
    · rename_i l hl
      cases h
      exact ⟨cs.toList, by simp, scalars_F2 hl⟩
    · cases h
  · split at h
    · rename_i a ha
      cases h
      exact scalar_AR ha
    · cases h
theorem odTmp_val {pt : T AV} {tl : TL} {tmps : Array Value} (hp : PtR ρ σ nl pt tmps) (ht : TlR ρ σ nl tl tmps) {t : Nat} {u : AV} (h : (odTmp nl t).val pt tl = some u) : AVR ρ σ u (tmps.getD t undef) := by
  have key : ∀ v', tmps[t]? = some v' → tmps.getD t undef = v' := by
    intro v' hv
    rw [Array.getD_eq_getD_getElem?, hv]; rfl
  unfold odTmp at h
  cases hb : Nat.blt t nl with
  | true =>
    rw [hb] at h
    have hlt : t < nl := Nat.le_of_ble_eq_true hb
    obtain ⟨v', h1, h2⟩ := hp t u hlt h
    rw [key v' h1]; exact h2
  | false =>
    rw [hb] at h
    have hge : nl ≤ t := by
      rcases Nat.lt_or_ge t nl with h1 | h1
      · have : Nat.blt t nl = true := le_ble h1
        rw [this] at hb; cases hb
      · exact h1
    obtain ⟨v', h1, h2⟩ := ht t u hge h
    rw [key v' h1]; exact h2
theorem od_val {pt : T AV} {tl : TL} {a : Act} (hp : PtR ρ σ nl pt a.tmps) (ht : TlR ρ σ nl tl a.tmps) {x : Operand} {u : AV} (h : (od nl x).val pt tl = some u) : AVR ρ σ u (a.eval x) := by
  cases x with
  | tmp t => exact odTmp_val hp ht h
  | const v =>
    have h' : (match valueOf v with | some v => Od.c v | none => .bad).val pt tl = some u := h
    split at h'
    · rename_i w hw
      cases h'
      exact value_AVR hw
    · cases h'
  | func f => cases h; exact ⟨[], rfl, .nil⟩
  | global g => cases h

/- one operation of a region -/
theorem dstK_some {nt : Nat} {d : Option Tmp} {go : PK} {pt : T AV} {tl : TL} {v : AV} {h : H} {r : Rs} (hk : dstK (cDst nt nl d) go pt tl v h = some r) :
    ∃ pt' tl', go pt' tl' h = some r ∧ ∀ (ρ : Rho) (σ : Sig) (a : Act) (va : Value), nt ≤ a.tmps.size → PtR ρ σ nl pt a.tmps → TlR ρ σ nl tl a.tmps → AVR ρ σ v va →
      PtR ρ σ nl pt' (a.put d va).tmps ∧ TlR ρ σ nl tl' (a.put d va).tmps ∧ nt ≤ (a.put d va).tmps.size ∧ (a.put d va).defers = a.defers := by
  cases d with
  | none => exact ⟨pt, tl, hk, fun ρ σ a va h1 h2 h3 _ => ⟨h2, h3, h1, rfl⟩⟩
  | some d =>
    cases hb : Nat.blt d nt with
    | false =>
      have : cDst nt nl (some d) = .bad := by show (bif Nat.blt d nt then _ else _) = _; rw [hb]; rfl
      rw [this] at hk; cases hk
    | true =>
      have hdt : Nat.succ d ≤ nt := Nat.le_of_ble_eq_true hb
      cases hl : Nat.blt d nl with
      | true =>
        have : cDst nt nl (some d) = .lo d := by show (bif Nat.blt d nt then (bif Nat.blt d nl then Dst.lo d else .tm d) else .bad) = _; rw [hb, hl]; rfl
        rw [this] at hk
        have hdl : Nat.succ d ≤ nl := Nat.le_of_ble_eq_true hl
        refine ⟨T.set pt d v, tl, hk, ?_⟩
        intro ρ σ a va h1 h2 h3 h4
        refine ⟨?_, ?_, by simpa [Act.put] using h1, rfl⟩
        · intro t u ht hu
          simp only [Act.put]
          rcases T.get_set hu with ⟨e1, e2⟩ | ⟨e1, e2⟩
          · subst e1; subst e2
            exact ⟨va, by rw [Array.getElem?_setIfInBounds_self_of_lt (Nat.lt_of_lt_of_le hdt h1)], h4⟩
          · rw [Array.getElem?_setIfInBounds_ne (by omega)]
            exact h2 t u ht e2
        · intro t u ht hu
          simp only [Act.put]
          rw [Array.getElem?_setIfInBounds_ne (Nat.ne_of_lt (Nat.lt_of_lt_of_le hdl ht))]
          exact h3 t u ht hu
      | false =>
        have : cDst nt nl (some d) = .tm d := by show (bif Nat.blt d nt then (bif Nat.blt d nl then Dst.lo d else .tm d) else .bad) = _; rw [hb, hl]; rfl
        rw [this] at hk
        have hdl : nl ≤ d := by
          rcases Nat.lt_or_ge d nl with h1 | h1
          · have : Nat.blt d nl = true := le_ble h1
            rw [this] at hl; cases hl
          · exact h1
        refine ⟨pt, .cons d v tl, hk, ?_⟩
        intro ρ σ a va h1 h2 h3 h4
        refine ⟨?_, ?_, by simpa [Act.put] using h1, rfl⟩
        · intro t u ht hu
          simp only [Act.put]
          rw [Array.getElem?_setIfInBounds_ne (fun e => absurd (Nat.lt_of_lt_of_le ht hdl) (by rw [e]; exact Nat.lt_irrefl _))]
          exact h2 t u ht hu
        · intro t u ht hu
          simp only [Act.put]
          by_cases e : d = t
          · subst e
            simp [TL.find] at hu
            subst hu
            exact ⟨va, by rw [Array.getElem?_setIfInBounds_self_of_lt (Nat.lt_of_lt_of_le hdt h1)], h4⟩
          · simp [TL.find, e] at hu
            rw [Array.getElem?_setIfInBounds_ne e]
            exact h3 t u ht hu
/-- a guard, and whether it lets the operation run -/
theorem wantedB_eq {want : Bool} {v : AV} {va : Value} (h : AVR ρ σ v va) (hb : wantedB want v = true) : va = .bool want := by
  cases v with
  | one a =>
    cases a with
    | bool b =>
      have h1 : va = .bool b := h
      have h2 : boolEqb b want = true := hb
      rw [boolEqb_eq] at h2
      rw [h1, eq_of_beq h2]
    | _ => cases hb
  | _ => cases hb
theorem wantedB_ne {want : Bool} {v : AV} {va : Value} (h : AVR ρ σ v va) (hb : wantedB want v = false) : va ≠ .bool want := by
  intro e
  subst e
  cases v with
  | one a =>
    cases a with
    | bool b =>
      have h1 : Value.bool want = .bool b := h
      cases h1
      have h2 : boolEqb want want = false := hb
      rw [boolEqb_eq] at h2
      simp at h2
    | sym q e => simp [AVR, AR] at h
    | slice b off l c => obtain ⟨_, _, _, h⟩ := h; cases h
    | fsl b off l c => obtain ⟨_, _, _, _, h, _⟩ := h; cases h
    | emp => obtain ⟨_, _, h⟩ := h; cases h
    | ptr b off => obtain ⟨_, _, _, h⟩ := h; cases h
    | map r => obtain ⟨_, _, _, h⟩ := h; cases h
    | fn f cs => obtain ⟨_, h, _⟩ := h; cases h
    | yld l => obtain ⟨_, _, _, h⟩ := h; cases h
    | _ => simp [AVR, AR] at h
  | agg l => obtain ⟨_, h, _⟩ := h; cases h
  | tup l => obtain ⟨_, h, _⟩ := h; cases h
theorem odTmp_get {pt : T AV} {tl : TL} {tmps : Array Value} (hp : PtR ρ σ nl pt tmps) (ht : TlR ρ σ nl tl tmps) {t : Nat} {u : AV} (h : (odTmp nl t).val pt tl = some u) : ∃ v, tmps[t]? = some v ∧ AVR ρ σ u v := by
  unfold odTmp at h
  cases hb : Nat.blt t nl with
  | true =>
    rw [hb] at h
    exact hp t u (Nat.le_of_ble_eq_true hb) h
  | false =>
    rw [hb] at h
    refine ht t u ?_ h
    rcases Nat.lt_or_ge t nl with h1 | h1
    · have : Nat.blt t nl = true := le_ble h1
      rw [this] at hb; cases hb
    · exact h1
theorem ops_seq {ops : Array Oper} {rec : Rec} {X : Ctx} {marks : List Nat} : ∀ (l : List Oper) (i : Nat), ops.toList.drop i = l → ∀ {pt : T AV} {tl : TL} {h : H} {r : Rs},
    opsL rec X marks (cOps C X.nt X.nl ops.toList l) pt tl h = some r → ∃ fr' h', r = .code .norm fr' h' ∧
    ∀ P σ ρ w (a : Act) (b : Frame), CfgOK P C σ → CY C P σ rec → Rel ρ σ C h w → FrR ρ σ X.nt X.nl ⟨pt, tl, marks⟩ a →
      ∃ a' w' ρ', (∀ k cs, Steps P (lone (b.atR a (.inRegion ops (List.range' i (ops.size - i)) :: k)) cs w) (lone (b.atR a' k) cs w')) ∧ FrR ρ' σ X.nt X.nl fr' a' ∧ Rel ρ' σ C h' w' ∧ Ext ρ ρ' h h' w w' := by
  intro l
  induction l with
  | nil =>
    intro i hl pt tl h r hk
    cases hk
    refine ⟨_, _, rfl, ?_⟩
    intro P σ ρ w a b hc hcy hr hf
    have : ops.size ≤ i := by
      have := congrArg List.length hl
      simp at this
      omega
    refine ⟨a, w, ρ, ?_, hf, hr, Ext.refl ρ h w hr⟩
    intro k cs
    rw [show ops.size - i = 0 by omega]
    exact .one stepR_region_end
  | cons o l ih =>
    intro i hl pt tl h r hk
    have hlt : i < ops.size := by
      rcases Nat.lt_or_ge i ops.size with h1 | h1
      · exact h1
      · rw [List.drop_eq_nil_of_le (by simpa using h1)] at hl; cases hl
    have hoi : ops[i]? = some o := by
      have : (ops.toList.drop i)[0]? = some o := by rw [hl]; rfl
      simpa using this
    have hl' : ops.toList.drop (i + 1) = l := by
      have := congrArg (List.drop 1) hl
      simpa [List.drop_drop] using this
    have hrange : List.range' i (ops.size - i) = i :: List.range' (i + 1) (ops.size - (i + 1)) := by
      rw [show ops.size - i = (ops.size - (i + 1)) + 1 by omega, List.range'_succ]
    rw [hrange]
    have hk' : stepO rec X (cOpr C X.nt X.nl ops.toList o) (opsL rec X marks (cOps C X.nt X.nl ops.toList l)) pt tl h = some r := hk
    clear hk
    -- the operation runs
    have run : ∀ (hk : runOp (cOp C X.nl o.op) rec X (dstK (cDst X.nt X.nl o.dst) (opsL rec X marks (cOps C X.nt X.nl ops.toList l)) pt tl) pt tl h = some r),
        ∃ fr' h', r = .code .norm fr' h' ∧
        ∀ P σ ρ w (a : Act) (b : Frame), CfgOK P C σ → CY C P σ rec → Rel ρ σ C h w → FrR ρ σ X.nt X.nl ⟨pt, tl, marks⟩ a → Region.wanted o (yielded ops a.tmps) = true →
          ∃ a' w' ρ', (∀ k cs, Steps P (lone (b.atR a (.inRegion ops (i :: List.range' (i + 1) (ops.size - (i + 1))) :: k)) cs w) (lone (b.atR a' k) cs w')) ∧ FrR ρ' σ X.nt X.nl fr' a' ∧ Rel ρ' σ C h' w' ∧ Ext ρ ρ' h h' w w' := by
      intro hk
      obtain ⟨v, h1, hk1, hrun⟩ := op_ok (C := C) (nl := X.nl) o rec X _ pt tl h r hk
      obtain ⟨pt', tl', hk2, hput⟩ := dstK_some hk1
      obtain ⟨fr', h', hr0, hrest⟩ := ih (i + 1) hl' hk2
      refine ⟨fr', h', hr0, ?_⟩
      intro P σ ρ w a b hc hcy hr hf hw
      obtain ⟨va, w1, ρ1, hdo, hv, hr1, he1⟩ := hrun P σ ρ w a b hc hcy hr (fun x _ u hu => od_val hf.pt hf.tl hu)
      have hs := he1.sub hr
      obtain ⟨p1, p2, p3, p4⟩ := hput ρ1 σ a va hf.size (hf.pt.mono hs) (hf.tl.mono hs) hv
      obtain ⟨a', w', ρ', hsteps, hf', hr', he'⟩ := hrest P σ ρ1 w1 (a.put o.dst va) b hc hcy hr1 ⟨p3, p1, p2, by rw [p4]; exact (hf.mono hs).marks⟩
      exact ⟨a', w', ρ', fun k cs => (hdo ops i _ k cs hoi hw).trans (hsteps k cs), hf', hr', he1.trans hr hr1 he'⟩
    have skip : ∀ (hk : dstK (cDst X.nt X.nl o.dst) (opsL rec X marks (cOps C X.nt X.nl ops.toList l)) pt tl (.tup []) h = some r),
        ∃ fr' h', r = .code .norm fr' h' ∧
        ∀ P σ ρ w (a : Act) (b : Frame), CfgOK P C σ → CY C P σ rec → Rel ρ σ C h w → FrR ρ σ X.nt X.nl ⟨pt, tl, marks⟩ a → Region.wanted o (yielded ops a.tmps) = false →
          ∃ a' w' ρ', (∀ k cs, Steps P (lone (b.atR a (.inRegion ops (i :: List.range' (i + 1) (ops.size - (i + 1))) :: k)) cs w) (lone (b.atR a' k) cs w')) ∧ FrR ρ' σ X.nt X.nl fr' a' ∧ Rel ρ' σ C h' w' ∧ Ext ρ ρ' h h' w w' := by
      intro hk
      obtain ⟨pt', tl', hk2, hput⟩ := dstK_some hk
      obtain ⟨fr', h', hr0, hrest⟩ := ih (i + 1) hl' hk2
      refine ⟨fr', h', hr0, ?_⟩
      intro P σ ρ w a b hc hcy hr hf hw
      obtain ⟨p1, p2, p3, p4⟩ := hput ρ σ a undef hf.size hf.pt hf.tl ⟨[], rfl, .nil⟩
      obtain ⟨a', w', ρ', hsteps, hf', hr', he'⟩ := hrest P σ ρ w (a.put o.dst undef) b hc hcy hr ⟨p3, p1, p2, by rw [p4]; exact hf.marks⟩
      refine ⟨a', w', ρ', fun k cs => .head ?_ (hsteps k cs), hf', hr', he'⟩
      have := stepR_op_skip (P := P) (b := b) (a := a) (k := k) (cs := cs) (w := w) (ops := ops) (i := i) (rest := List.range' (i + 1) (ops.size - (i + 1))) (by simp [hoi, hw])
      rw [hoi] at this
      exact this
    cases hg : o.guard with
    | none =>
      have : cOpr C X.nt X.nl ops.toList o = .mk none (cDst X.nt X.nl o.dst) (cOp C X.nl o.op) := by unfold cOpr; rw [hg]
      rw [this] at hk'
      obtain ⟨fr', h', hr0, hall⟩ := run hk'
      exact ⟨fr', h', hr0, fun P σ ρ w a b hc hcy hr hf => hall P σ ρ w a b hc hcy hr hf (by simp [Region.wanted, hg])⟩
    | some jw =>
      obtain ⟨j, want⟩ := jw
      have hcop : cOpr C X.nt X.nl ops.toList o = (match nth ops.toList j with
        | some g => match g.dst with
          | some d => .mk (some ⟨odTmp X.nl d, want⟩) (cDst X.nt X.nl o.dst) (cOp C X.nl o.op)
          | none => .bad
        | none => .bad) := by unfold cOpr; rw [hg]; rfl
      rw [hcop] at hk'
      split at hk'
      · rename_i g hgj
        split at hk'
        · rename_i d hgd
          rw [nth_eq] at hgj
          have hgj' : ops[j]? = some g := by simpa using hgj
          obtain ⟨u, hu, hk2⟩ := ev_some (show ev (odTmp X.nl d) pt tl _ = some r from hk')
          have hyl : ∀ (σ : Sig) (ρ : Rho) (a : Act), FrR ρ σ X.nt X.nl ⟨pt, tl, marks⟩ a → ∃ va, AVR ρ σ u va ∧ (yielded ops a.tmps j = some want ↔ va = .bool want) := by
            intro σ ρ a hf
            obtain ⟨va, h1, h2⟩ := odTmp_get hf.pt hf.tl hu
            refine ⟨va, h2, ?_⟩
            simp only [yielded, hgj', Option.bind_some, hgd, h1]
            cases va <;> simp
          rcases boolRec_some hk2 with ⟨hb, hk3⟩ | ⟨hb, hk3⟩
          · obtain ⟨fr', h', hr0, hall⟩ := skip hk3
            refine ⟨fr', h', hr0, fun P σ ρ w a b hc hcy hr hf => hall P σ ρ w a b hc hcy hr hf ?_⟩
            obtain ⟨va, h2, h3⟩ := hyl σ ρ a hf
            have := wantedB_ne h2 hb
            simp only [Region.wanted, hg]
            cases hq : (yielded ops a.tmps j == some want) with
            | false => rfl
            | true => exact absurd (h3.1 (eq_of_beq hq)) this
          · obtain ⟨fr', h', hr0, hall⟩ := run hk3
            refine ⟨fr', h', hr0, fun P σ ρ w a b hc hcy hr hf => hall P σ ρ w a b hc hcy hr hf ?_⟩
            obtain ⟨va, h2, h3⟩ := hyl σ ρ a hf
            have := wantedB_eq h2 hb
            simp only [Region.wanted, hg, h3.2 this]
            simp
        · cases hk'
      · cases hk'
end Eng
end
