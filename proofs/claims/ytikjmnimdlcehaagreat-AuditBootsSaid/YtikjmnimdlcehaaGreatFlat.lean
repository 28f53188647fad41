/- Arguments that are structs and arrays of ints and bools: what their cells are, and that they read the same in every world. No conditions beside those in its theorems. -/
import Derived.ChangeArms
set_option linter.unusedVariables false
noncomputable section
namespace Flat
open Go
variable {H : Type} {enc : TypeId × Value → H} {P : Program} {w w' : World} {base base' : Nat} {spare spare' : Nat → Bool} {held held' : Bool}

inductive FK where
  | b
  | n (k : IntKind)
/-- ints and bools alone, in structs and arrays: their kinds, a cell each -/
def kinds (P : Program) : Nat → TypeId → Option (List FK)
  | 0, _ => none
  | n + 1, t => match P.underlying t with
    | some (.int k) => some [.n k]
    | some .bool => some [.b]
    | some (.struct fs) => (fs.toList.mapM fun f => kinds P n f.type).map List.flatten
    | some (.array m e) => (kinds P n e).map fun ks => (List.replicate m ks).flatten
    | _ => none
theorem mapM_congr {α β : Type} {f g : α → Option β} : ∀ {l : List α}, (∀ x ∈ l, f x = g x) → l.mapM f = l.mapM g := by
  intro l
  induction l with
  | nil => intro _; rfl
  | cons x l ih =>
    intro h
    rw [List.mapM_cons, List.mapM_cons, h x (by simp), ih fun y hy => h y (List.mem_cons_of_mem _ hy)]
theorem mapM_some {α β : Type} {f : α → Option β} : ∀ {l : List α} {r : List β}, l.mapM f = some r → r.length = l.length ∧ ∀ (i : Nat) (x : α), l[i]? = some x → ∃ y, r[i]? = some y ∧ f x = some y := by
  intro l
  induction l with
  | nil => intro r h; simp at h; subst h; exact ⟨rfl, fun i x hx => by simp at hx⟩
  | cons a l ih =>
    intro r h
    rw [List.mapM_cons] at h
    cases ha : f a with
    | none => rw [ha] at h; cases h
    | some b =>
      rw [ha] at h
      cases hl : l.mapM f with
      | none => rw [hl] at h; cases h
      | some bs =>
        rw [hl] at h
        cases h
        obtain ⟨h1, h2⟩ := ih hl
        refine ⟨by simp [h1], ?_⟩
        intro i x hx
        cases i with
        | zero => simp at hx; subst hx; exact ⟨b, rfl, ha⟩
        | succ i => simpa using h2 i x (by simpa using hx)
theorem kinds_struct {n : Nat} {t : TypeId} {fs : Array Field} {ks : List FK} (hu : P.underlying t = some (.struct fs)) (h : kinds P (n + 1) t = some ks) : ∃ kss, fs.toList.mapM (fun f => kinds P n f.type) = some kss ∧ ks = kss.flatten := by
  unfold kinds at h
  rw [hu] at h
  simp only [Option.map_eq_some_iff] at h
  obtain ⟨kss, h1, h2⟩ := h
  exact ⟨kss, h1, h2.symm⟩
theorem kinds_array {n m : Nat} {t e : TypeId} {ks : List FK} (hu : P.underlying t = some (.array m e)) (h : kinds P (n + 1) t = some ks) : ∃ k0, kinds P n e = some k0 ∧ ks = (List.replicate m k0).flatten := by
  unfold kinds at h
  rw [hu] at h
  simp only [Option.map_eq_some_iff] at h
  obtain ⟨k0, h1, h2⟩ := h
  exact ⟨k0, h1, h2.symm⟩
/-- such a value reads the same in every world -/
theorem trod_world : ∀ (n : Nat) {t : TypeId} {ks : List FK}, kinds P n t = some ks → ∀ (fuel : Nat) (cs : List Value), DataW.trod enc P w base spare held fuel t cs = DataW.trod enc P w' base' spare' held' fuel t cs := by
  intro n
  induction n with
  | zero => intro t ks h; cases h
  | succ n ih =>
    intro t ks h fuel cs
    cases fuel with
    | zero => rfl
    | succ fuel =>
      cases hu : P.underlying t with
      | none => unfold kinds at h; rw [hu] at h; cases h
      | some d =>
        cases d with
        | int k => unfold DataW.trod; rw [hu]; cases cs with
          | nil => rfl
          | cons c cs => cases cs <;> cases c <;> rfl
        | bool => unfold DataW.trod; rw [hu]; cases cs with
          | nil => rfl
          | cons c cs => cases cs <;> cases c <;> rfl
        | struct fs =>
          obtain ⟨kss, h1, _⟩ := kinds_struct hu h
          have hf : ∀ f ∈ fs.toList, ∀ cs, DataW.trod enc P w base spare held fuel f.type cs = DataW.trod enc P w' base' spare' held' fuel f.type cs := by
            intro f hf cs
            obtain ⟨i, hi⟩ := List.mem_iff_getElem?.1 hf
            obtain ⟨y, _, hy⟩ := (mapM_some h1).2 i f hi
            exact ih hy fuel cs
          unfold DataW.trod
          rw [hu]
          simp only []
          rw [mapM_congr fun f hff => hf f hff _]
        | array m e =>
          obtain ⟨k0, h1, _⟩ := kinds_array hu h
          unfold DataW.trod
          rw [hu]
          simp only []
          rw [mapM_congr fun i _ => ih h1 fuel _]
        | _ => unfold kinds at h; rw [hu] at h; cases h
theorem Trod_world {n : Nat} {t : TypeId} {ks : List FK} (hk : kinds P n t = some ks) {v : Value} {d : DataW H} {p : List MemPlace} (h : DataW.Trod enc P w base spare held t v d p) : DataW.Trod enc P w' base' spare' held' t v d p := by
  obtain ⟨fuel, h⟩ := h
  exact ⟨fuel, by rw [← trod_world (w := w) (base := base) (spare := spare) (held := held) n hk]; exact h⟩
inductive Cells : List FK → List Value → Prop
  | nil : Cells [] []
  | cons {k ks z cs} : (Lit.int k z).wf = true → Cells ks cs → Cells (.n k :: ks) (.int k z :: cs)
  | bool {ks z cs} : Cells ks cs → Cells (.b :: ks) (.bool z :: cs)
theorem Cells.append {ks ks' : List FK} {cs cs' : List Value} (h : Cells ks cs) (h' : Cells ks' cs') : Cells (ks ++ ks') (cs ++ cs') := by
  induction h with
  | nil => exact h'
  | cons hz _ ih => exact .cons hz ih
  | bool _ ih => exact .bool ih
/-- parts lie one behind the other -/
def contig (P : Program) : List Field → Nat → Nat → Bool
  | [], o, total => o == total
  | f :: l, o, total => f.offset == o && contig P l (o + P.cellsOf f.type) total
def lay (P : Program) : Nat → TypeId → Bool
  | 0, _ => false
  | n + 1, t => match P.underlying t with
    | some (.int _) => true
    | some .bool => true
    | some (.struct fs) => contig P fs.toList 0 (P.cellsOf t) && fs.toList.all fun f => lay P n f.type
    | some (.array m e) => m * P.cellsOf e == P.cellsOf t && lay P n e
    | _ => false
theorem cut (cs : List Value) (o s : Nat) : cs.drop o = (cs.drop o).take s ++ cs.drop (o + s) := by
  rw [← List.drop_drop, List.take_append_drop]
theorem mapM_cons_some {α β : Type} {f : α → Option β} {x : α} {l : List α} {r : List β} (h : (x :: l).mapM f = some r) : ∃ y ys, f x = some y ∧ l.mapM f = some ys ∧ r = y :: ys := by
  rw [List.mapM_cons] at h
  cases hx : f x with
  | none => rw [hx] at h; cases h
  | some y =>
    rw [hx] at h
    cases hl : l.mapM f with
    | none => rw [hl] at h; cases h
    | some ys => rw [hl] at h; cases h; exact ⟨y, ys, rfl, rfl, rfl⟩
theorem trod_cells : ∀ (n : Nat) {t : TypeId} {ks : List FK}, kinds P n t = some ks → lay P n t = true → ∀ (fuel : Nat) (cs : List Value) (x : DataW H × List MemPlace), DataW.trod enc P w base spare held fuel t cs = some x → x.2 = [] ∧ Cells ks cs := by
  intro n
  induction n with
  | zero => intro t ks h; cases h
  | succ n ih =>
    intro t ks h hl fuel cs x hx
    cases fuel with
    | zero => cases hx
    | succ fuel =>
      cases hu : P.underlying t with
      | none => unfold kinds at h; rw [hu] at h; cases h
      | some d =>
        cases d with
        | int k =>
          unfold kinds at h
          rw [hu] at h
          cases h
          unfold DataW.trod at hx
          rw [hu] at hx
          cases cs with
          | nil => cases hx
          | cons c cs =>
            cases cs with
            | cons c2 cs => cases c <;> cases hx
            | nil =>
              cases c with
              | int k' z =>
                simp only [] at hx
                split at hx
                · rename_i hc
                  cases hx
                  obtain ⟨rfl, hw⟩ := hc
                  exact ⟨rfl, .cons hw .nil⟩
                · cases hx
              | _ => cases hx
        | bool =>
          unfold kinds at h
          rw [hu] at h
          cases h
          unfold DataW.trod at hx
          rw [hu] at hx
          cases cs with
          | nil => cases hx
          | cons c cs =>
            cases cs with
            | cons c2 cs => cases c <;> cases hx
            | nil =>
              cases c with
              | bool z =>
                cases hx
                exact ⟨rfl, .bool .nil⟩
              | _ => cases hx
        | struct fs =>
          obtain ⟨kss, h1, rfl⟩ := kinds_struct hu h
          unfold lay at hl
          rw [hu] at hl
          simp only [Bool.and_eq_true, List.all_eq_true] at hl
          unfold DataW.trod at hx
          rw [hu] at hx
          simp only [] at hx
          split at hx
          · rename_i hlen
            simp only [Option.map_eq_some_iff] at hx
            obtain ⟨xs, hxs, rfl⟩ := hx
            have key : ∀ (l : List Field) (o : Nat) (kss : List (List FK)) (xs : List (DataW H × List MemPlace)), (∀ f ∈ l, lay P n f.type = true) → contig P l o cs.length = true → l.mapM (fun f => kinds P n f.type) = some kss →
                l.mapM (fun f => DataW.trod enc P w base spare held fuel f.type ((cs.drop f.offset).take (P.cellsOf f.type))) = some xs → xs.flatMap (·.2) = [] ∧ Cells kss.flatten (cs.drop o) := by
              intro l
              induction l with
              | nil =>
                intro o kss xs _ hc hk hx
                simp at hk hx
                subst hk; subst hx
                have : o = cs.length := by simpa [contig] using hc
                subst this
                exact ⟨rfl, by simp; exact .nil⟩
              | cons f l ihl =>
                intro o kss xs hlay hc hk hx
                obtain ⟨k0, kss', hk0, hk1, rfl⟩ := mapM_cons_some hk
                obtain ⟨y, ys, hy, hys, rfl⟩ := mapM_cons_some hx
                simp only [contig, Bool.and_eq_true, beq_iff_eq] at hc
                obtain ⟨rfl, hc⟩ := hc
                obtain ⟨e1, e2⟩ := ih hk0 (hlay f (by simp)) fuel _ y hy
                obtain ⟨e3, e4⟩ := ihl _ kss' ys (fun g hg => hlay g (List.mem_cons_of_mem _ hg)) hc hk1 hys
                refine ⟨by simp [e1, e3], ?_⟩
                rw [List.flatten_cons, cut cs f.offset (P.cellsOf f.type)]
                exact e2.append e4
            have := key fs.toList 0 kss xs hl.2 (by rw [hlen]; exact hl.1) h1 hxs
            exact ⟨this.1, by simpa using this.2⟩
          · cases hx
        | array m e =>
          obtain ⟨k0, h1, rfl⟩ := kinds_array hu h
          unfold lay at hl
          rw [hu] at hl
          simp only [Bool.and_eq_true, beq_iff_eq] at hl
          unfold DataW.trod at hx
          rw [hu] at hx
          simp only [] at hx
          split at hx
          · rename_i hlen
            simp only [Option.map_eq_some_iff] at hx
            obtain ⟨xs, hxs, rfl⟩ := hx
            have key : ∀ (c i : Nat) (xs : List (DataW H × List MemPlace)), (i + c) * P.cellsOf e = cs.length →
                (List.range' i c).mapM (fun i => DataW.trod enc P w base spare held fuel e ((cs.drop (i * P.cellsOf e)).take (P.cellsOf e))) = some xs → xs.flatMap (·.2) = [] ∧ Cells (List.replicate c k0).flatten (cs.drop (i * P.cellsOf e)) := by
              intro c
              induction c with
              | zero =>
                intro i xs hc hx
                simp at hx
                subst hx
                rw [Nat.add_zero] at hc
                rw [hc]
                exact ⟨rfl, by simp; exact .nil⟩
              | succ c ihc =>
                intro i xs hc hx
                rw [List.range'_succ] at hx
                obtain ⟨y, ys, hy, hys, rfl⟩ := mapM_cons_some hx
                obtain ⟨e1, e2⟩ := ih h1 hl.2 fuel _ y hy
                obtain ⟨e3, e4⟩ := ihc (i + 1) ys (by rw [← hc]; congr 1; omega) hys
                refine ⟨by simp [e1, e3], ?_⟩
                rw [List.replicate_succ, List.flatten_cons, cut cs (i * P.cellsOf e) (P.cellsOf e)]
                rw [Nat.add_mul, Nat.one_mul] at e4
                exact e2.append e4
            have := key m 0 xs (by rw [Nat.zero_add, hl.1, hlen]) (by rw [← List.range_eq_range']; exact hxs)
            exact ⟨this.1, by simpa using this.2⟩
          · cases hx
        | _ => unfold kinds at h; rw [hu] at h; cases h
/-- an argument of such a type -/
theorem open_flat {n : Nat} {t : TypeId} {ks : List FK} (hk : kinds P n t = some ks) (hl : lay P n t = true) {v : Value} {d : DataW H} {p : List MemPlace} (h : DataW.Trod enc P w base spare held t v d p) : p = [] ∧ Cells ks v.cells.toList := by
  obtain ⟨fuel, h⟩ := h
  exact trod_cells n hk hl fuel _ _ h
end Flat
