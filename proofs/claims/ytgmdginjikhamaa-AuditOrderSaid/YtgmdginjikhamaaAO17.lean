/- Sorted rows of findings. No conditions beside those in its theorems. -/
import Derived.Test.YtgmdginjikhamaaAO15
set_option linter.unusedSimpArgs false
namespace Go.Proofs.AO
open Go.RowKit Go.Maps Go.Shelf Go.Lib Go.Sort
set_option linter.unusedVariables false
set_option maxRecDepth 100000
set_option maxHeartbeats 1000000
def cf3 (x y : F3) : Int := orI (cmpI x.1 y.1) (cmpI x.2.1 y.2.1) (cmpI x.2.2 y.2.2)
theorem lt3 (x y : F3) : ltOf cf3 x y = decide (x.1 < y.1 ∨ x.1 = y.1 ∧ (x.2.1 < y.2.1 ∨ x.2.1 = y.2.1 ∧ x.2.2 < y.2.2)) := by
  unfold ltOf cf3 orI cmpI
  congr 1
  apply propext
  split <;> split <;> (try split) <;> (try split) <;> (try split) <;> omega
theorem swo3 : SWO (ltOf cf3) where
  irrefl x := by rw [lt3]; simp
  trans x y z h1 h2 := by rw [lt3] at *; simp only [decide_eq_true_eq] at *; omega
  ntrans x y z h1 h2 := by rw [lt3] at *; simp only [decide_eq_false_iff_not] at *; omega
theorem flat_get (l : List F3) : ∀ t, (l.flatMap enc3)[t]? = (l[t / 3]?).bind fun x => (enc3 x)[t % 3]? := by
  induction l with
  | nil => intro t; simp
  | cons x l ih =>
    intro t
    rw [List.flatMap_cons]
    by_cases h : t < 3
    · have h0 : t / 3 = 0 := by omega
      have h1 : t % 3 = t := by omega
      rw [List.getElem?_append_left (by simpa [enc3] using h), h0, h1]
      simp
    · rw [List.getElem?_append_right (by simp [enc3]; omega)]
      have e : (enc3 x).length = 3 := rfl
      rw [e, ih (t - 3)]
      have h0 : t / 3 = (t - 3) / 3 + 1 := by omega
      have h1 : (t - 3) % 3 = t % 3 := by omega
      rw [h0, h1]
      simp
theorem flatK_flat (d : Array F3) : (flatK enc3 3 d).toList = d.toList.flatMap enc3 := by
  apply List.ext_getElem?
  intro t
  rw [flat_get]
  by_cases h : t < d.size * 3
  · have h1 : t / 3 < d.size := by omega
    have h2 : t % 3 < 3 := by omega
    have e3 : (enc3 d[t / 3]).length = 3 := rfl
    simp only [Array.getElem?_toList]
    rw [Array.getElem?_eq_getElem (by simpa using h), Array.getElem?_eq_getElem h1]
    simp only [Option.bind_some]
    rw [List.getElem?_eq_getElem (by rw [e3]; exact h2)]
    congr 1
    have h4 := get_flatK enc3 3 d t h
    rw [getElem!_pos (flatK enc3 3 d) t (by simpa using h), getElem!_pos d (t / 3) h1, getElem!_pos (enc3 d[t / 3]) (t % 3) (by rw [e3]; exact h2)] at h4
    exact h4
  · have h1 : ¬ t / 3 < d.size := by omega
    simp only [Array.getElem?_toList]
    rw [Array.getElem?_eq_none (by simp; omega), Array.getElem?_eq_none (by omega)]
    rfl
/-- a row of findings of one's own, told -/
def Row (w : World) (base : Nat) (v : Value) (d : List F3) : Prop := w.ownsRow base 38 3 v d.length (d.flatMap enc3)
theorem up_sort {W w : World} {g n : Nat} {d' : Array F3} {os : Array Obj} (h : Up W w) (hg : g < w.heap.size) (hb : W.heap.size ≤ g) : Up W (sortWorldK enc3 3 w g 0 n d' os) := by
  have hsz : (putRowK enc3 3 (Sort.ahead w n) g 0 d').heap.size = w.heap.size := by simp [putRowK, putRow, mapBlock, Sort.ahead]
  refine ⟨h.os, h.tape, h.output, ?_, fun k hk => ?_⟩
  · unfold sortWorldK
    rw [size_grow, hsz]
    have := h.size
    omega
  · unfold sortWorldK
    rw [heap_grow_old _ _ (by rw [hsz]; have := h.size; omega)]
    simp only [putRowK, putRow, mapBlock, Sort.ahead]
    rw [Array.getElem?_modify, if_neg (by omega)]
    exact h.block k hk
theorem row_sort {w : World} {base g cap n : Nat} {cur : Array Value} {d d' : List F3} {os : Array Obj} (hg : w.heap[g]? = some (.cells cur 38 (0, 0))) (hb : base ≤ g) (h1 : d.length ≤ cap) (h2 : cap ≤ maxLen) (h3 : cur.size = cap * 3) (hl : d'.length = d.length) :
    Row (sortWorldK enc3 3 w g 0 n d'.toArray os) base (.slice (some ⟨g, 0, none⟩) d.length cap) d' := by
  have hlt := (Array.getElem?_eq_some_iff.1 hg).1
  have hsz : (putRowK enc3 3 (Sort.ahead w n) g 0 d'.toArray).heap.size = w.heap.size := by simp [putRowK, putRow, mapBlock, Sort.ahead]
  have hF : (flatK enc3 3 d'.toArray).toList = d'.flatMap enc3 := by simpa using flatK_flat d'.toArray
  refine ⟨by rw [enc3_len], .inr ⟨g, cap, putCells id 0 (flatK enc3 3 d'.toArray) cur, by rw [hl], hb, ?_, by omega, h2, by simp [putCells, h3], ?_⟩⟩
  · unfold sortWorldK
    rw [heap_grow_old _ _ (by rw [hsz]; exact hlt)]
    simp only [putRowK, putRow, mapBlock, Sort.ahead]
    rw [Array.getElem?_modify, if_pos rfl, hg]
    rfl
  · rw [← hF]
    apply List.ext_getElem?
    intro t
    rw [List.getElem?_take]
    by_cases ht : t < d'.length * 3
    · rw [if_pos ht]
      have htc : t < cur.size := by rw [h3]; omega
      have htf : t < (flatK enc3 3 d'.toArray).size := by simpa using ht
      simp only [Array.getElem?_toList, putCells]
      rw [Array.getElem?_mapIdx, Array.getElem?_eq_getElem htc, Array.getElem?_eq_getElem htf]
      simp only [Option.map_some]
      rw [if_pos ⟨Nat.zero_le _, by omega⟩]
      rw [Nat.sub_zero, getElem!_pos _ t htf]
      rfl
    · rw [if_neg ht]
      simp only [Array.getElem?_toList]
      rw [Array.getElem?_eq_none (by simp; omega)]
theorem holds3 {w : World} {g cap : Nat} {cur : Array Value} {d : List F3} (hg : w.heap[g]? = some (.cells cur 38 (0, 0))) (h1 : d.length ≤ cap) (h3 : cur.size = cap * 3) (h4 : cur.toList.take (d.length * 3) = d.flatMap enc3) : HoldsK enc3 3 w g 0 d.toArray := by
  intro t ht
  rw [size_flatK] at ht
  have ht' : t < d.length * 3 := by simpa using ht
  have hF : (flatK enc3 3 d.toArray).toList = d.flatMap enc3 := by simpa using flatK_flat d.toArray
  constructor
  · rw [Nat.zero_add, cell_of_row _ _ _ _ _ _ hg]
    have e : (flatK enc3 3 d.toArray).toList[t]? = cur.toList[t]? := by
      rw [hF, ← h4, List.getElem?_take, if_pos ht']
    simp only [Array.getElem?_toList] at e
    rw [← e, Array.getElem?_eq_getElem (by simpa using ht), getElem!_pos _ t (by simpa using ht)]
    rfl
  · simp [World.frozen?, hg]
end Go.Proofs.AO
