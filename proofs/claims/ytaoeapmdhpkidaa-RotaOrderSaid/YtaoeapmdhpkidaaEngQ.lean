/-
  The proof engine, part Q: rows that a function of the library has rearranged.
-/
import Derived.Test.YtaoeapmdhpkidaaEngF
import Derived.Sort.Row
import Derived.Sort.Grow
namespace Go.Eng
open Go.Sort
section
variable {I : PH} {R : List Res} {W w : World} {t : TypeId} {α : Type} [Inhabited α]
theorem putCells_take (f : α → Value) (d : Array α) (c : Array Value) (h : d.size ≤ c.size) : (putCells f 0 d c).toList.take d.size = d.toList.map f := by
  refine List.ext_getElem? fun k => ?_
  rw [List.getElem?_take]
  unfold putCells
  by_cases hk : k < d.size
  · rw [if_pos hk, Array.getElem?_toList, Array.getElem?_mapIdx, Array.getElem?_eq_getElem (by omega), Option.map_some, if_pos ⟨Nat.zero_le _, by omega⟩, Nat.sub_zero, List.getElem?_map, Array.getElem?_toList, Array.getElem?_eq_getElem hk, Option.map_some, getElem!_pos d k hk]
  · rw [if_neg hk, List.getElem?_map, Array.getElem?_toList, Array.getElem?_eq_none (by omega)]; rfl
theorem putCells_size (f : α → Value) (off : Nat) (d : Array α) (c : Array Value) : (putCells f off d c).size = c.size := by unfold putCells; simp
theorem heap_grow (w : World) (os : Array Obj) (i : Nat) (h : i < w.heap.size) : (grow w os).heap[i]? = w.heap[i]? := by
  unfold grow
  simp only
  rw [Array.getElem?_append_left h]
theorem heap_putRow (f : α → Value) (w : World) (b off : Nat) (d : Array α) (i : Nat) : (putRow f w b off d).heap[i]? = if b = i then (w.heap[i]?).map (onCells (putCells f off d)) else w.heap[i]? := by
  unfold putRow mapBlock
  simp only
  rw [Array.getElem?_modify]
/-- Behind a rearrangement of a row: the owned list holds other elements, as many. -/
theorem St.putRow {f : α → Value} {b c : Nat} {l l' : List α} (hl : l'.length = l.length) (h : St W I (Vec t 1 (some ⟨b, 0, none⟩) l.length c (l.map f) :: R) w) (n : Nat) (os : Array Obj) :
    St W I (Vec t 1 (some ⟨b, 0, none⟩) l'.length c (l'.map f) :: R) (grow (Sort.putRow f (Go.Sort.ahead w n) b 0 l'.toArray) os) := by
  obtain ⟨⟨m, ⟨m1, m2, hd, rfl, hv, h2⟩, hs⟩, hst⟩ := id h
  rcases hv.2 with ⟨h0, _, _⟩ | ⟨b', cur, he, hb, hnc, hcm, hsz, htake⟩
  · cases h0
  cases he
  have hb0 : w.heap[b]? = some (.cells cur t (0, 0)) := hs.own _ _ (PH.le_or_left _ _ _ _ hb)
  have hlt := (Array.getElem?_eq_some_iff.1 hb0).1
  have hsize : (Sort.putRow f (Go.Sort.ahead w n) b 0 l'.toArray).heap.size = w.heap.size := by unfold Sort.putRow mapBlock Go.Sort.ahead; simp
  have hheap : ∀ i, i < w.heap.size → (grow (Sort.putRow f (Go.Sort.ahead w n) b 0 l'.toArray) os).heap[i]? = if b = i then (w.heap[i]?).map (onCells (putCells f 0 l'.toArray)) else w.heap[i]? := fun i hi => by
    rw [heap_grow _ _ _ (by rw [hsize]; exact hi), heap_putRow]; rfl
  refine h.upd (o := .cells (putCells f 0 l'.toArray cur) t (0, 0)) (b := b) (fun mm hm => ?_) ?_ (fun i hne o' ho => ?_) ⟨rfl, rfl, rfl, ?_, by unfold grow Sort.putRow mapBlock Go.Sort.ahead; exact Nat.le_add_right _ _⟩
  · rcases hm.2 with ⟨h0, _, _⟩ | ⟨b', cur', he, hb', _, _, _, _⟩
    · cases h0
    cases he
    refine ⟨by rw [hb']; rfl, by simp, .inr ⟨b, putCells f 0 l'.toArray cur, rfl, by simp, by omega, hcm, by rw [putCells_size]; exact hsz, ?_⟩⟩
    have := putCells_take f l'.toArray cur (by simp; omega)
    simpa using this
  · rw [hheap b hlt, if_pos rfl, hb0]; rfl
  · rw [hheap i (Array.getElem?_eq_some_iff.1 ho).1, if_neg (fun h => hne h.symm)]; exact ho
  · unfold grow; simp only [Array.size_append]; rw [hsize]; omega
theorem Vec.holds {f : α → Value} {b c : Nat} {l : List α} (h : St W I (Vec t 1 (some ⟨b, 0, none⟩) l.length c (l.map f) :: R) w) : Holds f w b 0 l.toArray ∧ b < w.heap.size := by
  obtain ⟨⟨m, ⟨m1, m2, hd, rfl, hv, h2⟩, hs⟩, hst⟩ := id h
  rcases hv.2 with ⟨h0, _, _⟩ | ⟨b', cur, he, hb, hnc, hcm, hsz, htake⟩
  · cases h0
  cases he
  have hb0 : w.heap[b]? = some (.cells cur t (0, 0)) := hs.own _ _ (PH.le_or_left _ _ _ _ hb)
  refine ⟨fun j hj => ?_, (Array.getElem?_eq_some_iff.1 hb0).1⟩
  have hj' : j < l.length := by simpa using hj
  rw [Nat.zero_add]
  refine ⟨?_, frozen_of_row w b j cur t hb0⟩
  rw [cell_of_row w b j cur t (0, 0) hb0, getElem!_pos l.toArray j hj]
  have h1 : (cur.toList.take (l.length * 1))[j]? = (l.map f)[j]? := by rw [htake]
  rw [List.getElem?_take, if_pos (by omega), Array.getElem?_toList, List.getElem?_map, List.getElem?_eq_getElem hj'] at h1
  rw [h1]; simp
end
end Go.Eng
