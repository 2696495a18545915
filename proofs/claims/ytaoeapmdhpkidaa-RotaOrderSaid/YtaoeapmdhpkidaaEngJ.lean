/-
  The proof engine, part J: rows of structs that slices.SortFunc has rearranged; a contract that owns nothing, as a statement on worlds.
-/
import Derived.Test.YtaoeapmdhpkidaaEngQ
import Derived.Test.YtaoeapmdhpkidaaEngT
import Derived.Shelf.SlSortCmp.WholeK
namespace Go.Eng
open Go.Sort Go.Proofs Go.Shelf Go.RowKit Go.Lib
section
variable {I : PH} {R : List Res} {W w : World} {t : TypeId}
theorem flat_len {α : Type} {enc : α → List Value} {k : Nat} (hk : ∀ x, (enc x).length = k) : ∀ l : List α, (l.flatMap enc).length = l.length * k
  | [] => by simp
  | x :: l => by rw [List.flatMap_cons, List.length_append, hk, flat_len hk l, List.length_cons, Nat.add_mul, Nat.one_mul, Nat.add_comm]
theorem flat_get {α : Type} [Inhabited α] {enc : α → List Value} {k : Nat} (hk : ∀ x, (enc x).length = k) (h0 : 0 < k) : ∀ (l : List α) (i : Nat), i < l.length * k → (l.flatMap enc)[i]? = (enc (l.getD (i / k) default))[i % k]?
  | [], i, h => by simp at h
  | x :: l, i, h => by
    rw [List.flatMap_cons]
    by_cases hi : i < k
    · rw [List.getElem?_append_left (by rw [hk]; exact hi), Nat.div_eq_of_lt hi, Nat.mod_eq_of_lt hi]; rfl
    · rw [List.getElem?_append_right (by rw [hk]; omega), hk, flat_get hk h0 l (i - k) (by rw [List.length_cons, Nat.add_mul, Nat.one_mul] at h; omega)]
      obtain ⟨j, rfl⟩ : ∃ j, i = j + k := ⟨i - k, by omega⟩
      rw [Nat.add_sub_cancel, Nat.add_div_right _ h0, Nat.add_mod_right]; rfl
theorem flat_eq {α : Type} [Inhabited α] {enc : α → List Value} {k : Nat} (hk : ∀ x, (enc x).length = k) (h0 : 0 < k) (l : List α) : flatK enc k l.toArray = (l.flatMap enc).toArray := by
  refine ext_get! (by simp [flat_len hk]) fun i hi => ?_
  have hi' : i < l.length * k := by simpa using hi
  rw [get_flatK _ _ _ _ (by simpa using hi')]
  have h1 := flat_get hk h0 l i hi'
  rw [List.getElem!_toArray, List.getElem!_toArray, List.getElem!_eq_getElem?_getD, List.getElem!_eq_getElem?_getD, List.getElem!_eq_getElem?_getD, h1, List.getD_eq_getElem?_getD]
/-- Behind a rearrangement of a row: the owned cells are others, as many. -/
theorem St.putCells {sz n b c : Nat} {vs vs' : List Value} (hl : vs'.length = vs.length) (h : St W I (Vec t sz (some ⟨b, 0, none⟩) n c vs :: R) w) (q : Nat) (os : Array Obj) :
    St W I (Vec t sz (some ⟨b, 0, none⟩) n c vs' :: R) (grow (Sort.putRow id (Go.Sort.ahead w q) b 0 vs'.toArray) os) := by
  obtain ⟨⟨m, ⟨m1, m2, hd, rfl, hv, h2⟩, hs⟩, hst⟩ := id h
  have hvl := hv.1
  rcases hv.2 with ⟨h0, _, _⟩ | ⟨b', cur, he, hb, hnc, hcm, hsz, htake⟩
  · cases h0
  cases he
  have hb0 : w.heap[b]? = some (.cells cur t (0, 0)) := hs.own _ _ (PH.le_or_left _ _ _ _ hb)
  have hlt := (Array.getElem?_eq_some_iff.1 hb0).1
  have hsize : (Sort.putRow id (Go.Sort.ahead w q) b 0 vs'.toArray).heap.size = w.heap.size := by unfold Sort.putRow mapBlock Go.Sort.ahead; simp
  have hheap : ∀ i, i < w.heap.size → (grow (Sort.putRow id (Go.Sort.ahead w q) b 0 vs'.toArray) os).heap[i]? = if b = i then (w.heap[i]?).map (onCells (Sort.putCells id 0 vs'.toArray)) else w.heap[i]? := fun i hi => by
    rw [heap_grow _ _ _ (by rw [hsize]; exact hi), heap_putRow]; rfl
  have hfit : vs'.length ≤ cur.size := by rw [hl, hvl, hsz]; exact Nat.mul_le_mul_right _ hnc
  refine h.upd (o := .cells (Sort.putCells id 0 vs'.toArray cur) t (0, 0)) (b := b) (fun mm hm => ?_) ?_ (fun i hne o' ho => ?_) ⟨rfl, rfl, rfl, ?_, by unfold grow Sort.putRow mapBlock Go.Sort.ahead; exact Nat.le_add_right _ _⟩
  · rcases hm.2 with ⟨h0, _, _⟩ | ⟨b', cur', he, hb', _, _, _, _⟩
    · cases h0
    cases he
    refine ⟨by rw [hb']; rfl, by rw [hl]; exact hvl, .inr ⟨b, Sort.putCells id 0 vs'.toArray cur, rfl, by simp, hnc, hcm, by rw [putCells_size]; exact hsz, ?_⟩⟩
    have := putCells_take id vs'.toArray cur (by simpa using hfit)
    rw [List.size_toArray, List.map_id, hl, hvl] at this
    exact this
  · rw [hheap b hlt, if_pos rfl, hb0]; rfl
  · rw [hheap i (Array.getElem?_eq_some_iff.1 ho).1, if_neg (fun h => hne h.symm)]; exact ho
  · unfold grow; simp only [Array.size_append]; rw [hsize]; omega
theorem Vec.holdsC {sz n b c : Nat} {vs : List Value} (h : St W I (Vec t sz (some ⟨b, 0, none⟩) n c vs :: R) w) : Holds id w b 0 vs.toArray ∧ b < w.heap.size := by
  obtain ⟨⟨m, ⟨m1, m2, hd, rfl, hv, h2⟩, hs⟩, hst⟩ := id h
  have hvl := hv.1
  rcases hv.2 with ⟨h0, _, _⟩ | ⟨b', cur, he, hb, hnc, hcm, hsz, htake⟩
  · cases h0
  cases he
  have hb0 : w.heap[b]? = some (.cells cur t (0, 0)) := hs.own _ _ (PH.le_or_left _ _ _ _ hb)
  refine ⟨fun j hj => ?_, (Array.getElem?_eq_some_iff.1 hb0).1⟩
  have hj' : j < vs.length := by simpa using hj
  rw [Nat.zero_add]
  refine ⟨?_, frozen_of_row w b j cur t hb0⟩
  rw [cell_of_row w b j cur t (0, 0) hb0, getElem!_pos vs.toArray j hj]
  have h1 : (cur.toList.take (n * sz))[j]? = vs[j]? := by rw [htake]
  rw [List.getElem?_take, if_pos (by omega), Array.getElem?_toList, List.getElem?_eq_getElem hj'] at h1
  rw [h1]; simp
/-- A contract that owns nothing: the world has only grown. -/
theorem FnSpec.to_grow {P : Program} {f : FuncId} {args : List Value} {v : Value} (h : FnSpec P f args (fun _ => none) [] (fun u R' => u = v ∧ R' = [])) (w : World) :
    Calls P f args.toArray w fun e w' => e = .returned v ∧ ∃ q os, w' = grow (w.drewN q) os := by
  obtain ⟨H, hH⟩ : ∃ H : PH, H = fun i => w.heap[i]? := ⟨_, rfl⟩
  have hst : St w (fun _ => none) ([] ++ [fun m => m = H]) w := ⟨⟨H, ⟨H, fun _ => none, fun _ => .inr rfl, by funext i; unfold PH.or; cases H i <;> rfl, rfl, trivial⟩, ⟨fun _ _ e => (by cases e), fun i o e => (by rw [hH] at e; exact e), fun _ => .inl rfl⟩⟩, Still.refl w⟩
  refine (h w _ hst).mono fun e w' => ?_
  rintro ⟨u, R', he, ⟨rfl, rfl⟩, ⟨⟨m, ⟨m1, m2, hd, rfl, h1, h2⟩, hs⟩, hst'⟩⟩
  subst h1
  refine ⟨he, w'.drawn - w.drawn, w'.heap.extract w.heap.size w'.heap.size, ?_⟩
  have hsz := hst'.size
  have hheap : w'.heap = w.heap ++ w'.heap.extract w.heap.size w'.heap.size := by
    refine Array.ext (by simp; omega) fun i h3 h4 => ?_
    by_cases hi : i < w.heap.size
    · rw [Array.getElem_append_left hi]
      have h5 := hs.own i w.heap[i] (PH.le_or_left _ _ _ _ (by rw [hH]; exact Array.getElem?_eq_getElem hi))
      rw [Array.getElem?_eq_getElem h3] at h5
      exact Option.some.inj h5
    · rw [Array.getElem_append_right (by omega), Array.getElem_extract]
      congr 1; omega
  have hdr : w'.drawn = w.drawn + (w'.drawn - w.drawn) := by have := hst'.drawn; omega
  have e1 := hst'.os
  have e2 := hst'.tape
  have e3 := hst'.output
  generalize w'.heap.extract w.heap.size w'.heap.size = xs at hheap ⊢
  generalize w'.drawn - w.drawn = q at hdr ⊢
  unfold grow World.drewN
  cases w'
  simp only at hheap hdr e1 e2 e3
  subst hheap hdr e1 e2 e3
  rfl
/-- slices.SortFunc at structs of k cells, by a comparison that owns nothing. -/
theorem sortFunc_spec {P : Program} {ρ : Ren} {α : Type} [Inhabited α] (L : SlLaysF0.n6 P ρ) (k : Nat) (h0 : 0 < k) (aE : ∀ w, (isAgg (ρ.t 24)).run P w = .ok true w) (zE : ∀ w, (Go.sizeOf (ρ.t 24)).run P w = .ok k w) (enc : α → List Value) (hk : ∀ x, (enc x).length = k) (h1 : ∀ x, ∀ v ∈ enc x, v.oneCell' = true)
    (cf : α → α → Int) (hO : SWO (ltOf cf)) (g : Nat) (eg : ∀ args w, (callFunc g args).run P w = .ok (.enter g args) w) (hcmp : ∀ x y, FnSpec P g [.agg (enc x).toArray, .agg (enc y).toArray] (fun _ => none) [] (fun v R' => v = .int .i64 (cf x y) ∧ R' = []))
    (b c : Nat) (l : List α) (hl : l.length < 4611686018427387904) :
    FnSpec P (ρ.f 6) [.slice (some ⟨b, 0, none⟩) l.length c, .func (.func g) #[] #[]] I [Vec t k (some ⟨b, 0, none⟩) l.length c (l.flatMap enc)]
      (fun v R' => v = .tuple #[] ∧ ∃ l' : List α, l'.Perm l ∧ l'.Pairwise (fun x y => ltOf cf y x = false) ∧ R' = [Vec t k (some ⟨b, 0, none⟩) l.length c (l'.flatMap enc)]) := by
  intro w F hw
  obtain ⟨hH, hb⟩ := Vec.holdsC hw
  have hC : CmpLays P g #[] enc k cf b 0 l.toArray.size w := fun m os dk _ x y => FnSpec.to_grow (hcmp x y) _
  have hHK : HoldsK enc k w b 0 l.toArray := by unfold HoldsK; rw [flat_eq hk h0]; exact hH
  have hcall := AnyQ.slices_SortFunc L k aE zE enc hk h1 cf hO g #[] b 0 c l.toArray w eg hC hHK hb (by simpa using hl)
  rw [List.size_toArray] at hcall
  refine hcall.mono fun e w' => ?_
  rintro ⟨rfl, d', n, os, hp, hs, rfl⟩
  have hsz : d'.size = l.length := by simpa using hp.1
  have hperm : d'.toList.Perm l := by
    have := hp.2.2
    rw [← hsz, Array.extract_size, hsz] at this
    simpa using this
  refine ⟨_, _, rfl, ⟨rfl, d'.toList, hperm, ?_, rfl⟩, ?_⟩
  · rw [List.pairwise_iff_getElem]
    intro i j hi hj hij
    have := hs i j (Nat.zero_le _) hij (by rw [← hsz]; simpa using hj)
    rw [getElem!_pos d' j (by simpa using hj), getElem!_pos d' i (by simpa using hi)] at this
    simpa using this
  · have h3 := hw.putCells (vs' := d'.toList.flatMap enc) (by rw [flat_len hk, flat_len hk, hperm.length_eq]) n os
    have h4 : sortWorldK enc k w b 0 n d' os = grow (Sort.putRow id (Go.Sort.ahead w n) b 0 (d'.toList.flatMap enc).toArray) os := by
      unfold sortWorldK putRowK
      rw [← flat_eq hk h0, Array.toArray_toList]
    rw [h4]
    exact h3
end
end Go.Eng
