/- Contracts of functions of the given program, and lemmas about plain lists and numbers: what the laws of this seat lean on. -/
import Derived.Test.YtaoeapmdhpkidaaS17
namespace Go.Proofs.Ytaoeapmdhpkidaa
open Go.Eng
structure IsSet (r : List Int) (p : Int → Prop) : Prop where
  asc : r.Pairwise (· < ·)
  mem : ∀ x, x ∈ r ↔ p x
theorem asc_ext : ∀ {a b : List Int}, a.Pairwise (· < ·) → b.Pairwise (· < ·) → (∀ x, x ∈ a ↔ x ∈ b) → a = b
  | [], [], _, _, _ => rfl
  | [], y :: s, _, _, h => by have := (h y).2 (by simp); cases this
  | x :: r, [], _, _, h => by have := (h x).1 (by simp); cases this
  | x :: r, y :: s, ha, hb, h => by
    rw [List.pairwise_cons] at ha hb
    have h1 : x = y := by
      have h2 := (h x).1 (by simp)
      have h3 := (h y).2 (by simp)
      rcases List.mem_cons.1 h2 with rfl | h2
      · rfl
      · rcases List.mem_cons.1 h3 with h3 | h3
        · exact h3.symm
        · have := ha.1 y h3; have := hb.1 x h2; omega
    subst h1
    rw [asc_ext ha.2 hb.2 (fun z => ?_)]
    have hz := h z
    simp only [List.mem_cons] at hz
    constructor
    · intro h4
      rcases hz.1 (.inr h4) with h5 | h5
      · have := ha.1 z h4; omega
      · exact h5
    · intro h4
      rcases hz.2 (.inr h4) with h5 | h5
      · have := hb.1 z h4; omega
      · exact h5
theorem IsSet.same {a b : List Int} {p q : Int → Prop} (ha : IsSet a p) (hb : IsSet b q) (h : ∀ x, p x ↔ q x) : a = b := asc_ext ha.asc hb.asc fun x => by rw [ha.mem, hb.mem, h]
theorem get_bang (l : List Int) (m : Nat) : l.toArray[m]! = l.getD m default := by
  by_cases h : m < l.length
  · rw [getElem!_pos l.toArray m (by simpa using h), List.getD_eq_getElem?_getD, List.getElem?_eq_getElem h]; simp
  · rw [getElem!_neg l.toArray m (by simpa using h), List.getD_eq_getElem?_getD, List.getElem?_eq_none (by omega)]; rfl
theorem getD_memI {l : List Int} {k : Nat} (h : k < l.length) : l.getD k default ∈ l := by
  rw [List.getD_eq_getElem?_getD, List.getElem?_eq_getElem h]; exact List.getElem_mem _
theorem mem_getDI {l : List Int} {x : Int} (h : x ∈ l) : ∃ k, k < l.length ∧ l.getD k default = x := by
  obtain ⟨k, hk, he⟩ := List.mem_iff_getElem.1 h
  exact ⟨k, hk, by rw [List.getD_eq_getElem?_getD, List.getElem?_eq_getElem hk]; exact he⟩
theorem sorted_at {l : List Int} (h : l.Pairwise (· ≤ ·)) {i j : Nat} (hij : i ≤ j) (hj : j < l.length) : l.getD i default ≤ l.getD j default := by
  rw [List.getD_eq_getElem?_getD, List.getD_eq_getElem?_getD, List.getElem?_eq_getElem (by omega), List.getElem?_eq_getElem hj]
  show l[i] ≤ l[j]
  rcases Nat.lt_or_ge i j with h1 | h1
  · exact (List.pairwise_iff_getElem.1 h) i j (by omega) hj h1
  · obtain rfl : i = j := by omega
    exact Int.le_refl _
theorem compactUpTo_set {l : List Int} (h : l.Pairwise (· ≤ ·)) : ∀ m, m ≤ l.length → (Lib.compactUpTo l.toArray m).Pairwise (· < ·) ∧ ∀ x, x ∈ Lib.compactUpTo l.toArray m ↔ ∃ j, j < m ∧ l.getD j default = x
  | 0, _ => ⟨by simp [Lib.compactUpTo], fun x => by simp [Lib.compactUpTo]⟩
  | m + 1, hm => by
    obtain ⟨h1, h2⟩ := compactUpTo_set h m (by omega)
    rw [Lib.compactUpTo_succ]
    by_cases hk : Lib.keeps l.toArray m = true
    · rw [if_pos hk, get_bang]
      have hlt : ∀ x ∈ Lib.compactUpTo l.toArray m, x < l.getD m default := fun x hx => by
        obtain ⟨j, hj, rfl⟩ := (h2 x).1 hx
        have hs := sorted_at h (i := j) (j := m - 1) (by omega) (by omega)
        have hs2 := sorted_at h (i := m - 1) (j := m) (by omega) (by omega)
        unfold Lib.keeps at hk
        rw [get_bang, get_bang] at hk
        simp at hk
        rcases hk with hk | hk
        · omega
        · have : l.getD m default ≠ l.getD (m - 1) default := by simpa [List.getD_eq_getElem?_getD] using hk
          omega
      refine ⟨List.pairwise_append.2 ⟨h1, by simp, fun a ha b hb => by simp at hb; rw [List.getD_eq_getElem?_getD] at hlt; subst hb; exact hlt a ha⟩, fun x => ?_⟩
      rw [List.mem_append, h2, List.mem_singleton]
      constructor
      · rintro (⟨j, hj, he⟩ | he)
        · exact ⟨j, by omega, he⟩
        · exact ⟨m, by omega, he.symm⟩
      · rintro ⟨j, hj, he⟩
        by_cases hjm : j = m
        · subst hjm; exact .inr he.symm
        · exact .inl ⟨j, by omega, he⟩
    · rw [if_neg hk, List.append_nil]
      refine ⟨h1, fun x => ?_⟩
      rw [h2]
      have hm0 : 0 < m := by
        rcases Nat.eq_zero_or_pos m with h0 | h0
        · subst h0; exact absurd (Lib.keeps_lt_one l.toArray 0 (by omega)) hk
        · exact h0
      have heq : l.getD m default = l.getD (m - 1) default := Decidable.byContradiction fun hne => hk (Lib.keeps_pos (by rw [get_bang, get_bang]; exact hne))
      constructor
      · rintro ⟨j, hj, he⟩; exact ⟨j, by omega, he⟩
      · rintro ⟨j, hj, he⟩
        by_cases hjm : j = m
        · subst hjm; exact ⟨j - 1, by omega, by rw [← he, heq]⟩
        · exact ⟨j, by omega, he⟩
theorem compact_set {l : List Int} (h : l.Pairwise (· ≤ ·)) : IsSet (Lib.compact l) (· ∈ l) := by
  obtain ⟨h1, h2⟩ := compactUpTo_set h l.length (Nat.le_refl _)
  refine ⟨h1, fun x => (h2 x).trans ⟨fun ⟨j, hj, he⟩ => he ▸ getD_memI hj, fun hx => ?_⟩⟩
  obtain ⟨k, hk, he⟩ := mem_getDI hx
  exact ⟨k, hk, he⟩
/-! Where the number on duty changes -/
def numN (l : List Shift) (t : Int) : Int := ((onT l t).length : Int)
theorem numN_filter (l : List Shift) (t : Int) : numN l t = ((l.filter (onB t)).length : Int) := by
  unfold numN
  rw [show (onT l t).length = (onP l t).length from srtT_len _]
  unfold onP
  rw [List.length_map]
theorem numN_same {l : List Shift} {t : Int} (h : ∀ x ∈ l, x.2.1 ≠ t ∧ x.2.2 ≠ t) : numN l t = numN l (t - 1) := by
  rw [numN_filter, numN_filter]
  congr 2
  refine List.filter_congr fun x hx => ?_
  have := h x hx
  unfold onB
  rw [decide_eq_decide]
  omega
/-- The number before a time: 0 before the first one. -/
def befN (l : List Shift) (a : Int) (k : Nat) : Int := if k = 0 then 0 else numN l (a + k - 1)
theorem befN_succ (l : List Shift) (a : Int) (k : Nat) : befN l a (k + 1) = numN l (a + k) := by
  unfold befN
  rw [if_neg (by omega)]
  congr 1
  omega
def cpL (l : List Shift) (a : Int) : Nat → List Int
  | 0 => []
  | k + 1 => cpL l a k ++ if numN l (a + k) ≠ befN l a k then [a + k, numN l (a + k)] else []
theorem cpL_succ (l : List Shift) (a : Int) (k : Nat) : cpL l a (k + 1) = cpL l a k ++ if numN l (a + k) ≠ befN l a k then [a + k, numN l (a + k)] else [] := rfl
theorem fold_skip {l : List Shift} {fr un : Int} : ∀ {ts : List Int} {s : List Int × Int}, (∀ t ∈ ts, t < fr ∨ un ≤ t) → ts.foldl (pairStep l fr un) s = s
  | [], s, _ => rfl
  | t :: ts, s, h => by
    rw [List.foldl_cons, show pairStep l fr un s t = s by unfold pairStep; rw [if_pos (h t List.mem_cons_self)], fold_skip (fun u hu => h u (List.mem_cons_of_mem _ hu))]
theorem filter_lt_succ : ∀ {ts : List Int} {T : Int}, ts.Pairwise (· < ·) → (ts.filter fun e => decide (e < T + 1)) = (ts.filter fun e => decide (e < T)) ++ if T ∈ ts then [T] else []
  | [], T, _ => by simp
  | t :: ts, T, h => by
    rw [List.pairwise_cons] at h
    have ih := filter_lt_succ (T := T) h.2
    by_cases h1 : t < T
    · rw [List.filter_cons_of_pos (by simp; omega), List.filter_cons_of_pos (by simp; omega), ih, List.cons_append]
      congr 2
      have : T ∈ t :: ts ↔ T ∈ ts := by
        rw [List.mem_cons]; exact ⟨fun h => h.resolve_left (by omega), .inr⟩
      simp only [this]
    · by_cases h2 : t = T
      · subst h2
        have hno : t ∉ ts := fun hm => by have := h.1 t hm; omega
        have e1 : (ts.filter fun e => decide (e < t)) = [] := by
          rw [List.filter_eq_nil_iff]; intro e he; have := h.1 e he; simp; omega
        rw [List.filter_cons_of_pos (by simp; omega), List.filter_cons_of_neg (by simp), ih, if_neg hno, if_pos List.mem_cons_self, e1]
        simp
      · have e1 : ∀ U : Int, U ≤ T + 1 → (ts.filter fun e => decide (e < U)) = [] := fun U hU => by
          rw [List.filter_eq_nil_iff]; intro e he; have := h.1 e he; simp; omega
        have hno : T ∉ t :: ts := fun hm => by
          rcases List.mem_cons.1 hm with hm | hm
          · omega
          · have := h.1 T hm; omega
        rw [List.filter_cons_of_neg (by simp; omega), List.filter_cons_of_neg (by simp; omega), e1 _ (by omega), e1 _ (by omega), if_neg hno]
        rfl
theorem fold_cp {l : List Shift} {a b : Int} {ts : List Int} (hs : ts.Pairwise (· < ·)) (ha : a ∈ ts) (hm : ∀ x ∈ l, x.2.1 ∈ ts ∧ x.2.2 ∈ ts) : ∀ k : Nat, a + k ≤ b →
    (ts.filter fun e => decide (e < a + k)).foldl (pairStep l a b) ([], 0) = (cpL l a k, befN l a k)
  | 0, _ => by
    rw [fold_skip fun t ht => by
      have := (List.mem_filter.1 ht).2
      simp at this
      exact .inl this]
    rfl
  | k + 1, hk => by
    have ih := fold_cp (b := b) hs ha hm k (by omega)
    rw [show a + ((k + 1 : Nat) : Int) = (a + k) + 1 by omega, filter_lt_succ hs, List.foldl_append, ih, befN_succ]
    by_cases hin : a + (k : Int) ∈ ts
    · rw [if_pos hin, List.foldl_cons, List.foldl_nil]
      unfold pairStep
      rw [if_neg (show ¬(a + (k : Int) < a ∨ b ≤ a + (k : Int)) by omega)]
      show (if numN l (a + k) ≠ befN l a k then _ else _) = _
      rw [cpL_succ]
      by_cases hne : numN l (a + k) ≠ befN l a k
      · rw [if_pos hne, if_pos hne]; rfl
      · rw [if_neg hne, if_neg hne, List.append_nil]
        have : numN l (a + k) = befN l a k := Decidable.not_not.1 hne
        rw [this]
    · rw [if_neg hin, List.foldl_nil]
      have hk0 : k ≠ 0 := fun h => by subst h; simp at hin; exact hin ha
      have hsame : numN l (a + k) = numN l (a + k - 1) := numN_same fun x hx => ⟨fun h => hin (h ▸ (hm x hx).1), fun h => hin (h ▸ (hm x hx).2)⟩
      have hb : befN l a k = numN l (a + k) := by unfold befN; rw [if_neg hk0, hsame]
      rw [cpL_succ]
      rw [hb, if_neg (by simp), List.append_nil]
theorem pairs_cp {l : List Shift} {a : Int} {n : Nat} : pairsP l a (a + n) = cpL l a n := by
  have hset := compact_set (srtL_asc (a :: l.flatMap fun x => [x.2.1, x.2.2]))
  have hmem : ∀ y, y ∈ pairTs l a ↔ y ∈ a :: l.flatMap fun x => [x.2.1, x.2.2] := fun y => (hset.mem y).trans srtL_mem
  have hasc : (pairTs l a).Pairwise (· < ·) := hset.asc
  have hm : ∀ x ∈ l, x.2.1 ∈ pairTs l a ∧ x.2.2 ∈ pairTs l a := fun x hx => by
    rw [hmem, hmem, List.mem_cons, List.mem_cons, List.mem_flatMap, List.mem_flatMap]
    exact ⟨.inr ⟨x, hx, by simp⟩, .inr ⟨x, hx, by simp⟩⟩
  have hf := fold_cp (b := a + n) hasc ((hmem a).2 List.mem_cons_self) hm n (Int.le_refl _)
  have hsplit : ∀ {ts : List Int} {T : Int}, ts.Pairwise (· < ·) → ts = (ts.filter fun e => decide (e < T)) ++ (ts.filter fun e => !(decide (e < T))) := by
    intro ts T hts
    induction ts with
    | nil => rfl
    | cons t ts ih =>
      rw [List.pairwise_cons] at hts
      by_cases h1 : t < T
      · rw [List.filter_cons_of_pos (by simp; omega), List.filter_cons_of_neg (by simp; omega), List.cons_append, ← ih hts.2]
      · have e1 : (ts.filter fun e => decide (e < T)) = [] := by
          rw [List.filter_eq_nil_iff]; intro e he; have := hts.1 e he; simp; omega
        have ih := ih hts.2
        rw [e1, List.nil_append] at ih
        rw [List.filter_cons_of_neg (by simp; omega), List.filter_cons_of_pos (by simp; omega), e1, List.nil_append, ← ih]
  unfold pairsP
  rw [hsplit (T := a + n) hasc, List.foldl_append, hf, fold_skip fun t ht => by
    have := (List.mem_filter.1 ht).2
    simp at this
    exact .inr this]
/-- What is left of the pairs from number k on. -/
def restL (l : List Shift) (a : Int) (n k : Nat) : List Int := (cpL l a n).drop (cpL l a k).length
theorem cpL_pre {l : List Shift} {a : Int} : ∀ {n k : Nat}, k ≤ n → ∃ r, cpL l a n = cpL l a k ++ r
  | 0, 0, _ => ⟨[], by simp⟩
  | 0, k + 1, h => by omega
  | n + 1, k, h => by
    by_cases hk : k = n + 1
    · subst hk; exact ⟨[], by simp⟩
    · obtain ⟨r, hr⟩ := cpL_pre (l := l) (a := a) (n := n) (k := k) (by omega)
      exact ⟨r ++ if numN l (a + n) ≠ befN l a n then [a + n, numN l (a + n)] else [], by rw [← List.append_assoc, ← hr]; rfl⟩
theorem restL_step {l : List Shift} {a : Int} {n k : Nat} (hk : k < n) : restL l a n k = (if numN l (a + k) ≠ befN l a k then [a + k, numN l (a + k)] else []) ++ restL l a n (k + 1) := by
  obtain ⟨r, hr⟩ := cpL_pre (l := l) (a := a) (n := n) (k := k + 1) (by omega)
  unfold restL
  rw [hr, List.drop_left]
  conv => lhs; rw [show cpL l a (k + 1) = cpL l a k ++ (if numN l (a + k) ≠ befN l a k then [a + k, numN l (a + k)] else []) from rfl, List.append_assoc, List.drop_left]
theorem restL_head {l : List Shift} {a : Int} : ∀ {n k : Nat}, k ≤ n → restL l a n k = [] ∨ ∃ t r, restL l a n k = t :: r ∧ a + k ≤ t
  | n, k, h => by
    by_cases hk : k = n
    · subst hk; left; unfold restL; exact List.drop_length
    · have hlt : k < n := by omega
      rw [restL_step hlt]
      by_cases hne : numN l (a + k) ≠ befN l a k
      · rw [if_pos hne]; exact .inr ⟨_, _, rfl, Int.le_refl _⟩
      · rw [if_neg hne, List.nil_append]
        rcases restL_head (l := l) (a := a) (n := n) (k := k + 1) (by omega) with h | ⟨t, r, h, h2⟩
        · exact .inl h
        · exact .inr ⟨t, r, h, by omega⟩
  termination_by n k => n - k
theorem restL_zero (l : List Shift) (a : Int) (n : Nat) : restL l a n 0 = cpL l a n := rfl
theorem cpL_even (l : List Shift) (a : Int) : ∀ n, ((cpL l a n).length : Int) % 2 = 0
  | 0 => rfl
  | n + 1 => by
    have ih := cpL_even l a n
    rw [cpL_succ, List.length_append]
    split
    · simp only [List.length_cons, List.length_nil]; omega
    · simp only [List.length_nil]; omega
theorem numN_bd (l : List Shift) (t : Int) : 0 ≤ numN l t ∧ numN l t ≤ l.length := by
  have := onT_len l t
  unfold numN
  omega
/-- Those on duty: ascending, each once. -/
theorem onT_strict {l : List Shift} (h : Rota l) (t : Int) : (onT l t).Pairwise (· < ·) := by
  have hnd : (onP l t).Pairwise (· ≠ ·) := by
    unfold onP
    rw [List.pairwise_map]
    have h2 := h.apart.filter (onB t)
    refine h2.imp_of_mem fun {a b} ha hb hab he => ?_
    have e1 := of_decide_eq_true (List.mem_filter.1 ha).2
    have e2 := of_decide_eq_true (List.mem_filter.1 hb).2
    unfold meetB at hab
    rw [he, beq_self_eq_true, Bool.true_and, decide_eq_false_iff_not] at hab
    omega
  have hnd2 : (onT l t).Pairwise (· ≠ ·) := (List.mergeSort_perm (onP l t) _).symm.nodup hnd
  have hs := srtT_asc (onP l t)
  refine (hs.and hnd2).imp fun {a b} ⟨h1, h2⟩ => ?_
  rcases str_tri a b with h3 | h3 | h3
  · exact h3
  · exact absurd h3 h2
  · exact absurd (List.le_antisymm h1 (List.le_of_lt h3)) h2
end Go.Proofs.Ytaoeapmdhpkidaa
