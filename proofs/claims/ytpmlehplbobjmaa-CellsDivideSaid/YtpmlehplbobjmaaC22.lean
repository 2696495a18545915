/- Contracts of functions of the given program, and lemmas about plain lists and numbers: what the laws of this seat lean on. -/
import Derived.Test.YtpmlehplbobjmaaC21
namespace Go.Proofs.Ytpmlehplbobjmaa
open Go.Eng
/-! The members of the published cells: each once -/
def sumM (t : List Int) : List Int → Int
  | [] => 0
  | m :: r => t.getD m.toNat default + sumM t r
theorem sumM_app (t a b : List Int) : sumM t (a ++ b) = sumM t a + sumM t b := by
  induction a with
  | nil => simp [sumM]
  | cons m r ih => simp only [List.cons_append, sumM, ih]; omega
theorem sumM_mem (l t : List Int) (v : List Row) (k : Int) : ∀ n, sumM t (memK l v k n) = sumAt (pubOf l v) t k n
  | 0 => rfl
  | n + 1 => by
    rw [memK_succ, sumM_app, sumM_mem l t v k n]
    simp only [sumAt]
    by_cases h : pubOf l v n = k
    · rw [if_pos h, if_pos h]; simp [sumM]
    · rw [if_neg h, if_neg h]; simp [sumM]
theorem sumM_take {t m : List Int} {j : Nat} (hj : j < m.length) : sumM t (m.take (j + 1)) = sumM t (m.take j) + t.getD (m.getD j default).toNat default := by
  rw [List.take_succ_eq_append_getElem hj, sumM_app, List.getD_eq_getElem?_getD, List.getD_eq_getElem?_getD, List.getElem?_eq_getElem hj]
  simp [sumM]
theorem sumM_bd {t : List Int} (h : ∀ j : Nat, 0 ≤ t.getD j default ∧ t.getD j default ≤ 1000000) : ∀ m : List Int, 0 ≤ sumM t m ∧ sumM t m ≤ m.length * 1000000
  | [] => by simp [sumM]
  | x :: r => by
    have ih := sumM_bd h r
    have := h x.toNat
    simp only [sumM, List.length_cons]
    omega
theorem memK_mem {l : List Int} {v : List Row} {k : Int} {n : Nat} {x : Int} : x ∈ memK l v k n ↔ ∃ j : Nat, j < n ∧ pubOf l v j = k ∧ x = j := by
  unfold memK
  simp only [List.mem_map, List.mem_filter, List.mem_range, decide_eq_true_eq]
  constructor
  · rintro ⟨j, ⟨h1, h2⟩, rfl⟩; exact ⟨j, h1, h2, rfl⟩
  · rintro ⟨j, h1, h2, rfl⟩; exact ⟨j, ⟨h1, h2⟩, rfl⟩
theorem memK_nodup (l : List Int) (v : List Row) (k : Int) (n : Nat) : (memK l v k n).Pairwise (· ≠ ·) := by
  unfold memK
  rw [List.pairwise_map]
  exact (List.Pairwise.filter _ (List.nodup_range (n := n))).imp (fun h => by omega)
theorem take_no {m : List Int} (hm : m.Pairwise (· ≠ ·)) {j : Nat} (hj : j < m.length) : m.getD j default ∉ m.take j := by
  intro h
  obtain ⟨i, hi, he⟩ := List.mem_iff_getElem.1 h
  rw [List.length_take] at hi
  rw [List.getElem_take] at he
  rw [List.pairwise_iff_getElem] at hm
  have := hm i j (by omega) hj (by omega)
  rw [List.getD_eq_getElem?_getD, List.getElem?_eq_getElem hj] at he
  exact this he
/-- Which cells have been seen: those of the first k published cells, and the first j members of the next one. -/
structure Seen (l : List Int) (v : List Row) (N : Nat) (k : Int) (m : List Int) (sl : List Bool) : Prop where
  len : sl.length = N
  each : ∀ x : Nat, x < N → (sl.getD x default = true ↔ ((0 ≤ pubOf l v x ∧ pubOf l v x < k) ∨ (x : Int) ∈ m))
theorem Seen.start (l : List Int) (v : List Row) (N : Nat) : Seen l v N 0 [] (List.replicate N false) := ⟨by simp, fun x hx => by
  rw [List.getD_eq_getElem?_getD, List.getElem?_replicate, if_pos hx]
  constructor
  · intro h; cases h
  · rintro (h | h)
    · omega
    · cases h⟩
theorem Seen.fresh {l : List Int} {v : List Row} {N : Nat} {k : Int} {j : Nat} {sl : List Bool} (h : Seen l v N k ((memK l v k N).take j) sl) (hj : j < (memK l v k N).length) : sl.getD ((memK l v k N).getD j default).toNat default = false := by
  obtain ⟨x, h1, h2, h3⟩ := memK_mem.1 (getD_mem hj)
  have hno := take_no (memK_nodup l v k N) hj
  rw [h3] at hno ⊢
  rw [Int.toNat_natCast]
  cases hb : sl.getD x default with
  | false => rfl
  | true =>
    rcases (h.each x h1).1 hb with h4 | h4
    · omega
    · exact absurd h4 hno
theorem Seen.step {l : List Int} {v : List Row} {N : Nat} {k : Int} {j : Nat} {sl : List Bool} (h : Seen l v N k ((memK l v k N).take j) sl) (hj : j < (memK l v k N).length) : Seen l v N k ((memK l v k N).take (j + 1)) (sl.set ((memK l v k N).getD j default).toNat true) := by
  obtain ⟨x, h1, h2, h3⟩ := memK_mem.1 (getD_mem hj)
  refine ⟨by rw [List.length_set]; exact h.len, fun y hy => ?_⟩
  rw [List.take_succ_eq_append_getElem hj, List.mem_append, List.mem_singleton]
  have he : (memK l v k N)[j] = (memK l v k N).getD j default := by rw [List.getD_eq_getElem?_getD, List.getElem?_eq_getElem hj]; rfl
  rw [he, h3, Int.toNat_natCast]
  by_cases hxy : x = y
  · subst hxy
    rw [List.getD_eq_getElem?_getD, List.getElem?_set_self (by rw [h.len]; exact h1)]
    simp
  · rw [List.getD_eq_getElem?_getD, List.getElem?_set_ne hxy, ← List.getD_eq_getElem?_getD, h.each y hy]
    constructor
    · rintro (h | h)
      · exact .inl h
      · exact .inr (.inl h)
    · rintro (h | h | h)
      · exact .inl h
      · exact .inr h
      · omega
theorem Seen.next {l : List Int} {v : List Row} {N : Nat} {k : Int} {sl : List Bool} (h : Seen l v N k (memK l v k N) sl) (h0 : 0 ≤ k) : Seen l v N (k + 1) [] sl := ⟨h.len, fun x hx => by
  rw [h.each x hx, memK_mem]
  constructor
  · rintro (h | ⟨j, h1, h2, h3⟩)
    · exact .inl (by omega)
    · obtain rfl : x = j := by omega
      exact .inl (by omega)
  · rintro (h | h)
    · by_cases hk : pubOf l v x = k
      · exact .inr ⟨x, hx, hk, rfl⟩
      · exact .inl (by omega)
    · cases h⟩
theorem Seen.done {l : List Int} {v : List Row} {N : Nat} {k : Int} {sl : List Bool} (h : Seen l v N k [] sl) {x : Nat} (hx : x < N) (hb : pubOf l v x < k) : sl.getD x default = decide (0 ≤ pubOf l v x) := by
  have := h.each x hx
  rw [Bool.eq_iff_iff, this, decide_eq_true_eq]
  constructor
  · rintro (h | h)
    · exact h.1
    · cases h
  · exact fun h => .inl ⟨h, hb⟩
theorem nonneg_any {t : List Int} (h : ∀ j, j < t.length → 0 ≤ t.getD j default ∧ t.getD j default ≤ 9) (j : Nat) : 0 ≤ t.getD j default ∧ t.getD j default ≤ 1000000 := by
  by_cases hj : j < t.length
  · have := h j hj; omega
  · rw [List.getD_eq_getElem?_getD, List.getElem?_eq_none (by omega)]; decide
end Go.Proofs.Ytpmlehplbobjmaa
