/- Contracts of functions of the given program, and lemmas about plain lists and numbers: what the laws of this seat lean on. -/
import Derived.Test.YtaoeapmdhpkidaaS8
namespace Go.Proofs.Ytaoeapmdhpkidaa
open Go.Eng
/-! Rotas: plain facts -/
theorem bless : ∀ (x y : List UInt8), Op.bytesLess x y = decide (x < y)
  | [], [] => by simp [Op.bytesLess]
  | [], b :: y => by simp [Op.bytesLess]
  | a :: x, [] => by simp [Op.bytesLess]
  | a :: x, b :: y => by
    simp only [Op.bytesLess, bless x y, List.cons_lt_cons_iff]
    rw [Bool.eq_iff_iff]
    simp
theorem strLt_eq (a b : List UInt8) : strLt a b = decide (a < b) := bless a b
theorem str_tri (a b : List UInt8) : a < b ∨ a = b ∨ b < a := by
  by_cases h : a < b
  · exact .inl h
  · by_cases h2 : b < a
    · exact .inr (.inr h2)
    · exact .inr (.inl (List.le_antisymm (List.not_lt.1 h2) (List.not_lt.1 h)))
theorem before_iff (a b : Shift) : beforeB a b = true ↔ (a.2.1 < b.2.1 ∨ (a.2.1 = b.2.1 ∧ a.1 < b.1)) := by
  unfold beforeB
  rw [strLt_eq]
  simp
theorem before_trans {a b c : Shift} (h1 : beforeB a b = true) (h2 : beforeB b c = true) : beforeB a c = true := by
  rw [before_iff] at *
  rcases h1 with h1 | ⟨h1, h3⟩ <;> rcases h2 with h2 | ⟨h2, h4⟩
  · exact .inl (by omega)
  · exact .inl (by omega)
  · exact .inl (by omega)
  · exact .inr ⟨by omega, List.lt_trans h3 h4⟩
theorem before_irr (a : Shift) : beforeB a a = false := by
  cases h : beforeB a a with
  | false => rfl
  | true =>
    rw [before_iff] at h
    rcases h with h | ⟨_, h⟩
    · omega
    · exact absurd h (List.lt_irrefl _)
theorem before_tri (a b : Shift) : beforeB a b = true ∨ (a.2.1 = b.2.1 ∧ a.1 = b.1) ∨ beforeB b a = true := by
  rw [before_iff, before_iff]
  by_cases h1 : a.2.1 < b.2.1
  · exact .inl (.inl h1)
  · by_cases h2 : b.2.1 < a.2.1
    · exact .inr (.inr (.inl h2))
    · have he : a.2.1 = b.2.1 := by omega
      rcases str_tri a.1 b.1 with h | h | h
      · exact .inl (.inr ⟨he, h⟩)
      · exact .inr (.inl ⟨he, h⟩)
      · exact .inr (.inr (.inr ⟨he.symm, h⟩))
theorem meet_symm (a b : Shift) : meetB a b = meetB b a := by
  unfold meetB
  rw [show (a.1 == b.1) = (b.1 == a.1) by rw [Bool.eq_iff_iff, beq_iff_eq, beq_iff_eq]; exact eq_comm]
  congr 1
  rw [decide_eq_decide]
  exact ⟨fun h => ⟨h.2, h.1⟩, fun h => ⟨h.2, h.1⟩⟩
/-- A valid rota, in plain words. -/
structure Rota (l : List Shift) : Prop where
  few : l.length ≤ 60
  each : ∀ x ∈ l, singleE x = 0
  asc : l.Pairwise fun a b => beforeB a b = true
  apart : l.Pairwise fun a b => meetB a b = false
theorem sh_at {l : List Shift} {j : Nat} (h : j < l.length) : l.getD j default = l[j] := by rw [List.getD_eq_getElem?_getD, List.getElem?_eq_getElem h]; rfl
theorem checkN_zero {l : List Shift} : ∀ {n : Nat}, checkN l n = 0 ↔ ∀ k, k < n → checkAt l k = 0
  | 0 => ⟨fun _ k hk => absurd hk (Nat.not_lt_zero _), fun _ => rfl⟩
  | n + 1 => by
    unfold checkN
    constructor
    · intro h k hk
      by_cases h0 : checkN l n = 0
      · rw [if_neg (by omega)] at h
        by_cases hkn : k = n
        · rw [hkn]; exact h
        · exact (checkN_zero.1 h0) k (by omega)
      · rw [if_pos h0] at h; exact absurd h h0
    · intro h
      have h0 : checkN l n = 0 := checkN_zero.2 fun k hk => h k (by omega)
      rw [if_neg (by omega)]
      exact h n (by omega)
theorem checkAt_zero {l : List Shift} {k : Nat} : checkAt l k = 0 ↔ singleE (l.getD k default) = 0 ∧ (0 < k → beforeB (l.getD (k - 1) default) (l.getD k default) = true) ∧ meetsB (l.take k) (l.getD k default) = false := by
  unfold checkAt
  by_cases h1 : singleE (l.getD k default) = 0
  · rw [if_neg (by omega)]
    by_cases h2 : 0 < k ∧ beforeB (l.getD (k - 1) default) (l.getD k default) = false
    · rw [if_pos h2]
      exact ⟨fun h => by omega, fun h => by have := h.2.1 h2.1; rw [h2.2] at this; cases this⟩
    · rw [if_neg h2]
      have h3 : 0 < k → beforeB (l.getD (k - 1) default) (l.getD k default) = true := fun h => by
        cases hb : beforeB (l.getD (k - 1) default) (l.getD k default) with
        | true => rfl
        | false => exact absurd ⟨h, hb⟩ h2
      cases hm : meetsB (l.take k) (l.getD k default) with
      | true => simp
      | false => exact ⟨fun _ => ⟨h1, h3, rfl⟩, fun _ => by simp⟩
  · rw [if_pos h1]
    exact ⟨fun h => absurd h h1, fun h => absurd h.1 h1⟩
theorem asc_of {l : List Shift} (h : ∀ k, 0 < k → k < l.length → beforeB (l.getD (k - 1) default) (l.getD k default) = true) : l.Pairwise fun a b => beforeB a b = true := by
  rw [List.pairwise_iff_getElem]
  have key : ∀ d i, (h1 : i + d + 1 < l.length) → beforeB (l.getD i default) (l.getD (i + d + 1) default) = true := by
    intro d
    induction d with
    | zero => intro i h1; have := h (i + 1) (by omega) h1; rw [Nat.add_sub_cancel] at this; exact this
    | succ d ih =>
      intro i h1
      have h2 := ih i (by omega)
      have h3 := h (i + d + 1 + 1) (by omega) (by omega)
      rw [Nat.add_sub_cancel] at h3
      exact before_trans h2 (by rw [show i + (d + 1) + 1 = i + d + 1 + 1 by omega]; exact h3)
  intro i j hi hj hij
  have := key (j - i - 1) i (by omega)
  rw [show i + (j - i - 1) + 1 = j by omega, sh_at hi, sh_at hj] at this
  exact this
theorem rota_iff {l : List Shift} : checkE l = 0 ↔ Rota l := by
  unfold checkE
  constructor
  · intro h
    by_cases h60 : 60 < l.length
    · rw [if_pos h60] at h; omega
    · rw [if_neg h60] at h
      have hk := checkN_zero.1 h
      refine ⟨by omega, fun x hx => ?_, asc_of fun k h0 hk' => (checkAt_zero.1 (hk k hk')).2.1 h0, ?_⟩
      · obtain ⟨k, hk', rfl⟩ := List.mem_iff_getElem.1 hx
        have := (checkAt_zero.1 (hk k hk')).1
        rw [sh_at hk'] at this
        exact this
      · rw [List.pairwise_iff_getElem]
        intro i j hi hj hij
        have := (checkAt_zero.1 (hk j hj)).2.2
        unfold meetsB at this
        rw [List.any_eq_false] at this
        have := this l[i] (by rw [List.mem_take_iff_getElem]; exact ⟨i, by omega, rfl⟩)
        rw [sh_at hj] at this
        simpa using this
  · rintro ⟨h1, h2, h3, h4⟩
    rw [if_neg (by omega), checkN_zero]
    rw [List.pairwise_iff_getElem] at h3 h4
    intro k hk
    rw [checkAt_zero, sh_at hk]
    refine ⟨h2 _ (List.getElem_mem _), fun h0 => ?_, ?_⟩
    · rw [sh_at (by omega)]; exact h3 _ _ _ _ (by omega)
    · unfold meetsB
      rw [List.any_eq_false]
      intro y hy
      rw [List.mem_take_iff_getElem] at hy
      obtain ⟨i, hi, rfl⟩ := hy
      rw [h4 i k (by omega) hk (by omega)]
      decide
theorem insAt_spec (l : List Shift) (x : Shift) : (∀ j, j < insAt l x → beforeB (l.getD j default) x = true) ∧ (insAt l x < l.length → beforeB (l.getD (insAt l x) default) x = false) := by
  refine ⟨fun j hj => ?_, fun h => ?_⟩
  · have hjl : j < l.length := by have := insAt_le l x; omega
    have := List.not_of_lt_findIdx hj
    rw [sh_at hjl]
    simpa using this
  · have := List.findIdx_getElem (w := h)
    rw [sh_at h]
    have h2 : (!(beforeB l[insAt l x] x)) = true := this
    simpa using h2
theorem single_proper {x : Shift} (h : singleE x = 0) : nameB x.1 = true ∧ properB x = true := by
  unfold singleE at h
  split at h
  · rename_i h1
    split at h
    · rename_i h2; exact ⟨h1, h2⟩
    · omega
  · omega
theorem meets_false {l : List Shift} {x : Shift} (h : meetsB l x = false) : ∀ y ∈ l, meetB y x = false := fun y hy => by
  unfold meetsB at h
  rw [List.any_eq_false] at h
  simpa using h y hy
theorem Rota.ins {l : List Shift} {x : Shift} (h : Rota l) (hx : singleE x = 0) (hm : meetsB l x = false) (hl : l.length < 60) : Rota (insL l x) := by
  have hle := insAt_le l x
  obtain ⟨s1, s2⟩ := insAt_spec l x
  have hap := meets_false hm
  have hpx := of_decide_eq_true (single_proper hx).2
  have hb : ∀ y ∈ l, beforeB y x = false → beforeB x y = true := fun y hy hf => by
    rcases before_tri x y with h1 | ⟨h1, h2⟩ | h1
    · exact h1
    · have hpy := of_decide_eq_true (single_proper (h.each y hy)).2
      have hmy := hap y hy
      unfold meetB at hmy
      rw [h2, beq_self_eq_true, Bool.true_and, decide_eq_false_iff_not] at hmy
      omega
    · rw [hf] at h1; cases h1
  have hlow : ∀ y ∈ l.take (insAt l x), beforeB y x = true := fun y hy => by
    rw [List.mem_take_iff_getElem] at hy
    obtain ⟨i, hi, rfl⟩ := hy
    have := s1 i (by omega)
    rw [sh_at (by omega)] at this
    exact this
  have hhigh : ∀ y ∈ l.drop (insAt l x), beforeB x y = true := fun y hy => by
    have hyl := List.mem_of_mem_drop hy
    obtain ⟨i, hi, rfl⟩ := List.mem_iff_getElem.1 hy
    rw [List.length_drop] at hi
    have hlt : insAt l x < l.length := by omega
    have h0 := hb _ (List.getElem_mem hlt) (by have := s2 hlt; rw [sh_at hlt] at this; exact this)
    by_cases hi0 : i = 0
    · subst hi0
      rw [List.getElem_drop]
      simpa using h0
    · have := (List.pairwise_iff_getElem.1 h.asc) (insAt l x) (insAt l x + i) hlt (by omega) (by omega)
      rw [List.getElem_drop]
      exact before_trans h0 this
  have hsp : l = l.take (insAt l x) ++ l.drop (insAt l x) := (List.take_append_drop _ _).symm
  refine ⟨by rw [insL_len]; omega, fun y hy => ?_, ?_, ?_⟩
  · unfold insL at hy
    simp only [List.mem_append, List.mem_singleton] at hy
    rcases hy with (hy | rfl) | hy
    · exact h.each y (List.mem_of_mem_take hy)
    · exact hx
    · exact h.each y (List.mem_of_mem_drop hy)
  · have ha := h.asc
    rw [hsp, List.pairwise_append] at ha
    unfold insL
    rw [List.append_assoc, List.pairwise_append]
    refine ⟨ha.1, List.pairwise_cons.2 ⟨hhigh, ha.2.1⟩, fun a ha' b hb' => ?_⟩
    rcases List.mem_cons.1 hb' with rfl | hb'
    · exact hlow a ha'
    · exact ha.2.2 a ha' b hb'
  · have ha := h.apart
    rw [hsp, List.pairwise_append] at ha
    unfold insL
    rw [List.append_assoc, List.pairwise_append]
    refine ⟨ha.1, List.pairwise_cons.2 ⟨fun y hy => by rw [meet_symm]; exact hap y (List.mem_of_mem_drop hy), ha.2.1⟩, fun a ha' b hb' => ?_⟩
    rcases List.mem_cons.1 hb' with rfl | hb'
    · exact hap a (List.mem_of_mem_take ha')
    · exact ha.2.2 a ha' b hb'
theorem Rota.add {l : List Shift} {x : Shift} (h : Rota l) : Rota (addL l x) := by
  unfold addL
  split
  · rename_i he
    unfold addE at he
    rw [if_neg (by rw [rota_iff.2 h]; decide)] at he
    split at he
    · omega
    rename_i h1
    split at he
    · omega
    rename_i h2
    split at he
    · omega
    rename_i h3
    split at he
    · omega
    rename_i h4
    refine h.ins ?_ (by simpa using h3) (by have := h.few; omega)
    unfold singleE
    simp at h1 h2
    rw [if_pos h1, if_pos h2]
  · exact h
theorem insL_mem {l : List Shift} {x y : Shift} : y ∈ insL l x ↔ y = x ∨ y ∈ l := by
  unfold insL
  conv => rhs; rw [show l = l.take (insAt l x) ++ l.drop (insAt l x) from (List.take_append_drop _ _).symm]
  simp only [List.mem_append, List.mem_singleton]
  constructor
  · rintro ((h | h) | h)
    · exact .inr (.inl h)
    · exact .inl h
    · exact .inr (.inr h)
  · rintro (h | h | h)
    · exact .inl (.inr h)
    · exact .inl (.inl h)
    · exact .inr h
theorem addL_mem {l : List Shift} {x y : Shift} (h : y ∈ addL l x) : y = x ∨ y ∈ l := by
  unfold addL at h
  split at h
  · exact insL_mem.1 h
  · exact .inr h
theorem rota_nil : Rota [] := ⟨by simp, by simp, by simp, by simp⟩
end Go.Proofs.Ytaoeapmdhpkidaa
