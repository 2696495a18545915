/-
  Solutions of equations in whole numbers that are not negative: all of them, in order, found cell by cell. Plain Lean, with no program in sight.
-/
import Derived.Scope
import Derived.Recover
import Derived.WalkSmall
import Derived.Tactics
import Derived.Tactics2
import Derived.Laws.Pointers
import Derived.Sort.Row
import Derived.Sort.Grow
import Derived.Shelf.SortM.Plain
import Derived.Shelf.SortM.SortNone
import Derived.Shelf.SlicesG.CompactI
import Derived.Test.YtjnhoemgceghlaaGreatTr4
namespace Go.Sol
/-- An equation: its cells, and their sum. -/
abbrev Eqn := List Nat × Int
def sumC (t : List Int) : List Nat → Int
  | [] => 0
  | c :: cs => t.getD c 0 + sumC t cs
theorem sumC_congr {s t : List Int} : ∀ {cs : List Nat}, (∀ c ∈ cs, s.getD c 0 = t.getD c 0) → sumC s cs = sumC t cs
  | [], _ => rfl
  | c :: cs, h => by rw [sumC, sumC, h c (by simp), sumC_congr fun x hx => h x (by simp [hx])]
theorem getD_setI {t : List Int} {c d : Nat} {v : Int} (hc : c < t.length) : (t.set c v).getD d 0 = if d = c then v else t.getD d 0 := by
  rw [List.getD_eq_getElem?_getD, List.getElem?_set]
  by_cases h : c = d
  · rw [if_pos h, if_pos h.symm, if_pos hc]; rfl
  · rw [if_neg h, if_neg (Ne.symm h), ← List.getD_eq_getElem?_getD]
theorem sumC_set {t : List Int} {c : Nat} {v : Int} (hc : c < t.length) : ∀ {cs : List Nat}, cs.Nodup → sumC (t.set c v) cs = sumC t cs + if c ∈ cs then v - t.getD c 0 else 0
  | [], _ => by simp [sumC]
  | d :: cs, hn => by
    obtain ⟨h1, h2⟩ := List.nodup_cons.1 hn
    rw [sumC, sumC, sumC_set hc h2, getD_setI hc]
    by_cases hd : d = c
    · subst hd
      rw [if_pos rfl, if_neg h1, if_pos (by simp)]; omega
    · rw [if_neg hd]
      by_cases hm : c ∈ cs
      · rw [if_pos hm, if_pos (by simp [hm])]; omega
      · rw [if_neg hm, if_neg (by simp [hm, Ne.symm hd])]; omega
/-- What is left of an equation's value. -/
def restQ (t : List Int) (q : Eqn) : Int := q.2 - sumC t q.1
/-- How many of its cells are still to be found. -/
def openQ (U : List Nat) (q : Eqn) : Nat := (q.1.filter fun c => decide (c ∈ U)).length
def lowF (t : List Int) (U : List Nat) (c : Nat) : List Eqn → Int
  | [] => 0
  | q :: l => if c ∈ q.1 ∧ openQ U q = 1 then max (restQ t q) (lowF t U c l) else lowF t U c l
def highF (M : Int) (t : List Int) (c : Nat) : List Eqn → Int
  | [] => M
  | q :: l => if c ∈ q.1 then min (restQ t q) (highF M t c l) else highF M t c l
theorem lowF_le {t : List Int} {U : List Nat} {c : Nat} {v : Int} : ∀ {l : List Eqn}, lowF t U c l ≤ v ↔ 0 ≤ v ∧ ∀ q ∈ l, c ∈ q.1 → openQ U q = 1 → restQ t q ≤ v
  | [] => by simp [lowF]
  | q :: l => by
    unfold lowF
    by_cases h : c ∈ q.1 ∧ openQ U q = 1
    · rw [if_pos h, Int.max_le, lowF_le]
      constructor
      · rintro ⟨h1, h2, h3⟩
        refine ⟨h2, fun p hp => ?_⟩
        rcases List.mem_cons.1 hp with rfl | hp
        · exact fun _ _ => h1
        · exact h3 p hp
      · rintro ⟨h1, h2⟩
        exact ⟨h2 q (by simp) h.1 h.2, h1, fun p hp => h2 p (by simp [hp])⟩
    · rw [if_neg h, lowF_le]
      constructor
      · rintro ⟨h2, h3⟩
        refine ⟨h2, fun p hp => ?_⟩
        rcases List.mem_cons.1 hp with rfl | hp
        · exact fun a b => absurd ⟨a, b⟩ h
        · exact h3 p hp
      · rintro ⟨h1, h2⟩
        exact ⟨h1, fun p hp => h2 p (by simp [hp])⟩
theorem le_highF {M : Int} {t : List Int} {c : Nat} {v : Int} : ∀ {l : List Eqn}, v ≤ highF M t c l ↔ v ≤ M ∧ ∀ q ∈ l, c ∈ q.1 → v ≤ restQ t q
  | [] => by simp [highF]
  | q :: l => by
    unfold highF
    by_cases h : c ∈ q.1
    · rw [if_pos h, Int.le_min, le_highF]
      constructor
      · rintro ⟨h1, h2, h3⟩
        refine ⟨h2, fun p hp => ?_⟩
        rcases List.mem_cons.1 hp with rfl | hp
        · exact fun _ => h1
        · exact h3 p hp
      · rintro ⟨h1, h2⟩
        exact ⟨h2 q (by simp) h, h1, fun p hp => h2 p (by simp [hp])⟩
    · rw [if_neg h, le_highF]
      constructor
      · rintro ⟨h2, h3⟩
        refine ⟨h2, fun p hp => ?_⟩
        rcases List.mem_cons.1 hp with rfl | hp
        · exact fun a => absurd a h
        · exact h3 p hp
      · rintro ⟨h1, h2⟩
        exact ⟨h1, fun p hp => h2 p (by simp [hp])⟩
/-- All ways to go on, cell by cell; the first cell goes downward if 'down'. -/
def enum (M : Int) (l : List Eqn) : Bool → List Nat → List Int → List (List Int)
  | _, [], t => [t]
  | down, c :: U, t => (List.range (highF M t c l - lowF t (c :: U) c l + 1).toNat).flatMap fun (k : Nat) => enum M l false U (t.set c (if down then highF M t c l - (k : Int) else lowF t (c :: U) c l + (k : Int)))
/-- What holds while cells are found one by one. -/
structure Inv (n : Nat) (l : List Eqn) (U : List Nat) (t : List Int) : Prop where
  len : t.length = n
  nd : U.Nodup
  lt : ∀ c ∈ U, c < n
  zero : ∀ c ∈ U, t.getD c 0 = 0
  pos : ∀ q ∈ l, 0 ≤ restQ t q
  done : ∀ q ∈ l, openQ U q = 0 → restQ t q = 0
/-- Equations whose cells stand once each. -/
def Once (l : List Eqn) : Prop := ∀ q ∈ l, q.1.Nodup
theorem openQ_cons {c : Nat} {U : List Nat} {q : Eqn} (hn : q.1.Nodup) (hc : c ∉ U) : openQ (c :: U) q = openQ U q + if c ∈ q.1 then 1 else 0 := by
  unfold openQ
  obtain ⟨cs, v⟩ := q
  dsimp only at *
  induction cs with
  | nil => rfl
  | cons d cs ih =>
    obtain ⟨h1, h2⟩ := List.nodup_cons.1 hn
    have ih := ih h2
    by_cases hd : d = c
    · subst hd
      rw [List.filter_cons_of_pos (by simp), List.filter_cons_of_neg (by simp [hc]), List.length_cons, ih, if_neg h1, if_pos (by simp)]
    · have hmem : (d ∈ c :: U) ↔ d ∈ U := by simp [hd]
      have e1 : (c ∈ d :: cs) ↔ c ∈ cs := by simp [Ne.symm hd]
      by_cases hdU : d ∈ U
      · rw [List.filter_cons_of_pos (by simp [hdU]), List.filter_cons_of_pos (by simp [hdU]), List.length_cons, List.length_cons, ih]
        by_cases hcs : c ∈ cs
        · rw [if_pos hcs, if_pos (e1.2 hcs)]
        · rw [if_neg hcs, if_neg fun h => hcs (e1.1 h)]
      · rw [List.filter_cons_of_neg (by simp [hdU, hd]), List.filter_cons_of_neg (by simp [hdU]), ih]
        by_cases hcs : c ∈ cs
        · rw [if_pos hcs, if_pos (e1.2 hcs)]
        · rw [if_neg hcs, if_neg fun h => hcs (e1.1 h)]
theorem restQ_set {t : List Int} {c : Nat} {v : Int} {q : Eqn} (hc : c < t.length) (hn : q.1.Nodup) (h0 : t.getD c 0 = 0) : restQ (t.set c v) q = restQ t q - if c ∈ q.1 then v else 0 := by
  unfold restQ
  rw [sumC_set hc hn, h0]
  split <;> omega
theorem Inv.step {n : Nat} {l : List Eqn} {c : Nat} {U : List Nat} {t : List Int} {M v : Int} (ho : Once l) (h : Inv n l (c :: U) t) (h1 : lowF t (c :: U) c l ≤ v) (h2 : v ≤ highF M t c l) : Inv n l U (t.set c v) := by
  obtain ⟨hn1, hn2⟩ := List.nodup_cons.1 h.nd
  have hcn := h.lt c (by simp)
  have hlen := h.len
  have h0 := h.zero c (by simp)
  obtain ⟨hv, hlow⟩ := lowF_le.1 h1
  obtain ⟨_, hhigh⟩ := le_highF.1 h2
  refine ⟨by rw [List.length_set]; exact hlen, hn2, fun d hd => h.lt d (by simp [hd]), fun d hd => ?_, fun q hq => ?_, fun q hq hop => ?_⟩
  · rw [getD_setI (by omega), if_neg (fun e => hn1 (by rw [← e]; exact hd))]
    exact h.zero d (by simp [hd])
  · rw [restQ_set (by omega) (ho q hq) h0]
    have := h.pos q hq
    by_cases hc : c ∈ q.1
    · rw [if_pos hc]; have := hhigh q hq hc; omega
    · rw [if_neg hc]; omega
  · have hoc := openQ_cons (q := q) (ho q hq) hn1
    rw [restQ_set (by omega) (ho q hq) h0]
    by_cases hc : c ∈ q.1
    · rw [if_pos hc] at hoc ⊢
      have e1 := hlow q hq hc (by omega)
      have e2 := hhigh q hq hc
      omega
    · rw [if_neg hc] at hoc ⊢
      have := h.done q hq (by omega)
      omega
theorem sumC_split {s t : List Int} {U : List Nat} : ∀ {cs : List Nat}, (∀ c ∈ cs, c ∉ U → s.getD c 0 = t.getD c 0) → (∀ c ∈ cs, c ∈ U → t.getD c 0 = 0) → sumC s cs = sumC t cs + sumC s (cs.filter fun c => decide (c ∈ U))
  | [], _, _ => rfl
  | c :: cs, h1, h2 => by
    have ih := sumC_split (s := s) (t := t) (U := U) (cs := cs) (fun d hd => h1 d (by simp [hd])) (fun d hd => h2 d (by simp [hd]))
    rw [sumC, sumC, ih]
    by_cases hc : c ∈ U
    · rw [List.filter_cons_of_pos (by simp [hc]), sumC, h2 c (by simp) hc]; omega
    · rw [List.filter_cons_of_neg (by simp [hc]), h1 c (by simp) hc]; omega
theorem sumC_nonneg {s : List Int} : ∀ {cs : List Nat}, (∀ c ∈ cs, 0 ≤ s.getD c 0) → 0 ≤ sumC s cs
  | [], _ => Int.le_refl _
  | c :: cs, h => by have := h c (by simp); have := sumC_nonneg (cs := cs) fun d hd => h d (by simp [hd]); rw [sumC]; omega
theorem le_sumC {s : List Int} {c : Nat} : ∀ {cs : List Nat}, (∀ d ∈ cs, 0 ≤ s.getD d 0) → c ∈ cs → s.getD c 0 ≤ sumC s cs
  | d :: cs, h, hc => by
    have h1 := sumC_nonneg (cs := cs) fun e he => h e (by simp [he])
    have h2 := h d (by simp)
    rw [sumC]
    rcases List.mem_cons.1 hc with rfl | hc
    · omega
    · have := le_sumC (fun e he => h e (by simp [he])) hc; omega
/-- What is found, in words. -/
structure Goes (n : Nat) (M : Int) (l : List Eqn) (U : List Nat) (t s : List Int) : Prop where
  len : s.length = n
  same : ∀ c, c ∉ U → s.getD c 0 = t.getD c 0
  pos : ∀ c ∈ U, 0 ≤ s.getD c 0 ∧ s.getD c 0 ≤ M
  sum : ∀ q ∈ l, sumC s q.1 = q.2
theorem ext_len {s t : List Int} (hl : s.length = t.length) (h : ∀ c, s.getD c 0 = t.getD c 0) : s = t := by
  refine List.ext_getElem hl fun i h1 h2 => ?_
  have := h i
  rw [List.getD_eq_getElem?_getD, List.getD_eq_getElem?_getD, List.getElem?_eq_getElem h1, List.getElem?_eq_getElem h2] at this
  exact this
theorem Goes.step {n : Nat} {M : Int} {l : List Eqn} {c : Nat} {U : List Nat} {t s : List Int} (hinv : Inv n l (c :: U) t) (h : Goes n M l (c :: U) t s) : Goes n M l U (t.set c (s.getD c 0)) s := by
  have hcn := hinv.lt c (by simp)
  have hlen := hinv.len
  refine ⟨h.len, fun d hd => ?_, fun d hd => h.pos d (by simp [hd]), h.sum⟩
  rw [getD_setI (by omega)]
  by_cases hdc : d = c
  · rw [if_pos hdc, hdc]
  · rw [if_neg hdc]; exact h.same d (by simp [hd, hdc])
theorem Goes.back {n : Nat} {M : Int} {l : List Eqn} {c : Nat} {U : List Nat} {t s : List Int} {v : Int} (hinv : Inv n l (c :: U) t) (h : Goes n M l U (t.set c v) s) (h0 : 0 ≤ v) (hM : v ≤ M) : Goes n M l (c :: U) t s ∧ s.getD c 0 = v := by
  have hcn := hinv.lt c (by simp)
  have hlen := hinv.len
  obtain ⟨hn1, _⟩ := List.nodup_cons.1 hinv.nd
  have hcv : s.getD c 0 = v := by rw [h.same c hn1, getD_setI (by omega), if_pos rfl]
  refine ⟨⟨h.len, fun d hd => ?_, fun d hd => ?_, h.sum⟩, hcv⟩
  · have hd' : d ≠ c ∧ d ∉ U := by simpa using hd
    rw [h.same d hd'.2, getD_setI (by omega), if_neg hd'.1]
  · rcases List.mem_cons.1 hd with rfl | hd
    · rw [hcv]; exact ⟨h0, hM⟩
    · exact h.pos d hd
/-- Between which numbers the next cell lies. -/
theorem Goes.span {n : Nat} {M : Int} {l : List Eqn} {c : Nat} {U : List Nat} {t s : List Int} (hinv : Inv n l (c :: U) t) (h : Goes n M l (c :: U) t s) : lowF t (c :: U) c l ≤ s.getD c 0 ∧ s.getD c 0 ≤ highF M t c l := by
  have hp := h.pos c (by simp)
  have hrest : ∀ q ∈ l, restQ t q = sumC s (q.1.filter fun d => decide (d ∈ c :: U)) := fun q hq => by
    have h1 := sumC_split (s := s) (t := t) (U := c :: U) (cs := q.1) (fun d _ hd => h.same d hd) (fun d _ hd => hinv.zero d hd)
    have h2 := h.sum q hq
    unfold restQ
    omega
  have hnn : ∀ q : Eqn, ∀ d ∈ q.1.filter (fun d => decide (d ∈ c :: U)), 0 ≤ s.getD d 0 := fun q d hd => (h.pos d (by have := (List.mem_filter.1 hd).2; exact of_decide_eq_true this)).1
  constructor
  · rw [lowF_le]
    refine ⟨hp.1, fun q hq hc hop => ?_⟩
    rw [hrest q hq]
    have hmem : c ∈ q.1.filter (fun d => decide (d ∈ c :: U)) := List.mem_filter.2 ⟨hc, by simp⟩
    unfold openQ at hop
    generalize q.1.filter (fun d => decide (d ∈ c :: U)) = f at hop hmem
    match f, hop, hmem with
    | [x], _, hm =>
      rw [List.mem_singleton.1 hm]
      simp [sumC]
  · rw [le_highF]
    refine ⟨hp.2, fun q hq hc => ?_⟩
    rw [hrest q hq]
    exact le_sumC (hnn q) (List.mem_filter.2 ⟨hc, by simp⟩)
theorem mem_enum {n : Nat} {M : Int} {l : List Eqn} (ho : Once l) : ∀ {U : List Nat} {down : Bool} {t s : List Int}, Inv n l U t → (s ∈ enum M l down U t ↔ Goes n M l U t s)
  | [], down, t, s, h => by
    unfold enum
    rw [List.mem_singleton]
    constructor
    · rintro rfl
      exact ⟨h.len, fun _ _ => rfl, fun c hc => absurd hc List.not_mem_nil, fun q hq => by
        have := h.done q hq (by unfold openQ; simp)
        unfold restQ at this
        omega⟩
    · intro hg
      exact ext_len (by rw [hg.len, h.len]) fun c => hg.same c List.not_mem_nil
  | c :: U, down, t, s, h => by
    unfold enum
    rw [List.mem_flatMap]
    constructor
    · rintro ⟨k, hk, hs⟩
      have hk := List.mem_range.1 hk
      have hv : lowF t (c :: U) c l ≤ (if down then highF M t c l - (k : Int) else lowF t (c :: U) c l + (k : Int)) ∧ (if down then highF M t c l - (k : Int) else lowF t (c :: U) c l + (k : Int)) ≤ highF M t c l := by split <;> omega
      have hg := (mem_enum ho (h.step ho hv.1 hv.2)).1 hs
      exact (Goes.back h hg (lowF_le.1 hv.1).1 (le_highF.1 hv.2).1).1
    · intro hg
      obtain ⟨h1, h2⟩ := Goes.span h hg
      have hk : ∃ k : Nat, (k : Int) ≤ highF M t c l - lowF t (c :: U) c l ∧ (if down then highF M t c l - (k : Int) else lowF t (c :: U) c l + (k : Int)) = s.getD c 0 := by
        by_cases hd : down = true
        · refine ⟨(highF M t c l - s.getD c 0).toNat, by omega, ?_⟩
          rw [if_pos hd]; omega
        · refine ⟨(s.getD c 0 - lowF t (c :: U) c l).toNat, by omega, ?_⟩
          rw [if_neg hd]; omega
      obtain ⟨k, hk1, hk2⟩ := hk
      refine ⟨k, List.mem_range.2 (by omega), ?_⟩
      rw [hk2]
      exact (mem_enum ho (h.step ho h1 h2)).2 (hg.step h)
/-- The order in which they are found. -/
def ltU : Bool → List Nat → List Int → List Int → Prop
  | _, [], _, _ => False
  | down, c :: U, a, b => (if down then b.getD c 0 < a.getD c 0 else a.getD c 0 < b.getD c 0) ∨ (a.getD c 0 = b.getD c 0 ∧ ltU false U a b)
theorem pairwise_flatMap {α β : Type} {r : β → β → Prop} {f : α → List β} : ∀ {l : List α}, (∀ x ∈ l, (f x).Pairwise r) → l.Pairwise (fun x y => ∀ a ∈ f x, ∀ b ∈ f y, r a b) → (l.flatMap f).Pairwise r
  | [], _, _ => List.Pairwise.nil
  | x :: l, h1, h2 => by
    rw [List.flatMap_cons, List.pairwise_append]
    obtain ⟨h3, h4⟩ := List.pairwise_cons.1 h2
    refine ⟨h1 x (by simp), pairwise_flatMap (fun y hy => h1 y (by simp [hy])) h4, fun a ha b hb => ?_⟩
    obtain ⟨y, hy, hb⟩ := List.mem_flatMap.1 hb
    exact h3 y hy a ha b hb
theorem enum_sorted {n : Nat} {M : Int} {l : List Eqn} (ho : Once l) : ∀ {U : List Nat} {down : Bool} {t : List Int}, Inv n l U t → (enum M l down U t).Pairwise (ltU down U)
  | [], down, t, _ => by unfold enum; exact List.pairwise_singleton _ _
  | c :: U, down, t, h => by
    unfold enum
    have hat : ∀ k : Nat, k < (highF M t c l - lowF t (c :: U) c l + 1).toNat → ∀ a ∈ enum M l false U (t.set c (if down then highF M t c l - (k : Int) else lowF t (c :: U) c l + (k : Int))), a.getD c 0 = if down then highF M t c l - (k : Int) else lowF t (c :: U) c l + (k : Int) := fun k hk a ha => by
      have hv : lowF t (c :: U) c l ≤ (if down then highF M t c l - (k : Int) else lowF t (c :: U) c l + (k : Int)) ∧ (if down then highF M t c l - (k : Int) else lowF t (c :: U) c l + (k : Int)) ≤ highF M t c l := by split <;> omega
      exact (Goes.back h ((mem_enum ho (h.step ho hv.1 hv.2)).1 ha) (lowF_le.1 hv.1).1 (le_highF.1 hv.2).1).2
    refine pairwise_flatMap (fun k hk => ?_) ?_
    · have hk := List.mem_range.1 hk
      have hv : lowF t (c :: U) c l ≤ (if down then highF M t c l - (k : Int) else lowF t (c :: U) c l + (k : Int)) ∧ (if down then highF M t c l - (k : Int) else lowF t (c :: U) c l + (k : Int)) ≤ highF M t c l := by split <;> omega
      refine (enum_sorted ho (h.step ho hv.1 hv.2)).imp_of_mem fun {a b} ha hb hab => ?_
      exact Or.inr ⟨by rw [hat k hk a ha, hat k hk b hb], hab⟩
    · refine (List.pairwise_lt_range (n := _)).imp_of_mem fun {x y} hx hy hxy a ha b hb => ?_
      have hx := List.mem_range.1 hx
      have hy := List.mem_range.1 hy
      left
      rw [hat x hx a ha, hat y hy b hb]
      by_cases hd : down = true
      · rw [if_pos hd, if_pos hd, if_pos hd]; omega
      · rw [if_neg hd, if_neg hd, if_neg hd]; omega
/-! Going on until someone has enough -/
def foldStop {σ α : Type} (f : σ → α → σ × Bool) : σ → List α → σ × Bool
  | s, [] => (s, true)
  | s, x :: l => if (f s x).2 then foldStop f (f s x).1 l else ((f s x).1, false)
theorem foldStop_append {σ α : Type} (f : σ → α → σ × Bool) : ∀ (s : σ) (x y : List α), foldStop f s (x ++ y) = if (foldStop f s x).2 then foldStop f (foldStop f s x).1 y else foldStop f s x
  | s, [], y => by simp [foldStop]
  | s, a :: x, y => by
    rw [List.cons_append, foldStop, foldStop]
    by_cases h : (f s a).2 = true
    · rw [if_pos h, if_pos h]; exact foldStop_append f _ x y
    · rw [if_neg h, if_neg h, if_neg (by simp)]
end Go.Sol
/-
  The proof engine, part AF: a body with a label that nothing jumps to (a labelled 'continue' is an exit of a block).
-/
namespace Go.Eng
/-- Nothing goes on behind a jump. -/
def NoG (Q : Exit → Act → World → Prop) : Prop := ∀ l a w, ¬ Q (.goto l) a w
theorem NoG.fn {P : Program} {fn : Func} {I : PH} {F : Res} {W : World} {Post : Value → List Res → Prop} : NoG (fnPost P fn I F W Post) := fun _ _ _ h => h
theorem NoG.then_ {K : Act → World → Prop} {Q : Exit → Act → World → Prop} (h : NoG Q) : NoG (Exit.then K Q) := fun l a w hq => h l a w hq
theorem NoG.inB {id : Nat} {Q : Exit → Act → World → Prop} (h : NoG Q) : NoG (Exit.inBlock id Q) := fun l a w hq => h l a w hq
section
variable {C : Cx} {e : Env} {I : PH} {R : List Res} {Q : Exit → Act → World → Prop} {c : Code}
end
end Go.Eng
/-
  The proof engine, part AJ: calls that may end by a panic; a function that puts off a call which recovers.
-/
namespace Go.Eng
/-- Called in any memory that holds 'Rpre' beside any other, the function returns, or it panics; memory then holds what 'Post', or 'Pan', says beside that other. -/
def FnSpecP (P : Program) (f : FuncId) (args : List Value) (I : PH) (Rpre : List Res) (Post : Value → List Res → Prop) (Pan : List PanicEntry → List Res → Prop) : Prop :=
  ∀ (w : World) (F : Res), St w I (Rpre ++ [F]) w → Calls P f args.toArray w fun e w' => (∃ v R', e = .returned v ∧ Post v R' ∧ St w I (R' ++ [F]) w') ∨ (∃ ch R', e = .panicked ch ∧ Pan ch R' ∧ St w I (R' ++ [F]) w')
def fnPostP (P : Program) (fn : Func) (I : PH) (F : Res) (W : World) (Post : Value → List Res → Prop) (Pan : List PanicEntry → List Res → Prop) : Exit → Act → World → Prop :=
  bodyPost P fn fun e w' => (∃ v R', e = .returned v ∧ Post v R' ∧ St W I (R' ++ [F]) w') ∨ (∃ ch R', e = .panicked ch ∧ Pan ch R' ∧ St W I (R' ++ [F]) w')
set_option maxHeartbeats 8000000 in
theorem FnSpecP.enterP {P : Program} {f : FuncId} {fn : Func} {args : List Value} {I : PH} {Rpre : List Res} {Post : Value → List Res → Prop} {Pan : List PanicEntry → List Res → Prop} {n : Nat}
    (hf : P.funcs[f]? = some fn) (hb : fn.body.isSome = true) (hn : fn.ntmps = n) (hle : Nat.ble args.length n = true)
    (h : ∀ w F, Nx ⟨P, n, w⟩ (argEnv args 0) I (Rpre ++ [F]) ((bodyOf fn).wp P (fnPostP P fn I F w Post Pan))) : FnSpecP P f args I Rpre Post Pan := by
  obtain ⟨c, hc⟩ := Option.isSome_iff_exists.1 hb
  have : bodyOf fn = c := by unfold bodyOf; rw [hc]
  rw [this] at h
  intro w F hw
  have hle := Nat.le_of_ble_eq_true hle
  refine calls_of_wp hf hc (h w F _ w ⟨?_, rfl, fun t v ht => ?_⟩ hw)
  · simp [hn]; omega
  · obtain ⟨_, h2⟩ := argEnv_lk args 0 t v ht
    have hlt : t < args.length := by
      rcases Nat.lt_or_ge t args.length with h' | h'
      · exact h'
      · rw [Nat.sub_zero, List.getElem?_eq_none h'] at h2; cases h2
    rw [Array.getElem?_append_left (by simpa using hlt)]
    simpa using h2
set_option maxHeartbeats 8000000 in
theorem FnSpecP.mono {P : Program} {f : FuncId} {args : List Value} {I : PH} {Rpre : List Res} {Post Post' : Value → List Res → Prop} {Pan Pan' : List PanicEntry → List Res → Prop} (h : FnSpecP P f args I Rpre Post Pan) (hp : ∀ v R', Post v R' → Post' v R') (hq : ∀ ch R', Pan ch R' → Pan' ch R') : FnSpecP P f args I Rpre Post' Pan' :=
  fun w F hw => (h w F hw).mono fun _ _ hx => by
    rcases hx with ⟨v, R', he, hv, hs⟩ | ⟨v, R', he, hv, hs⟩
    · exact .inl ⟨v, R', he, hp v R' hv, hs⟩
    · exact .inr ⟨v, R', he, hq v R' hv, hs⟩
theorem PanicOk.fnP {P : Program} {fn : Func} {I : PH} {F : Res} {W : World} {Post : Value → List Res → Prop} {Pan : List PanicEntry → List Res → Prop} : PanicOk (fnPostP P fn I F W Post Pan) := by
  intro c d v a w h
  have hd : (Act.put a d v).defers = a.defers := by cases d <;> rfl
  obtain ⟨h1, h2⟩ := h
  exact ⟨hd ▸ h1, h2⟩
theorem NoG.fnP {P : Program} {fn : Func} {I : PH} {F : Res} {W : World} {Post : Value → List Res → Prop} {Pan : List PanicEntry → List Res → Prop} : NoG (fnPostP P fn I F W Post Pan) := fun _ _ _ h => h
section
variable {C : Cx} {e : Env} {I : PH} {R : List Res} {K : Act → World → Prop} {Q : Exit → Act → World → Prop}
variable {d : Nat} {ty : TypeId} {pos : String} {after : Array Edge} {g : Option (Nat × Bool)} {x : Operand} {dst : Option Tmp}
theorem Nx.ret_fnP {fn : Func} {F : Res} {Post : Value → List Res → Prop} {Pan : List PanicEntry → List Res → Prop} {v : Value} (hv : resV e fn.results.toList = some v) (R' : List Res) (hp : Post v R') (hR : Ent R (R' ++ [F])) : Nx C e I R (fnPostP C.P fn I F C.W Post Pan .ret) :=
  fun _ _ ha hw => ⟨ha.defers, v, resV_run ha hv, .inl ⟨v, R', rfl, hp, hw.ent hR⟩⟩
theorem Nx.end_fnP {fn : Func} {F : Res} {Post : Value → List Res → Prop} {Pan : List PanicEntry → List Res → Prop} {v : Value} (hv : resV e fn.results.toList = some v) (R' : List Res) (hp : Post v R') (hR : Ent R (R' ++ [F])) : Nx C e I R (fnPostP C.P fn I F C.W Post Pan .normal) :=
  fun _ _ ha hw => ⟨ha.defers, v, resV_run ha hv, .inl ⟨v, R', rfl, hp, hw.ent hR⟩⟩
theorem Nx.pan_fnP {fn : Func} {F : Res} {Post : Value → List Res → Prop} {Pan : List PanicEntry → List Res → Prop} {ch : List PanicEntry} (R' : List Res) (hp : Pan ch R') (hR : Ent R (R' ++ [F])) : Nx C e I R (fnPostP C.P fn I F C.W Post Pan (.panic ch)) :=
  fun _ _ ha hw => ⟨ha.defers, .inr ⟨ch, R', rfl, hp, hw.ent hR⟩⟩
theorem Nx.then_panic {ch : List PanicEntry} (h : Nx C e I R (Q (.panic ch))) : Nx C e I R (Exit.then K Q (.panic ch)) := h
theorem Nx.in_panic {ch : List PanicEntry} {id : Nat} (h : Nx C e I R (Q (.panic ch))) : Nx C e I R (Exit.inBlock id Q (.panic ch)) := h
/-- panic(x), x an interface's value. -/
theorem Nx.panic_ {t : TypeId} {v : Value} (hx : evo e x = some (.iface t v)) (h : Nx C e I R (Q (.panic [{ v := .iface t v, recovered := false }]))) : Nx C e I R (opK C.P ⟨dst, .panic x, ty, pos, after, g⟩ K Q) := by
  intro a w ha hw
  unfold opK Oper.wp
  have hr : (execOp a.eval ⟨dst, .panic x, ty, pos, after, g⟩).run C.P w = .halt (.panic (.iface t v)) w := by
    simp only [execOp, ha.eval hx]
    rfl
  rw [hr]
  exact h a w ha hw
end
/-! A function that puts a call off -/
def L (ds : List Deferred) (K : Act → World → Prop) : Act → World → Prop := fun a w => K { a with defers := ds } w
def LQ (ds : List Deferred) (Q : Exit → Act → World → Prop) : Exit → Act → World → Prop := fun ex a w => Q ex { a with defers := ds } w
/-- An operation that puts no call off, and that is no call. -/
def plainOp (o : Oper) : Bool := match o.op with
  | .move _ | .assign _ | .alloc _ | .build .. | .buildSlice .. | .load .. | .store .. | .unOp .. | .convert .. | .makeInterface .. | .makeFunc .. | .fieldAddr .. | .indexAddr .. | .extract .. => true
  | _ => false
theorem run_v_kind {s : Sem Value} {P : Program} {w w' : World} {n : Next} (h : Sem.run P (do pure (Next.value (← s))) w = .ok n w') : ∃ v, n = .value v := by
  rw [Sem.run_bind] at h
  cases hs : s.run P w with
  | ok v w1 => rw [hs] at h; cases h; exact ⟨v, rfl⟩
  | halt r w1 => rw [hs] at h; cases h
theorem run_u_kind {s : Sem Unit} {P : Program} {w w' : World} {n : Next} (h : Sem.run P (do s; pure Next.skip) w = .ok n w') : n = .skip := by
  rw [Sem.run_bind] at h
  cases hs : s.run P w with
  | ok v w1 => rw [hs] at h; cases h; rfl
  | halt r w1 => rw [hs] at h; cases h
theorem plain_run {o : Oper} (hp : plainOp o = true) {ρ : Operand → Value} {P : Program} {w w' : World} {n : Next} (h : (execOp ρ o).run P w = .ok n w') : (∃ v, n = .value v) ∨ n = .skip := by
  obtain ⟨dst, op, ty, pos, after, g⟩ := o
  cases op <;> simp only [plainOp, Bool.false_eq_true] at hp <;> first
    | exact False.elim hp
    | exact .inl (run_v_kind h)
    | exact .inr (run_u_kind h)
    | (cases h; exact .inl ⟨_, rfl⟩)
section
variable {C : Cx} {e : Env} {I : PH} {R : List Res} {K : Act → World → Prop} {Q : Exit → Act → World → Prop} {ds : List Deferred} {ops : Array Oper} {i : Nat} {o : Oper} {c : Code}
theorem NxL.at_op (ho : opAt ops.toList i = some o) (hg : o.guard = none) (h : Nx C e I R (L ds (opK C.P o (wpAt C.P ops Q (i + 1)) Q))) : Nx C e I R (L ds (wpAt C.P ops Q i)) := by
  intro a w ha hw
  have h1 := h a w ha hw
  unfold L wpAt at *
  rw [drop_of (opAt_arr ho)]
  unfold wpList
  rw [if_pos (by simp [Region.wanted, hg])]
  exact .inl h1
theorem NxL.at_end (ho : opAt ops.toList i = none) (h : Nx C e I R (L ds (Q .normal))) : Nx C e I R (L ds (wpAt C.P ops Q i)) := by
  intro a w ha hw
  have h1 := h a w ha hw
  unfold L wpAt at *
  rw [List.drop_eq_nil_of_le (by have := Array.getElem?_eq_none_iff.1 (opAt_arr ho); simpa using this)]
  exact h1
theorem NxL.p_region (hk : ck c = 1) (h : Nx C e I R (L ds (wpAt C.P (cops c) Q 0))) : Nx C e I R (L ds (c.wp C.P Q)) := by
  cases c <;> first | (simp [ck] at hk; done) | skip
  rename_i id ops d
  cases d with
  | true => simp [ck] at hk
  | false =>
    intro a w ha hw
    have h1 := h a w ha hw
    unfold L wpAt at h1
    rw [List.drop_zero] at h1
    exact wp_region_list h1
theorem NxL.p_seq (hk : ck c = 3) (h : Nx C e I R (L ds ((cl c).wp C.P (Exit.then ((cr c).wp C.P Q) Q)))) : Nx C e I R (L ds (c.wp C.P Q)) := by
  cases c <;> first | exact fun a w ha hw => wp_seq (h a w ha hw) | (simp [ck] at hk; done) | (rename_i d; cases d <;> simp [ck] at hk)
theorem NxL.p_ret (hk : ck c = 8) (h : Nx C e I R (L ds (Q .ret))) : Nx C e I R (L ds (c.wp C.P Q)) := by
  cases c <;> first | exact fun a w ha hw => wp_ret (h a w ha hw) | (simp [ck] at hk; done) | (rename_i d; cases d <;> simp [ck] at hk)
theorem NxL.then_normal (h : Nx C e I R (L ds K)) : Nx C e I R (L ds (Exit.then K Q .normal)) := h
theorem NxL.then_ret (h : Nx C e I R (L ds (Q .ret))) : Nx C e I R (L ds (Exit.then K Q .ret)) := h
theorem put_defers (a : Act) (dst : Option Tmp) (v : Value) : { a.put dst v with defers := ds } = ({ a with defers := ds } : Act).put dst v := by cases dst <;> rfl
/-- An operation, walked as if no call had been put off. -/
theorem NxL.op (hp : plainOp o = true) (h : Nx C e I R (opK C.P o (L ds K) (LQ ds Q))) : Nx C e I R (L ds (opK C.P o K Q)) := by
  intro a w ha hw
  have h1 := h a w ha hw
  unfold L
  unfold opK Oper.wp at h1 ⊢
  have he : ({ a with defers := ds } : Act).eval = a.eval := rfl
  rw [he]
  cases hr : (execOp a.eval o).run C.P w with
  | ok n w' =>
    rw [hr] at h1
    rcases plain_run hp hr with ⟨v, rfl⟩ | rfl
    · show K _ _
      have h2 : K { a.put o.dst v with defers := ds } w' := h1
      rw [put_defers] at h2
      exact h2
    · show K _ _
      have h2 : K { a.put o.dst undef with defers := ds } w' := h1
      rw [put_defers] at h2
      exact h2
  | halt s w' =>
    rw [hr] at h1
    cases s <;> first | exact h1 | exact h1.elim
variable {d : Nat} {ty : TypeId} {pos : String} {after : Array Edge} {g : Option (Nat × Bool)}
/-- A call is put off. -/
theorem Nx.defer_ {fx : Operand} {args : Array Operand} {tys : Array TypeId} {f : FuncId} {c1 c2 : Array Value} {vs : List Value} (hfx : evo e fx = some (.func (.func f) c1 c2)) (hvs : evs e args.toList = some vs)
    (h : Nx C e I R (L [{ target := .fn (.func f) c2, args := c1 ++ vs.toArray }] K)) : Nx C e I R (opK C.P ⟨none, .defer { callee := .value fx, args, argTypes := tys }, ty, pos, after, g⟩ K Q) := by
  intro a w ha hw
  unfold opK Oper.wp
  have e1 : args.map a.eval = vs.toArray := by
    apply Array.ext'
    rw [Array.toList_map]
    exact ha.evals hvs
  have hr : (execOp a.eval ⟨none, .defer { callee := .value fx, args, argTypes := tys }, ty, pos, after, g⟩).run C.P w = .ok (.defer { target := .fn (.func f) c2, args := c1 ++ vs.toArray }) w := by
    simp only [execOp, resolve, ha.eval hfx, Deferred.ofValue, e1]
    rfl
  rw [hr]
  have hd := ha.defers
  show K ({ a with defers := _ :: a.defers } : Act) w
  rw [hd]
  exact h a w ha hw
def fnPostD (P : Program) (fn : Func) (I : PH) (F : Res) (W : World) (Post : Value → List Res → Prop) : Exit → Act → World → Prop :=
  bodyPostD P fn fun e w' => ∃ v R', e = .returned v ∧ Post v R' ∧ St W I (R' ++ [F]) w'
set_option maxHeartbeats 8000000 in
theorem FnSpec.enterD {P : Program} {f : FuncId} {fn : Func} {args : List Value} {I : PH} {Rpre : List Res} {Post : Value → List Res → Prop} {n : Nat}
    (hf : P.funcs[f]? = some fn) (hb : fn.body.isSome = true) (hn : fn.ntmps = n) (hle : Nat.ble args.length n = true)
    (h : ∀ w F, Nx ⟨P, n, w⟩ (argEnv args 0) I (Rpre ++ [F]) ((bodyOf fn).wp P (fnPostD P fn I F w Post))) : FnSpec P f args I Rpre Post := by
  obtain ⟨c, hc⟩ := Option.isSome_iff_exists.1 hb
  have : bodyOf fn = c := by unfold bodyOf; rw [hc]
  rw [this] at h
  intro w F hw
  have hle := Nat.le_of_ble_eq_true hle
  refine calls_of_wp_defers hf hc (h w F _ w ⟨?_, rfl, fun t v ht => ?_⟩ hw)
  · simp [hn]; omega
  · obtain ⟨_, h2⟩ := argEnv_lk args 0 t v ht
    have hlt : t < args.length := by
      rcases Nat.lt_or_ge t args.length with h' | h'
      · exact h'
      · rw [Nat.sub_zero, List.getElem?_eq_none h'] at h2; cases h2
    rw [Array.getElem?_append_left (by simpa using hlt)]
    simpa using h2
/-- The function returns; the call that was put off finds no panic. -/
theorem NxL.ret_D {fn : Func} {F : Res} {Post : Value → List Res → Prop} {v : Value} {q : FuncId} {cap dargs : Array Value} {al : List Value} (hv : resV e fn.results.toList = some v) (hal : dargs.toList ++ cap.toList = al) (hc : callable C.P q = true)
    (hd : ∀ w, CallsD C.P q al.toArray .returning w fun en u' w' => (∃ z, en = .returned z) ∧ u' = .returning ∧ w' = w) (R' : List Res) (hp : Post v R') (hR : Ent R (R' ++ [F])) : Nx C e I R (L [{ target := .fn (.func q) cap, args := dargs }] (fnPostD C.P fn I F C.W Post .ret)) := by
  intro a w ha hw
  have e1 : dargs ++ cap = al.toArray := by rw [← hal]; apply Array.ext'; simp
  refine leaves_cons (f := q) (args := al.toArray) (by simp) (by show (callFunc q (dargs ++ cap)).run C.P w = _; rw [e1]; exact run_callFunc hc _ w) ?_
  refine (hd w).mono ?_
  rintro en u' w' ⟨⟨z, rfl⟩, rfl, rfl⟩
  exact ⟨v, resV_run ha hv, v, R', rfl, hp, hw.ent hR⟩
end
end Go.Eng
/- Contracts of functions of the given program, and lemmas about plain lists and numbers: what the laws of this seat lean on. -/
namespace Go.Proofs.YtjnhoemgceghlaaGreat
open Go.Eng Go.Sol
attribute [local irreducible] opK wpList Code.wp Exit.then Exit.inBlock fnPost bodyPost Nx Calls Oper.wp Rd Rds Wr Ent Stars Blk Again Vec FnSpec wpMix QRun Stop Upto wpAt
/-! The problem of a search: what is left of each equation, how many of its cells are open, the table so far -/
abbrev iR (A : Option Addr) (c : Nat) (l : List Int) : Res := Vec 3 1 A l.length c (l.map (Value.int .i64))
abbrev PT : TypeId := 167
/-- Where the problem's lists lie. -/
structure Pl where
  b : Nat
  tv : Value
  iv : Value
  Ar : Option Addr
  cr : Nat
  Ao : Option Addr
  co : Nat
  At : Option Addr
  ct : Nat
def Pl.blk (p : Pl) (n k : Nat) : Res := Blk p.b PT [p.tv, p.iv, .slice p.Ar k p.cr, .slice p.Ao k p.co, .slice p.At n p.ct]
/-- The equations in which a cell is. -/
def inL (l : List Eqn) (c : Nat) : List Int := ((List.range l.length).filter fun i => decide (c ∈ (l.getD i default).1)).map Int.ofNat
/-- The lists of equations of each cell, given up. -/
structure InI (I : PH) (p : Pl) (n : Nat) (l : List Eqn) : Prop where
  ex : ∃ (Ai : Option Addr) (ci : Nat) (ins : List Row), p.iv = .slice Ai n ci ∧ ins.length = n ∧ SliceOf rowV I Ai ci ins ∧ (∀ r ∈ ins, Ints I r.1 r.2.1 r.2.2) ∧ ∀ c, c < n → (ins.getD c default).2.2 = inL l c
theorem InI.mono {I I' : PH} {p : Pl} {n : Nat} {l : List Eqn} (hle : PH.le I I') (h : InI I p n l) : InI I' p n l := by
  obtain ⟨Ai, ci, ins, h1, h2, h3, h4, h5⟩ := h.ex
  exact ⟨Ai, ci, ins, h1, h2, h3.mono hle, fun r hr => (h4 r hr).mono hle, h5⟩
theorem inL_at {l : List Eqn} {c k : Nat} (hk : k < (inL l c).length) : ∃ i : Nat, (inL l c).getD k default = (i : Int) ∧ i < l.length ∧ c ∈ (l.getD i default).1 := by
  have hm : (inL l c).getD k default ∈ inL l c := by rw [List.getD_eq_getElem?_getD, List.getElem?_eq_getElem hk]; exact List.getElem_mem _
  generalize (inL l c).getD k default = z at hm
  unfold inL at hm
  obtain ⟨i, hi, rfl⟩ := List.mem_map.1 hm
  obtain ⟨h1, h2⟩ := List.mem_filter.1 hi
  exact ⟨i, rfl, List.mem_range.1 h1, of_decide_eq_true h2⟩
theorem mem_inL {l : List Eqn} {c i : Nat} : (i : Int) ∈ inL l c ↔ i < l.length ∧ c ∈ (l.getD i default).1 := by
  unfold inL
  rw [List.mem_map]
  constructor
  · rintro ⟨j, hj, he⟩
    obtain rfl : j = i := Int.ofNat.inj he
    obtain ⟨h1, h2⟩ := List.mem_filter.1 hj
    exact ⟨List.mem_range.1 h1, of_decide_eq_true h2⟩
  · rintro ⟨h1, h2⟩
    exact ⟨i, List.mem_filter.2 ⟨List.mem_range.2 h1, decide_eq_true h2⟩, rfl⟩
theorem inL_nd (l : List Eqn) (c : Nat) : (inL l c).Nodup := by
  unfold inL
  exact List.Pairwise.map Int.ofNat (fun a b h e => h (Int.ofNat.inj e)) (List.nodup_range.filter _)
theorem inL_len (l : List Eqn) (c : Nat) : (inL l c).length ≤ l.length := by
  unfold inL
  rw [List.length_map]
  exact Nat.le_trans (List.length_filter_le _ _) (by simp)
def restL (l : List Eqn) (t : List Int) : List Int := l.map (restQ t)
def openL (l : List Eqn) (U : List Nat) : List Int := l.map fun q => (openQ U q : Int)
theorem restL_len (l : List Eqn) (t : List Int) : (restL l t).length = l.length := List.length_map _
theorem openL_len (l : List Eqn) (U : List Nat) : (openL l U).length = l.length := List.length_map _
theorem restL_at {l : List Eqn} {t : List Int} {i : Nat} (hi : i < l.length) : (restL l t).getD i default = restQ t (l.getD i default) := by
  unfold restL
  rw [List.getD_eq_getElem?_getD, List.getElem?_map, List.getD_eq_getElem?_getD, List.getElem?_eq_getElem hi]; rfl
theorem openL_at {l : List Eqn} {U : List Nat} {i : Nat} (hi : i < l.length) : (openL l U).getD i default = (openQ U (l.getD i default) : Int) := by
  unfold openL
  rw [List.getD_eq_getElem?_getD, List.getElem?_map, List.getD_eq_getElem?_getD, List.getElem?_eq_getElem hi]; rfl
/-! The span of a cell -/
def lowK (rest opn ix : List Int) : Nat → Int
  | 0 => 0
  | k + 1 => if opn.getD (ix.getD k default).toNat default = 1 then max (lowK rest opn ix k) (rest.getD (ix.getD k default).toNat default) else lowK rest opn ix k
def highK (rest ix : List Int) : Nat → Int
  | 0 => 1000000
  | k + 1 => min (highK rest ix k) (rest.getD (ix.getD k default).toNat default)
theorem lowK_le {rest opn ix : List Int} {v : Int} : ∀ {k : Nat}, lowK rest opn ix k ≤ v ↔ 0 ≤ v ∧ ∀ j, j < k → opn.getD (ix.getD j default).toNat default = 1 → rest.getD (ix.getD j default).toNat default ≤ v
  | 0 => by simp [lowK]
  | k + 1 => by
    unfold lowK
    have key : (∀ j, j < k + 1 → opn.getD (ix.getD j default).toNat default = 1 → rest.getD (ix.getD j default).toNat default ≤ v) ↔ (∀ j, j < k → opn.getD (ix.getD j default).toNat default = 1 → rest.getD (ix.getD j default).toNat default ≤ v) ∧ (opn.getD (ix.getD k default).toNat default = 1 → rest.getD (ix.getD k default).toNat default ≤ v) :=
      ⟨fun h => ⟨fun j hj => h j (by omega), h k (by omega)⟩, fun h j hj => by
        by_cases hjk : j = k
        · rw [hjk]; exact h.2
        · exact h.1 j (by omega)⟩
    rw [key]
    split
    · rename_i h1
      rw [Int.max_le, lowK_le]
      exact ⟨fun ⟨⟨a, b⟩, c⟩ => ⟨a, b, fun _ => c⟩, fun ⟨a, b, c⟩ => ⟨⟨a, b⟩, c h1⟩⟩
    · rename_i h1
      rw [lowK_le]
      exact ⟨fun ⟨a, b⟩ => ⟨a, b, fun h => absurd h h1⟩, fun ⟨a, b, _⟩ => ⟨a, b⟩⟩
theorem le_highK {rest ix : List Int} {v : Int} : ∀ {k : Nat}, v ≤ highK rest ix k ↔ v ≤ 1000000 ∧ ∀ j, j < k → v ≤ rest.getD (ix.getD j default).toNat default
  | 0 => by simp [highK]
  | k + 1 => by
    unfold highK
    rw [Int.le_min, le_highK]
    constructor
    · rintro ⟨⟨h1, h2⟩, h3⟩
      refine ⟨h1, fun j hj => ?_⟩
      by_cases hjk : j = k
      · rw [hjk]; exact h3
      · exact h2 j (by omega)
    · rintro ⟨h1, h2⟩
      exact ⟨⟨h1, fun j hj => h2 j (by omega)⟩, h2 k (by omega)⟩
theorem all_in {l : List Eqn} {c : Nat} {Q : Eqn → Prop} : (∀ j, j < (inL l c).length → Q (l.getD ((inL l c).getD j default).toNat default)) ↔ ∀ q ∈ l, c ∈ q.1 → Q q := by
  constructor
  · intro h q hq hc
    obtain ⟨i, hi, rfl⟩ := List.mem_iff_getElem.1 hq
    have e : l.getD i default = l[i] := by rw [List.getD_eq_getElem?_getD, List.getElem?_eq_getElem hi]; rfl
    obtain ⟨j, hj, he⟩ := List.mem_iff_getElem.1 (mem_inL.2 ⟨hi, by rw [e]; exact hc⟩)
    have := h j hj
    rw [show (inL l c).getD j default = (i : Int) by rw [List.getD_eq_getElem?_getD, List.getElem?_eq_getElem hj]; exact he, Int.toNat_natCast, e] at this
    exact this
  · intro h j hj
    obtain ⟨i, he, hi, hc⟩ := inL_at hj
    rw [he, Int.toNat_natCast]
    exact h _ (by rw [List.getD_eq_getElem?_getD, List.getElem?_eq_getElem hi]; exact List.getElem_mem _) hc
theorem lowK_all {l : List Eqn} {c : Nat} {t : List Int} {U : List Nat} : lowK (restL l t) (openL l U) (inL l c) (inL l c).length = lowF t U c l := by
  have h : ∀ v, lowK (restL l t) (openL l U) (inL l c) (inL l c).length ≤ v ↔ lowF t U c l ≤ v := fun v => by
    rw [lowK_le, lowF_le, ← all_in (Q := fun q => openQ U q = 1 → restQ t q ≤ v)]
    constructor
    · rintro ⟨h1, h2⟩
      refine ⟨h1, fun j hj ho => ?_⟩
      obtain ⟨i, he, hi, _⟩ := inL_at hj
      have := h2 j hj
      rw [he, Int.toNat_natCast, restL_at hi, openL_at hi] at this
      rw [he, Int.toNat_natCast] at ho ⊢
      exact this (by rw [ho]; rfl)
    · rintro ⟨h1, h2⟩
      refine ⟨h1, fun j hj ho => ?_⟩
      obtain ⟨i, he, hi, _⟩ := inL_at hj
      have := h2 j hj
      rw [he, Int.toNat_natCast] at this ho ⊢
      rw [restL_at hi]
      rw [openL_at hi] at ho
      exact this (by omega)
  exact Int.le_antisymm ((h _).2 (Int.le_refl _)) ((h _).1 (Int.le_refl _))
theorem highK_all {l : List Eqn} {c : Nat} {t : List Int} : highK (restL l t) (inL l c) (inL l c).length = highF 1000000 t c l := by
  have h : ∀ v, v ≤ highK (restL l t) (inL l c) (inL l c).length ↔ v ≤ highF 1000000 t c l := fun v => by
    rw [le_highK, le_highF, ← all_in (Q := fun q => v ≤ restQ t q)]
    constructor
    · rintro ⟨h1, h2⟩
      refine ⟨h1, fun j hj => ?_⟩
      obtain ⟨i, he, hi, _⟩ := inL_at hj
      have := h2 j hj
      rw [he, Int.toNat_natCast, restL_at hi] at this
      rw [he, Int.toNat_natCast]
      exact this
    · rintro ⟨h1, h2⟩
      refine ⟨h1, fun j hj => ?_⟩
      obtain ⟨i, he, hi, _⟩ := inL_at hj
      have := h2 j hj
      rw [he, Int.toNat_natCast] at this ⊢
      rw [restL_at hi]
      exact this
  exact Int.le_antisymm ((h _).1 (Int.le_refl _)) ((h _).2 (Int.le_refl _))
set_option maxRecDepth 10000 in
set_option maxHeartbeats 4000000 in
theorem span_spec (p : Pl) (n : Nat) (l : List Eqn) (rest opn t : List Int) (I : PH) (hin : InI I p n l) (c : Nat) (hc : c < n) (hr : rest.length = l.length) (ho : opn.length = l.length) (ht : t.length = n) (hl9 : l.length ≤ 100000) :
    FnSpec Tryz.prog 153 [.pointer (some ⟨p.b, 0, none⟩), .int .i64 (c : Int)] I [p.blk n l.length, iR p.Ar p.cr rest, iR p.Ao p.co opn, iR p.At p.ct t]
      (fun v R' => v = .tuple #[.int .i64 (lowK rest opn (inL l c) (inL l c).length), .int .i64 (highK rest (inL l c) (inL l c).length)] ∧ R' = [p.blk n l.length, iR p.Ar p.cr rest, iR p.Ao p.co opn, iR p.At p.ct t]) := by
  obtain ⟨Ai, ci, ins, hiv, hil, hio, hir, hic⟩ := hin.ex
  have hinl := hio.len
  have hrow := hir _ (show ins.getD c default ∈ ins by rw [List.getD_eq_getElem?_getD, List.getElem?_eq_getElem (by omega)]; exact List.getElem_mem _)
  have hix := hic c hc
  have hrd : ∀ (W : World) (R : List Res), Rd W I R ((ad Ai).add (c * 1)) (rowV (ins.getD c default)) := fun W R => hio.rd (by omega)
  generalize ins.getD c default = rw' at hrow hix hrd
  obtain ⟨Ax, cx, ix⟩ := rw'
  dsimp only at hrow hix
  replace hrd : ∀ (W : World) (R : List Res), Rd W I R ((ad Ai).add (c * 1)) (.slice Ax ix.length cx) := hrd
  have hixl := hrow.len
  have hixb := inL_len l c
  rw [← hix] at hixb ⊢
  refine FnSpec.enterP Tryz.func153 rfl Tryz.ntmps153 rfl fun w F => ?_
  unfold Pl.blk
  rw [hiv]
  repeat' first
    | ((with_reducible refine Nx.is_wp ?_); first | refine Nx.wo ?_ | refine Nx.zp (fun hc => ?_) (fun hc => ?_))
    | (refine Nx.zo ?_; first | refine Nx.opr rfl rfl ?_ | refine Nx.indexAddr_nat (A := Ai) (i := c) (sz := 1) rfl rfl rfl rfl rfl (by omega) (hio.isSome (by omega)) ?_ | refine Nx.load rfl rfl rfl (hrd _ _) ?_ | refine Nx.so ?_ | refine Nx.sb (fun bx => ?_) | refine Nx.sa (fun A2 c2 => ?_))
    | ((with_reducible refine Nx.is_at ?_); first | refine Nx.a ?_ | refine Nx.zd ?_ | refine Nx.zs (fun hc => ?_) (fun hc => ?_))
    | ((with_reducible refine Nx.is_mix ?_); first | refine Nx.m ?_ | refine Nx.zm ?_ | refine Nx.zt (fun hc => ?_) (fun hc => ?_))
    | refine Nx.zx ?_ | fail
  refine Nx.ent (R' := [Vec 3 1 p.Ar l.length p.cr (rest.map (Value.int .i64)), Vec 3 1 p.Ao l.length p.co (opn.map (Value.int .i64)), Blk p.b PT [p.tv, .slice Ai n ci, .slice p.Ar l.length p.cr, .slice p.Ao l.length p.co, .slice p.At n p.ct], iR p.At p.ct t, F]) (by unfold iR; rw [hr, ho]; (exact Ent.auto)) ?_
  refine Nx.vec_fact fun hv1 hv2 hv3 hAr => ?_
  refine Nx.ent (R' := [Vec 3 1 p.Ao l.length p.co (opn.map (Value.int .i64)), Vec 3 1 p.Ar l.length p.cr (rest.map (Value.int .i64)), Blk p.b PT [p.tv, .slice Ai n ci, .slice p.Ar l.length p.cr, .slice p.Ao l.length p.co, .slice p.At n p.ct], iR p.At p.ct t, F]) (by (exact Ent.auto)) ?_
  refine Nx.vec_fact fun hv4 hv5 hv6 hAo => ?_
  refine Nx.p_loop (σ := Nat) (fun k => [(0, .pointer (some ⟨p.b, 0, none⟩)), (16, .slice Ax ix.length cx), (17, .int .i64 ix.length), (18, .int .i64 (k : Int)), (6, .int .i64 (lowK rest opn ix k)), (7, .int .i64 (highK rest ix k))])
    (fun _ => [Blk p.b PT [p.tv, .slice Ai n ci, .slice p.Ar l.length p.cr, .slice p.Ao l.length p.co, .slice p.At n p.ct], Vec 3 1 p.Ar l.length p.cr (rest.map (Value.int .i64)), Vec 3 1 p.Ao l.length p.co (opn.map (Value.int .i64)), iR p.At p.ct t, F]) (fun k => k ≤ ix.length) (fun k => ix.length - k) 0 rfl (Nat.zero_le _) ⟨rfl, rfl, rfl, rfl, rfl, rfl, trivial⟩ (by (exact Ent.auto)) ?_
  intro k hk
  have hk : k ≤ ix.length := hk
  by_cases hkl : k < ix.length
  case neg =>
    obtain rfl : k = ix.length := by omega
    repeat' first
      | ((with_reducible refine Nx.is_wp ?_); first | refine Nx.wo ?_ | refine Nx.zp (fun hc => ?_) (fun hc => ?_))
      | (refine Nx.zo ?_; first | refine Nx.opr rfl rfl ?_ | refine Nx.so ?_ | refine Nx.sb (fun bx => ?_) | refine Nx.sa (fun A2 c2 => ?_))
      | ((with_reducible refine Nx.is_at ?_); first | refine Nx.a ?_ | refine Nx.zd ?_ | refine Nx.zs (fun hc => ?_) (fun hc => ?_))
      | ((with_reducible refine Nx.is_mix ?_); first | refine Nx.m ?_ | refine Nx.zm ?_ | refine Nx.zt (fun hc => ?_) (fun hc => ?_))
      | refine Nx.zx ?_ | fail
    exact Nx.ret_fn rfl [_, _, _, _] ⟨rfl, rfl⟩ (by unfold iR; rw [hr, ho]; (exact Ent.auto))
  obtain ⟨i, he, hil', _⟩ := inL_at (l := l) (c := c) (k := k) (by rw [← hix]; exact hkl)
  rw [← hix] at he
  have hixr : ∀ (W : World) (R : List Res), Rd W I R ((ad Ax).add (k * 1)) (.int .i64 (i : Int)) := fun W R => by rw [← he]; exact hrow.rd hkl
  have hlow : lowK rest opn ix (k + 1) = if opn.getD i default = 1 then max (lowK rest opn ix k) (rest.getD i default) else lowK rest opn ix k := by rw [lowK, he, Int.toNat_natCast]
  have hhigh : highK rest ix (k + 1) = min (highK rest ix k) (rest.getD i default) := by rw [highK, he, Int.toNat_natCast]
  by_cases h1 : opn.getD i default = 1
  · rw [if_pos h1] at hlow
    repeat' first
      | ((with_reducible refine Nx.is_wp ?_); first | refine Nx.wo ?_ | refine Nx.zp (fun hc => ?_) (fun hc => ?_))
      | (refine Nx.zo ?_; first | refine Nx.opr rfl rfl ?_ | refine Nx.indexAddr_nat (A := Ax) (i := k) (sz := 1) rfl rfl rfl rfl rfl (by omega) (hrow.isSome (by omega)) ?_ | refine Nx.load rfl rfl rfl (hixr _ _) ?_ | refine Nx.indexAddr_nat (A := p.Ar) (i := i) (sz := 1) rfl rfl rfl rfl rfl (by omega) (hAr (by omega)) ?_ | refine Nx.load rfl rfl rfl (Rd.vecEl 1 (f := Value.int .i64) (l := rest) (i := i) rfl (by omega)) ?_ | refine Nx.indexAddr_nat (A := p.Ao) (i := i) (sz := 1) rfl rfl rfl rfl rfl (by omega) (hAo (by omega)) ?_ | refine Nx.load rfl rfl rfl (Rd.vecEl 2 (f := Value.int .i64) (l := opn) (i := i) rfl (by omega)) ?_ | refine Nx.so ?_ | refine Nx.sb (fun bx => ?_) | refine Nx.sa (fun A2 c2 => ?_))
      | ((with_reducible refine Nx.is_at ?_); first | refine Nx.a ?_ | refine Nx.zd ?_ | refine Nx.zs (fun hc => ?_) (fun hc => ?_))
      | ((with_reducible refine Nx.is_mix ?_); first | refine Nx.m ?_ | refine Nx.zm ?_ | refine Nx.zt (fun hc => ?_) (fun hc => ?_))
      | refine Nx.zx ?_ | fail
    exact Nx.again (k + 1) hkl (by omega) ⟨rfl, rfl, rfl, rfl, by rw [hlow]; rfl, by rw [hhigh]; rfl, trivial⟩ (by (exact Ent.auto))
  · rw [if_neg h1] at hlow
    repeat' first
      | ((with_reducible refine Nx.is_wp ?_); first | refine Nx.wo ?_ | refine Nx.zp (fun hc => ?_) (fun hc => ?_))
      | (refine Nx.zo ?_; first | refine Nx.opr rfl rfl ?_ | refine Nx.indexAddr_nat (A := Ax) (i := k) (sz := 1) rfl rfl rfl rfl rfl (by omega) (hrow.isSome (by omega)) ?_ | refine Nx.load rfl rfl rfl (hixr _ _) ?_ | refine Nx.indexAddr_nat (A := p.Ar) (i := i) (sz := 1) rfl rfl rfl rfl rfl (by omega) (hAr (by omega)) ?_ | refine Nx.load rfl rfl rfl (Rd.vecEl 1 (f := Value.int .i64) (l := rest) (i := i) rfl (by omega)) ?_ | refine Nx.indexAddr_nat (A := p.Ao) (i := i) (sz := 1) rfl rfl rfl rfl rfl (by omega) (hAo (by omega)) ?_ | refine Nx.load rfl rfl rfl (Rd.vecEl 2 (f := Value.int .i64) (l := opn) (i := i) rfl (by omega)) ?_ | refine Nx.so ?_ | refine Nx.sb (fun bx => ?_) | refine Nx.sa (fun A2 c2 => ?_))
      | ((with_reducible refine Nx.is_at ?_); first | refine Nx.a ?_ | refine Nx.zd ?_ | refine Nx.zs (fun hc => ?_) (fun hc => ?_))
      | ((with_reducible refine Nx.is_mix ?_); first | refine Nx.m ?_ | refine Nx.zm ?_ | refine Nx.zt (fun hc => ?_) (fun hc => ?_))
      | refine Nx.zx ?_ | fail
    exact Nx.again (k + 1) hkl (by omega) ⟨rfl, rfl, rfl, rfl, by rw [hlow]; rfl, by rw [hhigh]; rfl, trivial⟩ (by (exact Ent.auto))
end Go.Proofs.YtjnhoemgceghlaaGreat
/- Contracts of functions of the given program, and lemmas about plain lists and numbers: what the laws of this seat lean on. -/
namespace Go.Proofs.YtjnhoemgceghlaaGreat
open Go.Eng Go.Sol
attribute [local irreducible] opK wpList Code.wp Exit.then Exit.inBlock fnPost bodyPost Nx Calls Oper.wp Rd Rds Wr Ent Stars Blk Again Vec FnSpec wpMix QRun Stop Upto wpAt
/-! A cell gets a number, or gives it back -/
def subK (s : Int) (ix a : List Int) : Nat → List Int
  | 0 => a
  | k + 1 => (subK s ix a k).set (ix.getD k default).toNat ((subK s ix a k).getD (ix.getD k default).toNat default - s)
theorem subK_len (s : Int) (ix a : List Int) : ∀ k, (subK s ix a k).length = a.length
  | 0 => rfl
  | k + 1 => by rw [subK, List.length_set, subK_len s ix a k]
theorem subK_at {l : List Eqn} {c : Nat} {s : Int} {a : List Int} (ha : a.length = l.length) : ∀ {k j : Nat}, k ≤ (inL l c).length → j < l.length → (subK s (inL l c) a k).getD j default = a.getD j default - if (j : Int) ∈ (inL l c).take k then s else 0
  | 0, j, _, _ => by simp [subK]
  | k + 1, j, hk, hj => by
    obtain ⟨i, he, hi, _⟩ := inL_at (l := l) (c := c) (k := k) (by omega)
    have ih := subK_at (s := s) (c := c) ha (k := k) (j := j) (by omega) hj
    have hgi := subK_at (s := s) (c := c) ha (k := k) (j := i) (by omega) hi
    have hkl : k < (inL l c).length := by omega
    have hck : (inL l c)[k] = (i : Int) := by rw [← he, List.getD_eq_getElem?_getD, List.getElem?_eq_getElem hkl]; rfl
    have htk : (inL l c).take (k + 1) = (inL l c).take k ++ [(i : Int)] := by rw [List.take_succ_eq_append_getElem hkl, hck]
    have hnd := inL_nd l c
    have hni : (i : Int) ∉ (inL l c).take k := fun hm => by
      have h1 : ((inL l c).take (k + 1)).Nodup := hnd.sublist (List.take_sublist _ _)
      rw [htk, List.nodup_append] at h1
      exact h1.2.2 _ hm _ (by simp) rfl
    rw [subK, he, Int.toNat_natCast, htk]
    rw [if_neg hni] at hgi
    by_cases hji : j = i
    · subst hji
      rw [List.getD_eq_getElem?_getD, List.getElem?_set_self (by rw [subK_len, ha]; exact hj), if_pos (by simp), hgi]
      show a.getD j default - 0 - s = _
      omega
    · rw [List.getD_eq_getElem?_getD, List.getElem?_set_ne (Ne.symm hji), ← List.getD_eq_getElem?_getD, ih]
      by_cases hm : (j : Int) ∈ (inL l c).take k
      · rw [if_pos hm, if_pos (by simp [hm])]
      · rw [if_neg hm, if_neg (by
          simp only [List.mem_append, List.mem_singleton, not_or]
          exact ⟨hm, fun h => hji (by omega)⟩)]
theorem getD_extI {a b : List Int} (hl : a.length = b.length) (h : ∀ j, j < a.length → a.getD j default = b.getD j default) : a = b := by
  refine List.ext_getElem hl fun i h1 h2 => ?_
  have := h i h1
  rw [List.getD_eq_getElem?_getD, List.getD_eq_getElem?_getD, List.getElem?_eq_getElem h1, List.getElem?_eq_getElem h2] at this
  exact this
theorem getD_memE {l : List Eqn} {i : Nat} (hi : i < l.length) : l.getD i default ∈ l := by rw [List.getD_eq_getElem?_getD, List.getElem?_eq_getElem hi]; exact List.getElem_mem _
theorem sub_rest {l : List Eqn} {c : Nat} {t : List Int} {v : Int} (ho : Once l) (hc : c < t.length) (h0 : t.getD c 0 = 0) : subK v (inL l c) (restL l t) (inL l c).length = restL l (t.set c v) := by
  refine getD_extI (by rw [subK_len, restL_len, restL_len]) fun j hj => ?_
  rw [subK_len, restL_len] at hj
  rw [subK_at (restL_len l t) (Nat.le_refl _) hj, restL_at hj, restL_at hj, restQ_set hc (ho _ (getD_memE hj)) h0, List.take_length]
  congr 1
  by_cases h : c ∈ (l.getD j default).1
  · rw [if_pos h, if_pos (mem_inL.2 ⟨hj, h⟩)]
  · rw [if_neg h, if_neg fun hm => h (mem_inL.1 hm).2]
theorem add_rest {l : List Eqn} {c : Nat} {t : List Int} {v : Int} (ho : Once l) (hc : c < t.length) (h0 : t.getD c 0 = 0) : subK (-v) (inL l c) (restL l (t.set c v)) (inL l c).length = restL l t := by
  refine getD_extI (by rw [subK_len, restL_len, restL_len]) fun j hj => ?_
  rw [subK_len, restL_len] at hj
  rw [subK_at (restL_len l _) (Nat.le_refl _) hj, restL_at hj, restL_at hj, restQ_set hc (ho _ (getD_memE hj)) h0, List.take_length]
  by_cases h : c ∈ (l.getD j default).1
  · rw [if_pos h, if_pos (mem_inL.2 ⟨hj, h⟩)]; omega
  · rw [if_neg h, if_neg fun hm => h (mem_inL.1 hm).2]; omega
theorem sub_open {l : List Eqn} {c : Nat} {U : List Nat} (ho : Once l) (hc : c ∉ U) : subK 1 (inL l c) (openL l (c :: U)) (inL l c).length = openL l U := by
  refine getD_extI (by rw [subK_len, openL_len, openL_len]) fun j hj => ?_
  rw [subK_len, openL_len] at hj
  rw [subK_at (openL_len l _) (Nat.le_refl _) hj, openL_at hj, openL_at hj, openQ_cons (ho _ (getD_memE hj)) hc, List.take_length]
  by_cases h : c ∈ (l.getD j default).1
  · rw [if_pos h, if_pos (mem_inL.2 ⟨hj, h⟩)]; omega
  · rw [if_neg h, if_neg fun hm => h (mem_inL.1 hm).2]; omega
theorem add_open {l : List Eqn} {c : Nat} {U : List Nat} (ho : Once l) (hc : c ∉ U) : subK (-1) (inL l c) (openL l U) (inL l c).length = openL l (c :: U) := by
  refine getD_extI (by rw [subK_len, openL_len, openL_len]) fun j hj => ?_
  rw [subK_len, openL_len] at hj
  rw [subK_at (openL_len l _) (Nat.le_refl _) hj, openL_at hj, openL_at hj, openQ_cons (ho _ (getD_memE hj)) hc, List.take_length]
  by_cases h : c ∈ (l.getD j default).1
  · rw [if_pos h, if_pos (mem_inL.2 ⟨hj, h⟩)]; omega
  · rw [if_neg h, if_neg fun hm => h (mem_inL.1 hm).2]; omega
set_option maxRecDepth 10000 in
set_option maxHeartbeats 4000000 in
theorem set_spec (p : Pl) (n : Nat) (l : List Eqn) (rest opn t : List Int) (I : PH) (hin : InI I p n l) (c : Nat) (hc : c < n) (hr : rest.length = l.length) (ho : opn.length = l.length) (ht : t.length = n) (hl9 : l.length ≤ 100000) (v : Int) (hv : 0 ≤ v ∧ v ≤ 1000000)
    (hrb : ∀ j, j < l.length → -10000000 ≤ rest.getD j default ∧ rest.getD j default ≤ 10000000) (hob : ∀ j, j < l.length → -10000000 ≤ opn.getD j default ∧ opn.getD j default ≤ 10000000) :
    FnSpec Tryz.prog 154 [.pointer (some ⟨p.b, 0, none⟩), .int .i64 (c : Int), .int .i64 v, .int .i64 1] I [p.blk n l.length, iR p.Ar p.cr rest, iR p.Ao p.co opn, iR p.At p.ct t]
      (fun u R' => u = .tuple #[] ∧ R' = [p.blk n l.length, iR p.Ar p.cr (subK v (inL l c) rest (inL l c).length), iR p.Ao p.co (subK 1 (inL l c) opn (inL l c).length), iR p.At p.ct (t.set c v)]) := by
  obtain ⟨Ai, ci, ins, hiv, hil, hio, hir, hic⟩ := hin.ex
  have hinl := hio.len
  have hrow := hir _ (show ins.getD c default ∈ ins by rw [List.getD_eq_getElem?_getD, List.getElem?_eq_getElem (by omega)]; exact List.getElem_mem _)
  have hix := hic c hc
  have hrd : ∀ (W : World) (R : List Res), Rd W I R ((ad Ai).add (c * 1)) (rowV (ins.getD c default)) := fun W R => hio.rd (by omega)
  generalize ins.getD c default = rw' at hrow hix hrd
  obtain ⟨Ax, cx, ix⟩ := rw'
  dsimp only at hrow hix
  replace hrd : ∀ (W : World) (R : List Res), Rd W I R ((ad Ai).add (c * 1)) (.slice Ax ix.length cx) := hrd
  have hixl := hrow.len
  have hixb := inL_len l c
  have hra := fun (k j : Nat) (hk : k ≤ (inL l c).length) (hj : j < l.length) => subK_at (l := l) (c := c) (s := v) (a := rest) hr (k := k) (j := j) hk hj
  have hoa := fun (k j : Nat) (hk : k ≤ (inL l c).length) (hj : j < l.length) => subK_at (l := l) (c := c) (s := 1) (a := opn) ho (k := k) (j := j) hk hj
  have hatI := fun (k : Nat) (hk : k < (inL l c).length) => inL_at (l := l) (c := c) hk
  rw [← hix] at hixb hra hoa hatI ⊢
  refine FnSpec.enterP Tryz.func154 rfl Tryz.ntmps154 rfl fun w F => ?_
  unfold Pl.blk
  rw [hiv]
  repeat' first
    | ((with_reducible refine Nx.is_wp ?_); first | refine Nx.wo ?_ | refine Nx.zp (fun hc => ?_) (fun hc => ?_))
    | (refine Nx.zo ?_; first | refine Nx.opr rfl rfl ?_ | refine Nx.indexAddr_nat (A := Ai) (i := c) (sz := 1) rfl rfl rfl rfl rfl (by omega) (hio.isSome (by omega)) ?_ | refine Nx.load rfl rfl rfl (hrd _ _) ?_ | refine Nx.so ?_ | refine Nx.sb (fun bx => ?_) | refine Nx.sa (fun A2 c2 => ?_))
    | ((with_reducible refine Nx.is_at ?_); first | refine Nx.a ?_ | refine Nx.zd ?_ | refine Nx.zs (fun hc => ?_) (fun hc => ?_))
    | ((with_reducible refine Nx.is_mix ?_); first | refine Nx.m ?_ | refine Nx.zm ?_ | refine Nx.zt (fun hc => ?_) (fun hc => ?_))
    | refine Nx.zx ?_ | fail
  refine Nx.ent (R' := [Vec 3 1 p.Ar l.length p.cr (rest.map (Value.int .i64)), Vec 3 1 p.Ao l.length p.co (opn.map (Value.int .i64)), Blk p.b PT [p.tv, .slice Ai n ci, .slice p.Ar l.length p.cr, .slice p.Ao l.length p.co, .slice p.At n p.ct], Vec 3 1 p.At n p.ct (t.map (Value.int .i64)), F]) (by unfold iR; rw [hr, ho, ht]; (exact Ent.auto)) ?_
  refine Nx.vec_fact fun hv1 hv2 hv3 hAr => ?_
  refine Nx.ent (R' := [Vec 3 1 p.Ao l.length p.co (opn.map (Value.int .i64)), Vec 3 1 p.Ar l.length p.cr (rest.map (Value.int .i64)), Blk p.b PT [p.tv, .slice Ai n ci, .slice p.Ar l.length p.cr, .slice p.Ao l.length p.co, .slice p.At n p.ct], Vec 3 1 p.At n p.ct (t.map (Value.int .i64)), F]) (by (exact Ent.auto)) ?_
  refine Nx.vec_fact fun hv4 hv5 hv6 hAo => ?_
  refine Nx.ent (R' := [Vec 3 1 p.At n p.ct (t.map (Value.int .i64)), Vec 3 1 p.Ao l.length p.co (opn.map (Value.int .i64)), Vec 3 1 p.Ar l.length p.cr (rest.map (Value.int .i64)), Blk p.b PT [p.tv, .slice Ai n ci, .slice p.Ar l.length p.cr, .slice p.Ao l.length p.co, .slice p.At n p.ct], F]) (by (exact Ent.auto)) ?_
  refine Nx.vec_fact fun hv7 hv8 hv9 hAt => ?_
  refine Nx.p_loop (σ := Nat) (fun k => [(0, .pointer (some ⟨p.b, 0, none⟩)), (1, .int .i64 (c : Int)), (2, .int .i64 v), (3, .int .i64 1), (16, .slice Ax ix.length cx), (17, .int .i64 ix.length), (18, .int .i64 (k : Int))])
    (fun k => [Blk p.b PT [p.tv, .slice Ai n ci, .slice p.Ar l.length p.cr, .slice p.Ao l.length p.co, .slice p.At n p.ct], Vec 3 1 p.Ar l.length p.cr ((subK v ix rest k).map (Value.int .i64)), Vec 3 1 p.Ao l.length p.co ((subK 1 ix opn k).map (Value.int .i64)), Vec 3 1 p.At n p.ct (t.map (Value.int .i64)), F]) (fun k => k ≤ ix.length) (fun k => ix.length - k) 0 rfl (Nat.zero_le _) ⟨rfl, rfl, rfl, rfl, rfl, rfl, rfl, trivial⟩ (by (exact Ent.auto)) ?_
  intro k hk
  have hk : k ≤ ix.length := hk
  have hsl := subK_len v ix rest k
  have hso := subK_len 1 ix opn k
  by_cases hkl : k < ix.length
  case neg =>
    obtain rfl : k = ix.length := by omega
    have hw : t.set c (v * (1 + 1) / 2) = t.set c v := congrArg (t.set c ·) (by omega)
    repeat' first
      | ((with_reducible refine Nx.is_wp ?_); first | refine Nx.wo ?_ | refine Nx.zp (fun hc => ?_) (fun hc => ?_))
      | (refine Nx.zo ?_; first | refine Nx.opr rfl rfl ?_ | refine Nx.indexAddr_nat (A := p.At) (i := c) (sz := 1) rfl rfl rfl rfl rfl (by omega) (hAt (by omega)) ?_ | refine Nx.store_of 3 (Value.int .i64) rfl rfl rfl rfl rfl rfl (by omega) ?_ | refine Nx.so ?_ | refine Nx.sb (fun bx => ?_) | refine Nx.sa (fun A2 c2 => ?_))
      | ((with_reducible refine Nx.is_at ?_); first | refine Nx.a ?_ | refine Nx.zd ?_ | refine Nx.zs (fun hc => ?_) (fun hc => ?_))
      | ((with_reducible refine Nx.is_mix ?_); first | refine Nx.m ?_ | refine Nx.zm ?_ | refine Nx.zt (fun hc => ?_) (fun hc => ?_))
      | refine Nx.zx ?_ | fail
    exact Nx.end_fn rfl [_, _, _, _] ⟨rfl, rfl⟩ (by unfold iR; rw [hsl, hr, hso, ho, List.length_set, ht, ← hw]; (exact Ent.auto))
  obtain ⟨i, he, hil', _⟩ := hatI k hkl
  have hixr : ∀ (W : World) (R : List Res), Rd W I R ((ad Ax).add (k * 1)) (.int .i64 (i : Int)) := fun W R => by rw [← he]; exact hrow.rd hkl
  have hrs : subK v ix rest (k + 1) = (subK v ix rest k).set i ((subK v ix rest k).getD i default - v) := by rw [subK, he, Int.toNat_natCast]
  have hos : subK 1 ix opn (k + 1) = (subK 1 ix opn k).set i ((subK 1 ix opn k).getD i default - 1) := by rw [subK, he, Int.toNat_natCast]
  have hrb' := hra k i (by omega) hil'
  have hob' := hoa k i (by omega) hil'
  have hrb'' := hrb i hil'
  have hob'' := hob i hil'
  have hrb3 : -20000000 ≤ (subK v ix rest k).getD i default ∧ (subK v ix rest k).getD i default ≤ 20000000 := by rw [hrb']; split <;> omega
  have hob3 : -20000000 ≤ (subK 1 ix opn k).getD i default ∧ (subK 1 ix opn k).getD i default ≤ 20000000 := by rw [hob']; split <;> omega
  generalize subK v ix rest k = ra at hsl hrs hrb3
  generalize subK 1 ix opn k = oa at hso hos hob3
  have hone : ra.set i (ra.getD i default - 1 * v) = ra.set i (ra.getD i default - v) := congrArg (ra.set i ·) (by omega)
  repeat' first
    | ((with_reducible refine Nx.is_wp ?_); first | refine Nx.wo ?_ | refine Nx.zp (fun hc => ?_) (fun hc => ?_))
    | (refine Nx.zo ?_; first | refine Nx.opr rfl rfl ?_ | refine Nx.indexAddr_nat (A := Ax) (i := k) (sz := 1) rfl rfl rfl rfl rfl (by omega) (hrow.isSome (by omega)) ?_ | refine Nx.load rfl rfl rfl (hixr _ _) ?_ | refine Nx.indexAddr_nat (A := p.Ar) (i := i) (sz := 1) rfl rfl rfl rfl rfl (by omega) (hAr (by omega)) ?_ | refine Nx.load rfl rfl rfl (Rd.vecEl 1 (f := Value.int .i64) (l := ra) (i := i) rfl (by omega)) ?_ | refine Nx.indexAddr_nat (A := p.Ao) (i := i) (sz := 1) rfl rfl rfl rfl rfl (by omega) (hAo (by omega)) ?_ | refine Nx.load rfl rfl rfl (Rd.vecEl 2 (f := Value.int .i64) (l := oa) (i := i) rfl (by omega)) ?_ | refine Nx.so ?_ | refine Nx.sb (fun bx => ?_) | refine Nx.sa (fun A2 c2 => ?_))
    | ((with_reducible refine Nx.is_at ?_); first | refine Nx.a ?_ | refine Nx.zd ?_ | refine Nx.zs (fun hc => ?_) (fun hc => ?_))
    | ((with_reducible refine Nx.is_mix ?_); first | refine Nx.m ?_ | refine Nx.zm ?_ | refine Nx.zt (fun hc => ?_) (fun hc => ?_))
    | refine Nx.zx ?_ | fail
  exact Nx.again (k + 1) hkl (by omega) ⟨rfl, rfl, rfl, rfl, rfl, rfl, rfl, trivial⟩ (by rw [hrs, hos, ← hone]; (exact Ent.auto))
set_option maxRecDepth 10000 in
set_option maxHeartbeats 4000000 in
theorem unset_spec (p : Pl) (n : Nat) (l : List Eqn) (rest opn t : List Int) (I : PH) (hin : InI I p n l) (c : Nat) (hc : c < n) (hr : rest.length = l.length) (ho : opn.length = l.length) (ht : t.length = n) (hl9 : l.length ≤ 100000) (v : Int) (hv : 0 ≤ v ∧ v ≤ 1000000)
    (hrb : ∀ j, j < l.length → -10000000 ≤ rest.getD j default ∧ rest.getD j default ≤ 10000000) (hob : ∀ j, j < l.length → -10000000 ≤ opn.getD j default ∧ opn.getD j default ≤ 10000000) :
    FnSpec Tryz.prog 154 [.pointer (some ⟨p.b, 0, none⟩), .int .i64 (c : Int), .int .i64 v, .int .i64 (-1)] I [p.blk n l.length, iR p.Ar p.cr rest, iR p.Ao p.co opn, iR p.At p.ct t]
      (fun u R' => u = .tuple #[] ∧ R' = [p.blk n l.length, iR p.Ar p.cr (subK (-v) (inL l c) rest (inL l c).length), iR p.Ao p.co (subK (-1) (inL l c) opn (inL l c).length), iR p.At p.ct (t.set c 0)]) := by
  obtain ⟨Ai, ci, ins, hiv, hil, hio, hir, hic⟩ := hin.ex
  have hinl := hio.len
  have hrow := hir _ (show ins.getD c default ∈ ins by rw [List.getD_eq_getElem?_getD, List.getElem?_eq_getElem (by omega)]; exact List.getElem_mem _)
  have hix := hic c hc
  have hrd : ∀ (W : World) (R : List Res), Rd W I R ((ad Ai).add (c * 1)) (rowV (ins.getD c default)) := fun W R => hio.rd (by omega)
  generalize ins.getD c default = rw' at hrow hix hrd
  obtain ⟨Ax, cx, ix⟩ := rw'
  dsimp only at hrow hix
  replace hrd : ∀ (W : World) (R : List Res), Rd W I R ((ad Ai).add (c * 1)) (.slice Ax ix.length cx) := hrd
  have hixl := hrow.len
  have hixb := inL_len l c
  have hra := fun (k j : Nat) (hk : k ≤ (inL l c).length) (hj : j < l.length) => subK_at (l := l) (c := c) (s := -v) (a := rest) hr (k := k) (j := j) hk hj
  have hoa := fun (k j : Nat) (hk : k ≤ (inL l c).length) (hj : j < l.length) => subK_at (l := l) (c := c) (s := -1) (a := opn) ho (k := k) (j := j) hk hj
  have hatI := fun (k : Nat) (hk : k < (inL l c).length) => inL_at (l := l) (c := c) hk
  rw [← hix] at hixb hra hoa hatI ⊢
  refine FnSpec.enterP Tryz.func154 rfl Tryz.ntmps154 rfl fun w F => ?_
  unfold Pl.blk
  rw [hiv]
  repeat' first
    | ((with_reducible refine Nx.is_wp ?_); first | refine Nx.wo ?_ | refine Nx.zp (fun hc => ?_) (fun hc => ?_))
    | (refine Nx.zo ?_; first | refine Nx.opr rfl rfl ?_ | refine Nx.indexAddr_nat (A := Ai) (i := c) (sz := 1) rfl rfl rfl rfl rfl (by omega) (hio.isSome (by omega)) ?_ | refine Nx.load rfl rfl rfl (hrd _ _) ?_ | refine Nx.so ?_ | refine Nx.sb (fun bx => ?_) | refine Nx.sa (fun A2 c2 => ?_))
    | ((with_reducible refine Nx.is_at ?_); first | refine Nx.a ?_ | refine Nx.zd ?_ | refine Nx.zs (fun hc => ?_) (fun hc => ?_))
    | ((with_reducible refine Nx.is_mix ?_); first | refine Nx.m ?_ | refine Nx.zm ?_ | refine Nx.zt (fun hc => ?_) (fun hc => ?_))
    | refine Nx.zx ?_ | fail
  refine Nx.ent (R' := [Vec 3 1 p.Ar l.length p.cr (rest.map (Value.int .i64)), Vec 3 1 p.Ao l.length p.co (opn.map (Value.int .i64)), Blk p.b PT [p.tv, .slice Ai n ci, .slice p.Ar l.length p.cr, .slice p.Ao l.length p.co, .slice p.At n p.ct], Vec 3 1 p.At n p.ct (t.map (Value.int .i64)), F]) (by unfold iR; rw [hr, ho, ht]; (exact Ent.auto)) ?_
  refine Nx.vec_fact fun hv1 hv2 hv3 hAr => ?_
  refine Nx.ent (R' := [Vec 3 1 p.Ao l.length p.co (opn.map (Value.int .i64)), Vec 3 1 p.Ar l.length p.cr (rest.map (Value.int .i64)), Blk p.b PT [p.tv, .slice Ai n ci, .slice p.Ar l.length p.cr, .slice p.Ao l.length p.co, .slice p.At n p.ct], Vec 3 1 p.At n p.ct (t.map (Value.int .i64)), F]) (by (exact Ent.auto)) ?_
  refine Nx.vec_fact fun hv4 hv5 hv6 hAo => ?_
  refine Nx.ent (R' := [Vec 3 1 p.At n p.ct (t.map (Value.int .i64)), Vec 3 1 p.Ao l.length p.co (opn.map (Value.int .i64)), Vec 3 1 p.Ar l.length p.cr (rest.map (Value.int .i64)), Blk p.b PT [p.tv, .slice Ai n ci, .slice p.Ar l.length p.cr, .slice p.Ao l.length p.co, .slice p.At n p.ct], F]) (by (exact Ent.auto)) ?_
  refine Nx.vec_fact fun hv7 hv8 hv9 hAt => ?_
  refine Nx.p_loop (σ := Nat) (fun k => [(0, .pointer (some ⟨p.b, 0, none⟩)), (1, .int .i64 (c : Int)), (2, .int .i64 v), (3, .int .i64 (-1)), (16, .slice Ax ix.length cx), (17, .int .i64 ix.length), (18, .int .i64 (k : Int))])
    (fun k => [Blk p.b PT [p.tv, .slice Ai n ci, .slice p.Ar l.length p.cr, .slice p.Ao l.length p.co, .slice p.At n p.ct], Vec 3 1 p.Ar l.length p.cr ((subK (-v) ix rest k).map (Value.int .i64)), Vec 3 1 p.Ao l.length p.co ((subK (-1) ix opn k).map (Value.int .i64)), Vec 3 1 p.At n p.ct (t.map (Value.int .i64)), F]) (fun k => k ≤ ix.length) (fun k => ix.length - k) 0 rfl (Nat.zero_le _) ⟨rfl, rfl, rfl, rfl, rfl, rfl, rfl, trivial⟩ (by (exact Ent.auto)) ?_
  intro k hk
  have hk : k ≤ ix.length := hk
  have hsl := subK_len (-v) ix rest k
  have hso := subK_len (-1) ix opn k
  by_cases hkl : k < ix.length
  case neg =>
    obtain rfl : k = ix.length := by omega
    have hw : t.set c (v * (1 + -1) / 2) = t.set c 0 := congrArg (t.set c ·) (by omega)
    repeat' first
      | ((with_reducible refine Nx.is_wp ?_); first | refine Nx.wo ?_ | refine Nx.zp (fun hc => ?_) (fun hc => ?_))
      | (refine Nx.zo ?_; first | refine Nx.opr rfl rfl ?_ | refine Nx.indexAddr_nat (A := p.At) (i := c) (sz := 1) rfl rfl rfl rfl rfl (by omega) (hAt (by omega)) ?_ | refine Nx.store_of 3 (Value.int .i64) rfl rfl rfl rfl rfl rfl (by omega) ?_ | refine Nx.so ?_ | refine Nx.sb (fun bx => ?_) | refine Nx.sa (fun A2 c2 => ?_))
      | ((with_reducible refine Nx.is_at ?_); first | refine Nx.a ?_ | refine Nx.zd ?_ | refine Nx.zs (fun hc => ?_) (fun hc => ?_))
      | ((with_reducible refine Nx.is_mix ?_); first | refine Nx.m ?_ | refine Nx.zm ?_ | refine Nx.zt (fun hc => ?_) (fun hc => ?_))
      | refine Nx.zx ?_ | fail
    exact Nx.end_fn rfl [_, _, _, _] ⟨rfl, rfl⟩ (by unfold iR; rw [hsl, hr, hso, ho, List.length_set, ht, ← hw]; (exact Ent.auto))
  obtain ⟨i, he, hil', _⟩ := hatI k hkl
  have hixr : ∀ (W : World) (R : List Res), Rd W I R ((ad Ax).add (k * 1)) (.int .i64 (i : Int)) := fun W R => by rw [← he]; exact hrow.rd hkl
  have hrs : subK (-v) ix rest (k + 1) = (subK (-v) ix rest k).set i ((subK (-v) ix rest k).getD i default - -v) := by rw [subK, he, Int.toNat_natCast]
  have hos : subK (-1) ix opn (k + 1) = (subK (-1) ix opn k).set i ((subK (-1) ix opn k).getD i default - -1) := by rw [subK, he, Int.toNat_natCast]
  have hrb' := hra k i (by omega) hil'
  have hob' := hoa k i (by omega) hil'
  have hrb'' := hrb i hil'
  have hob'' := hob i hil'
  have hrb3 : -20000000 ≤ (subK (-v) ix rest k).getD i default ∧ (subK (-v) ix rest k).getD i default ≤ 20000000 := by rw [hrb']; split <;> omega
  have hob3 : -20000000 ≤ (subK (-1) ix opn k).getD i default ∧ (subK (-1) ix opn k).getD i default ≤ 20000000 := by rw [hob']; split <;> omega
  generalize subK (-v) ix rest k = ra at hsl hrs hrb3
  generalize subK (-1) ix opn k = oa at hso hos hob3
  have hone : ra.set i (ra.getD i default - -1 * v) = ra.set i (ra.getD i default - -v) := congrArg (ra.set i ·) (by omega)
  repeat' first
    | ((with_reducible refine Nx.is_wp ?_); first | refine Nx.wo ?_ | refine Nx.zp (fun hc => ?_) (fun hc => ?_))
    | (refine Nx.zo ?_; first | refine Nx.opr rfl rfl ?_ | refine Nx.indexAddr_nat (A := Ax) (i := k) (sz := 1) rfl rfl rfl rfl rfl (by omega) (hrow.isSome (by omega)) ?_ | refine Nx.load rfl rfl rfl (hixr _ _) ?_ | refine Nx.indexAddr_nat (A := p.Ar) (i := i) (sz := 1) rfl rfl rfl rfl rfl (by omega) (hAr (by omega)) ?_ | refine Nx.load rfl rfl rfl (Rd.vecEl 1 (f := Value.int .i64) (l := ra) (i := i) rfl (by omega)) ?_ | refine Nx.indexAddr_nat (A := p.Ao) (i := i) (sz := 1) rfl rfl rfl rfl rfl (by omega) (hAo (by omega)) ?_ | refine Nx.load rfl rfl rfl (Rd.vecEl 2 (f := Value.int .i64) (l := oa) (i := i) rfl (by omega)) ?_ | refine Nx.so ?_ | refine Nx.sb (fun bx => ?_) | refine Nx.sa (fun A2 c2 => ?_))
    | ((with_reducible refine Nx.is_at ?_); first | refine Nx.a ?_ | refine Nx.zd ?_ | refine Nx.zs (fun hc => ?_) (fun hc => ?_))
    | ((with_reducible refine Nx.is_mix ?_); first | refine Nx.m ?_ | refine Nx.zm ?_ | refine Nx.zt (fun hc => ?_) (fun hc => ?_))
    | refine Nx.zx ?_ | fail
  exact Nx.again (k + 1) hkl (by omega) ⟨rfl, rfl, rfl, rfl, rfl, rfl, rfl, trivial⟩ (by rw [hrs, hos, ← hone]; (exact Ent.auto))
end Go.Proofs.YtjnhoemgceghlaaGreat
/-
  The proof engine, part AK: calls that may panic, whose value is kept; going on until someone has enough.
-/
namespace Go.Eng
section
variable {C : Cx} {e : Env} {I : PH} {R : List Res} {K : Act → World → Prop} {Q : Exit → Act → World → Prop} {ds : List Deferred}
variable {d : Nat} {ty : TypeId} {pos : String} {after : Array Edge} {g : Option (Nat × Bool)}
set_option maxHeartbeats 8000000 in
theorem Nx.callP {fx : Operand} {args : Array Operand} {tys : Array TypeId} {f : FuncId} {c1 c2 : Array Value} {vs al : List Value} {Rpre Rrest : List Res} {Post : Value → List Res → Prop} {Pan : List PanicEntry → List Res → Prop}
    (hfx : evo e fx = some (.func (.func f) c1 c2)) (hvs : evs e args.toList = some vs) (hal : c1.toList ++ vs ++ c2.toList = al) (hc : callable C.P f = true) (hlt : Nat.blt d C.n = true)
    (hs : FnSpecP C.P f al I Rpre Post Pan) (hR : Ent R (Rpre ++ Rrest))
    (h : ∀ v R', Post v R' → Nx C ((d, v) :: e) I (R' ++ Rrest) K) (hp : ∀ ch R', Pan ch R' → Nx C e I (R' ++ Rrest) (Q (.panic ch))) : Nx C e I R (opK C.P ⟨some d, .call { callee := .value fx, args, argTypes := tys }, ty, pos, after, g⟩ K Q) := by
  intro a w ha hw
  unfold opK Oper.wp
  rw [run_call rfl (ha.eval hfx) (ha.evals hvs) hal hc]
  refine Calls.mono (hs w (Stars Rrest) (hw.ent hR).split) ?_
  rintro en w' (⟨v, R', rfl, hv, hst⟩ | ⟨ch, R', rfl, hv, hst⟩)
  · exact h v R' hv _ w' (ha.put hlt v) (hst.unsplit hw.still)
  · exact hp ch R' hv _ w' ha (hst.unsplit hw.still)
set_option maxHeartbeats 8000000 in
theorem NxL.callP {fx : Operand} {args : Array Operand} {tys : Array TypeId} {f : FuncId} {c1 c2 : Array Value} {vs al : List Value} {Rpre Rrest : List Res} {Post : Value → List Res → Prop} {Pan : List PanicEntry → List Res → Prop}
    (hfx : evo e fx = some (.func (.func f) c1 c2)) (hvs : evs e args.toList = some vs) (hal : c1.toList ++ vs ++ c2.toList = al) (hc : callable C.P f = true) (hlt : Nat.blt d C.n = true)
    (hs : FnSpecP C.P f al I Rpre Post Pan) (hR : Ent R (Rpre ++ Rrest))
    (h : ∀ v R', Post v R' → Nx C ((d, v) :: e) I (R' ++ Rrest) (L ds K)) (hp : ∀ ch R', Pan ch R' → Nx C e I (R' ++ Rrest) (L ds (Q (.panic ch)))) : Nx C e I R (L ds (opK C.P ⟨some d, .call { callee := .value fx, args, argTypes := tys }, ty, pos, after, g⟩ K Q)) := by
  intro a w ha hw
  unfold L opK Oper.wp
  rw [show ({ a with defers := ds } : Act).eval = a.eval from rfl, run_call rfl (ha.eval hfx) (ha.evals hvs) hal hc]
  refine Calls.mono (hs w (Stars Rrest) (hw.ent hR).split) ?_
  rintro en w' (⟨v, R', rfl, hv, hst⟩ | ⟨ch, R', rfl, hv, hst⟩)
  · have := h v R' hv _ w' (ha.put hlt v) (hst.unsplit hw.still)
    unfold L at this
    rw [put_defers] at this
    exact this
  · exact hp ch R' hv _ w' ha (hst.unsplit hw.still)
theorem Nx.use (h : Nx C e I R K) {a : Act} {w : World} (ha : Mod C.n e a) (hw : St C.W I R w) : K a w := h a w ha hw
theorem Nx.of (h : ∀ a w, Mod C.n e a → St C.W I R w → K a w) : Nx C e I R K := h
/-- A value put into an interface. -/
theorem Nx.makeIface {t : TypeId} {v : Value} {x : Operand} (hx : evo e x = some v) (hv : pureRun C.P (Instr.makeInterface t v) = some (.iface t v)) (hlt : Nat.blt d C.n = true) (h : Nx C ((d, .iface t v) :: e) I R K) : Nx C e I R (opK C.P ⟨some d, .makeInterface t x, ty, pos, after, g⟩ K Q) :=
  Nx.op_run rfl hlt (fun a w ha _ => by simp only [execOp, ha.eval hx]; exact run_v (run_of_pureRun hv w)) h
/-- x, ok := v.(T), where it holds. -/
theorem Nx.typeAssert {t u : TypeId} {v : Value} {x : Operand} {b : Bool} (vr : Value) (hx : evo e x = some v) (hv : pureRun C.P (Instr.typeAssert v t u b) = some vr) (hlt : Nat.blt d C.n = true) (h : Nx C ((d, vr) :: e) I R K) : Nx C e I R (opK C.P ⟨some d, .typeAssert x t u b, ty, pos, after, g⟩ K Q) :=
  Nx.op_run rfl hlt (fun a w ha _ => by simp only [execOp, ha.eval hx]; exact run_v (run_of_pureRun hv w)) h
theorem NxL.then_panic {ch : List PanicEntry} (h : Nx C e I R (L ds (Q (.panic ch)))) : Nx C e I R (L ds (Exit.then K Q (.panic ch))) := h
/-- The function's end is reached; the call that was put off finds no panic. -/
theorem NxL.end_D {fn : Func} {F : Res} {Post : Value → List Res → Prop} {v : Value} {q : FuncId} {cap dargs : Array Value} {al : List Value} (hv : resV e fn.results.toList = some v) (hal : dargs.toList ++ cap.toList = al) (hc : callable C.P q = true)
    (hd : ∀ w, CallsD C.P q al.toArray .returning w fun en u' w' => (∃ z, en = .returned z) ∧ u' = .returning ∧ w' = w) (R' : List Res) (hp : Post v R') (hR : Ent R (R' ++ [F])) : Nx C e I R (L [{ target := .fn (.func q) cap, args := dargs }] (fnPostD C.P fn I F C.W Post .normal)) :=
  NxL.ret_D hv hal hc hd R' hp hR
/-- A panic comes up; the call that was put off recovers. It may have made new blocks that nobody reaches. -/
theorem NxL.pan_G {fn : Func} {F : Res} {Post : Value → List Res → Prop} {v pv : Value} {q : FuncId} {cap dargs : Array Value} {al : List Value} (hv : resV e fn.results.toList = some v) (hal : dargs.toList ++ cap.toList = al) (hc : callable C.P q = true)
    (hd : ∀ w, St C.W I R w → CallsD C.P q al.toArray (.panicking [{ v := pv, recovered := false }]) w fun en u' w' => (∃ z, en = .returned z) ∧ u' = .panicking [{ v := pv, recovered := true }] ∧ St C.W I R w') (R' : List Res) (hp : Post v R') (hR : Ent R (R' ++ [F])) :
    Nx C e I R (L [{ target := .fn (.func q) cap, args := dargs }] (fnPostD C.P fn I F C.W Post (.panic [{ v := pv, recovered := false }]))) := by
  intro a w ha hw
  have e1 : dargs ++ cap = al.toArray := by rw [← hal]; apply Array.ext'; simp
  refine leaves_cons (f := q) (args := al.toArray) (by simp) (by show (callFunc q (dargs ++ cap)).run C.P w = _; rw [e1]; exact run_callFunc hc _ w) ?_
  refine (hd w hw).mono ?_
  rintro en u' w' ⟨⟨z, rfl⟩, rfl, hgr⟩
  exact ⟨v, resV_run ha hv, v, R', rfl, hp, hgr.ent hR⟩
end
end Go.Eng
namespace Go.Sol
theorem foldStop_go {σ α : Type} {f : σ → α → σ × Bool} {s p p' : σ} {x y : List α} {b : Bool} (h1 : foldStop f s x = (p, true)) (h2 : foldStop f p y = (p', b)) : foldStop f s (x ++ y) = (p', b) := by
  rw [foldStop_append, h1]; exact h2
theorem foldStop_cut {σ α : Type} {f : σ → α → σ × Bool} {s p : σ} {x y : List α} (h1 : foldStop f s x = (p, false)) : foldStop f s (x ++ y) = (p, false) := by
  rw [foldStop_append, h1]; rfl
theorem flat_snoc {α : Type} (g : Nat → List α) (k : Nat) : (List.range (k + 1)).flatMap g = (List.range k).flatMap g ++ g k := by
  rw [List.range_succ, List.flatMap_append]; simp
theorem flat_at {α : Type} (g : Nat → List α) {k N : Nat} (h : k < N) : ∃ z, (List.range N).flatMap g = (List.range k).flatMap g ++ (g k ++ z) := by
  obtain ⟨m, rfl⟩ : ∃ m, N = (k + 1) + m := ⟨N - (k + 1), by omega⟩
  rw [List.range_add, List.flatMap_append, flat_snoc, List.append_assoc]
  exact ⟨_, rfl⟩
end Go.Sol
/- Contracts of functions of the given program, and lemmas about plain lists and numbers: what the laws of this seat lean on. -/
namespace Go.Proofs.YtjnhoemgceghlaaGreat
open Go.Eng Go.Sol
attribute [local irreducible] opK wpList Code.wp Exit.then Exit.inBlock fnPost bodyPost Nx Calls Oper.wp Rd Rds Wr Ent Stars Blk Again Vec FnSpec wpMix QRun Stop Upto wpAt
attribute [local irreducible] fnPostP FnSpecP
/-! The search: the closure that calls itself -/
set_option maxHeartbeats 8000000 in
set_option maxRecDepth 10000 in
theorem CloneI_spec (A : Option Addr) (c : Nat) (l : List Int) (I : PH) (hl : Ints I A c l) (h9 : l.length ≤ 1000000) :
    FnSpec Tryz.prog 41 [.slice A l.length c] I [] (fun v R' => ∃ A' c', v = .slice A' l.length c' ∧ R' = [iR A' c' l]) := by
  cases A with
  | none =>
    have h0 : l = [] := by
      rcases Nat.eq_zero_or_pos l.length with h | h
      · exact List.eq_nil_of_length_eq_zero h
      · have := hl.isSome h; cases this
    subst h0
    refine FnSpec.enterP Tryz.func41 rfl Tryz.ntmps41 rfl fun w F => ?_
    repeat' first
      | ((with_reducible refine Nx.is_wp ?_); first | refine Nx.wo ?_ | refine Nx.zp (fun hc => ?_) (fun hc => ?_))
      | (refine Nx.zo ?_; first | refine Nx.opr rfl rfl ?_ | refine Nx.so ?_ | refine Nx.sb (fun bx => ?_) | refine Nx.sa (fun A2 c2 => ?_))
      | ((with_reducible refine Nx.is_at ?_); first | refine Nx.a ?_ | refine Nx.zd ?_ | refine Nx.zs (fun hc => ?_) (fun hc => ?_))
      | ((with_reducible refine Nx.is_mix ?_); first | refine Nx.m ?_ | refine Nx.zm ?_ | refine Nx.zt (fun hc => ?_) (fun hc => ?_))
      | refine Nx.zx ?_ | fail
    refine Nx.ret_fn rfl [iR none 0 []] ⟨none, 0, rfl, rfl⟩ (Ent.vec_nil _ _ _)
  | some a =>
    refine FnSpec.enterP Tryz.func41 rfl Tryz.ntmps41 rfl fun w F => ?_
    repeat' first
      | ((with_reducible refine Nx.is_wp ?_); first | refine Nx.wo ?_ | refine Nx.zp (fun hc => ?_) (fun hc => ?_))
      | (refine Nx.zo ?_; first | refine Nx.opr rfl rfl ?_ | refine Nx.so ?_ | refine Nx.sb (fun bx => ?_) | refine Nx.sa (fun A2 c2 => ?_))
      | ((with_reducible refine Nx.is_at ?_); first | refine Nx.a ?_ | refine Nx.zd ?_ | refine Nx.zs (fun hc => ?_) (fun hc => ?_))
      | ((with_reducible refine Nx.is_mix ?_); first | refine Nx.m ?_ | refine Nx.zm ?_ | refine Nx.zt (fun hc => ?_) (fun hc => ?_))
      | refine Nx.zx ?_ | fail
    refine Nx.blk_vec 0 0 1 rfl rfl (by omega) ?_
    refine Nx.at_op rfl rfl ?_
    refine Nx.append rfl rfl rfl rfl (by kernel_rfl) rfl (Src.arr hl.arr (by simp) (by omega) (fun u hu => by obtain ⟨z, _, rfl⟩ := List.mem_map.1 hu; rfl)) (by omega) fun A' c' => ?_
    rw [Nat.zero_add, List.nil_append]
    repeat' first
      | ((with_reducible refine Nx.is_wp ?_); first | refine Nx.wo ?_ | refine Nx.zp (fun hc => ?_) (fun hc => ?_))
      | (refine Nx.zo ?_; first | refine Nx.opr rfl rfl ?_ | refine Nx.so ?_ | refine Nx.sb (fun bx => ?_) | refine Nx.sa (fun A2 c2 => ?_))
      | ((with_reducible refine Nx.is_at ?_); first | refine Nx.a ?_ | refine Nx.zd ?_ | refine Nx.zs (fun hc => ?_) (fun hc => ?_))
      | ((with_reducible refine Nx.is_mix ?_); first | refine Nx.m ?_ | refine Nx.zm ?_ | refine Nx.zt (fun hc => ?_) (fun hc => ?_))
      | refine Nx.zx ?_ | fail
    exact Nx.ret_fn rfl [_] ⟨A', c', rfl, rfl⟩ (by unfold iR; (exact Ent.auto))
/-- What a function that is shown each solution does: its memory 'TR s', its plain state 'pl s'. -/
structure Found {σ π : Type} (fid : FuncId) (caps : List Value) (I : PH) (n : Nat) (TR : σ → Res) (pl : σ → π) (ok : π → Prop) (f : π → List Int → π × Bool) : Prop where
  able : callable Tryz.prog fid = true
  run : ∀ s A c tab, tab.length = n → ok (pl s) → FnSpec Tryz.prog fid (.slice A tab.length c :: caps) I [TR s, iR A c tab] (fun v R' => v = .bool (f (pl s) tab).2 ∧ ∃ s', pl s' = (f (pl s) tab).1 ∧ ((f (pl s) tab).2 = true → ok (pl s')) ∧ R' = [TR s'])
def Sane (l : List Eqn) : Prop := Once l ∧ l.length ≤ 100000 ∧ ∀ q ∈ l, 0 ≤ q.2 ∧ q.2 ≤ 1000000 ∧ q.1.length ≤ 100000
theorem sumC_nn {t : List Int} (h : ∀ c, 0 ≤ t.getD c 0) (cs : List Nat) : 0 ≤ sumC t cs := sumC_nonneg fun c _ => h c
theorem rest_bd {l : List Eqn} {U : List Nat} {n : Nat} {t : List Int} (hs : Sane l) (hi : Inv n l U t) (hn : ∀ c, 0 ≤ t.getD c 0) : ∀ j, j < l.length → -10000000 ≤ (restL l t).getD j default ∧ (restL l t).getD j default ≤ 10000000 := fun j hj => by
  rw [restL_at hj]
  have h1 := hi.pos _ (getD_memE hj)
  have h2 := hs.2.2 _ (getD_memE hj)
  have h3 := sumC_nn hn (l.getD j default).1
  unfold restQ at h1 ⊢
  omega
theorem open_bd {l : List Eqn} {U : List Nat} (hs : Sane l) : ∀ j, j < l.length → -10000000 ≤ (openL l U).getD j default ∧ (openL l U).getD j default ≤ 10000000 := fun j hj => by
  rw [openL_at hj]
  have h2 := hs.2.2 _ (getD_memE hj)
  have : openQ U (l.getD j default) ≤ (l.getD j default).1.length := List.length_filter_le _ _
  omega
theorem set_zero {t : List Int} {c : Nat} {v : Int} (hc : c < t.length) (h0 : t.getD c 0 = 0) : (t.set c v).set c 0 = t := by
  rw [List.set_set]
  refine ext_len (by simp) fun d => ?_
  rw [getD_setI hc]
  split
  · rename_i h; rw [h, h0]
  · rfl
theorem nn_set {t : List Int} {c : Nat} {v : Int} (hc : c < t.length) (hv : 0 ≤ v) (hn : ∀ c, 0 ≤ t.getD c 0) : ∀ d, 0 ≤ (t.set c v).getD d 0 := fun d => by
  rw [getD_setI hc]
  split
  · exact hv
  · exact hn d
abbrev enoughV : Value := .iface 188 (.agg #[])
set_option maxRecDepth 10000 in
set_option maxHeartbeats 8000000 in
theorem visit_spec {σ π : Type} {fid : FuncId} {caps : List Value} {TR : σ → Res} {pl : σ → π} {ok : π → Prop} {f : π → List Int → π × Bool} (p : Pl) (n : Nat) (l : List Eqn) (I : PH) (hin : InI I p n l) (hF : Found fid caps I n TR pl ok f) (hs : Sane l) (hn9 : n ≤ 1000000)
    (Aq : Option Addr) (cq : Nat) (ord : List Nat) (hord : Ints I Aq cq (ord.map Int.ofNat)) (down : Bool) (bo bf bp bd bv : Nat)
    (h1 : ∀ (W : World) (R : List Res), Rd W I R ⟨bo, 0, none⟩ (.slice Aq ord.length cq)) (h2 : ∀ (W : World) (R : List Res), Rd W I R ⟨bf, 0, none⟩ (.func (.func fid) #[] caps.toArray))
    (h3 : ∀ (W : World) (R : List Res), Rd W I R ⟨bp, 0, none⟩ (.pointer (some ⟨p.b, 0, none⟩))) (h4 : ∀ (W : World) (R : List Res), Rd W I R ⟨bd, 0, none⟩ (.bool down))
    (h5 : ∀ (W : World) (R : List Res), Rd W I R ⟨bv, 0, none⟩ (.func (.func 152) #[] #[.pointer (some ⟨bo, 0, none⟩), .pointer (some ⟨bf, 0, none⟩), .pointer (some ⟨bp, 0, none⟩), .pointer (some ⟨bd, 0, none⟩), .pointer (some ⟨bv, 0, none⟩)])) :
    ∀ (U : List Nat) (i : Nat), i ≤ ord.length → ord.drop i = U → ∀ (s : σ) (t : List Int), Inv n l U t → (∀ c, 0 ≤ t.getD c 0) → ok (pl s) →
      FnSpecP Tryz.prog 152 [.int .i64 (i : Int), .pointer (some ⟨bo, 0, none⟩), .pointer (some ⟨bf, 0, none⟩), .pointer (some ⟨bp, 0, none⟩), .pointer (some ⟨bd, 0, none⟩), .pointer (some ⟨bv, 0, none⟩)] I
        [p.blk n l.length, iR p.Ar p.cr (restL l t), iR p.Ao p.co (openL l U), iR p.At p.ct t, TR s]
        (fun v R' => v = .tuple #[] ∧ ∃ s', foldStop f (pl s) (enum 1000000 l (down && decide (i = 0)) U t) = (pl s', true) ∧ ok (pl s') ∧ R' = [p.blk n l.length, iR p.Ar p.cr (restL l t), iR p.Ao p.co (openL l U), iR p.At p.ct t, TR s'])
        (fun ch R' => ch = [{ v := enoughV, recovered := false }] ∧ ∃ s' G, foldStop f (pl s) (enum 1000000 l (down && decide (i = 0)) U t) = (pl s', false) ∧ R' = [TR s', G])
  | [], i, hi, hdr, s, t, hinv, hnn, hok => by
    have hol := hord.len
    rw [List.length_map] at hol
    have hil : i = ord.length := by
      have := congrArg List.length hdr
      rw [List.length_drop, List.length_nil] at this
      omega
    subst hil
    have htl := hinv.len
    have hrun : ∀ A c, FnSpec Tryz.prog fid (.slice A n c :: caps) I [TR s, Vec 3 1 A n c (t.map (Value.int .i64))] (fun v R' => v = .bool (f (pl s) t).2 ∧ ∃ s', pl s' = (f (pl s) t).1 ∧ ((f (pl s) t).2 = true → ok (pl s')) ∧ R' = [TR s']) := fun A c => by
      have h := hF.run s A c t htl hok
      unfold iR at h
      rw [htl] at h
      exact h
    have hcl : ∀ I', Ints I' p.At p.ct t → FnSpec Tryz.prog 41 [.slice p.At n p.ct] I' [] (fun v R' => ∃ A' c', v = .slice A' n c' ∧ R' = [Vec 3 1 A' n c' (t.map (Value.int .i64))]) := fun I' hm => by
      have h := CloneI_spec p.At p.ct t I' hm (by omega)
      unfold iR at h
      rw [htl] at h
      exact h
    have hfs : foldStop f (pl s) (enum 1000000 l (down && decide (ord.length = 0)) [] t) = ((f (pl s) t).1, (f (pl s) t).2) := by
      unfold enum foldStop
      cases (f (pl s) t).2 <;> rfl
    rw [hfs]
    cases hb : (f (pl s) t).2 with
    | true =>
      rw [hb] at hrun
      refine FnSpecP.enterP Tryz.func152 rfl Tryz.ntmps152 rfl fun w F => ?_
      repeat' first
        | ((with_reducible refine Nx.is_wp ?_); first | refine Nx.wo ?_ | refine Nx.p_drawF (id := 1) rfl [0, 1, 2, 3, 4, 5] [5] [6, 7] _ rfl rfl (by kernel_rfl) (by kernel_rfl) rfl (by repeat first | exact PanicOk.fn | exact PanicOk.fnP | refine PanicOk.then_ ?_ | refine PanicOk.inB ?_) (Ent.refl _) ?_ | refine Nx.zp (fun hc => ?_) (fun hc => ?_))
        | (refine Nx.zo ?_; first | refine Nx.opr rfl rfl ?_ | refine Nx.load rfl rfl rfl (h1 _ _) ?_ | (refine Nx.call_lendR 3 rfl rfl rfl (by kernel_rfl) rfl rfl (fun m I' hI hm h => hcl I' (Vec.sliceOf hm h)) ?_; rintro _ _ ⟨A', c', rfl, rfl⟩) | (refine Nx.call rfl rfl rfl hF.able rfl (hrun A' c') (by (exact Ent.auto)) ?_; rintro _ _ ⟨rfl, s', hs', hok', rfl⟩) | refine Nx.so ?_ | refine Nx.sb (fun bx => ?_) | refine Nx.sa (fun A2 c2 => ?_))
        | ((with_reducible refine Nx.is_at ?_); first | refine Nx.a ?_ | refine Nx.zd ?_ | refine Nx.zs (fun hc => ?_) (fun hc => ?_))
        | ((with_reducible refine Nx.is_mix ?_); first | refine Nx.m_quiet rfl rfl rfl rfl rfl (by first | exact QRun.opr rfl | exact QRun.load rfl rfl (h2 _ _) | exact QRun.load rfl rfl (h3 _ _)) ?_ | refine Nx.m_quiet_do rfl rfl rfl rfl rfl rfl rfl (by first | exact QRun.opr rfl | exact QRun.load rfl rfl (h2 _ _) | exact QRun.load rfl rfl (h3 _ _)) ?_ | refine Nx.m ?_ | refine Nx.zm ?_ | refine Nx.zt (fun hc => ?_) (fun hc => ?_))
        | refine Nx.zx ?_ | fail
      exact Nx.ret_fnP rfl [_, _, _, _, _] ⟨rfl, s', by rw [hs'], hok' rfl, rfl⟩ (by (exact Ent.auto))
    | false =>
      rw [hb] at hrun
      refine FnSpecP.enterP Tryz.func152 rfl Tryz.ntmps152 rfl fun w F => ?_
      repeat' first
        | ((with_reducible refine Nx.is_wp ?_); first | refine Nx.wo ?_ | refine Nx.p_drawF (id := 1) rfl [0, 1, 2, 3, 4, 5] [5] [6, 7] _ rfl rfl (by kernel_rfl) (by kernel_rfl) rfl (by repeat first | exact PanicOk.fn | exact PanicOk.fnP | refine PanicOk.then_ ?_ | refine PanicOk.inB ?_) (Ent.refl _) ?_ | refine Nx.zp (fun hc => ?_) (fun hc => ?_))
        | (refine Nx.zo ?_; first | refine Nx.opr rfl rfl ?_ | refine Nx.load rfl rfl rfl (h1 _ _) ?_ | (refine Nx.call_lendR 3 rfl rfl rfl (by kernel_rfl) rfl rfl (fun m I' hI hm h => hcl I' (Vec.sliceOf hm h)) ?_; rintro _ _ ⟨A', c', rfl, rfl⟩) | (refine Nx.call rfl rfl rfl hF.able rfl (hrun A' c') (by (exact Ent.auto)) ?_; rintro _ _ ⟨rfl, s', hs', hok', rfl⟩) | refine Nx.makeIface rfl rfl rfl ?_ | refine Nx.panic_ rfl ?_ | refine Nx.so ?_ | refine Nx.sb (fun bx => ?_) | refine Nx.sa (fun A2 c2 => ?_))
        | ((with_reducible refine Nx.is_at ?_); first | refine Nx.a ?_ | refine Nx.zd ?_ | refine Nx.zs (fun hc => ?_) (fun hc => ?_))
        | ((with_reducible refine Nx.is_mix ?_); first | refine Nx.m_quiet rfl rfl rfl rfl rfl (by first | exact QRun.opr rfl | exact QRun.load rfl rfl (h2 _ _) | exact QRun.load rfl rfl (h3 _ _)) ?_ | refine Nx.m_quiet_do rfl rfl rfl rfl rfl rfl rfl (by first | exact QRun.opr rfl | exact QRun.load rfl rfl (h2 _ _) | exact QRun.load rfl rfl (h3 _ _)) ?_ | refine Nx.m ?_ | refine Nx.zm ?_ | refine Nx.zt (fun hc => ?_) (fun hc => ?_))
        | refine Nx.zx ?_ | fail
      all_goals repeat first | refine Nx.then_panic ?_ | refine Nx.in_panic ?_
      exact Nx.pan_fnP [_, _] ⟨rfl, s', _, by rw [hs'], rfl⟩ (by (exact Ent.auto))
  | c :: U, i, hi, hdr, s, t, hinv, hnn, hok => by
    have hol := hord.len
    rw [List.length_map] at hol
    have hil : i < ord.length := by
      rcases Nat.lt_or_ge i ord.length with h | h
      · exact h
      · rw [List.drop_eq_nil_of_le h] at hdr; cases hdr
    have hdc := List.drop_eq_getElem_cons hil
    rw [hdr] at hdc
    obtain ⟨hci, hdU⟩ := List.cons.inj hdc
    have hordi : ∀ (W : World) (R : List Res), Rd W I R ((ad Aq).add (i * 1)) (.int .i64 (c : Int)) := fun W R => by
      have h := hord.rd (W := W) (R := R) (k := i) (by rw [List.length_map]; exact hil)
      rw [List.getD_eq_getElem?_getD, List.getElem?_map, List.getElem?_eq_getElem hil, ← hci] at h
      exact h
    have htl := hinv.len
    have hcn : c < n := hinv.lt c (by simp)
    have hc0 := hinv.zero c (by simp)
    obtain ⟨hcU, _⟩ := List.nodup_cons.1 hinv.nd
    have hSp := span_spec p n l (restL l t) (openL l (c :: U)) t I hin c hcn (restL_len _ _) (openL_len _ _) htl hs.2.1
    rw [lowK_all, highK_all] at hSp
    have hSet : ∀ v : Int, lowF t (c :: U) c l ≤ v → v ≤ highF 1000000 t c l → _ := fun v hv1 hv2 => set_spec p n l (restL l t) (openL l (c :: U)) t I hin c hcn (restL_len _ _) (openL_len _ _) htl hs.2.1 v ⟨(lowF_le.1 hv1).1, (le_highF.1 hv2).1⟩ (rest_bd hs hinv hnn) (open_bd hs)
    have hUn : ∀ v : Int, lowF t (c :: U) c l ≤ v → v ≤ highF 1000000 t c l → _ := fun v hv1 hv2 => unset_spec p n l (restL l (t.set c v)) (openL l U) (t.set c v) I hin c hcn (restL_len _ _) (openL_len _ _) (by rw [List.length_set]; exact htl) hs.2.1 v ⟨(lowF_le.1 hv1).1, (le_highF.1 hv2).1⟩ (rest_bd hs (hinv.step hs.1 hv1 hv2) (nn_set (by omega) (lowF_le.1 hv1).1 hnn)) (open_bd hs)
    simp only [sub_rest hs.1 (show c < t.length by omega) hc0, sub_open hs.1 hcU] at hSet
    simp only [add_rest hs.1 (show c < t.length by omega) hc0, add_open hs.1 hcU, set_zero (show c < t.length by omega) hc0] at hUn
    have hV : ∀ v : Int, lowF t (c :: U) c l ≤ v → v ≤ highF 1000000 t c l → ∀ s, ok (pl s) → _ := fun v hv1 hv2 s hok => visit_spec p n l I hin hF hs hn9 Aq cq ord hord down bo bf bp bd bv h1 h2 h3 h4 h5 U (i + 1) hil hdU.symm s (t.set c v) (hinv.step hs.1 hv1 hv2) (nn_set (by omega) (lowF_le.1 hv1).1 hnn) hok
    rw [show (down && decide (i + 1 = 0)) = false by simp] at hV
    have hl0 : 0 ≤ lowF t (c :: U) c l := (lowF_le.1 (Int.le_refl _)).1
    have hh9 : highF 1000000 t c l ≤ 1000000 := (le_highF.1 (Int.le_refl _)).1
    have hh0 : 0 ≤ highF 1000000 t c l := le_highF.2 ⟨by omega, fun q hq _ => hinv.pos q hq⟩
    have hl9 : lowF t (c :: U) c l ≤ 1000000 := lowF_le.2 ⟨by omega, fun q hq _ _ => by
      have := sumC_nn hnn q.1
      have := hs.2.2 q hq
      unfold restQ; omega⟩
    unfold enum
    generalize hg : (fun (k : Nat) => enum 1000000 l false U (t.set c (if (down && decide (i = 0)) = true then highF 1000000 t c l - (k : Int) else lowF t (c :: U) c l + (k : Int)))) = g
    have hgk : ∀ k : Nat, g k = enum 1000000 l false U (t.set c (if (down && decide (i = 0)) = true then highF 1000000 t c l - (k : Int) else lowF t (c :: U) c l + (k : Int))) := fun k => by rw [← hg]
    generalize lowF t (c :: U) c l = lo at *
    generalize highF 1000000 t c l = top at *
    generalize hN : (top - lo + 1).toNat = N
    refine FnSpecP.enterP Tryz.func152 rfl Tryz.ntmps152 rfl fun w F => ?_
    repeat' first
      | ((with_reducible refine Nx.is_wp ?_); first | refine Nx.wo ?_ | refine Nx.zp (fun hc => ?_) (fun hc => ?_))
      | (refine Nx.zo ?_; first | refine Nx.opr rfl rfl ?_ | refine Nx.load rfl rfl rfl (h1 _ _) ?_ | refine Nx.load rfl rfl rfl (h3 _ _) ?_ | refine Nx.indexAddr_nat rfl rfl rfl rfl rfl (by omega) (hord.isSome (by rw [List.length_map]; omega)) ?_ | refine Nx.load rfl rfl rfl (hordi _ _) ?_ | (refine Nx.call rfl rfl rfl (by kernel_rfl) rfl hSp (by (exact Ent.auto)) ?_; rintro _ _ ⟨rfl, rfl⟩) | refine Nx.so ?_ | refine Nx.sb (fun bx => ?_) | refine Nx.sa (fun A2 c2 => ?_))
      | ((with_reducible refine Nx.is_at ?_); first | refine Nx.a ?_ | refine Nx.zd ?_ | refine Nx.zs (fun hc => ?_) (fun hc => ?_))
      | ((with_reducible refine Nx.is_mix ?_); first | refine Nx.m ?_ | refine Nx.zm ?_ | refine Nx.zt (fun hc => ?_) (fun hc => ?_))
      | refine Nx.zx ?_ | fail
    refine Nx.p_loop (σ := Nat × σ) (fun x => [(0, .int .i64 (i : Int)), (1, .pointer (some ⟨bo, 0, none⟩)), (2, .pointer (some ⟨bf, 0, none⟩)), (3, .pointer (some ⟨bp, 0, none⟩)), (4, .pointer (some ⟨bd, 0, none⟩)), (5, .pointer (some ⟨bv, 0, none⟩)), (7, .int .i64 (c : Int)), (8, .int .i64 lo), (9, .int .i64 top), (40, .int .i64 (max 0 (top - lo + 1))), (41, .int .i64 (x.1 : Int))])
      (fun x => [p.blk n l.length, iR p.Ar p.cr (restL l t), iR p.Ao p.co (openL l (c :: U)), iR p.At p.ct t, TR x.2, F]) (fun x => x.1 ≤ N ∧ foldStop f (pl s) ((List.range x.1).flatMap g) = (pl x.2, true) ∧ ok (pl x.2)) (fun x => N - x.1) (0, s) rfl ⟨Nat.zero_le _, rfl, hok⟩ ⟨rfl, rfl, rfl, rfl, rfl, rfl, rfl, rfl, rfl, rfl, rfl, trivial⟩ (by (exact Ent.auto)) ?_
    rintro ⟨k, s1⟩ ⟨hk, hfs, hok1⟩
    dsimp only at hk hfs hok1 ⊢
    by_cases hkl : k < N
    case neg =>
      obtain rfl : k = N := by omega
      repeat' first
        | ((with_reducible refine Nx.is_wp ?_); first | refine Nx.wo ?_ | refine Nx.zp (fun hc => ?_) (fun hc => ?_))
        | (refine Nx.zo ?_; first | refine Nx.opr rfl rfl ?_ | refine Nx.so ?_ | refine Nx.sb (fun bx => ?_) | refine Nx.sa (fun A2 c2 => ?_))
        | ((with_reducible refine Nx.is_at ?_); first | refine Nx.a ?_ | refine Nx.zd ?_ | refine Nx.zs (fun hc => ?_) (fun hc => ?_))
        | ((with_reducible refine Nx.is_mix ?_); first | refine Nx.m ?_ | refine Nx.zm ?_ | refine Nx.zt (fun hc => ?_) (fun hc => ?_))
        | refine Nx.zx ?_ | fail
      exact Nx.end_fnP rfl [_, _, _, _, _] ⟨rfl, s1, hfs, hok1, rfl⟩ (by (exact Ent.auto))
    obtain ⟨z, hz⟩ := flat_at g hkl
    have hgk := hgk k
    obtain ⟨v, hv⟩ : ∃ v : Int, v = if (down && decide (i = 0)) = true then top - (k : Int) else lo + (k : Int) := ⟨_, rfl⟩
    rw [← hv] at hgk
    have hv1 : lo ≤ v := by rw [hv]; split <;> omega
    have hv2 : v ≤ top := by rw [hv]; split <;> omega
    have hS := hSet v hv1 hv2
    have hU := hUn v hv1 hv2
    have hR := hV v hv1 hv2 s1 hok1
    rw [← hgk] at hR
    clear hSet hUn hV hSp
    cases down with
    | false =>
      obtain rfl : v = lo + (k : Int) := by rw [hv]; simp
      repeat' first
        | ((with_reducible refine Nx.is_wp ?_); first | refine Nx.wo ?_ | refine Nx.zp (fun hc => ?_) (fun hc => ?_))
        | (refine Nx.zo ?_; first | refine Nx.opr rfl rfl ?_ | refine Nx.load rfl rfl rfl (h3 _ _) ?_ | refine Nx.load rfl rfl rfl (h4 _ _) ?_ | refine Nx.load rfl rfl rfl (h5 _ _) ?_ | (refine Nx.call rfl rfl rfl (by kernel_rfl) rfl hS (by (exact Ent.auto)) ?_; rintro _ _ ⟨rfl, rfl⟩) | (refine Nx.call rfl rfl rfl (by kernel_rfl) rfl hU (by (exact Ent.auto)) ?_; rintro _ _ ⟨rfl, rfl⟩) | (refine Nx.callP rfl rfl rfl (by kernel_rfl) rfl hR (by (exact Ent.auto)) ?_ (by rintro _ _ ⟨rfl, s2, G, hf2, rfl⟩; (repeat first | refine Nx.then_panic ?_ | refine Nx.in_panic ?_); exact Nx.pan_fnP [_, _] ⟨rfl, s2, _, by rw [hz]; exact foldStop_go hfs (foldStop_cut hf2), rfl⟩ (by (exact Ent.auto))); rintro _ _ ⟨rfl, s2, hf2, hok2, rfl⟩) | refine Nx.so ?_ | refine Nx.sb (fun bx => ?_) | refine Nx.sa (fun A2 c2 => ?_))
        | ((with_reducible refine Nx.is_at ?_); first | refine Nx.a ?_ | refine Nx.zd ?_ | refine Nx.zs (fun hc => ?_) (fun hc => ?_))
        | ((with_reducible refine Nx.is_mix ?_); first | refine Nx.m ?_ | refine Nx.zm ?_ | refine Nx.zt (fun hc => ?_) (fun hc => ?_))
        | refine Nx.zx ?_ | fail
      exact Nx.again (k + 1, s2) ⟨hkl, by dsimp only; rw [flat_snoc]; exact foldStop_go hfs hf2, hok2⟩ (by dsimp only; omega) ⟨rfl, rfl, rfl, rfl, rfl, rfl, rfl, rfl, rfl, rfl, rfl, trivial⟩ (by (exact Ent.auto))
    | true =>
      by_cases hi0 : i = 0
      · subst hi0
        obtain rfl : v = top - (k : Int) := by rw [hv]; simp
        repeat' first
          | ((with_reducible refine Nx.is_wp ?_); first | refine Nx.wo ?_ | refine Nx.zp (fun hc => ?_) (fun hc => ?_))
          | (refine Nx.zo ?_; first | refine Nx.opr rfl rfl ?_ | refine Nx.load rfl rfl rfl (h3 _ _) ?_ | refine Nx.load rfl rfl rfl (h4 _ _) ?_ | refine Nx.load rfl rfl rfl (h5 _ _) ?_ | (refine Nx.call rfl rfl rfl (by kernel_rfl) rfl hS (by (exact Ent.auto)) ?_; rintro _ _ ⟨rfl, rfl⟩) | (refine Nx.call rfl rfl rfl (by kernel_rfl) rfl hU (by (exact Ent.auto)) ?_; rintro _ _ ⟨rfl, rfl⟩) | (refine Nx.callP rfl rfl rfl (by kernel_rfl) rfl hR (by (exact Ent.auto)) ?_ (by rintro _ _ ⟨rfl, s2, G, hf2, rfl⟩; (repeat first | refine Nx.then_panic ?_ | refine Nx.in_panic ?_); exact Nx.pan_fnP [_, _] ⟨rfl, s2, _, by rw [hz]; exact foldStop_go hfs (foldStop_cut hf2), rfl⟩ (by (exact Ent.auto))); rintro _ _ ⟨rfl, s2, hf2, hok2, rfl⟩) | refine Nx.so ?_ | refine Nx.sb (fun bx => ?_) | refine Nx.sa (fun A2 c2 => ?_))
          | ((with_reducible refine Nx.is_at ?_); first | refine Nx.a ?_ | refine Nx.zd ?_ | refine Nx.zs (fun hc => ?_) (fun hc => ?_))
          | ((with_reducible refine Nx.is_mix ?_); first | refine Nx.m ?_ | refine Nx.zm ?_ | refine Nx.zt (fun hc => ?_) (fun hc => ?_))
          | refine Nx.zx ?_ | fail
        exact Nx.again (k + 1, s2) ⟨hkl, by dsimp only; rw [flat_snoc]; exact foldStop_go hfs hf2, hok2⟩ (by dsimp only; omega) ⟨rfl, rfl, rfl, rfl, rfl, rfl, rfl, rfl, rfl, rfl, rfl, trivial⟩ (by (exact Ent.auto))
      · obtain rfl : v = lo + (k : Int) := by rw [hv]; simp [hi0]
        repeat' first
          | ((with_reducible refine Nx.is_wp ?_); first | refine Nx.wo ?_ | refine Nx.zp (fun hc => ?_) (fun hc => ?_))
          | (refine Nx.zo ?_; first | refine Nx.opr rfl rfl ?_ | refine Nx.load rfl rfl rfl (h3 _ _) ?_ | refine Nx.load rfl rfl rfl (h4 _ _) ?_ | refine Nx.load rfl rfl rfl (h5 _ _) ?_ | (refine Nx.call rfl rfl rfl (by kernel_rfl) rfl hS (by (exact Ent.auto)) ?_; rintro _ _ ⟨rfl, rfl⟩) | (refine Nx.call rfl rfl rfl (by kernel_rfl) rfl hU (by (exact Ent.auto)) ?_; rintro _ _ ⟨rfl, rfl⟩) | (refine Nx.callP rfl rfl rfl (by kernel_rfl) rfl hR (by (exact Ent.auto)) ?_ (by rintro _ _ ⟨rfl, s2, G, hf2, rfl⟩; (repeat first | refine Nx.then_panic ?_ | refine Nx.in_panic ?_); exact Nx.pan_fnP [_, _] ⟨rfl, s2, _, by rw [hz]; exact foldStop_go hfs (foldStop_cut hf2), rfl⟩ (by (exact Ent.auto))); rintro _ _ ⟨rfl, s2, hf2, hok2, rfl⟩) | refine Nx.so ?_ | refine Nx.sb (fun bx => ?_) | refine Nx.sa (fun A2 c2 => ?_))
          | ((with_reducible refine Nx.is_at ?_); first | refine Nx.a ?_ | refine Nx.zd ?_ | refine Nx.zs (fun hc => ?_) (fun hc => ?_))
          | ((with_reducible refine Nx.is_mix ?_); first | refine Nx.m ?_ | refine Nx.zm ?_ | refine Nx.zt (fun hc => ?_) (fun hc => ?_))
          | refine Nx.zx ?_ | fail
        exact Nx.again (k + 1, s2) ⟨hkl, by dsimp only; rw [flat_snoc]; exact foldStop_go hfs hf2, hok2⟩ (by dsimp only; omega) ⟨rfl, rfl, rfl, rfl, rfl, rfl, rfl, rfl, rfl, rfl, rfl, trivial⟩ (by (exact Ent.auto))
end Go.Proofs.YtjnhoemgceghlaaGreat
/-
  The proof engine, part Y: more on strings and closures.
-/
namespace Go.Eng
theorem Blk.cell {b k : Nat} {t : TypeId} {cs : List Value} {v : Value} {m : PH} (h : Blk b t cs m) (hk : nthL cs k = some v) : cellH m ⟨b, k, none⟩ = some v := by
  rw [nthL_eq] at hk
  simp [cellH, show m b = _ from h]
  exact hk
end Go.Eng
/- Contracts of functions of the given program, and lemmas about plain lists and numbers: what the laws of this seat lean on. -/
namespace Go.Proofs.YtjnhoemgceghlaaGreat
open Go.Eng Go.Sol
attribute [local irreducible] opK wpList Code.wp Exit.then Exit.inBlock fnPost bodyPost Nx Calls Oper.wp Rd Rds Wr Ent Stars Blk Again Vec FnSpec wpMix QRun Stop Upto wpAt
attribute [local irreducible] fnPostP FnSpecP fnPostD
/-! The call that is put off: it takes a panic of 'enough' back -/
set_option maxRecDepth 10000 in
theorem catch_pan (W : World) (I : PH) (R : List Res) (w : World) (hw : St W I R w) : CallsD Tryz.prog 151 #[] (.panicking [{ v := enoughV, recovered := false }]) w fun en u' w' => (∃ z, en = .returned z) ∧ u' = .panicking [{ v := enoughV, recovered := true }] ∧ St W I R w' := by
  refine callsD_of_wpS Tryz.func151 rfl fun c₀ cs hu => ?_
  apply wpS_seq
  apply wpS_region
  simp [wpOpsS, go_sem, recoverD, hu, Tryz.ntmps151, Exit.thenS]
  refine wpS_of_wp ?_
  suffices h : Nx ⟨Tryz.prog, 14, W⟩ [(0, enoughV)] I R ((cr (bodyOf Tryz.f151)).wp Tryz.prog fun e a w' => bodyPostS Tryz.prog Tryz.f151 c₀ cs (fun en u' w' => (∃ z, en = .returned z) ∧ u' = .panicking [{ v := enoughV, recovered := true }] ∧ St W I R w') e a ({ c₀ with mode := .panicking [{ v := enoughV, recovered := true }] } :: cs) w') by
    refine h.use ⟨by simp, rfl, fun t v ht => ?_⟩ hw
    match t, ht with
    | 0, ht => exact ht ▸ rfl
  repeat' first
    | ((with_reducible refine Nx.is_wp ?_); first | refine Nx.wo ?_ | refine Nx.zp (fun hc => ?_) (fun hc => ?_))
    | (refine Nx.zo ?_; first | refine Nx.opr rfl rfl ?_ | refine Nx.typeAssert (.tuple #[.agg #[], .bool true]) rfl rfl rfl ?_ | refine Nx.so ?_ | refine Nx.sb (fun bx => ?_) | refine Nx.sa (fun A2 c2 => ?_))
    | ((with_reducible refine Nx.is_at ?_); first | refine Nx.a ?_ | refine Nx.zd ?_ | refine Nx.zs (fun hc => ?_) (fun hc => ?_))
    | ((with_reducible refine Nx.is_mix ?_); first | refine Nx.m ?_ | refine Nx.zm ?_ | refine Nx.zt (fun hc => ?_) (fun hc => ?_))
    | refine Nx.zx ?_ | fail
  exact Nx.of fun a w' ha hw' => ⟨ha.defers, _, rfl, _, resV_run ha (v := .tuple #[]) rfl, ⟨_, rfl⟩, rfl, hw'.ent (Ent.drop (Ent.refl _))⟩
theorem catch_idle (w : World) : CallsD Tryz.prog 151 #[] .returning w fun en u' w' => (∃ z, en = .returned z) ∧ u' = .returning ∧ w' = w := by
  refine callsD_of_wpS Tryz.func151 rfl fun c₀ cs hu => ?_
  apply wpS_seq
  apply wpS_region
  simp [wpOpsS, go_sem, recoverD, hu, Tryz.ntmps151, Exit.thenS]
  apply wpS_seq
  apply wpS_region
  simp [wpOpsS, go_sem, recoverD, hu, Exit.thenS]
  refine wpS_cond (t := false) (by simp [Act.eval, Array.replicate]) ?_
  simp only [Bool.false_eq_true, if_false]
  refine wpS_of_wp (wp_skip ?_)
  cases c₀
  simp_all [bodyPostS, results, Tryz.results151]
set_option maxRecDepth 10000 in
set_option maxHeartbeats 8000000 in
theorem search_spec {σ π : Type} {fid : FuncId} {caps : List Value} {TR : σ → Res} {pl : σ → π} {ok : π → Prop} {f : π → List Int → π × Bool} (p : Pl) (n : Nat) (l : List Eqn) (I : PH) (hin : InI I p n l) (hF : ∀ I', PH.le I I' → Found fid caps I' n TR pl ok f) (hs : Sane l) (hn9 : n ≤ 1000000)
    (Aq : Option Addr) (cq : Nat) (ord : List Nat) (hord : Ints I Aq cq (ord.map Int.ofNat)) (down : Bool) (s : σ) (t : List Int) (hinv : Inv n l ord t) (hnn : ∀ c, 0 ≤ t.getD c 0) (hok : ok (pl s)) :
    FnSpec Tryz.prog 123 [.pointer (some ⟨p.b, 0, none⟩), .slice Aq ord.length cq, .bool down, .func (.func fid) #[] caps.toArray] I
      [p.blk n l.length, iR p.Ar p.cr (restL l t), iR p.Ao p.co (openL l ord), iR p.At p.ct t, TR s]
      (fun v R' => v = .tuple #[] ∧ ∃ s' G, pl s' = (foldStop f (pl s) (enum 1000000 l down ord t)).1 ∧ R' = [TR s', G]) := by
  refine FnSpec.enterD Tryz.func123 rfl Tryz.ntmps123 rfl fun w F => ?_
  repeat' first
    | ((with_reducible refine Nx.is_wp ?_); first | refine Nx.wo ?_ | refine Nx.zp (fun hc => ?_) (fun hc => ?_))
    | (refine Nx.zo ?_; first | refine Nx.opr rfl rfl ?_ | refine Nx.defer_ rfl rfl ?_ | refine Nx.so ?_ | refine Nx.sb (fun bx => ?_) | refine Nx.sa (fun A2 c2 => ?_))
    | ((with_reducible refine Nx.is_at ?_); first | refine Nx.a ?_ | refine Nx.zd ?_ | refine Nx.zs (fun hc => ?_) (fun hc => ?_))
    | ((with_reducible refine Nx.is_mix ?_); first | refine Nx.m ?_ | refine Nx.zm ?_ | refine Nx.zt (fun hc => ?_) (fun hc => ?_))
    | refine Nx.zx ?_ | fail
  revert bx; intro b4
  revert bx; intro b3
  revert bx; intro b2
  revert bx; intro b1
  repeat first | refine NxL.at_end rfl ?_ | refine NxL.then_normal ?_ | refine NxL.p_seq rfl ?_ | refine NxL.p_region rfl ?_ | (refine NxL.at_op rfl rfl ?_; refine NxL.op rfl ?_)
  refine Nx.alloc rfl rfl fun b5 => ?_
  repeat first | refine NxL.at_end rfl ?_ | refine NxL.then_normal ?_ | refine NxL.p_seq rfl ?_ | refine NxL.p_region rfl ?_ | (refine NxL.at_op rfl rfl ?_; refine NxL.op rfl ?_)
  refine Nx.makeFunc rfl rfl rfl ?_
  repeat first | refine NxL.at_end rfl ?_ | refine NxL.then_normal ?_ | refine NxL.p_seq rfl ?_ | refine NxL.p_region rfl ?_ | (refine NxL.at_op rfl rfl ?_; refine NxL.op rfl ?_)
  refine Nx.store_blk 0 rfl rfl rfl rfl rfl rfl rfl ?_
  refine Nx.freezeAt 0 rfl fun I1 m1 hI1 hm1 h1 => ?_
  refine Nx.freezeAt 0 rfl fun I2 m2 hI2 hm2 h2 => ?_
  refine Nx.freezeAt 0 rfl fun I3 m3 hI3 hm3 h3 => ?_
  refine Nx.freezeAt 0 rfl fun I4 m4 hI4 hm4 h4 => ?_
  refine Nx.freezeAt 0 rfl fun I5 m5 hI5 hm5 h5 => ?_
  have hI := (((hI1.trans hI2).trans hI3).trans hI4).trans hI5
  have r5 : ∀ (W : World) (R : List Res), Rd W I5 R ⟨b5, 0, none⟩ (.func (.func 152) #[] #[.pointer (some ⟨b2, 0, none⟩), .pointer (some ⟨b4, 0, none⟩), .pointer (some ⟨b1, 0, none⟩), .pointer (some ⟨b3, 0, none⟩), .pointer (some ⟨b5, 0, none⟩)]) := fun W R => Rd.imm (cellH_mono ((((hm1.trans hI2).trans hI3).trans hI4).trans hI5) (Blk.cell h1 rfl))
  have r4 : ∀ (W : World) (R : List Res), Rd W I5 R ⟨b4, 0, none⟩ (.func (.func fid) #[] caps.toArray) := fun W R => Rd.imm (cellH_mono (((hm2.trans hI3).trans hI4).trans hI5) (Blk.cell h2 rfl))
  have r3 : ∀ (W : World) (R : List Res), Rd W I5 R ⟨b3, 0, none⟩ (.bool down) := fun W R => Rd.imm (cellH_mono ((hm3.trans hI4).trans hI5) (Blk.cell h3 rfl))
  have r2 : ∀ (W : World) (R : List Res), Rd W I5 R ⟨b2, 0, none⟩ (.slice Aq ord.length cq) := fun W R => Rd.imm (cellH_mono (hm4.trans hI5) (Blk.cell h4 rfl))
  have r1 : ∀ (W : World) (R : List Res), Rd W I5 R ⟨b1, 0, none⟩ (.pointer (some ⟨p.b, 0, none⟩)) := fun W R => Rd.imm (cellH_mono hm5 (Blk.cell h5 rfl))
  have hV := visit_spec p n l I5 (hin.mono hI) (hF I5 hI) hs hn9 Aq cq ord (hord.mono hI) down b2 b4 b1 b3 b5 r2 r4 r1 r3 r5 ord 0 (Nat.zero_le _) rfl s t hinv hnn hok
  rw [show (down && decide (0 = 0)) = down by simp] at hV
  repeat first | refine NxL.at_end rfl ?_ | refine NxL.then_normal ?_ | refine NxL.p_seq rfl ?_ | refine NxL.p_region rfl ?_ | (refine NxL.at_op rfl rfl ?_; refine NxL.op rfl ?_)
  refine Nx.load rfl rfl rfl (r5 _ _) ?_
  repeat first | refine NxL.at_end rfl ?_ | refine NxL.then_normal ?_ | refine NxL.p_seq rfl ?_ | refine NxL.p_region rfl ?_ | (refine NxL.at_op rfl rfl ?_; refine NxL.op rfl ?_)
  refine NxL.at_op rfl rfl ?_
  refine NxL.callP rfl rfl rfl (by kernel_rfl) rfl hV (by (exact Ent.auto)) ?_ ?_
  · rintro _ _ ⟨rfl, s', hfs, _, rfl⟩
    repeat first | refine NxL.at_end rfl ?_ | refine NxL.then_normal ?_ | refine NxL.p_seq rfl ?_ | refine NxL.p_region rfl ?_ | (refine NxL.at_op rfl rfl ?_; refine NxL.op rfl ?_)
    exact Nx.imm_le hI (NxL.end_D rfl rfl (by kernel_rfl) (fun w => catch_idle w) [_, _] ⟨rfl, s', iR p.At p.ct t, by rw [hfs], rfl⟩ (by (exact Ent.auto)))
  · rintro _ _ ⟨rfl, s', G, hfs, rfl⟩
    repeat refine NxL.then_panic ?_
    exact Nx.imm_le hI (NxL.pan_G rfl rfl (by kernel_rfl) (fun w hw => catch_pan _ _ _ w hw) [_, _] ⟨rfl, s', G, by rw [hfs], rfl⟩ (by (exact Ent.auto)))
end Go.Proofs.YtjnhoemgceghlaaGreat
/-
  The proof engine, part Q: rows that a function of the library has rearranged.
-/
namespace Go.Eng
open Go.Sort
section
variable {I : PH} {R : List Res} {W w : World} {t : TypeId} {α : Type} [Inhabited α]
theorem putCells_take (f : α → Value) (d : Array α) (c : Array Value) (h : d.size ≤ c.size) : (putCells f 0 d c).toList.take d.size = d.toList.map f := by
  refine List.ext_getElem? fun k => ?_
  rw [List.getElem?_take]
  unfold putCells
  by_cases hk : k < d.size
  · rw [if_pos hk, Array.getElem?_toList, Array.getElem?_mapIdx, Array.getElem?_eq_getElem (by omega), Option.map_some, if_pos ⟨Nat.zero_le _, by omega⟩, Nat.sub_zero, List.getElem?_map, Array.getElem?_toList, Array.getElem?_eq_getElem hk, Option.map_some, getElem!_pos d k hk]
  · rw [if_neg hk, List.getElem?_map, Array.getElem?_toList, Array.getElem?_eq_none (by omega)]; rfl
theorem putCells_size (f : α → Value) (off : Nat) (d : Array α) (c : Array Value) : (putCells f off d c).size = c.size := by unfold putCells; simp
theorem heap_grow (w : World) (os : Array Obj) (i : Nat) (h : i < w.heap.size) : (grow w os).heap[i]? = w.heap[i]? := by
  unfold grow
  simp only
  rw [Array.getElem?_append_left h]
theorem heap_putRow (f : α → Value) (w : World) (b off : Nat) (d : Array α) (i : Nat) : (putRow f w b off d).heap[i]? = if b = i then (w.heap[i]?).map (onCells (putCells f off d)) else w.heap[i]? := by
  unfold putRow mapBlock
  simp only
  rw [Array.getElem?_modify]
/-- Behind a rearrangement of a row: the owned list holds other elements, as many. -/
theorem St.putRow {f : α → Value} {b c : Nat} {l l' : List α} (hl : l'.length = l.length) (h : St W I (Vec t 1 (some ⟨b, 0, none⟩) l.length c (l.map f) :: R) w) (n : Nat) (os : Array Obj) :
    St W I (Vec t 1 (some ⟨b, 0, none⟩) l'.length c (l'.map f) :: R) (grow (Sort.putRow f (Go.Sort.ahead w n) b 0 l'.toArray) os) := by
  obtain ⟨⟨m, ⟨m1, m2, hd, rfl, hv, h2⟩, hs⟩, hst⟩ := id h
  rcases hv.2 with ⟨h0, _, _⟩ | ⟨b', cur, he, hb, hnc, hcm, hsz, htake⟩
  · cases h0
  cases he
  have hb0 : w.heap[b]? = some (.cells cur t (0, 0)) := hs.own _ _ (PH.le_or_left _ _ _ _ hb)
  have hlt := (Array.getElem?_eq_some_iff.1 hb0).1
  have hsize : (Sort.putRow f (Go.Sort.ahead w n) b 0 l'.toArray).heap.size = w.heap.size := by unfold Sort.putRow mapBlock Go.Sort.ahead; simp
  have hheap : ∀ i, i < w.heap.size → (grow (Sort.putRow f (Go.Sort.ahead w n) b 0 l'.toArray) os).heap[i]? = if b = i then (w.heap[i]?).map (onCells (putCells f 0 l'.toArray)) else w.heap[i]? := fun i hi => by
    rw [heap_grow _ _ _ (by rw [hsize]; exact hi), heap_putRow]; rfl
  refine h.upd (o := .cells (putCells f 0 l'.toArray cur) t (0, 0)) (b := b) (fun mm hm => ?_) ?_ (fun i hne o' ho => ?_) ⟨rfl, rfl, rfl, ?_, by unfold grow Sort.putRow mapBlock Go.Sort.ahead; exact Nat.le_add_right _ _⟩
  · rcases hm.2 with ⟨h0, _, _⟩ | ⟨b', cur', he, hb', _, _, _, _⟩
    · cases h0
    cases he
    refine ⟨by rw [hb']; rfl, by simp, .inr ⟨b, putCells f 0 l'.toArray cur, rfl, by simp, by omega, hcm, by rw [putCells_size]; exact hsz, ?_⟩⟩
    have := putCells_take f l'.toArray cur (by simp; omega)
    simpa using this
  · rw [hheap b hlt, if_pos rfl, hb0]; rfl
  · rw [hheap i (Array.getElem?_eq_some_iff.1 ho).1, if_neg (fun h => hne h.symm)]; exact ho
  · unfold grow; simp only [Array.size_append]; rw [hsize]; omega
theorem Vec.holds {f : α → Value} {b c : Nat} {l : List α} (h : St W I (Vec t 1 (some ⟨b, 0, none⟩) l.length c (l.map f) :: R) w) : Holds f w b 0 l.toArray ∧ b < w.heap.size := by
  obtain ⟨⟨m, ⟨m1, m2, hd, rfl, hv, h2⟩, hs⟩, hst⟩ := id h
  rcases hv.2 with ⟨h0, _, _⟩ | ⟨b', cur, he, hb, hnc, hcm, hsz, htake⟩
  · cases h0
  cases he
  have hb0 : w.heap[b]? = some (.cells cur t (0, 0)) := hs.own _ _ (PH.le_or_left _ _ _ _ hb)
  refine ⟨fun j hj => ?_, (Array.getElem?_eq_some_iff.1 hb0).1⟩
  have hj' : j < l.length := by simpa using hj
  rw [Nat.zero_add]
  refine ⟨?_, frozen_of_row w b j cur t hb0⟩
  rw [cell_of_row w b j cur t (0, 0) hb0, getElem!_pos l.toArray j hj]
  have h1 : (cur.toList.take (l.length * 1))[j]? = (l.map f)[j]? := by rw [htake]
  rw [List.getElem?_take, if_pos (by omega), Array.getElem?_toList, List.getElem?_map, List.getElem?_eq_getElem hj'] at h1
  rw [h1]; simp
end
end Go.Eng
/- Contracts of functions of the given program, and lemmas about plain lists and numbers: what the laws of this seat lean on. -/
namespace Go.Proofs.YtjnhoemgceghlaaGreat
def srt_ren : Go.Shelf.Ren := ⟨fun | 5 => 96 | 8 => 86 | 7 => 125 | 19 => 116 | 20 => 117 | 10 => 155 | 11 => 156 | 12 => 157 | 13 => 158 | 14 => 159 | 15 => 160 | 16 => 161 | 17 => 162 | 18 => 163 | 30 => 171 | 31 => 140 | 32 => 141 | 33 => 172 | 34 => 173 | 35 => 87 | 40 => 177 | n => n, fun | 23 => 25 | 25 => 3 | 3 => 3 | 32 => 104 | 22 => 25 | 0 => 0 | 44 => 129 | 46 => 131 | 4 => 4 | 36 => 154 | 35 => 153 | 41 => 158 | 5 => 5 | 9 => 9 | 53 => 178 | 57 => 182 | 63 => 204 | 64 => 191 | n => n, fun | n => n⟩
theorem srt : Go.Proofs.SlLaysM.n5 Tryz.prog srt_ren where
  mixed := by kernel_rfl
  f5 := ⟨ "slices.Sort[[]int,int]", by decide, Tryz.func96.trans (congrArg some (by kernel_rfl))⟩
  f7 := ⟨ "slices.pdqsortOrdered[int]", by decide, Tryz.func125.trans (congrArg some (by kernel_rfl))⟩
  f8 := Tryz.func86.trans (congrArg some (by kernel_rfl))
  f10 := ⟨ "slices.insertionSortOrdered[int]", by decide, Tryz.func155.trans (congrArg some (by kernel_rfl))⟩
  f11 := ⟨ "slices.heapSortOrdered[int]", by decide, Tryz.func156.trans (congrArg some (by kernel_rfl))⟩
  f12 := ⟨ "slices.breakPatternsOrdered[int]", by decide, Tryz.func157.trans (congrArg some (by kernel_rfl))⟩
  f13 := ⟨ "slices.choosePivotOrdered[int]", by decide, Tryz.func158.trans (congrArg some (by kernel_rfl))⟩
  f14 := ⟨ "slices.reverseRangeOrdered[int]", by decide, Tryz.func159.trans (congrArg some (by kernel_rfl))⟩
  f15 := ⟨ "slices.partialInsertionSortOrdered[int]", by decide, Tryz.func160.trans (congrArg some (by kernel_rfl))⟩
  f16 := ⟨ "cmp.Less[int]", by decide, Tryz.func161.trans (congrArg some (by kernel_rfl))⟩
  f17 := ⟨ "slices.partitionEqualOrdered[int]", by decide, Tryz.func162.trans (congrArg some (by kernel_rfl))⟩
  f18 := ⟨ "slices.partitionOrdered[int]", by decide, Tryz.func163.trans (congrArg some (by kernel_rfl))⟩
  f19 := Tryz.func116.trans (congrArg some (by kernel_rfl))
  f20 := Tryz.func117.trans (congrArg some (by kernel_rfl))
  f30 := ⟨ "slices.siftDownOrdered[int]", by decide, Tryz.func171.trans (congrArg some (by kernel_rfl))⟩
  f31 := Tryz.func140.trans (congrArg some (by kernel_rfl))
  f32 := Tryz.func141.trans (congrArg some (by kernel_rfl))
  f33 := ⟨ "slices.medianAdjacentOrdered[int]", by decide, Tryz.func172.trans (congrArg some (by kernel_rfl))⟩
  f34 := ⟨ "slices.medianOrdered[int]", by decide, Tryz.func173.trans (congrArg some (by kernel_rfl))⟩
  f35 := ⟨ "cmp.isNaN[int]", by decide, Tryz.func87.trans (congrArg some (by kernel_rfl))⟩
  f40 := ⟨ "slices.order2Ordered[int]", by decide, Tryz.func177.trans (congrArg some (by kernel_rfl))⟩
  t0 := Tryz.underlying0
  a0 := Tryz.isAgg0
  z0 := Tryz.sizeOf0
  v0 := Tryz.zeroValue0
  t3 := Tryz.underlying3
  a3 := Tryz.isAgg3
  z3 := Tryz.sizeOf3
  v3 := Tryz.zeroValue3
  t4 := Tryz.underlying4
  a4 := Tryz.isAgg4
  z4 := Tryz.sizeOf4
  v4 := Tryz.zeroValue4
  t5 := Tryz.underlying5
  a5 := Tryz.isAgg5
  z5 := Tryz.sizeOf5
  v5 := Tryz.zeroValue5
  t9 := Tryz.underlying9
  a9 := Tryz.isAgg9
  z9 := Tryz.sizeOf9
  v9 := Tryz.zeroValue9
  t22 := Tryz.underlying25
  a22 := Tryz.isAgg25
  z22 := Tryz.sizeOf25
  v22 := Tryz.zeroValue25
  t23 := Tryz.underlying25
  a23 := Tryz.isAgg25
  z23 := Tryz.sizeOf25
  v23 := Tryz.zeroValue25
  t25 := Tryz.underlying3
  a25 := Tryz.isAgg3
  z25 := Tryz.sizeOf3
  v25 := Tryz.zeroValue3
  t32 := Tryz.underlying104
  a32 := Tryz.isAgg104
  z32 := Tryz.sizeOf104
  v32 := Tryz.zeroValue104
  t35 := Tryz.underlying153
  a35 := Tryz.isAgg153
  z35 := Tryz.sizeOf153
  v35 := Tryz.zeroValue153
  t36 := Tryz.underlying154
  a36 := Tryz.isAgg154
  z36 := Tryz.sizeOf154
  v36 := Tryz.zeroValue154
  t41 := Tryz.underlying158
  a41 := Tryz.isAgg158
  z41 := Tryz.sizeOf158
  v41 := Tryz.zeroValue158
  t44 := Tryz.underlying129
  a44 := Tryz.isAgg129
  z44 := Tryz.sizeOf129
  v44 := Tryz.zeroValue129
  t46 := Tryz.underlying131
  a46 := Tryz.isAgg131
  z46 := Tryz.sizeOf131
  v46 := Tryz.zeroValue131
  t53 := Tryz.underlying178
  a53 := Tryz.isAgg178
  z53 := Tryz.sizeOf178
  v53 := Tryz.zeroValue178
  t57 := Tryz.underlying182
  a57 := Tryz.isAgg182
  z57 := Tryz.sizeOf182
  v57 := Tryz.zeroValue182
  t63 := Tryz.underlying204
  a63 := Tryz.isAgg204
  z63 := Tryz.sizeOf204
  v63 := Tryz.zeroValue204
  t64 := Tryz.underlying191
  a64 := Tryz.isAgg191
  z64 := Tryz.sizeOf191
  v64 := Tryz.zeroValue191
def cpt_ren : Go.Shelf.Ren := ⟨fun | 43 => 97 | n => n, fun | 22 => 25 | 23 => 3 | 3 => 3 | 4 => 4 | 0 => 0 | n => n, fun | n => n⟩
theorem cpt : Go.Proofs.SlLaysN.n43 Tryz.prog cpt_ren where
  mixed := by kernel_rfl
  f43 := ⟨ "slices.Compact[[]int,int]", by decide, Tryz.func97.trans (congrArg some (by kernel_rfl))⟩
  t0 := Tryz.underlying0
  a0 := Tryz.isAgg0
  z0 := Tryz.sizeOf0
  v0 := Tryz.zeroValue0
  t3 := Tryz.underlying3
  a3 := Tryz.isAgg3
  z3 := Tryz.sizeOf3
  v3 := Tryz.zeroValue3
  t4 := Tryz.underlying4
  a4 := Tryz.isAgg4
  z4 := Tryz.sizeOf4
  v4 := Tryz.zeroValue4
  t22 := Tryz.underlying25
  a22 := Tryz.isAgg25
  z22 := Tryz.sizeOf25
  v22 := Tryz.zeroValue25
  t23 := Tryz.underlying3
  a23 := Tryz.isAgg3
  z23 := Tryz.sizeOf3
  v23 := Tryz.zeroValue3
  i23 := by kernel_rfl
end Go.Proofs.YtjnhoemgceghlaaGreat
namespace Go.Proofs.YtjnhoemgceghlaaGreat
open Go.Eng
def srtL (l : List Int) : List Int := l.mergeSort fun x y => decide (x ≤ y)
theorem srtL_len (l : List Int) : (srtL l).length = l.length := List.length_mergeSort _
theorem vec_cases {I : PH} {R : List Res} {W w : World} {t : TypeId} {A : Option Addr} {c : Nat} {l : List Int} (h : St W I (Vec t 1 A l.length c (l.map (Value.int .i64)) :: R) w) : (A = none ∧ l = [] ∧ c = 0) ∨ ∃ b, A = some ⟨b, 0, none⟩ ∧ l.length ≤ c := by
  obtain ⟨⟨m, ⟨m1, m2, hd, rfl, hv, h2⟩, hs⟩, hst⟩ := h
  rcases hv.2 with ⟨rfl, h1, rfl⟩ | ⟨b, cur, rfl, _, h1, _⟩
  · exact .inl ⟨rfl, List.eq_nil_of_length_eq_zero h1, rfl⟩
  · exact .inr ⟨b, rfl, h1⟩
set_option maxHeartbeats 8000000 in
theorem Sort_spec (A : Option Addr) (c : Nat) (l : List Int) (I : PH) (hl : l.length < 4611686018427387904) :
    FnSpec Tryz.prog 96 [.slice A l.length c] I [Vec 3 1 A l.length c (l.map (Value.int .i64))] (fun v R' => v = .tuple #[] ∧ R' = [Vec 3 1 A (srtL l).length c ((srtL l).map (Value.int .i64))]) := by
  intro w F hw
  rcases vec_cases hw with ⟨rfl, rfl, rfl⟩ | ⟨b, rfl, hle⟩
  · refine (AnyM.slices_Sort_int_none srt none 0 w).mono fun e w' => ?_
    rintro ⟨rfl, rfl⟩
    refine ⟨_, _, rfl, ⟨rfl, rfl⟩, ?_⟩
    have : srtL [] = [] := List.eq_nil_of_length_eq_zero (srtL_len [])
    rw [this]
    exact hw
  · obtain ⟨h1, h2⟩ := Vec.holds hw
    refine (AnyM.slices_Sort_int srt b 0 c l w h1 h2 hl).mono fun e w' => ?_
    rintro ⟨rfl, n, os, rfl⟩
    exact ⟨_, _, rfl, ⟨rfl, rfl⟩, hw.putRow (srtL_len l) n os⟩
theorem vec_shrink {t : TypeId} {A : Option Addr} {c n : Nat} {l r : List Int} (hn : n = l.length + r.length) : ∀ m, Vec t 1 A n c ((l ++ r).map (Value.int .i64)) m → Vec t 1 A l.length c (l.map (Value.int .i64)) m := by
  rintro m ⟨h1, h2⟩
  refine ⟨by simp, ?_⟩
  rcases h2 with ⟨rfl, h0, rfl⟩ | ⟨b, cur, rfl, hb, hnc, hcm, hsz, htake⟩
  · exact .inl ⟨rfl, by omega, rfl⟩
  · refine .inr ⟨b, cur, rfl, hb, by omega, hcm, hsz, ?_⟩
    have : (cur.toList.take (n * 1)).take (l.length * 1) = ((l ++ r).map (Value.int .i64)).take (l.length * 1) := by rw [htake]
    rw [List.take_take, Nat.min_eq_left (by omega), List.map_append, List.take_append_of_le_length (by simp), List.take_of_length_le (l := List.map (Value.int .i64) l) (by simp)] at this
    exact this
theorem compact_len (l : List Int) : (Lib.compact l).length ≤ l.length := by
  unfold Lib.compact Lib.compactUpTo
  rw [List.length_map]
  exact Nat.le_trans (List.length_filter_le _ _) (by simp)
set_option maxHeartbeats 8000000 in
theorem Compact_spec (A : Option Addr) (c : Nat) (l : List Int) (I : PH) (hl : l.length ≤ 9223372036854775807) :
    FnSpec Tryz.prog 97 [.slice A l.length c] I [Vec 3 1 A l.length c (l.map (Value.int .i64))] (fun v R' => v = .slice A (Lib.compact l).length c ∧ R' = [Vec 3 1 A (Lib.compact l).length c ((Lib.compact l).map (Value.int .i64))]) := by
  intro w F hw
  rcases vec_cases hw with ⟨rfl, rfl, rfl⟩ | ⟨b, rfl, hle⟩
  · refine (AnyG.slices_Compact_int_empty cpt none 0 w).mono fun e w' => ?_
    rintro ⟨rfl, rfl⟩
    exact ⟨_, _, rfl, ⟨rfl, rfl⟩, hw⟩
  · obtain ⟨h1, h2⟩ := Vec.holds hw
    refine (AnyG.slices_Compact_int cpt b 0 c l w h1 hl hle).mono fun e w' => ?_
    rintro ⟨rfl, q, rfl⟩
    refine ⟨_, _, rfl, ⟨rfl, rfl⟩, ?_⟩
    have hcl := compact_len l
    have hlen : (Lib.compact l ++ List.replicate (l.length - (Lib.compact l).length) (0 : Int)).length = l.length := by rw [List.length_append, List.length_replicate]; omega
    have h3 := hw.putRow hlen q #[]
    have h4 : Sort.grow (Sort.putRow (Value.int .i64) (Sort.ahead w q) b 0 (Lib.compact l ++ List.replicate (l.length - (Lib.compact l).length) 0).toArray) #[] = Sort.putRow (Value.int .i64) (Sort.ahead w q) b 0 (Lib.compact l ++ List.replicate (l.length - (Lib.compact l).length) 0).toArray := by unfold Sort.grow; simp; rfl
    rw [← h4]
    exact h3.ent (Ent.head (vec_shrink (by rw [List.length_replicate]; omega)))
/-! Sets as ascending lists -/
structure IsSet (r : List Int) (p : Int → Prop) : Prop where
  asc : r.Pairwise (· < ·)
  mem : ∀ x, x ∈ r ↔ p x
theorem asc_ext : ∀ {a b : List Int}, a.Pairwise (· < ·) → b.Pairwise (· < ·) → (∀ x, x ∈ a ↔ x ∈ b) → a = b
  | [], [], _, _, _ => rfl
  | [], y :: s, _, _, h => by have := (h y).2 (by simp); cases this
  | x :: r, [], _, _, h => by have := (h x).1 (by simp); cases this
  | x :: r, y :: s, ha, hb, h => by
    rw [List.pairwise_cons] at ha hb
    have h1 : x = y := by
      have h2 := (h x).1 (by simp)
      have h3 := (h y).2 (by simp)
      rcases List.mem_cons.1 h2 with rfl | h2
      · rfl
      · rcases List.mem_cons.1 h3 with h3 | h3
        · exact h3.symm
        · have := ha.1 y h3; have := hb.1 x h2; omega
    subst h1
    rw [asc_ext ha.2 hb.2 (fun z => ?_)]
    have hz := h z
    simp only [List.mem_cons] at hz
    constructor
    · intro h4
      rcases hz.1 (.inr h4) with h5 | h5
      · have := ha.1 z h4; omega
      · exact h5
    · intro h4
      rcases hz.2 (.inr h4) with h5 | h5
      · have := hb.1 z h4; omega
      · exact h5
theorem IsSet.same {a b : List Int} {p q : Int → Prop} (ha : IsSet a p) (hb : IsSet b q) (h : ∀ x, p x ↔ q x) : a = b := asc_ext ha.asc hb.asc fun x => by rw [ha.mem, hb.mem, h]
theorem get_bang (l : List Int) (m : Nat) : l.toArray[m]! = l.getD m default := by
  by_cases h : m < l.length
  · rw [getElem!_pos l.toArray m (by simpa using h), List.getD_eq_getElem?_getD, List.getElem?_eq_getElem h]; simp
  · rw [getElem!_neg l.toArray m (by simpa using h), List.getD_eq_getElem?_getD, List.getElem?_eq_none (by omega)]; rfl
theorem getD_memI {l : List Int} {k : Nat} (h : k < l.length) : l.getD k default ∈ l := by
  rw [List.getD_eq_getElem?_getD, List.getElem?_eq_getElem h]; exact List.getElem_mem _
theorem mem_getDI {l : List Int} {x : Int} (h : x ∈ l) : ∃ k, k < l.length ∧ l.getD k default = x := by
  obtain ⟨k, hk, he⟩ := List.mem_iff_getElem.1 h
  exact ⟨k, hk, by rw [List.getD_eq_getElem?_getD, List.getElem?_eq_getElem hk]; exact he⟩
theorem sorted_at {l : List Int} (h : l.Pairwise (· ≤ ·)) {i j : Nat} (hij : i ≤ j) (hj : j < l.length) : l.getD i default ≤ l.getD j default := by
  rw [List.getD_eq_getElem?_getD, List.getD_eq_getElem?_getD, List.getElem?_eq_getElem (by omega), List.getElem?_eq_getElem hj]
  show l[i] ≤ l[j]
  rcases Nat.lt_or_ge i j with h1 | h1
  · exact (List.pairwise_iff_getElem.1 h) i j (by omega) hj h1
  · obtain rfl : i = j := by omega
    exact Int.le_refl _
theorem compactUpTo_set {l : List Int} (h : l.Pairwise (· ≤ ·)) : ∀ m, m ≤ l.length → (Lib.compactUpTo l.toArray m).Pairwise (· < ·) ∧ ∀ x, x ∈ Lib.compactUpTo l.toArray m ↔ ∃ j, j < m ∧ l.getD j default = x
  | 0, _ => ⟨by simp [Lib.compactUpTo], fun x => by simp [Lib.compactUpTo]⟩
  | m + 1, hm => by
    obtain ⟨h1, h2⟩ := compactUpTo_set h m (by omega)
    rw [Lib.compactUpTo_succ]
    by_cases hk : Lib.keeps l.toArray m = true
    · rw [if_pos hk, get_bang]
      have hlt : ∀ x ∈ Lib.compactUpTo l.toArray m, x < l.getD m default := fun x hx => by
        obtain ⟨j, hj, rfl⟩ := (h2 x).1 hx
        have hs := sorted_at h (i := j) (j := m - 1) (by omega) (by omega)
        have hs2 := sorted_at h (i := m - 1) (j := m) (by omega) (by omega)
        unfold Lib.keeps at hk
        rw [get_bang, get_bang] at hk
        simp at hk
        rcases hk with hk | hk
        · omega
        · have : l.getD m default ≠ l.getD (m - 1) default := by simpa [List.getD_eq_getElem?_getD] using hk
          omega
      refine ⟨List.pairwise_append.2 ⟨h1, by simp, fun a ha b hb => by simp at hb; rw [List.getD_eq_getElem?_getD] at hlt; subst hb; exact hlt a ha⟩, fun x => ?_⟩
      rw [List.mem_append, h2, List.mem_singleton]
      constructor
      · rintro (⟨j, hj, he⟩ | he)
        · exact ⟨j, by omega, he⟩
        · exact ⟨m, by omega, he.symm⟩
      · rintro ⟨j, hj, he⟩
        by_cases hjm : j = m
        · subst hjm; exact .inr he.symm
        · exact .inl ⟨j, by omega, he⟩
    · rw [if_neg hk, List.append_nil]
      refine ⟨h1, fun x => ?_⟩
      rw [h2]
      have hm0 : 0 < m := by
        rcases Nat.eq_zero_or_pos m with h0 | h0
        · subst h0; exact absurd (Lib.keeps_lt_one l.toArray 0 (by omega)) hk
        · exact h0
      have heq : l.getD m default = l.getD (m - 1) default := Decidable.byContradiction fun hne => hk (Lib.keeps_pos (by rw [get_bang, get_bang]; exact hne))
      constructor
      · rintro ⟨j, hj, he⟩; exact ⟨j, by omega, he⟩
      · rintro ⟨j, hj, he⟩
        by_cases hjm : j = m
        · subst hjm; exact ⟨j - 1, by omega, by rw [← he, heq]⟩
        · exact ⟨j, by omega, he⟩
theorem compact_set {l : List Int} (h : l.Pairwise (· ≤ ·)) : IsSet (Lib.compact l) (· ∈ l) := by
  obtain ⟨h1, h2⟩ := compactUpTo_set h l.length (Nat.le_refl _)
  refine ⟨h1, fun x => (h2 x).trans ⟨fun ⟨j, hj, he⟩ => he ▸ getD_memI hj, fun hx => ?_⟩⟩
  obtain ⟨k, hk, he⟩ := mem_getDI hx
  exact ⟨k, hk, he⟩
theorem srtL_sorted (l : List Int) : (srtL l).Pairwise (· ≤ ·) := by
  have := List.pairwise_mergeSort (le := fun x y : Int => decide (x ≤ y)) (fun a b c h1 h2 => by simp at *; omega) (fun a b => by simp; omega) l
  exact this.imp fun h => by simpa using h
theorem srtL_mem (l : List Int) (x : Int) : x ∈ srtL l ↔ x ∈ l := List.mem_mergeSort
theorem set_of (l : List Int) : IsSet (Lib.compact (srtL l)) (· ∈ l) := by
  have := compact_set (srtL_sorted l)
  exact ⟨this.asc, fun x => (this.mem x).trans (srtL_mem l x)⟩
end Go.Proofs.YtjnhoemgceghlaaGreat
