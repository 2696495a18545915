/-
  Solutions of equations in whole numbers that are not negative: all of them, in order, found cell by cell. Plain Lean, with no program in sight.
-/
import Derived.Laws.Bits64
import Derived.Laws.Bits64b
import Derived.Laws.Externs
import Derived.Shelf.Spec.BitsCarry
import Derived.Sort.Grow
import Derived.Lib.AppendIntMem
import Derived.Lib.ItoaLen
import Derived.Laws.Concat
import Derived.Laws.Strings
import Derived.Laws.StructEq
import Derived.Laws.Small
import Derived.MapKept
import Derived.Lib.AppendStr
import Derived.Laws.IdiomStrings
import Derived.Laws.Strings2
import Derived.Laws.Cover1
import Derived.Scope
import Derived.Recover
import Derived.WalkSmall
import Derived.Test.YtjnhoemgceghlaaGreatTs2
namespace Go.Sol
/-- An equation: its cells, and their sum. -/
abbrev Eqn := List Nat × Int
def sumC (t : List Int) : List Nat → Int
  | [] => 0
  | c :: cs => t.getD c 0 + sumC t cs
theorem sumC_congr {s t : List Int} : ∀ {cs : List Nat}, (∀ c ∈ cs, s.getD c 0 = t.getD c 0) → sumC s cs = sumC t cs
  | [], _ => rfl
  | c :: cs, h => by rw [sumC, sumC, h c (by simp), sumC_congr fun x hx => h x (by simp [hx])]
theorem getD_setI {t : List Int} {c d : Nat} {v : Int} (hc : c < t.length) : (t.set c v).getD d 0 = if d = c then v else t.getD d 0 := by
  rw [List.getD_eq_getElem?_getD, List.getElem?_set]
  by_cases h : c = d
  · rw [if_pos h, if_pos h.symm, if_pos hc]; rfl
  · rw [if_neg h, if_neg (Ne.symm h), ← List.getD_eq_getElem?_getD]
theorem sumC_set {t : List Int} {c : Nat} {v : Int} (hc : c < t.length) : ∀ {cs : List Nat}, cs.Nodup → sumC (t.set c v) cs = sumC t cs + if c ∈ cs then v - t.getD c 0 else 0
  | [], _ => by simp [sumC]
  | d :: cs, hn => by
    obtain ⟨h1, h2⟩ := List.nodup_cons.1 hn
    rw [sumC, sumC, sumC_set hc h2, getD_setI hc]
    by_cases hd : d = c
    · subst hd
      rw [if_pos rfl, if_neg h1, if_pos (by simp)]; omega
    · rw [if_neg hd]
      by_cases hm : c ∈ cs
      · rw [if_pos hm, if_pos (by simp [hm])]; omega
      · rw [if_neg hm, if_neg (by simp [hm, Ne.symm hd])]; omega
/-- What is left of an equation's value. -/
def restQ (t : List Int) (q : Eqn) : Int := q.2 - sumC t q.1
/-- How many of its cells are still to be found. -/
def openQ (U : List Nat) (q : Eqn) : Nat := (q.1.filter fun c => decide (c ∈ U)).length
def lowF (t : List Int) (U : List Nat) (c : Nat) : List Eqn → Int
  | [] => 0
  | q :: l => if c ∈ q.1 ∧ openQ U q = 1 then max (restQ t q) (lowF t U c l) else lowF t U c l
def highF (M : Int) (t : List Int) (c : Nat) : List Eqn → Int
  | [] => M
  | q :: l => if c ∈ q.1 then min (restQ t q) (highF M t c l) else highF M t c l
theorem lowF_le {t : List Int} {U : List Nat} {c : Nat} {v : Int} : ∀ {l : List Eqn}, lowF t U c l ≤ v ↔ 0 ≤ v ∧ ∀ q ∈ l, c ∈ q.1 → openQ U q = 1 → restQ t q ≤ v
  | [] => by simp [lowF]
  | q :: l => by
    unfold lowF
    by_cases h : c ∈ q.1 ∧ openQ U q = 1
    · rw [if_pos h, Int.max_le, lowF_le]
      constructor
      · rintro ⟨h1, h2, h3⟩
        refine ⟨h2, fun p hp => ?_⟩
        rcases List.mem_cons.1 hp with rfl | hp
        · exact fun _ _ => h1
        · exact h3 p hp
      · rintro ⟨h1, h2⟩
        exact ⟨h2 q (by simp) h.1 h.2, h1, fun p hp => h2 p (by simp [hp])⟩
    · rw [if_neg h, lowF_le]
      constructor
      · rintro ⟨h2, h3⟩
        refine ⟨h2, fun p hp => ?_⟩
        rcases List.mem_cons.1 hp with rfl | hp
        · exact fun a b => absurd ⟨a, b⟩ h
        · exact h3 p hp
      · rintro ⟨h1, h2⟩
        exact ⟨h1, fun p hp => h2 p (by simp [hp])⟩
theorem le_highF {M : Int} {t : List Int} {c : Nat} {v : Int} : ∀ {l : List Eqn}, v ≤ highF M t c l ↔ v ≤ M ∧ ∀ q ∈ l, c ∈ q.1 → v ≤ restQ t q
  | [] => by simp [highF]
  | q :: l => by
    unfold highF
    by_cases h : c ∈ q.1
    · rw [if_pos h, Int.le_min, le_highF]
      constructor
      · rintro ⟨h1, h2, h3⟩
        refine ⟨h2, fun p hp => ?_⟩
        rcases List.mem_cons.1 hp with rfl | hp
        · exact fun _ => h1
        · exact h3 p hp
      · rintro ⟨h1, h2⟩
        exact ⟨h2 q (by simp) h, h1, fun p hp => h2 p (by simp [hp])⟩
    · rw [if_neg h, le_highF]
      constructor
      · rintro ⟨h2, h3⟩
        refine ⟨h2, fun p hp => ?_⟩
        rcases List.mem_cons.1 hp with rfl | hp
        · exact fun a => absurd a h
        · exact h3 p hp
      · rintro ⟨h1, h2⟩
        exact ⟨h1, fun p hp => h2 p (by simp [hp])⟩
/-- All ways to go on, cell by cell; the first cell goes downward if 'down'. -/
def enum (M : Int) (l : List Eqn) : Bool → List Nat → List Int → List (List Int)
  | _, [], t => [t]
  | down, c :: U, t => (List.range (highF M t c l - lowF t (c :: U) c l + 1).toNat).flatMap fun (k : Nat) => enum M l false U (t.set c (if down then highF M t c l - (k : Int) else lowF t (c :: U) c l + (k : Int)))
/-- What holds while cells are found one by one. -/
structure Inv (n : Nat) (l : List Eqn) (U : List Nat) (t : List Int) : Prop where
  len : t.length = n
  nd : U.Nodup
  lt : ∀ c ∈ U, c < n
  zero : ∀ c ∈ U, t.getD c 0 = 0
  pos : ∀ q ∈ l, 0 ≤ restQ t q
  done : ∀ q ∈ l, openQ U q = 0 → restQ t q = 0
/-- Equations whose cells stand once each. -/
def Once (l : List Eqn) : Prop := ∀ q ∈ l, q.1.Nodup
theorem openQ_cons {c : Nat} {U : List Nat} {q : Eqn} (hn : q.1.Nodup) (hc : c ∉ U) : openQ (c :: U) q = openQ U q + if c ∈ q.1 then 1 else 0 := by
  unfold openQ
  obtain ⟨cs, v⟩ := q
  dsimp only at *
  induction cs with
  | nil => rfl
  | cons d cs ih =>
    obtain ⟨h1, h2⟩ := List.nodup_cons.1 hn
    have ih := ih h2
    by_cases hd : d = c
    · subst hd
      rw [List.filter_cons_of_pos (by simp), List.filter_cons_of_neg (by simp [hc]), List.length_cons, ih, if_neg h1, if_pos (by simp)]
    · have hmem : (d ∈ c :: U) ↔ d ∈ U := by simp [hd]
      have e1 : (c ∈ d :: cs) ↔ c ∈ cs := by simp [Ne.symm hd]
      by_cases hdU : d ∈ U
      · rw [List.filter_cons_of_pos (by simp [hdU]), List.filter_cons_of_pos (by simp [hdU]), List.length_cons, List.length_cons, ih]
        by_cases hcs : c ∈ cs
        · rw [if_pos hcs, if_pos (e1.2 hcs)]
        · rw [if_neg hcs, if_neg fun h => hcs (e1.1 h)]
      · rw [List.filter_cons_of_neg (by simp [hdU, hd]), List.filter_cons_of_neg (by simp [hdU]), ih]
        by_cases hcs : c ∈ cs
        · rw [if_pos hcs, if_pos (e1.2 hcs)]
        · rw [if_neg hcs, if_neg fun h => hcs (e1.1 h)]
theorem restQ_set {t : List Int} {c : Nat} {v : Int} {q : Eqn} (hc : c < t.length) (hn : q.1.Nodup) (h0 : t.getD c 0 = 0) : restQ (t.set c v) q = restQ t q - if c ∈ q.1 then v else 0 := by
  unfold restQ
  rw [sumC_set hc hn, h0]
  split <;> omega
theorem Inv.step {n : Nat} {l : List Eqn} {c : Nat} {U : List Nat} {t : List Int} {M v : Int} (ho : Once l) (h : Inv n l (c :: U) t) (h1 : lowF t (c :: U) c l ≤ v) (h2 : v ≤ highF M t c l) : Inv n l U (t.set c v) := by
  obtain ⟨hn1, hn2⟩ := List.nodup_cons.1 h.nd
  have hcn := h.lt c (by simp)
  have hlen := h.len
  have h0 := h.zero c (by simp)
  obtain ⟨hv, hlow⟩ := lowF_le.1 h1
  obtain ⟨_, hhigh⟩ := le_highF.1 h2
  refine ⟨by rw [List.length_set]; exact hlen, hn2, fun d hd => h.lt d (by simp [hd]), fun d hd => ?_, fun q hq => ?_, fun q hq hop => ?_⟩
  · rw [getD_setI (by omega), if_neg (fun e => hn1 (by rw [← e]; exact hd))]
    exact h.zero d (by simp [hd])
  · rw [restQ_set (by omega) (ho q hq) h0]
    have := h.pos q hq
    by_cases hc : c ∈ q.1
    · rw [if_pos hc]; have := hhigh q hq hc; omega
    · rw [if_neg hc]; omega
  · have hoc := openQ_cons (q := q) (ho q hq) hn1
    rw [restQ_set (by omega) (ho q hq) h0]
    by_cases hc : c ∈ q.1
    · rw [if_pos hc] at hoc ⊢
      have e1 := hlow q hq hc (by omega)
      have e2 := hhigh q hq hc
      omega
    · rw [if_neg hc] at hoc ⊢
      have := h.done q hq (by omega)
      omega
theorem sumC_split {s t : List Int} {U : List Nat} : ∀ {cs : List Nat}, (∀ c ∈ cs, c ∉ U → s.getD c 0 = t.getD c 0) → (∀ c ∈ cs, c ∈ U → t.getD c 0 = 0) → sumC s cs = sumC t cs + sumC s (cs.filter fun c => decide (c ∈ U))
  | [], _, _ => rfl
  | c :: cs, h1, h2 => by
    have ih := sumC_split (s := s) (t := t) (U := U) (cs := cs) (fun d hd => h1 d (by simp [hd])) (fun d hd => h2 d (by simp [hd]))
    rw [sumC, sumC, ih]
    by_cases hc : c ∈ U
    · rw [List.filter_cons_of_pos (by simp [hc]), sumC, h2 c (by simp) hc]; omega
    · rw [List.filter_cons_of_neg (by simp [hc]), h1 c (by simp) hc]; omega
theorem sumC_nonneg {s : List Int} : ∀ {cs : List Nat}, (∀ c ∈ cs, 0 ≤ s.getD c 0) → 0 ≤ sumC s cs
  | [], _ => Int.le_refl _
  | c :: cs, h => by have := h c (by simp); have := sumC_nonneg (cs := cs) fun d hd => h d (by simp [hd]); rw [sumC]; omega
theorem le_sumC {s : List Int} {c : Nat} : ∀ {cs : List Nat}, (∀ d ∈ cs, 0 ≤ s.getD d 0) → c ∈ cs → s.getD c 0 ≤ sumC s cs
  | d :: cs, h, hc => by
    have h1 := sumC_nonneg (cs := cs) fun e he => h e (by simp [he])
    have h2 := h d (by simp)
    rw [sumC]
    rcases List.mem_cons.1 hc with rfl | hc
    · omega
    · have := le_sumC (fun e he => h e (by simp [he])) hc; omega
/-- What is found, in words. -/
structure Goes (n : Nat) (M : Int) (l : List Eqn) (U : List Nat) (t s : List Int) : Prop where
  len : s.length = n
  same : ∀ c, c ∉ U → s.getD c 0 = t.getD c 0
  pos : ∀ c ∈ U, 0 ≤ s.getD c 0 ∧ s.getD c 0 ≤ M
  sum : ∀ q ∈ l, sumC s q.1 = q.2
theorem ext_len {s t : List Int} (hl : s.length = t.length) (h : ∀ c, s.getD c 0 = t.getD c 0) : s = t := by
  refine List.ext_getElem hl fun i h1 h2 => ?_
  have := h i
  rw [List.getD_eq_getElem?_getD, List.getD_eq_getElem?_getD, List.getElem?_eq_getElem h1, List.getElem?_eq_getElem h2] at this
  exact this
theorem Goes.step {n : Nat} {M : Int} {l : List Eqn} {c : Nat} {U : List Nat} {t s : List Int} (hinv : Inv n l (c :: U) t) (h : Goes n M l (c :: U) t s) : Goes n M l U (t.set c (s.getD c 0)) s := by
  have hcn := hinv.lt c (by simp)
  have hlen := hinv.len
  refine ⟨h.len, fun d hd => ?_, fun d hd => h.pos d (by simp [hd]), h.sum⟩
  rw [getD_setI (by omega)]
  by_cases hdc : d = c
  · rw [if_pos hdc, hdc]
  · rw [if_neg hdc]; exact h.same d (by simp [hd, hdc])
theorem Goes.back {n : Nat} {M : Int} {l : List Eqn} {c : Nat} {U : List Nat} {t s : List Int} {v : Int} (hinv : Inv n l (c :: U) t) (h : Goes n M l U (t.set c v) s) (h0 : 0 ≤ v) (hM : v ≤ M) : Goes n M l (c :: U) t s ∧ s.getD c 0 = v := by
  have hcn := hinv.lt c (by simp)
  have hlen := hinv.len
  obtain ⟨hn1, _⟩ := List.nodup_cons.1 hinv.nd
  have hcv : s.getD c 0 = v := by rw [h.same c hn1, getD_setI (by omega), if_pos rfl]
  refine ⟨⟨h.len, fun d hd => ?_, fun d hd => ?_, h.sum⟩, hcv⟩
  · have hd' : d ≠ c ∧ d ∉ U := by simpa using hd
    rw [h.same d hd'.2, getD_setI (by omega), if_neg hd'.1]
  · rcases List.mem_cons.1 hd with rfl | hd
    · rw [hcv]; exact ⟨h0, hM⟩
    · exact h.pos d hd
/-- Between which numbers the next cell lies. -/
theorem Goes.span {n : Nat} {M : Int} {l : List Eqn} {c : Nat} {U : List Nat} {t s : List Int} (hinv : Inv n l (c :: U) t) (h : Goes n M l (c :: U) t s) : lowF t (c :: U) c l ≤ s.getD c 0 ∧ s.getD c 0 ≤ highF M t c l := by
  have hp := h.pos c (by simp)
  have hrest : ∀ q ∈ l, restQ t q = sumC s (q.1.filter fun d => decide (d ∈ c :: U)) := fun q hq => by
    have h1 := sumC_split (s := s) (t := t) (U := c :: U) (cs := q.1) (fun d _ hd => h.same d hd) (fun d _ hd => hinv.zero d hd)
    have h2 := h.sum q hq
    unfold restQ
    omega
  have hnn : ∀ q : Eqn, ∀ d ∈ q.1.filter (fun d => decide (d ∈ c :: U)), 0 ≤ s.getD d 0 := fun q d hd => (h.pos d (by have := (List.mem_filter.1 hd).2; exact of_decide_eq_true this)).1
  constructor
  · rw [lowF_le]
    refine ⟨hp.1, fun q hq hc hop => ?_⟩
    rw [hrest q hq]
    have hmem : c ∈ q.1.filter (fun d => decide (d ∈ c :: U)) := List.mem_filter.2 ⟨hc, by simp⟩
    unfold openQ at hop
    generalize q.1.filter (fun d => decide (d ∈ c :: U)) = f at hop hmem
    match f, hop, hmem with
    | [x], _, hm =>
      rw [List.mem_singleton.1 hm]
      simp [sumC]
  · rw [le_highF]
    refine ⟨hp.2, fun q hq hc => ?_⟩
    rw [hrest q hq]
    exact le_sumC (hnn q) (List.mem_filter.2 ⟨hc, by simp⟩)
theorem mem_enum {n : Nat} {M : Int} {l : List Eqn} (ho : Once l) : ∀ {U : List Nat} {down : Bool} {t s : List Int}, Inv n l U t → (s ∈ enum M l down U t ↔ Goes n M l U t s)
  | [], down, t, s, h => by
    unfold enum
    rw [List.mem_singleton]
    constructor
    · rintro rfl
      exact ⟨h.len, fun _ _ => rfl, fun c hc => absurd hc List.not_mem_nil, fun q hq => by
        have := h.done q hq (by unfold openQ; simp)
        unfold restQ at this
        omega⟩
    · intro hg
      exact ext_len (by rw [hg.len, h.len]) fun c => hg.same c List.not_mem_nil
  | c :: U, down, t, s, h => by
    unfold enum
    rw [List.mem_flatMap]
    constructor
    · rintro ⟨k, hk, hs⟩
      have hk := List.mem_range.1 hk
      have hv : lowF t (c :: U) c l ≤ (if down then highF M t c l - (k : Int) else lowF t (c :: U) c l + (k : Int)) ∧ (if down then highF M t c l - (k : Int) else lowF t (c :: U) c l + (k : Int)) ≤ highF M t c l := by split <;> omega
      have hg := (mem_enum ho (h.step ho hv.1 hv.2)).1 hs
      exact (Goes.back h hg (lowF_le.1 hv.1).1 (le_highF.1 hv.2).1).1
    · intro hg
      obtain ⟨h1, h2⟩ := Goes.span h hg
      have hk : ∃ k : Nat, (k : Int) ≤ highF M t c l - lowF t (c :: U) c l ∧ (if down then highF M t c l - (k : Int) else lowF t (c :: U) c l + (k : Int)) = s.getD c 0 := by
        by_cases hd : down = true
        · refine ⟨(highF M t c l - s.getD c 0).toNat, by omega, ?_⟩
          rw [if_pos hd]; omega
        · refine ⟨(s.getD c 0 - lowF t (c :: U) c l).toNat, by omega, ?_⟩
          rw [if_neg hd]; omega
      obtain ⟨k, hk1, hk2⟩ := hk
      refine ⟨k, List.mem_range.2 (by omega), ?_⟩
      rw [hk2]
      exact (mem_enum ho (h.step ho h1 h2)).2 (hg.step h)
/-- The order in which they are found. -/
def ltU : Bool → List Nat → List Int → List Int → Prop
  | _, [], _, _ => False
  | down, c :: U, a, b => (if down then b.getD c 0 < a.getD c 0 else a.getD c 0 < b.getD c 0) ∨ (a.getD c 0 = b.getD c 0 ∧ ltU false U a b)
theorem pairwise_flatMap {α β : Type} {r : β → β → Prop} {f : α → List β} : ∀ {l : List α}, (∀ x ∈ l, (f x).Pairwise r) → l.Pairwise (fun x y => ∀ a ∈ f x, ∀ b ∈ f y, r a b) → (l.flatMap f).Pairwise r
  | [], _, _ => List.Pairwise.nil
  | x :: l, h1, h2 => by
    rw [List.flatMap_cons, List.pairwise_append]
    obtain ⟨h3, h4⟩ := List.pairwise_cons.1 h2
    refine ⟨h1 x (by simp), pairwise_flatMap (fun y hy => h1 y (by simp [hy])) h4, fun a ha b hb => ?_⟩
    obtain ⟨y, hy, hb⟩ := List.mem_flatMap.1 hb
    exact h3 y hy a ha b hb
theorem enum_sorted {n : Nat} {M : Int} {l : List Eqn} (ho : Once l) : ∀ {U : List Nat} {down : Bool} {t : List Int}, Inv n l U t → (enum M l down U t).Pairwise (ltU down U)
  | [], down, t, _ => by unfold enum; exact List.pairwise_singleton _ _
  | c :: U, down, t, h => by
    unfold enum
    have hat : ∀ k : Nat, k < (highF M t c l - lowF t (c :: U) c l + 1).toNat → ∀ a ∈ enum M l false U (t.set c (if down then highF M t c l - (k : Int) else lowF t (c :: U) c l + (k : Int))), a.getD c 0 = if down then highF M t c l - (k : Int) else lowF t (c :: U) c l + (k : Int) := fun k hk a ha => by
      have hv : lowF t (c :: U) c l ≤ (if down then highF M t c l - (k : Int) else lowF t (c :: U) c l + (k : Int)) ∧ (if down then highF M t c l - (k : Int) else lowF t (c :: U) c l + (k : Int)) ≤ highF M t c l := by split <;> omega
      exact (Goes.back h ((mem_enum ho (h.step ho hv.1 hv.2)).1 ha) (lowF_le.1 hv.1).1 (le_highF.1 hv.2).1).2
    refine pairwise_flatMap (fun k hk => ?_) ?_
    · have hk := List.mem_range.1 hk
      have hv : lowF t (c :: U) c l ≤ (if down then highF M t c l - (k : Int) else lowF t (c :: U) c l + (k : Int)) ∧ (if down then highF M t c l - (k : Int) else lowF t (c :: U) c l + (k : Int)) ≤ highF M t c l := by split <;> omega
      refine (enum_sorted ho (h.step ho hv.1 hv.2)).imp_of_mem fun {a b} ha hb hab => ?_
      exact Or.inr ⟨by rw [hat k hk a ha, hat k hk b hb], hab⟩
    · refine (List.pairwise_lt_range (n := _)).imp_of_mem fun {x y} hx hy hxy a ha b hb => ?_
      have hx := List.mem_range.1 hx
      have hy := List.mem_range.1 hy
      left
      rw [hat x hx a ha, hat y hy b hb]
      by_cases hd : down = true
      · rw [if_pos hd, if_pos hd, if_pos hd]; omega
      · rw [if_neg hd, if_neg hd, if_neg hd]; omega
/-! Going on until someone has enough -/
def foldStop {σ α : Type} (f : σ → α → σ × Bool) : σ → List α → σ × Bool
  | s, [] => (s, true)
  | s, x :: l => if (f s x).2 then foldStop f (f s x).1 l else ((f s x).1, false)
theorem foldStop_append {σ α : Type} (f : σ → α → σ × Bool) : ∀ (s : σ) (x y : List α), foldStop f s (x ++ y) = if (foldStop f s x).2 then foldStop f (foldStop f s x).1 y else foldStop f s x
  | s, [], y => by simp [foldStop]
  | s, a :: x, y => by
    rw [List.cons_append, foldStop, foldStop]
    by_cases h : (f s a).2 = true
    · rw [if_pos h, if_pos h]; exact foldStop_append f _ x y
    · rw [if_neg h, if_neg h, if_neg (by simp)]
end Go.Sol
/-
  The proof engine, part F: memory that nobody writes any more; lists of lists.
-/
namespace Go.Eng
section
variable {C : Cx} {e e' : Env} {I I' : PH} {R R' : List Res} {K K' : Act → World → Prop} {Q : Exit → Act → World → Prop} {W : World}
theorem St.imm_le {w : World} (hle : PH.le I I') (h : St W I' R w) : St W I R w := by
  obtain ⟨⟨m, hm, hs⟩, hst⟩ := h
  exact ⟨⟨m, hm, ⟨fun i o hi => hs.imm i o (hle i o hi), hs.own, dis_sub hs.dis hle (PH.le_refl _)⟩⟩, hst⟩
/-- What was given up need not be told further on. -/
theorem Nx.imm_le (hle : PH.le I I') (h : Nx C e I R K) : Nx C e I' R K := fun a w ha hw => h a w ha (hw.imm_le hle)
theorem Stars.get : ∀ {R : List Res} {m : PH} (k : Nat) {r : Res}, Stars R m → nthL R k = some r → ∃ m', PH.le m' m ∧ r m'
  | [], _, k, r, _, hk => by cases k <;> simp [nthL] at hk
  | r0 :: R, m, 0, r, h, hk => by
    obtain ⟨m1, m2, hd, rfl, h1, _⟩ := h
    simp [nthL] at hk
    subst hk
    exact ⟨m1, PH.le_or_left _ _, h1⟩
  | r0 :: R, m, k + 1, r, h, hk => by
    obtain ⟨m1, m2, hd, rfl, _, h2⟩ := h
    obtain ⟨m', hle, hr⟩ := Stars.get k h2 hk
    exact ⟨m', hle.trans (PH.le_or_right hd), hr⟩
/-- Resource number k is given up for good: from here on nobody writes it. -/
theorem Nx.freezeAt (k : Nat) {r : Res} (hk : nthL R k = some r) (h : ∀ I' m, PH.le I I' → PH.le m I' → r m → Nx C e I' (R.eraseIdx k) K) : Nx C e I R K :=
  Nx.freeze (B := [r]) (R' := R.eraseIdx k) (Ent.pull k R r (nthL_eq.symm.trans hk)) (fun m hd hB => by
    obtain ⟨m1, m2, hd', rfl, hr, _⟩ := hB
    exact h _ m1 (PH.le_or_left _ _) ((PH.le_or_left m1 m2).trans (PH.le_or_right hd)) hr)
/-- Two of them. -/
theorem Nx.unfoldAt (k : Nat) {B : List Res} (hk : nthL R k = some (Stars B)) (h : Nx C e I (B ++ R.eraseIdx k) K) : Nx C e I R K := by
  refine Nx.ent (Ent.pull k R _ (nthL_eq.symm.trans hk)) (Nx.ent ?_ h)
  rintro m ⟨m1, m2, hd, rfl, h1, h2⟩
  obtain ⟨k, hk, hkS⟩ := Stars.join hd h1 h2
  exact ⟨k, hk, hkS⟩
/-- One more resource goes into a bundle: r and the bundle are the two that come first. -/
theorem Ent.bundle {r : Res} {B : List Res} {R : List Res} : Ent (r :: Stars B :: R) (Stars (B ++ [r]) :: R) := by
  refine (Ent.swap _ _ _).trans ?_
  rintro m ⟨m1, m2, hd, rfl, h1, n1, n2, hd', rfl, h2, h3⟩
  obtain ⟨d1, d2⟩ := PH.dis_or.1 hd
  obtain ⟨k, hk, hkS⟩ := Stars.join (a := B) (b := [r]) d1 h1 ⟨n1, fun _ => none, fun _ => .inr rfl, by funext i; unfold PH.or; cases n1 i <;> rfl, h2, trivial⟩
  have hkn : PH.dis k n2 := dis_sub (PH.dis.symm (PH.dis_or.2 ⟨d2.symm, hd'.symm⟩)) hk (PH.le_refl _)
  refine ⟨k.or n2, ?_, k, n2, hkn, rfl, hkS, h3⟩
  rw [← PH.or_assoc]
  refine PH.or_le (hk.trans (PH.le_or_left _ _)) (PH.le_or_right (PH.dis.symm (PH.dis_or.2 ⟨d2.symm, hd'.symm⟩)))
theorem Ent.stars_nil (R : List Res) : Ent R (Stars [] :: R) := fun m hm => ⟨m, PH.le_refl m, fun _ => none, m, fun _ => .inl rfl, by funext i; rfl, trivial, hm⟩
theorem Ent.pack2 {r s : Res} {R : List Res} : Ent (r :: s :: R) (Stars [r, s] :: R) := by
  rintro m ⟨m1, mm, hd, rfl, h1, m2, m3, hd', rfl, h2, h3⟩
  obtain ⟨d1, d2⟩ := PH.dis_or.1 hd
  refine ⟨_, PH.le_refl _, m1.or m2, m3, PH.dis.symm (PH.dis_or.2 ⟨d2.symm, hd'.symm⟩), (PH.or_assoc _ _ _).symm, ?_, h3⟩
  exact ⟨m1, m2, d1, rfl, h1, m2, fun _ => none, fun _ => .inr rfl, by funext i; unfold PH.or; cases m2 i <;> rfl, h2, trivial⟩
section
variable {d : Nat} {ty t el : TypeId} {pos : String} {after : Array Edge} {g : Option (Nat × Bool)} {x y : Operand} {A : Option Addr} {n c : Nat}
/-- A store into an owned list of values of one cell each, resource number k. -/
theorem Nx.store_of (k : Nat) {α : Type} (f : α → Value) {i : Nat} {l : List α} {z : α} (hx : evo e x = some (.pointer (some ((ad A).add (i * 1))))) (hy : evo e y = some (f z)) (hc : cellsL (f z) = [f z]) (h1 : (f z).oneCell' = true) (hn : cellsIn C.P t = some 1) (hk : nthL R k = some (Vec el 1 A n c (l.map f))) (hi : i < n)
    (h : Nx C e I (Vec el 1 A n c ((l.set i z).map f) :: R.eraseIdx k) K) : Nx C e I R (opK C.P ⟨none, .store t x y, ty, pos, after, g⟩ K Q) := by
  rw [Nat.mul_one] at hx
  refine Nx.ent (Ent.pull k R _ (nthL_eq.symm.trans hk)) (Nx.store hx hy ((cellsL_eq _).trans hc) hn rfl (Wr.vec hi h1) ?_)
  rw [List.map_set] at h
  exact h
end
end
end Go.Eng
/-
  The proof engine, part G: a statement whose order is open, with allocations that may come at any time between calls.
-/
namespace Go.Eng
/-- An allocation without a guard: its number, its temporary, its type and its cells. -/
structure PoolOp where
  k : Nat
  d : Nat
  t : TypeId
  cs : List Value
def pe : List PoolOp → List (Option Nat) → Env
  | p :: ps, some b :: bs => (p.d, .pointer (some ⟨b, 0, none⟩)) :: pe ps bs
  | _ :: ps, none :: bs => pe ps bs
  | _, _ => []
def pr : List PoolOp → List (Option Nat) → List Res
  | p :: ps, some b :: bs => Blk b p.t p.cs :: pr ps bs
  | _ :: ps, none :: bs => pr ps bs
  | _, _ => []
def keysFree (pool : List PoolOp) : Env → Bool
  | [] => true
  | (t, _) :: e => pool.all (fun p => !Nat.beq p.d t) && keysFree pool e
theorem keysFree_lk {pool : List PoolOp} : ∀ {e : Env} {p : PoolOp}, keysFree pool e = true → p ∈ pool → lk e p.d = none
  | [], _, _, _ => rfl
  | (t, v) :: e, p, h, hp => by
    simp only [keysFree, Bool.and_eq_true, List.all_eq_true] at h
    have h1 := h.1 p hp
    unfold lk
    have hne : Nat.beq t p.d = false := by
      cases hb : Nat.beq t p.d with
      | false => rfl
      | true => have := Nat.eq_of_beq_eq_true hb; subst this; simp at h1
    rw [hne]
    exact keysFree_lk h.2 hp
theorem lk_cons (k : Nat) (u : Value) (r : Env) (t : Nat) : lk ((k, u) :: r) t = match Nat.beq k t with | true => some u | false => lk r t := rfl
theorem Stars.up : ∀ {R : List Res} {m m' : PH}, Stars R m' → PH.le m' m → Stars R m
  | [], _, _, _, _ => trivial
  | r :: rs, m, _, ⟨m1, m2, hd, rfl, hr, h2⟩, hle => by
    refine ⟨m1, fun i => match m1 i with | some _ => none | none => m i, fun i => ?_, ?_, hr, Stars.up h2 fun i o hi => ?_⟩
    · cases h : m1 i with
      | none => exact .inl rfl
      | some o => exact .inr (by show (match m1 i with | some _ => none | none => m i) = none; rw [h])
    · funext i
      show m i = (match m1 i with | some o => some o | none => (match m1 i with | some _ => none | none => m i))
      cases h : m1 i with
      | none => simp only
      | some o => exact hle i o (PH.le_or_left m1 m2 i o h)
    · have h1 : m1 i = none := by
        rcases hd i with h | h
        · exact h
        · rw [h] at hi; cases hi
      show (match m1 i with | some _ => none | none => m i) = some o
      rw [h1]
      exact hle i o (PH.le_or_right hd i o hi)
theorem lk_app {a b : Env} {t : Nat} {v : Value} (h : lk (a ++ b) t = some v) : lk a t = some v ∨ (lk a t = none ∧ lk b t = some v) := by
  induction a with
  | nil => exact .inr ⟨rfl, h⟩
  | cons x r ih =>
    obtain ⟨k, u⟩ := x
    simp only [List.cons_append] at h
    rw [lk_cons] at h ⊢
    cases hb : Nat.beq k t with
    | true => rw [hb] at h; exact .inl h
    | false => rw [hb] at h; exact ih h
theorem lk_app_l {a b : Env} {t : Nat} {v : Value} (h : lk a t = some v) : lk (a ++ b) t = some v := by
  induction a with
  | nil => simp [lk] at h
  | cons x r ih =>
    obtain ⟨k, u⟩ := x
    simp only [List.cons_append]
    rw [lk_cons] at h ⊢
    cases hb : Nat.beq k t with
    | true => rw [hb] at h; exact h
    | false => rw [hb] at h; exact ih h
theorem lk_app_r {a b : Env} {t : Nat} (h : lk a t = none) : lk (a ++ b) t = lk b t := by
  induction a with
  | nil => rfl
  | cons x r ih =>
    obtain ⟨k, u⟩ := x
    simp only [List.cons_append]
    rw [lk_cons] at h ⊢
    cases hb : Nat.beq k t with
    | true => rw [hb] at h; cases h
    | false => rw [hb] at h; exact ih h
/-- One more has come up. -/
theorem pe_set : ∀ {pool : List PoolOp} {bs : List (Option Nat)} {j : Nat} {p : PoolOp} {b t : Nat} {v : Value}, pool[j]? = some p → lk (pe pool (bs.set j (some b))) t = some v → (t = p.d ∧ v = .pointer (some ⟨b, 0, none⟩)) ∨ lk (pe pool bs) t = some v ∨ bs[j]? ≠ some none
  | [], _, j, p, _, _, _, hj, _ => by simp at hj
  | q :: ps, [], j, p, _, _, _, _, h => by simp [pe, lk] at h
  | q :: ps, o :: bs, 0, p, b, t, v, hj, h => by
    simp at hj
    subst hj
    cases o with
    | some b0 => exact .inr (.inr (by simp))
    | none =>
      simp only [List.set_cons_zero, pe] at h ⊢
      unfold lk at h
      cases hb : Nat.beq q.d t with
      | true => rw [hb] at h; have := Nat.eq_of_beq_eq_true hb; subst this; exact .inl ⟨rfl, (Option.some.inj h).symm⟩
      | false => rw [hb] at h; exact .inr (.inl h)
  | q :: ps, o :: bs, j + 1, p, b, t, v, hj, h => by
    simp only [List.set_cons_succ] at h
    have hj' : ps[j]? = some p := by simpa using hj
    cases o with
    | none =>
      simp only [pe] at h ⊢
      rcases pe_set hj' h with h1 | h1 | h1
      · exact .inl h1
      · exact .inr (.inl h1)
      · exact .inr (.inr (by simpa using h1))
    | some b0 =>
      simp only [pe] at h ⊢
      unfold lk at h ⊢
      cases hb : Nat.beq q.d t with
      | true => rw [hb] at h; exact .inr (.inl h)
      | false =>
        rw [hb] at h
        rcases pe_set hj' h with h1 | h1 | h1
        · exact .inl h1
        · exact .inr (.inl h1)
        · exact .inr (.inr (by simpa using h1))
theorem pr_set : ∀ {pool : List PoolOp} {bs : List (Option Nat)} {j : Nat} {p : PoolOp} {b : Nat}, pool[j]? = some p → bs[j]? = some none → Ent (Blk b p.t p.cs :: pr pool bs) (pr pool (bs.set j (some b)))
  | [], _, j, p, _, hj, _ => by simp at hj
  | q :: ps, [], j, p, _, _, h => by simp at h
  | q :: ps, o :: bs, 0, p, b, hj, h => by
    simp at hj h
    subst hj; subst h
    simp only [List.set_cons_zero, pr]
    exact Ent.refl _
  | q :: ps, o :: bs, j + 1, p, b, hj, h => by
    simp only [List.set_cons_succ]
    have hj' : ps[j]? = some p := by simpa using hj
    have h' : bs[j]? = some none := by simpa using h
    cases o with
    | none => simp only [pr]; exact pr_set hj' h'
    | some b0 => simp only [pr]; exact (Ent.swap _ _ _).trans (Ent.cons (pr_set hj' h'))
/-- The dst of one that has not come up yet is not among those that have. -/
theorem pe_none : ∀ {pool : List PoolOp} {bs : List (Option Nat)} {j : Nat} {p : PoolOp}, (pool.map (·.d)).Pairwise (· ≠ ·) → pool[j]? = some p → bs[j]? = some none → lk (pe pool bs) p.d = none
  | [], _, j, p, _, hj, _ => by simp at hj
  | q :: ps, [], j, p, _, _, h => by simp at h
  | q :: ps, o :: bs, 0, p, hd, hj, h => by
    simp at hj h
    subst hj; subst h
    simp only [pe]
    simp only [List.map_cons, List.pairwise_cons] at hd
    have key : ∀ (ps : List PoolOp) (bs : List (Option Nat)), (∀ a ∈ ps.map (·.d), q.d ≠ a) → lk (pe ps bs) q.d = none := by
      intro ps
      induction ps with
      | nil => intro bs _; simp [pe, lk]
      | cons r ps ih =>
        intro bs hh
        cases bs with
        | nil => simp [pe, lk]
        | cons o bs =>
          cases o with
          | none => simp only [pe]; exact ih bs fun a ha => hh a (by simp at ha ⊢; exact .inr ha)
          | some b0 =>
            simp only [pe]
            unfold lk
            have hne : Nat.beq r.d q.d = false := by
              cases hb : Nat.beq r.d q.d with
              | false => rfl
              | true => exact absurd (Nat.eq_of_beq_eq_true hb).symm (hh r.d (by simp))
            rw [hne]
            exact ih bs fun a ha => hh a (by simp at ha ⊢; exact .inr ha)
    exact key ps bs hd.1
  | q :: ps, o :: bs, j + 1, p, hd, hj, h => by
    have hj' : ps[j]? = some p := by simpa using hj
    have h' : bs[j]? = some none := by simpa using h
    simp only [List.map_cons, List.pairwise_cons] at hd
    cases o with
    | none => simp only [pe]; exact pe_none hd.2 hj' h'
    | some b0 =>
      simp only [pe]
      unfold lk
      have hne : Nat.beq q.d p.d = false := by
        cases hb : Nat.beq q.d p.d with
        | false => rfl
        | true => exact absurd (Nat.eq_of_beq_eq_true hb) (hd.1 p.d (List.mem_map.2 ⟨p, List.mem_of_getElem? hj', rfl⟩))
      rw [hne]
      exact pe_none hd.2 hj' h'
def Good (C : Cx) (ops : Array Oper) (Q : Exit → Act → World → Prop) (S : World → Prop) (I : PH) (pool : List PoolOp) (loud rest : List Nat) : List Nat → Env → List Res → Prop
  | [], e, R => keysFree pool e = true ∧ ∀ bs : List Nat, bs.length = pool.length → Nx C (e ++ pe pool (bs.map some)) I (Stars (pr pool (bs.map some)) :: R) (wpMix C.P ops Q S loud rest)
  | k :: ch, e, R => keysFree pool e = true ∧ ∀ (ex : Env) (X : Res), Nx C (e ++ ex) I (X :: R) (wpOp C.P ops Q k (fun a w => S w ∧ ∃ e' R', Mod C.n (e' ++ ex) a ∧ St C.W I (X :: R') w ∧ Good C ops Q S I pool loud rest ch e' R'))
theorem Good.free {C : Cx} {ops : Array Oper} {Q : Exit → Act → World → Prop} {S : World → Prop} {I : PH} {pool : List PoolOp} {loud rest ch : List Nat} {e : Env} {R : List Res} (h : Good C ops Q S I pool loud rest ch e R) : keysFree pool e = true := by
  cases ch <;> exact h.1
def PoolS (C : Cx) (ops : Array Oper) (Q : Exit → Act → World → Prop) (S : World → Prop) (I : PH) (pool : List PoolOp) (loud rest ch : List Nat) (ex : Env) (X : Res) : Act → World → Prop :=
  fun a w => S w ∧ ∃ e' R', Mod C.n (e' ++ ex) a ∧ St C.W I (X :: R') w ∧ Good C ops Q S I pool loud rest ch e' R'
def findP : List PoolOp → List Bool → Nat → Nat → Option Nat
  | p :: ps, f :: fl, i, j => if Nat.beq p.k i && !f then some j else findP ps fl i (j + 1)
  | _, _, _, _ => none
theorem findP_ok : ∀ {pool : List PoolOp} {fl : List Bool} {i j j0 : Nat}, findP pool fl i j0 = some j → ∃ m p, j = j0 + m ∧ pool[m]? = some p ∧ fl[m]? = some false ∧ p.k = i
  | [], _, _, _, _, h => by simp [findP] at h
  | _ :: _, [], _, _, _, h => by simp [findP] at h
  | p :: ps, f :: fl, i, j, j0, h => by
    unfold findP at h
    split at h
    · rename_i hc
      simp only [Bool.and_eq_true, Bool.not_eq_true'] at hc
      exact ⟨0, p, by simpa using h.symm, rfl, by simp [hc.2], Nat.eq_of_beq_eq_true hc.1⟩
    · obtain ⟨m, q, h1, h2, h3, h4⟩ := findP_ok h
      exact ⟨m + 1, q, by omega, by simpa using h2, by simpa using h3, h4⟩
structure PoolFit (C : Cx) (ops : Array Oper) (p : PoolOp) : Prop where
  op : ∃ ty pos after, ops[p.k]? = some ⟨some p.d, .alloc p.t, ty, pos, after, none⟩
  zero : zeroOf C.P p.t = some p.cs
  lt : Nat.blt p.d C.n = true
section
variable {C : Cx} {e e' : Env} {I : PH} {R R' R0 : List Res} {K K' : Act → World → Prop} {Q : Exit → Act → World → Prop} {W : World}
variable {ops : Array Oper} {S : World → Prop} {loud rest ch : List Nat} {pool : List PoolOp}
theorem map_isSome {bs : List (Option Nat)} (h : (bs.map Option.isSome).all id = true) : ∃ l : List Nat, bs = l.map some := by
  induction bs with
  | nil => exact ⟨[], rfl⟩
  | cons o r ih =>
    simp only [List.map_cons, List.all_cons, Bool.and_eq_true, id_eq] at h
    obtain ⟨l, rfl⟩ := ih h.2
    cases o with
    | none => cases h.1
    | some b => exact ⟨b :: l, rfl⟩
theorem Mod.poolPut {n : Nat} {a : Act} {p : PoolOp} {bs : List (Option Nat)} {j b : Nat} (h : Mod n (e ++ pe pool bs) a) (hf : keysFree pool e = true) (hd : (pool.map (·.d)).Pairwise (· ≠ ·)) (hj : pool[j]? = some p) (hb : bs[j]? = some none) (hlt : Nat.blt p.d n = true) :
    Mod n (e ++ pe pool (bs.set j (some b))) (a.put (some p.d) (.pointer (some ⟨b, 0, none⟩))) := by
  have h1 := h.put hlt (.pointer (some ⟨b, 0, none⟩))
  refine ⟨h1.size, h1.defers, fun t v hv => ?_⟩
  have hpe := keysFree_lk hf (List.mem_of_getElem? hj)
  have hpn := pe_none hd hj hb
  have key : ∀ {t v}, lk (e ++ pe pool bs) t = some v → (a.put (some p.d) (.pointer (some ⟨b, 0, none⟩))).tmps[t]? = some v := fun {t v} hv => by
    refine h1.get t v ?_
    unfold lk
    have hne : Nat.beq p.d t = false := by
      cases hb : Nat.beq p.d t with
      | false => rfl
      | true =>
        have := Nat.eq_of_beq_eq_true hb
        subst this
        rcases lk_app hv with h2 | ⟨_, h2⟩
        · rw [hpe] at h2; cases h2
        · rw [hpn] at h2; cases h2
    rw [hne]; exact hv
  rcases lk_app hv with h2 | ⟨h2, h3⟩
  · exact key (lk_app_l h2)
  · rcases pe_set hj h3 with ⟨rfl, rfl⟩ | h4 | h4
    · exact h1.get _ _ (by unfold lk; rw [Nat.beq_refl])
    · exact key (by rw [lk_app_r h2]; exact h4)
    · exact absurd hb h4
/-! The rules for a walk -/
def preOk (ops : Array Oper) (k : Array Bool → Bool) : List Nat → Array Bool → Bool
  | [], listed => k listed
  | q :: r, listed => Region.free .any ops listed q && (Region.ready .any ops listed).contains q && preOk ops k r (listed.setIfInBounds q true)
theorem wpMix_pre {P : Program} {T : Act → World → Prop} (hs : Region.noSelect ops = true) (hQ : PanicOk Q) {k : Array Bool → Bool} {fuel : Nat} (hT : ∀ listed a w, k listed = true → S w → T a w → wpAnyH P .any ops Q S fuel listed a w) : ∀ (q : List Nat) (listed : Array Bool) (a : Act) (w : World),
    preOk ops k q listed = true → S w → wpMix P ops (Exit.then T Q) S [] q a w → wpAnyH P .any ops Q S (fuel + q.length) listed a w
  | [], listed, a, w, hok, hSw, h => hT listed a w hok hSw h
  | i :: r, listed, a, w, hok, hSw, h => by
    obtain ⟨o, ho, h⟩ := h
    simp only [preOk, Bool.and_eq_true] at hok
    rw [if_neg (by simp)] at h
    obtain ⟨v, hy, h⟩ := h
    exact wpAnyH_take ho hs hok.1.1 hok.1.2 (fun c a w => hQ c o.dst v a w) hy hSw (wpMix_pre hs hQ hT r _ _ w hok.2 hSw h)
theorem pe_nones : ∀ (pool : List PoolOp), pe pool (pool.map fun _ => none) = [] ∧ pr pool (pool.map fun _ => none) = [] ∧ ((pool.map fun _ => (none : Option Nat)).map Option.isSome) = pool.map fun _ => false
  | [] => ⟨rfl, rfl, rfl⟩
  | p :: ps => by
    obtain ⟨h1, h2, h3⟩ := pe_nones ps
    exact ⟨by simp only [List.map_cons, pe]; exact h1, by simp only [List.map_cons, pr]; exact h2, by simp [h3]⟩
variable {c : Code}
/-- One call. -/
theorem Good.call {k : Nat} {o : Oper} (hf : keysFree pool e = true) (ho : opAt ops.toList k = some o) (hg : o.guard = none) (h : ∀ (ex : Env) (X : Res), Nx C (e ++ ex) I (X :: R) (opK C.P o (PoolS C ops Q S I pool loud rest ch ex X) Q)) : Good C ops Q S I pool loud rest (k :: ch) e R :=
  ⟨hf, fun ex X a w ha hw => by
    unfold wpOp
    simp only [opAt_arr ho]
    rw [if_pos (by simp [Region.wanted, hg])]
    exact .inl (h ex X a w ha hw)⟩
theorem Good.done (hf : keysFree pool e = true) (h : ∀ bs : List Nat, bs.length = pool.length → Nx C (e ++ pe pool (bs.map some)) I (Stars (pr pool (bs.map some)) :: R) (wpMix C.P ops Q S loud rest)) : Good C ops Q S I pool loud rest [] e R := ⟨hf, h⟩
end
end Go.Eng
/-
  The proof engine, part H: a statement of open order whose last operations write what its first ones read: behind them nothing is asked of the world.
-/
namespace Go.Eng
/-- In whatever order the operations come up, S holds behind each of them that is not among the last ones. -/
def wpAnyF (P : Program) (md : Region.Mode) (ops : Array Oper) (Q : Exit → Act → World → Prop) (S : World → Prop) (fin : List Nat) : Nat → Array Bool → Act → World → Prop
  | 0, listed, a, w => Region.ready md ops listed = [] ∧ Q .normal a w
  | n + 1, listed, a, w => (Region.ready md ops listed = [] → Q .normal a w) ∧
    ∀ i ∈ Region.ready md ops listed, wpOp P ops Q i (fun a' w' => (fin.contains i = false → S w') ∧ wpAnyF P md ops Q S fin n (listed.setIfInBounds i true) a' w') a w
section
variable {P : Program} {ops : Array Oper} {Q : Exit → Act → World → Prop} {md : Region.Mode} {S : World → Prop} {fin : List Nat}
theorem wpAny_of_fin : ∀ (n : Nat) (listed : Array Bool) (a : Act) (w : World), wpAnyF P md ops Q S fin n listed a w → wpAny P md ops Q n listed a w
  | 0, _, _, _, h => h
  | n + 1, _, _, _, h => ⟨h.1, fun i hi => wpOp_mono (fun a' w' h' => wpAny_of_fin n _ a' w' h'.2) (h.2 i hi)⟩
theorem ready_waits {i j : Nat} {oj : Oper} {listed : Array Bool} (hi : i ∈ Region.ready md ops listed) (hj : j ∈ Region.ready md ops listed) (ho : ops[j]? = some oj) : ∀ e ∈ oj.after, Region.binds md e = true → e.on ≠ i := by
  intro e he hb heq
  obtain ⟨_, o, ho', hall⟩ := mem_ready.1 hj
  obtain ⟨h0, _, _, _⟩ := mem_ready.1 hi
  rw [ho] at ho'
  obtain rfl : oj = o := by simpa using ho'
  have h1 := hall e he hb
  subst heq
  rcases Nat.lt_or_ge e.on listed.size with h' | h'
  · simp [h'] at h0 h1
    rw [h0] at h1; cases h1
  · simp [Array.getElem?_eq_none h'] at h1
/-- Whatever has come up, what it waits for has come up. -/
def Closed (md : Region.Mode) (ops : Array Oper) (listed : Array Bool) : Prop := ∀ k o, ops[k]? = some o → listed.getD k false = true → ∀ e ∈ o.after, Region.binds md e = true → listed.getD e.on false = true
theorem Closed.start (n : Nat) : Closed md ops (Array.replicate n false) := fun k o _ h => by
  exfalso
  by_cases hk : k < n <;> simp [hk] at h
theorem Closed.set {i : Nat} {listed : Array Bool} (h : Closed md ops listed) (hi : i ∈ Region.ready md ops listed) : Closed md ops (listed.setIfInBounds i true) := fun k o ho hk e he hb => by
  by_cases hik : i = k
  · subst hik
    obtain ⟨_, o', ho', hall⟩ := mem_ready.1 hi
    rw [ho] at ho'
    obtain rfl : o = o' := by simpa using ho'
    exact getD_set_true (hall e he hb)
  · rw [getD_set_ne false hik] at hk
    exact getD_set_true (h k o ho hk e he hb)
/-- Number j waits for number i, directly or through others. -/
def waitsOn (md : Region.Mode) (ops : Array Oper) : Nat → Nat → Nat → Bool
  | 0, _, _ => false
  | n + 1, j, i => match ops[j]? with
    | some o => o.after.any fun e => Region.binds md e && (Nat.beq e.on i || waitsOn md ops n e.on i)
    | none => false
theorem waitsOn_listed {i : Nat} {listed : Array Bool} (hc : Closed md ops listed) : ∀ (n j : Nat), waitsOn md ops n j i = true → (∀ o, ops[j]? = some o → ∀ e ∈ o.after, Region.binds md e = true → listed.getD e.on false = true) → listed.getD i false = true
  | 0, j, h, _ => by simp [waitsOn] at h
  | n + 1, j, h, hj => by
    unfold waitsOn at h
    split at h
    · rename_i o ho
      obtain ⟨e, he, hb⟩ := Array.any_eq_true'.1 h
      simp only [Bool.and_eq_true, Bool.or_eq_true] at hb
      have h1 := hj o ho e he hb.1
      rcases hb.2 with h2 | h2
      · rw [← Nat.eq_of_beq_eq_true h2]; exact h1
      · exact waitsOn_listed hc n e.on h2 fun o' ho' => hc e.on o' ho' h1
    · cases h
/-- The last ones wait for number i. -/
def finWaits (md : Region.Mode) (ops : Array Oper) (fin : List Nat) (i : Nat) : Bool := fin.all fun j => waitsOn md ops 2 j i || waitsOn md ops 4 j i || waitsOn md ops 9 j i
theorem finWaits_not {i j : Nat} {listed : Array Bool} (hc : Closed md ops listed) (h : finWaits md ops fin i = true) (hi : i ∈ Region.ready md ops listed) (hj : j ∈ Region.ready md ops listed) : fin.contains j = false := by
  cases hf : fin.contains j with
  | false => rfl
  | true =>
    exfalso
    have h1 := List.all_eq_true.1 h j (by simpa using hf)
    obtain ⟨_, oj, hoj, hall⟩ := mem_ready.1 hj
    have hj' : ∀ o, ops[j]? = some o → ∀ e ∈ o.after, Region.binds md e = true → listed.getD e.on false = true := fun o ho => by
      rw [hoj] at ho
      obtain rfl : oj = o := by simpa using ho
      exact hall
    have h2 : listed.getD i false = true := by
      simp only [Bool.or_eq_true] at h1
      rcases h1 with (h1 | h1) | h1 <;> exact waitsOn_listed hc _ j h1 hj'
    have h0 := (mem_ready.1 hi).1
    rcases Nat.lt_or_ge i listed.size with h' | h'
    · simp [h'] at h0 h2
      rw [h0] at h2; cases h2
    · simp [Array.getElem?_eq_none h'] at h2
theorem wpAnyF_first {i : Nat} {oi : Oper} {v : Value} (hi : ops[i]? = some oi) (hs : Region.noSelect ops = true) (hQ : PanicOk Q) (hfin : finWaits md ops fin i = true) :
    ∀ (n : Nat) (listed : Array Bool) (a : Act) (w : World), Closed md ops listed →
      (∀ j oj, ops[j]? = some oj → j ≠ i → listed.getD j true = false → (∀ e ∈ oj.after, Region.binds md e = true → e.on ≠ i) → oi.apart ops oj = true) →
      i ∈ Region.ready md ops listed → YieldsIf P ops S oi v a → S w →
      wpAnyF P md ops Q S fin n (listed.setIfInBounds i true) (a.put oi.dst v) w → wpAnyF P md ops Q S fin (n + 1) listed a w
  | n, listed, a, w, hcl, hap, hr, hy, hS, H => by
    refine ⟨fun h0 => (by rw [h0] at hr; cases hr), fun j hj => ?_⟩
    by_cases hji : j = i
    · subst hji; exact hy.wpOp hi hS ⟨fun _ => hS, H⟩
    · have hj2 := ready_mono hj hji
      obtain ⟨hjun, oj, hoj, _⟩ := mem_ready.1 hj
      have hno := ready_waits hr hj hoj
      have hnf := finWaits_not hcl hfin hr hj
      match n, H with
      | 0, H => rw [H.1] at hj2; cases hj2
      | n + 1, H =>
        have h1 := H.2 j hj2
        have h2 := wpOp_putIf hoj (hap j oj hoj hji hjun hno) (fun cs b => Region.noSelect_spec hs i oi cs b hi) (fun cs b => Region.noSelect_spec hs j oj cs b hoj) (fun c a w => hQ c oi.dst v a w) hy h1
        refine wpOp_mono (fun a' w' h3 => ?_) h2
        obtain ⟨hy', hS', H'⟩ := h3
        refine ⟨fun _ => hS' hnf, wpAnyF_first hi hs hQ hfin n (listed.setIfInBounds j true) a' w' (hcl.set hj) (fun k ok hk hki hun hnk => ?_) (ready_mono hr (Ne.symm hji)) hy' (hS' hnf) ?_⟩
        · refine hap k ok hk hki ?_ hnk
          by_cases hjk : j = k
          · subst hjk; exact hjun
          · rwa [getD_set_ne true hjk] at hun
        · rw [Array.setIfInBounds_comm _ _ hji]
          exact H'
theorem wpOp_then {T : Act → World → Prop} {i : Nat} {a : Act} {w : World} {K : Act → World → Prop} (hh : wpOp P ops (Exit.then T Q) i K a w) : wpOp P ops Q i K a w := by
  unfold wpOp at *
  split
  · simpa [*] using hh
  · rename_i o ho
    simp only [ho] at hh
    split
    · rename_i hw
      simp only [hw, if_true] at hh
      rcases hh with hh | hh
      · refine .inl ?_
        unfold Oper.wp at *
        generalize (execOp a.eval o).run P w = r at *
        cases r with
        | ok n w' =>
          cases n <;> simp only [Oper.upon] at hh ⊢ <;>
            first
              | exact hh
              | exact Calls.mono hh (fun e w'' he => by cases e <;> exact he)
              | exact Rows.mono hh (fun _ _ he => he)
        | halt x w' => cases x <;> simp only [Oper.upon] at hh ⊢ <;> exact hh
      · exact .inr hh
    · rename_i hw
      simpa [hw] using hh
def mixOkF (ops : Array Oper) (fin loud : List Nat) : List Nat → Array Bool → Bool
  | [], listed => mixOk ops fin fin listed
  | k :: r, listed => (if loud.contains k then Region.ready .any ops listed == [k] && !(fin.contains k) else Region.free .any ops listed k && (Region.ready .any ops listed).contains k && finWaits .any ops fin k) && mixOkF ops fin loud r (listed.setIfInBounds k true)
theorem wpMix_fin (hs : Region.noSelect ops = true) (hQ : PanicOk Q) (hall : ∀ k ∈ fin, fin.contains k = true) : ∀ (r : List Nat) (n : Nat) (listed : Array Bool) (a : Act) (w : World), (∀ k ∈ r, fin.contains k = true) →
    mixOk ops fin r listed = true → r.length ≤ n → wpMix P ops Q AnyW fin r a w → wpAnyF P .any ops Q S fin n listed a w
  | [], n, listed, a, w, _, hok, _, h => by
    have hr : Region.ready .any ops listed = [] := by simpa [mixOk] using hok
    cases n with
    | zero => exact ⟨hr, h⟩
    | succ n => exact ⟨fun _ => h, by rw [hr]; simp⟩
  | k :: r, 0, listed, a, w, _, _, hl, _ => by simp at hl
  | k :: r, n + 1, listed, a, w, hk, hok, hl, h => by
    obtain ⟨o, ho, h⟩ := h
    have hkf := hk k (by simp)
    unfold mixOk at hok
    rw [if_pos hkf] at h hok
    simp only [Bool.and_eq_true, beq_iff_eq] at hok
    refine ⟨fun h0 => (by rw [hok.1] at h0; cases h0), fun i hi => ?_⟩
    rw [hok.1] at hi
    obtain rfl : i = k := by simpa using hi
    refine wpOp_mono (fun a' w' h3 => ⟨fun hf => ?_, wpMix_fin hs hQ hall r n _ a' w' (fun j hj => hk j (by simp [hj])) hok.2 (by simpa using hl) h3.2⟩) h
    rw [hkf] at hf; cases hf
theorem wpMix_anyF (hs : Region.noSelect ops = true) (hQ : PanicOk Q) {loud : List Nat} : ∀ (ord : List Nat) (n : Nat) (listed : Array Bool) (a : Act) (w : World), Closed .any ops listed →
    mixOkF ops fin loud ord listed = true → ord.length + fin.length ≤ n → S w → wpMix P ops (Exit.then (wpMix P ops Q AnyW fin fin) Q) S loud ord a w → wpAnyF P .any ops Q S fin n listed a w
  | [], n, listed, a, w, _, hok, hl, _, h => wpMix_fin hs hQ (fun k hk => by simpa using hk) fin n listed a w (fun k hk => by simpa using hk) hok (by simpa using hl) h
  | k :: r, 0, listed, a, w, _, _, hl, _, _ => by simp at hl
  | k :: r, n + 1, listed, a, w, hcl, hok, hl, hS, h => by
    obtain ⟨o, ho, h⟩ := h
    unfold mixOkF at hok
    rw [Bool.and_eq_true] at hok
    obtain ⟨hk, hr⟩ := hok
    have hl' : r.length + fin.length ≤ n := by simp only [List.length_cons] at hl; omega
    by_cases hc : loud.contains k = true
    · rw [if_pos hc] at h hk
      simp only [Bool.and_eq_true, beq_iff_eq, Bool.not_eq_true'] at hk
      refine ⟨fun h0 => (by rw [hk.1] at h0; cases h0), fun i hi => ?_⟩
      rw [hk.1] at hi
      obtain rfl : i = k := by simpa using hi
      refine wpOp_then (T := wpMix P ops Q AnyW fin fin) ?_
      exact wpOp_mono (fun a' w' h3 => ⟨fun _ => h3.1, wpMix_anyF hs hQ r n _ a' w' (hcl.set (by rw [hk.1]; simp)) hr hl' h3.1 h3.2⟩) h
    · rw [if_neg hc] at h hk
      simp only [Bool.and_eq_true] at hk
      obtain ⟨v, hy, h⟩ := h
      exact wpAnyF_first ho hs hQ hk.2 n listed a w hcl (Region.free_spec ho hk.1.1) (by simpa using hk.1.2) hy hS (wpMix_anyF hs hQ r n _ _ w (hcl.set (by simpa using hk.1.2)) hr hl' hS h)
end
section
variable {C : Cx} {e e' : Env} {I : PH} {R R' R0 : List Res} {K K' : Act → World → Prop} {Q : Exit → Act → World → Prop} {W : World} {c : Code} {ops : Array Oper}
theorem Nx.p_drawF {id : Nat} (hid : cid c = id) (ord loud fin : List Nat) (R0 : List Res) (hk : ck c = 2) (hm : C.P.follows .mixedOrders = true) (hs : Region.noSelect (cops c) = true) (hok : mixOkF (cops c) fin loud ord (Array.replicate (cops c).size false) = true) (hlen : Nat.ble (ord.length + fin.length) (cops c).size = true) (hQ : PanicOk Q) (hR : Ent R R0)
    (h : Nx C e I R (wpMix C.P (cops c) (Exit.then (wpMix C.P (cops c) Q AnyW fin fin) Q) (St C.W I R0) loud ord)) : Nx C e I R (c.wp C.P Q) := by
  have hc : c = .region (cid c) (cops c) true := by
    cases c <;> first | (simp [ck] at hk; done) | skip
    rename_i b
    cases b with
    | false => simp [ck] at hk
    | true => rfl
  clear hid
  rw [hc]
  intro a w ha hw
  refine wp_region_any hm (wpAny_of_fin _ _ _ _ (wpMix_anyF (S := St C.W I R0) hs hQ ord _ _ a _ (Closed.start _) hok (Nat.le_of_ble_eq_true hlen) (hw.drew.ent hR) (h a _ ha hw.drew)))
set_option maxHeartbeats 8000000 in
theorem Ent.eraseK : ∀ (k : Nat) (R : List Res), Ent R (R.eraseIdx k)
  | _, [] => Ent.refl _
  | 0, _ :: _ => Ent.drop (Ent.refl _)
  | k + 1, _ :: R => Ent.cons (Ent.eraseK k R)
/-! ## Results: temporaries and variables of the call's own, mixed -/
/-- One result's value. -/
def resOne (tmps : Array Value) : ResultVar → Sem Value
  | .tmp t => pure (tmps.getD t undef)
  | .cell x t => do loadVar t (← asAddr (tmps.getD x undef))
theorem results_eq (fn : Func) (tmps : Array Value) : results fn tmps = (do
  let vs ← fn.results.mapM (resOne tmps)
  pure (if h : vs.size = 1 then vs[0] else .tuple vs)) := by
  unfold results
  congr 1
def ROne (C : Cx) (e : Env) (I : PH) (R : List Res) (r : ResultVar) (v : Value) : Prop := ∀ a w, Mod C.n e a → St C.W I R w → (resOne a.tmps r).run C.P w = .ok v w
variable {v v1 v2 v3 : Value}
theorem ROne.tmp {t : Nat} (h : lk e t = some v) : ROne C e I R (.tmp t) v := fun a w ha _ => by simp [resOne, ha.get t v h]
theorem ROne.cell (k : Nat) {nc t0 b : Nat} {ty tb : TypeId} {cs : List Value} (hx : lk e t0 = some (.pointer (some ⟨b, 0, none⟩))) (ht : aggT C.P ty = true) (hn : cellsIn C.P ty = some nc) (hl : cs.length = nc) (hk : nthL R k = some (Blk b tb cs)) : ROne C e I R (.cell t0 ty) (.agg cs.toArray) := fun a w ha hw => by
  have hload := run_loadVar_agg (A := ⟨b, 0, none⟩) ht hn hl (fun j u hj => (Rds.at_ k hk : Rds C.W I R ⟨b, 0, none⟩ cs) j u hj w hw)
  simp [resOne, ha.get t0 _ hx, asAddr, hload]
theorem Nx.ret2 {fn : Func} {F : Res} {Post : Value → List Res → Prop} {r1 r2 : ResultVar} (hres : fn.results.toList = [r1, r2]) (h1 : ROne C e I R r1 v1) (h2 : ROne C e I R r2 v2) (R' : List Res) (hp : Post (.tuple #[v1, v2]) R') (hR : Ent R (R' ++ [F])) : Nx C e I R (fnPost C.P fn I F C.W Post .ret) :=
  fun a w ha hw => ⟨ha.defers, _, by
    have hr : fn.results = #[r1, r2] := by
      have : fn.results = [r1, r2].toArray := by rw [← hres]
      simpa using this
    have e1 := h1 a w ha hw
    have e2 := h2 a w ha hw
    rw [results_eq, hr]
    simp [e1, e2], _, R', rfl, hp, hw.ent hR⟩
theorem Nx.ret3 {fn : Func} {F : Res} {Post : Value → List Res → Prop} {r1 r2 r3 : ResultVar} (hres : fn.results.toList = [r1, r2, r3]) (h1 : ROne C e I R r1 v1) (h2 : ROne C e I R r2 v2) (h3 : ROne C e I R r3 v3) (R' : List Res) (hp : Post (.tuple #[v1, v2, v3]) R') (hR : Ent R (R' ++ [F])) : Nx C e I R (fnPost C.P fn I F C.W Post .ret) :=
  fun a w ha hw => ⟨ha.defers, _, by
    have hr : fn.results = #[r1, r2, r3] := by
      have : fn.results = [r1, r2, r3].toArray := by rw [← hres]
      simpa using this
    have e1 := h1 a w ha hw
    have e2 := h2 a w ha hw
    have e3 := h3 a w ha hw
    rw [results_eq, hr]
    simp [e1, e2, e3], _, R', rfl, hp, hw.ent hR⟩
end
end Go.Eng
/-
  The proof engine, part K: a statement of open order with allocations that may come at any time, in steps that a walk finds by itself.
-/
namespace Go.Eng
section
variable {P : Program} {ops : Array Oper} {Q : Exit → Act → World → Prop} {md : Region.Mode} {S : World → Prop} {fin fq : List Nat}
/-- One of the last ones that only reads (nothing of the world): it may as well come first. -/
theorem wpAnyF_firstA {i : Nat} {oi : Oper} {v : Value} (hi : ops[i]? = some oi) (hs : Region.noSelect ops = true) (hQ : PanicOk Q) (hif : fin.contains i = true) :
    ∀ (n : Nat) (listed : Array Bool) (a : Act) (w : World),
      (∀ j oj, ops[j]? = some oj → j ≠ i → listed.getD j true = false → (∀ e ∈ oj.after, Region.binds md e = true → e.on ≠ i) → oi.apart ops oj = true) →
      i ∈ Region.ready md ops listed → YieldsIf P ops AnyW oi v a →
      wpAnyF P md ops Q S fin n (listed.setIfInBounds i true) (a.put oi.dst v) w → wpAnyF P md ops Q S fin (n + 1) listed a w
  | n, listed, a, w, hap, hr, hy, H => by
    refine ⟨fun h0 => (by rw [h0] at hr; cases hr), fun j hj => ?_⟩
    by_cases hji : j = i
    · subst hji; exact hy.wpOp hi trivial ⟨fun hf => (by rw [hif] at hf; cases hf), H⟩
    · have hj2 := ready_mono hj hji
      obtain ⟨hjun, oj, hoj, _⟩ := mem_ready.1 hj
      have hno := ready_waits hr hj hoj
      match n, H with
      | 0, H => rw [H.1] at hj2; cases hj2
      | n + 1, H =>
        have h1 := H.2 j hj2
        have h2 := wpOp_putIf hoj (hap j oj hoj hji hjun hno) (fun cs b => Region.noSelect_spec hs i oi cs b hi) (fun cs b => Region.noSelect_spec hs j oj cs b hoj) (fun c a w => hQ c oi.dst v a w) hy h1
        refine wpOp_mono (fun a' w' h3 => ?_) h2
        obtain ⟨hy', hS', H'⟩ := h3
        refine ⟨hS', wpAnyF_firstA hi hs hQ hif n (listed.setIfInBounds j true) a' w' (fun k ok hk hki hun hnk => ?_) (ready_mono hr (Ne.symm hji)) hy' ?_⟩
        · refine hap k ok hk hki ?_ hnk
          by_cases hjk : j = k
          · subst hjk; exact hjun
          · rwa [getD_set_ne true hjk] at hun
        · rw [Array.setIfInBounds_comm _ _ hji]
          exact H'
/-- The last ones: 'fq' those of them that write or call. -/
theorem wpMix_finQ (hs : Region.noSelect ops = true) (hQ : PanicOk Q) (hall : ∀ k ∈ fin, fin.contains k = true) : ∀ (r : List Nat) (n : Nat) (listed : Array Bool) (a : Act) (w : World), (∀ k ∈ r, fin.contains k = true) →
    mixOk ops fq r listed = true → r.length ≤ n → wpMix P ops Q AnyW fq r a w → wpAnyF P .any ops Q S fin n listed a w
  | [], n, listed, a, w, _, hok, _, h => by
    have hr : Region.ready .any ops listed = [] := by simpa [mixOk] using hok
    cases n with
    | zero => exact ⟨hr, h⟩
    | succ n => exact ⟨fun _ => h, by rw [hr]; simp⟩
  | k :: r, 0, listed, a, w, _, _, hl, _ => by simp at hl
  | k :: r, n + 1, listed, a, w, hk, hok, hl, h => by
    obtain ⟨o, ho, h⟩ := h
    have hkf := hk k (by simp)
    unfold mixOk at hok
    by_cases hc : fq.contains k = true
    · rw [if_pos hc] at h hok
      simp only [Bool.and_eq_true, beq_iff_eq] at hok
      refine ⟨fun h0 => (by rw [hok.1] at h0; cases h0), fun i hi => ?_⟩
      rw [hok.1] at hi
      obtain rfl : i = k := by simpa using hi
      refine wpOp_mono (fun a' w' h3 => ⟨fun hf => ?_, wpMix_finQ hs hQ hall r n _ a' w' (fun j hj => hk j (by simp [hj])) hok.2 (by simpa using hl) h3.2⟩) h
      rw [hkf] at hf; cases hf
    · rw [if_neg hc] at h hok
      simp only [Bool.and_eq_true] at hok
      obtain ⟨v, hy, h⟩ := h
      exact wpAnyF_firstA ho hs hQ hkf n listed a w (Region.free_spec ho hok.1.1) (by simpa using hok.1.2) hy (wpMix_finQ hs hQ hall r n _ _ w (fun j hj => hk j (by simp [hj])) hok.2 (by simpa using hl) h)
end
/-- What is still to come: a chain of operations (those that only read are taken first, the others come up one behind the other), allocations at any time, and last ones behind all of them. -/
def GoodF (C : Cx) (ops : Array Oper) (Q : Exit → Act → World → Prop) (S : World → Prop) (I : PH) (pool : List PoolOp) (loud mv fin fq : List Nat) : List Nat → Env → List Res → Prop
  | [], e, R => keysFree pool e = true ∧ ∀ bs : List Nat, bs.length = pool.length → Nx C (e ++ pe pool (bs.map some)) I (Stars (pr pool (bs.map some)) :: R) (wpMix C.P ops Q AnyW fq fin)
  | k :: ch, e, R => keysFree pool e = true ∧ match loud.contains k with
    | true => ∀ (ex : Env) (X : Res), Nx C (e ++ ex) I (X :: R) (wpOp C.P ops Q k (fun a w => S w ∧ ∃ e' R', Mod C.n (e' ++ ex) a ∧ St C.W I (X :: R') w ∧ GoodF C ops Q S I pool loud mv fin fq ch e' R'))
    | false => ∃ o v e', ops[k]? = some o ∧ (∀ a ex, Mod C.n (e ++ ex) a → YieldsIf C.P ops (if mv.contains k then AnyW else S) o v a ∧ Mod C.n (e' ++ ex) (a.put o.dst v)) ∧ GoodF C ops Q S I pool loud mv fin fq ch e' R
theorem GoodF.free {C : Cx} {ops : Array Oper} {Q : Exit → Act → World → Prop} {S : World → Prop} {I : PH} {pool : List PoolOp} {loud mv fin fq ch : List Nat} {e : Env} {R : List Res} (h : GoodF C ops Q S I pool loud mv fin fq ch e R) : keysFree pool e = true := by
  cases ch <;> exact h.1
def PoolSF (C : Cx) (ops : Array Oper) (Q : Exit → Act → World → Prop) (S : World → Prop) (I : PH) (pool : List PoolOp) (loud mv fin fq ch : List Nat) (ex : Env) (X : Res) : Act → World → Prop :=
  fun a w => S w ∧ ∃ e' R', Mod C.n (e' ++ ex) a ∧ St C.W I (X :: R') w ∧ GoodF C ops Q S I pool loud mv fin fq ch e' R'
def poolOkF (ops : Array Oper) (loud mv fin fq : List Nat) (pool : List PoolOp) : Nat → List Nat → List Bool → Array Bool → Bool
  | fuel, [], fl, listed =>
    if fl.all id then mixOk ops fq fin listed && Nat.ble fin.length fuel
    else match fuel with
      | 0 => false
      | f + 1 => !(Region.ready .any ops listed).isEmpty && (Region.ready .any ops listed).all fun i => match findP pool fl i 0 with
        | some j => poolOkF ops loud mv fin fq pool f [] (fl.set j true) (listed.setIfInBounds i true)
        | none => false
  | 0, _ :: _, _, _ => false
  | f + 1, k :: ch, fl, listed => match loud.contains k with
    | true => !(Region.ready .any ops listed).isEmpty && (Region.ready .any ops listed).all fun i =>
      if Nat.beq i k then poolOkF ops loud mv fin fq pool f ch fl (listed.setIfInBounds i true)
      else match findP pool fl i 0 with
        | some j => poolOkF ops loud mv fin fq pool f (k :: ch) (fl.set j true) (listed.setIfInBounds i true)
        | none => false
    | false => Region.free .any ops listed k && (Region.ready .any ops listed).contains k && (mv.contains k || finWaits .any ops (mv ++ fin) k) && poolOkF ops loud mv fin fq pool f ch fl (listed.setIfInBounds k true)
section
variable {C : Cx} {e e' : Env} {I : PH} {R R' R0 : List Res} {K K' : Act → World → Prop} {Q : Exit → Act → World → Prop} {W : World}
variable {ops : Array Oper} {S : World → Prop} {loud mv fin fq ch : List Nat} {pool : List PoolOp} {c : Code} {o : Oper}
theorem pool_anyF (hs : Region.noSelect ops = true) (hQ : PanicOk Q) (hd : (pool.map (·.d)).Pairwise (· ≠ ·)) (hfit : ∀ p ∈ pool, PoolFit C ops p) (hS : ∀ w o, S w → S (w.alloc o)) :
    ∀ (fuel : Nat) (ch : List Nat) (bs : List (Option Nat)) (listed : Array Bool) (e : Env) (R : List Res) (a : Act) (w : World), Closed .any ops listed → poolOkF ops loud mv fin fq pool fuel ch (bs.map Option.isSome) listed = true → bs.length = pool.length →
      Mod C.n (e ++ pe pool bs) a → St C.W I (Stars (pr pool bs) :: R) w → S w → GoodF C ops Q S I pool loud mv fin fq ch e R → wpAnyF C.P .any ops Q S (mv ++ fin) fuel listed a w := by
  have hfull : ∀ (fuel : Nat) (bs : List (Option Nat)) (listed : Array Bool) (e : Env) (R : List Res) (a : Act) (w : World), (bs.map Option.isSome).all id = true → (mixOk ops fq fin listed && Nat.ble fin.length fuel) = true → bs.length = pool.length →
      Mod C.n (e ++ pe pool bs) a → St C.W I (Stars (pr pool bs) :: R) w → GoodF C ops Q S I pool loud mv fin fq [] e R → wpAnyF C.P .any ops Q S (mv ++ fin) fuel listed a w := by
    intro fuel bs listed e R a w hall hok hbl ha hw hg
    obtain ⟨l, rfl⟩ := map_isSome hall
    rw [Bool.and_eq_true] at hok
    exact wpMix_finQ hs hQ (fun k hk => by simpa using hk) fin fuel listed a w (fun k hk => by simp [hk]) hok.1 (Nat.le_of_ble_eq_true hok.2) (hg.2 l (by simpa using hbl) a w ha hw)
  intro fuel
  induction fuel with
  | zero =>
    intro ch bs listed e R a w hcl hok hbl ha hw hSw hg
    cases ch with
    | cons k ch => simp [poolOkF] at hok
    | nil =>
      unfold poolOkF at hok
      split at hok
      · rename_i hall
        exact hfull 0 bs listed e R a w hall hok hbl ha hw hg
      · cases hok
  | succ f ih =>
    intro ch bs listed e R a w hcl hok hbl ha hw hSw hg
    have poolStep : ∀ i j, i ∈ Region.ready .any ops listed → findP pool (bs.map Option.isSome) i 0 = some j → poolOkF ops loud mv fin fq pool f ch ((bs.map Option.isSome).set j true) (listed.setIfInBounds i true) = true →
        wpOp C.P ops Q i (fun a' w' => ((mv ++ fin).contains i = false → S w') ∧ wpAnyF C.P .any ops Q S (mv ++ fin) f (listed.setIfInBounds i true) a' w') a w := by
      intro i j hir hfj hokj
      obtain ⟨m, p, hm, hpm, hfm, hpk⟩ := findP_ok hfj
      obtain rfl : j = m := by omega
      subst hpk
      have hbj : bs[j]? = some none := by
        rw [List.getElem?_map] at hfm
        cases hbj : bs[j]? with
        | none => rw [hbj] at hfm; cases hfm
        | some o => cases o with
          | none => rfl
          | some b => rw [hbj] at hfm; cases hfm
      obtain ⟨⟨ty, pos, after, hop⟩, hz, hlt⟩ := hfit p (List.mem_of_getElem? hpm)
      unfold wpOp
      simp only [hop]
      rw [if_pos (by simp [Region.wanted])]
      refine .inl ?_
      obtain ⟨z, hzc, hrun⟩ := zeroOf_run hz w
      have hrun' : (execOp a.eval ⟨some p.d, .alloc p.t, ty, pos, after, none⟩).run C.P w = .ok (.value (.pointer (some ⟨w.heap.size, 0, none⟩))) (w.alloc (.cells p.cs.toArray p.t)) := by
        refine run_v ?_
        unfold Instr.alloc
        rw [Sem.run_bind, hrun, Result.andThen_ok]
        simp only [newVar, hzc]
        rfl
      unfold Oper.wp
      rw [hrun']
      refine ⟨fun _ => hS w _ hSw, ?_⟩
      refine ih ch (bs.set j (some w.heap.size)) (listed.setIfInBounds p.k true) e R _ _ (hcl.set hir) ?_ (by rw [List.length_set]; exact hbl) (ha.poolPut hg.free hd hpm hbj hlt) ?_ (hS w _ hSw) hg
      · rw [List.map_set]; exact hokj
      · refine (hw.alloc (.cells p.cs.toArray p.t)).ent ?_
        refine (Ent.bundle (B := pr pool bs) (r := Blk w.heap.size p.t p.cs)).trans ?_
        refine Ent.head fun m hm => ?_
        obtain ⟨m1, m2, hd', rfl, h1, h2⟩ := Stars.append hm
        obtain ⟨n1, n2, hd2, rfl, h3, _⟩ := h2
        obtain ⟨m', hle, h'⟩ := pr_set (b := w.heap.size) hpm hbj (n1.or m1) ⟨n1, m1, (PH.dis_or.1 hd').1.symm, rfl, h3, h1⟩
        exact Stars.up h' (hle.trans (PH.or_le ((PH.le_or_left n1 n2).trans (PH.le_or_right hd')) (PH.le_or_left _ _)))
    cases ch with
    | nil =>
      unfold poolOkF at hok
      split at hok
      · rename_i hall
        exact hfull (f + 1) bs listed e R a w hall hok hbl ha hw hg
      · simp only [Bool.and_eq_true, Bool.not_eq_true', List.all_eq_true] at hok
        refine ⟨fun h0 => (by rw [h0] at hok; simp at hok), fun i hi => ?_⟩
        have := hok.2 i hi
        split at this
        · rename_i j hj; exact poolStep i j hi hj this
        · cases this
    | cons k ch =>
      unfold poolOkF at hok
      cases hl : loud.contains k with
      | true =>
        rw [hl] at hok
        simp only [Bool.and_eq_true, Bool.not_eq_true', List.all_eq_true] at hok
        have hg2 := hg.2
        rw [hl] at hg2
        refine ⟨fun h0 => (by rw [h0] at hok; simp at hok), fun i hi => ?_⟩
        have := hok.2 i hi
        split at this
        · rename_i hik
          obtain rfl := Nat.eq_of_beq_eq_true hik
          refine wpOp_mono (fun a' w' => ?_) (hg2 (pe pool bs) (Stars (pr pool bs)) a w ha hw)
          rintro ⟨hS', e', R', ha', hw', hg'⟩
          exact ⟨fun _ => hS', ih ch bs _ e' R' a' w' (hcl.set hi) this hbl ha' hw' hS' hg'⟩
        · split at this
          · rename_i j hj; exact poolStep i j hi hj this
          · cases this
      | false =>
        rw [hl] at hok
        simp only [Bool.and_eq_true] at hok
        have hg2 := hg.2
        rw [hl] at hg2
        obtain ⟨o, v, e', ho, hy, hg'⟩ := hg2
        obtain ⟨hy1, hy2⟩ := hy a _ ha
        cases hmv : mv.contains k with
        | true =>
          rw [hmv] at hy1
          exact wpAnyF_firstA ho hs hQ (by simp at hmv ⊢; exact .inl hmv) f listed a w (Region.free_spec ho hok.1.1.1) (by simpa using hok.1.1.2) hy1 (ih ch bs _ e' R _ w (hcl.set (by simpa using hok.1.1.2)) hok.2 hbl hy2 hw hSw hg')
        | false =>
          rw [hmv] at hy1 hok
          exact wpAnyF_first ho hs hQ (by simpa using hok.1.2) f listed a w hcl (Region.free_spec ho hok.1.1.1) (by simpa using hok.1.1.2) hy1 hSw (ih ch bs _ e' R _ w (hcl.set (by simpa using hok.1.1.2)) hok.2 hbl hy2 hw hSw hg')
/-- 'ch': the chain; 'loud': those of it that write or call; 'fin': the last ones. -/
theorem Nx.p_poolF {id : Nat} (hid : cid c = id) (ch loud mv fin fq : List Nat) (pool : List PoolOp) (hk : ck c = 2) (hm : C.P.follows .mixedOrders = true) (hs : Region.noSelect (cops c) = true)
    (hok : poolOkF (cops c) loud mv fin fq pool (cops c).size ch (pool.map fun _ => false) (Array.replicate (cops c).size false) = true)
    (hd : (pool.map (·.d)).Pairwise (· ≠ ·)) (hfit : ∀ p ∈ pool, PoolFit C (cops c) p) (hQ : PanicOk Q) (hR : Ent R R0)
    (h : GoodF C (cops c) Q (St C.W I R0) I pool loud mv fin fq ch e R) : Nx C e I R (c.wp C.P Q) := by
  have hc : c = .region (cid c) (cops c) true := by
    cases c <;> first | (simp [ck] at hk; done) | skip
    rename_i b
    cases b with
    | false => simp [ck] at hk
    | true => rfl
  clear hid
  rw [hc]
  have hS : ∀ w o, St C.W I R0 w → St C.W I R0 (w.alloc o) := fun w o h => (h.alloc o).ent (Ent.drop (Ent.refl _))
  intro a w ha hw
  obtain ⟨h1, h2, h3⟩ := pe_nones pool
  refine wp_region_any hm (wpAny_of_fin (S := St C.W I R0) (fin := mv ++ fin) _ _ _ _ ?_)
  refine pool_anyF hs hQ hd hfit hS _ ch (pool.map fun _ => none) _ e R a _ (Closed.start _) (by rw [h3]; exact hok) (by simp) (by rw [h1, List.append_nil]; exact ha) (hw.drew.ent ?_) (hw.drew.ent hR) h
  rw [h2]
  exact Ent.stars_nil _
theorem GoodF.is (h : GoodF C ops Q S I pool loud mv fin fq ch e R) : GoodF C ops Q S I pool loud mv fin fq ch e R := h
theorem GoodF.loud_ {k : Nat} (hf : keysFree pool e = true) (hl : loud.contains k = true) (ho : opAt ops.toList k = some o) (hg : o.guard = none) (h : ∀ (ex : Env) (X : Res), Nx C (e ++ ex) I (X :: R) (opK C.P o (PoolSF C ops Q S I pool loud mv fin fq ch ex X) Q)) : GoodF C ops Q S I pool loud mv fin fq (k :: ch) e R :=
  ⟨hf, by
    rw [hl]
    intro ex X a w ha hw
    unfold wpOp
    simp only [opAt_arr ho]
    rw [if_pos (by simp [Region.wanted, hg])]
    exact .inl (h ex X a w ha hw)⟩
theorem Mod.app_l {n : Nat} {a : Act} {ex : Env} (h : Mod n (e ++ ex) a) : Mod n e a := ⟨h.size, h.defers, fun t v ht => h.get t v (lk_app_l ht)⟩
theorem GoodF.quiet {k d : Nat} {v : Value} (hf : keysFree pool e = true) (hl : loud.contains k = false) (ho : opAt ops.toList k = some o) (hg : o.guard = none) (hd : o.dst = some d) (hlt : Nat.blt d C.n = true) (hrun : QRun C e (if mv.contains k then AnyW else S) o v) (h : GoodF C ops Q S I pool loud mv fin fq ch ((d, v) :: e) R) : GoodF C ops Q S I pool loud mv fin fq (k :: ch) e R :=
  ⟨hf, by
    rw [hl]
    refine ⟨o, v, (d, v) :: e, opAt_arr ho, fun a ex ha => ⟨.inl ⟨by simp [Region.wanted, hg], fun w hS => hrun a w ha.app_l hS⟩, ?_⟩, h⟩
    rw [hd]
    exact ha.put hlt v⟩
theorem GoodF.done1 {p : PoolOp} (hf : keysFree [p] e = true) (h : ∀ b, Nx C (e ++ [(p.d, .pointer (some ⟨b, 0, none⟩))]) I (Blk b p.t p.cs :: R) (wpMix C.P ops Q AnyW fq fin)) : GoodF C ops Q S I [p] loud mv fin fq [] e R := ⟨hf, fun bs hbs => by
  match bs, hbs with
  | [b], _ => exact Nx.unfoldAt 0 (B := [Blk b p.t p.cs]) rfl (h b)⟩
theorem GoodF.done2 {p q : PoolOp} (hf : keysFree [p, q] e = true) (h : ∀ b b', Nx C (e ++ [(p.d, .pointer (some ⟨b, 0, none⟩)), (q.d, .pointer (some ⟨b', 0, none⟩))]) I (Blk b p.t p.cs :: Blk b' q.t q.cs :: R) (wpMix C.P ops Q AnyW fq fin)) : GoodF C ops Q S I [p, q] loud mv fin fq [] e R := ⟨hf, fun bs hbs => by
  match bs, hbs with
  | [b, b'], _ => exact Nx.unfoldAt 0 (B := [Blk b p.t p.cs, Blk b' q.t q.cs]) rfl (h b b')⟩
theorem GoodF.done3 {p q r : PoolOp} (hf : keysFree [p, q, r] e = true) (h : ∀ b b' b2, Nx C (e ++ [(p.d, .pointer (some ⟨b, 0, none⟩)), (q.d, .pointer (some ⟨b', 0, none⟩)), (r.d, .pointer (some ⟨b2, 0, none⟩))]) I (Blk b p.t p.cs :: Blk b' q.t q.cs :: Blk b2 r.t r.cs :: R) (wpMix C.P ops Q AnyW fq fin)) : GoodF C ops Q S I [p, q, r] loud mv fin fq [] e R := ⟨hf, fun bs hbs => by
  match bs, hbs with
  | [b, b', b2], _ => exact Nx.unfoldAt 0 (B := [Blk b p.t p.cs, Blk b' q.t q.cs, Blk b2 r.t r.cs]) rfl (h b b' b2)⟩
/-- Behind an operation of the chain. 'k': where the frame X stands. -/
theorem Nx.pool_nextF (k : Nat) {ex : Env} {X : Res} {t : Nat} {v : Value} (hk : nthL R k = some X) (hS : Ent R R0) (h : GoodF C ops Q (St C.W I R0) I pool loud mv fin fq ch ((t, v) :: e) (R.eraseIdx k)) : Nx C ((t, v) :: (e ++ ex)) I R (PoolSF C ops Q (St C.W I R0) I pool loud mv fin fq ch ex X) :=
  fun _ _ ha hw => ⟨hw.ent hS, (t, v) :: e, R.eraseIdx k, ha, hw.ent (Ent.pull k R X (nthL_eq.symm.trans hk)), h⟩
theorem PoolFit.cons {p : PoolOp} {r : List PoolOp} (h : PoolFit C ops p) (hr : ∀ q ∈ r, PoolFit C ops q) : ∀ q ∈ p :: r, PoolFit C ops q := fun q hq => by
  rcases List.mem_cons.1 hq with rfl | hq
  · exact h
  · exact hr q hq
theorem PoolFit.nil : ∀ q ∈ ([] : List PoolOp), PoolFit C ops q := fun q hq => by simp at hq
end
end Go.Eng
/-
  The proof engine, part U: unsigned whole numbers of 64 bits: sums that wrap, shifts, bits.
-/
namespace Go.Eng
/-- 2^64 -/
abbrev B64 : Int := 18446744073709551616
section
variable {P : Program} {t : TypeId} {x y : Operand} {p q : Int}
theorem run_addU : pureRun P (do eqGuard .add t x y (.int .u64 p) (.int .u64 q); binOp .add t (.int .u64 p) (.int .u64 q)) = some (.int .u64 ((p + q) % B64)) := by rw [← IntKind.wrap_u64]; rfl
theorem ofInt_nat {a : Nat} (ha : a < 18446744073709551616) : (BitVec.ofInt 64 (a : Int)).toNat = a := by
  rw [BitVec.toNat_ofInt]
  omega
theorem wrap_nat {a : Nat} (ha : a < 18446744073709551616) : IntKind.u64.wrap (a : Int) = a := by rw [IntKind.wrap_u64]; omega
theorem run_andU {a b : Nat} (ha : a < 18446744073709551616) (hb : b < 18446744073709551616) : pureRun P (do eqGuard .and t x y (.int .u64 (a : Int)) (.int .u64 (b : Int)); binOp .and t (.int .u64 (a : Int)) (.int .u64 (b : Int))) = some (.int .u64 ((a &&& b : Nat) : Int)) := by
  have h : (BitVec.ofInt 64 (a : Int) &&& BitVec.ofInt 64 (b : Int)).toNat = a &&& b := by rw [BitVec.toNat_and, ofInt_nat ha, ofInt_nat hb]
  have hlt : a &&& b < 18446744073709551616 := Nat.lt_of_le_of_lt Nat.and_le_left ha
  rw [← wrap_nat hlt, ← h]
  rfl
theorem run_shrU {k : IntKind} {n : Nat} (hn : n ≤ 64) : pureRun P (do eqGuard .shr t x y (.int .u64 p) (.int k (n : Int)); binOp .shr t (.int .u64 p) (.int k (n : Int))) = some (.int .u64 (p / 2 ^ n)) := by
  have h1 : ¬ (n : Int) < 0 := by omega
  have h2 : min ((n : Int).toNat) IntKind.u64.bits = n := by rw [Int.toNat_natCast]; exact Nat.min_eq_left (by simp [IntKind.bits]; omega)
  have h3 : Op.shift .shr .u64 p k (n : Int) = pure (.int .u64 (p / 2 ^ n)) := by
    unfold Op.shift
    rw [if_neg h1, h2]
    simp only [Int.fdiv_eq_ediv_of_nonneg p (show (0 : Int) ≤ 2 ^ n from Int.pow_nonneg (by omega))]
  show pureRun P (Op.shift .shr .u64 p k (n : Int)) = _
  rw [h3]; rfl
theorem run_shrI {k : IntKind} {n : Nat} (hn : n ≤ 64) : pureRun P (do eqGuard .shr t x y (.int .i64 p) (.int k (n : Int)); binOp .shr t (.int .i64 p) (.int k (n : Int))) = some (.int .i64 (p / 2 ^ n)) := by
  have h1 : ¬ (n : Int) < 0 := by omega
  have h2 : min ((n : Int).toNat) IntKind.i64.bits = n := by rw [Int.toNat_natCast]; exact Nat.min_eq_left (by simp [IntKind.bits]; omega)
  have h3 : Op.shift .shr .i64 p k (n : Int) = pure (.int .i64 (p / 2 ^ n)) := by
    unfold Op.shift
    rw [if_neg h1, h2]
    simp only [Int.fdiv_eq_ediv_of_nonneg p (show (0 : Int) ≤ 2 ^ n from Int.pow_nonneg (by omega))]
  show pureRun P (Op.shift .shr .i64 p k (n : Int)) = _
  rw [h3]; rfl
end
/-! The highest bit -/
/-! A call that the model answers itself -/
section
variable {C : Cx} {e : Env} {I : PH} {R : List Res} {K : Act → World → Prop} {Q : Exit → Act → World → Prop}
variable {d : Nat} {ty : TypeId} {pos : String} {after : Array Edge} {g : Option (Nat × Bool)} {v : Value}
theorem Nx.binr {op : BinOp} {t u : TypeId} {x y : Operand} {vx vy : Value} (hx : evo e x = some vx) (hy : evo e y = some vy) (hv : ∀ w, (do eqGuard op t x y vx vy; binOp op t vx vy).run C.P w = .ok v w) (hlt : Nat.blt d C.n = true)
    (h : Nx C ((d, v) :: e) I R K) : Nx C e I R (opK C.P ⟨some d, .binOp op t x y u, ty, pos, after, g⟩ K Q) :=
  Nx.op_run rfl hlt (fun a w ha _ => by simp only [execOp, ha.eval hx, ha.eval hy]; exact run_v (hv w)) h
/-- Conversion of an integer to uint64. -/
theorem Nx.conv_u64 {t u : TypeId} {x : Operand} {k : IntKind} {p : Int} {s : TypeDesc} (hx : evo e x = some (.int k p)) (hs : C.P.underlying t = some s) (ht : C.P.underlying u = some (.int .u64)) (hlt : Nat.blt d C.n = true)
    (h : Nx C ((d, .int .u64 (p % B64)) :: e) I R K) : Nx C e I R (opK C.P ⟨some d, .convert t u x, ty, pos, after, g⟩ K Q) :=
  Nx.op_run rfl hlt (fun a w ha _ => by
    simp only [execOp, ha.eval hx]
    refine run_v ?_
    unfold convert
    rw [Sem.run_bind, run_underlying hs, Result.andThen_ok, Sem.run_bind, run_underlying ht, Result.andThen_ok]
    show Result.ok (Value.int .u64 (IntKind.u64.wrap p)) w = _
    rw [IntKind.wrap_u64]) h
end
set_option maxHeartbeats 8000000 in
/-- A function that leaves memory as it is, by a contract of the library. -/
theorem FnSpec.of_same {P : Program} {f : FuncId} {args : List Value} {I : PH} {v : Value} (h : ∀ (w W : World) (R : List Res), St W I R w → Calls P f args.toArray w fun e w' => e = .returned v ∧ w' = w) :
    FnSpec P f args I [] (fun u R' => u = v ∧ R' = []) := fun w _ hw =>
  (h w w _ hw).mono fun _ _ ⟨he, hw'⟩ => ⟨v, [], he, ⟨rfl, rfl⟩, hw' ▸ hw⟩
end Go.Eng
/-
  The proof engine, part R: fractions as rational numbers.
-/
namespace Go.Eng
section
variable {P : Program} {t : TypeId} {x y : Operand} {p q : Int}
end
/-- A fraction's two numbers, not too large. -/
def RB (q : Rat) : Prop := q.num.natAbs ≤ 1152921504606846976 ∧ q.den ≤ 1152921504606846976
instance (q : Rat) : Decidable (RB q) := by unfold RB; infer_instance
def FOk (n d : Int) : Prop := 1 ≤ d ∧ d ≤ 1152921504606846976 ∧ -1152921504606846976 ≤ n ∧ n ≤ 1152921504606846976 ∧ Nat.gcd n.natAbs d.natAbs = 1
instance (n d : Int) : Decidable (FOk n d) := by unfold FOk; infer_instance
end Go.Eng
/-
  The proof engine, part T: a library function that makes new memory and draws; strings.
-/
namespace Go.Eng
open Go.Sort (grow)
theorem St.grown {W w : World} {I : PH} {R : List Res} (h : St W I R w) (k : Nat) (os : Array Obj) : St W I R (grow (w.drewN k) os) := by
  obtain ⟨⟨m, hm, hs⟩, hst⟩ := h
  have hold : ∀ (i : Nat) (o : Obj), w.heap[i]? = some o → (grow (w.drewN k) os).heap[i]? = some o := fun i o hi => by
    have hlt := (Array.getElem?_eq_some_iff.1 hi).1
    show (w.heap ++ os)[i]? = some o
    rw [Array.getElem?_append_left hlt]
    exact hi
  refine ⟨⟨m, hm, ⟨fun i o hi => hold i o (hs.imm i o hi), fun i o hi => hold i o (hs.own i o hi), hs.dis⟩⟩, ⟨hst.os, hst.tape, hst.output, Nat.le_trans hst.size (Lib.size_grow w k os), Nat.le_trans hst.drawn (Nat.le_add_right _ _)⟩⟩
/-- A text, by its bytes. -/
def strV (l : List UInt8) : Value := .string ⟨l.toArray⟩
section
variable {P : Program} {t : TypeId} {x y : Operand} {a b : List UInt8}
theorem run_streq (w : World) : (do eqGuard .eql t x y (.string ⟨a.toArray⟩) (.string ⟨b.toArray⟩); binOp .eql t (.string ⟨a.toArray⟩) (.string ⟨b.toArray⟩)).run P w = .ok (.bool (a == b)) w := by
  rw [eqGuard_at_string, binOp_string_eql, ByteArray.toList_mk, ByteArray.toList_mk]
  rfl
theorem run_strne (w : World) : (do eqGuard .neq t x y (.string ⟨a.toArray⟩) (.string ⟨b.toArray⟩); binOp .neq t (.string ⟨a.toArray⟩) (.string ⟨b.toArray⟩)).run P w = .ok (.bool (!(a == b))) w := by
  rw [eqGuard_at_string, binOp_string_neq, ByteArray.toList_mk, ByteArray.toList_mk]
  rfl
theorem run_booleq {t : TypeId} {x y : Operand} (ht : P.underlying t = some .bool) (b c : Bool) (w : World) : (do eqGuard .eql t x y (.bool b) (.bool c); binOp .eql t (.bool b) (.bool c)).run P w = .ok (.bool (b == c)) w := by
  rw [eqGuard_at_bool]
  show (do pure (Value.bool (← Op.equal t (.bool b) (.bool c))) : Sem Value).run P w = _
  rw [Sem.run_bind, run_equal_bool w t b c ht]; rfl
end
end Go.Eng
/-
  The proof engine, part M: maps that are owned, as lists of keys and values.
-/
namespace Go.Eng
open Go.Instr
/-- How keys of one kind lie in a map. -/
structure KeyEnc (P : Program) (kt : TypeId) {κ : Type} [DecidableEq κ] (g : κ → Value) : Prop where
  same : ∃ kind, P.underlying kt = some kind ∧ ∀ a b, sameNow kind (g a) (g b) = some (decide (a = b))
  check : ∀ (em : Bool) (a : κ) (w : World), (checkKey em 10000 kt (g a)).run P w = .ok () w
  bits : ∀ a, sameBits 10000 (g a) (g a) = true
theorem KeyEnc.int {P : Program} {kt : TypeId} {k : IntKind} (h : P.underlying kt = some (.int k)) : KeyEnc P kt (fun x : Int => Value.int k x) := by
  refine ⟨⟨_, h, fun a b => ?_⟩, fun em a w => ?_, fun a => by simp [sameBits]⟩
  · simp only [sameNow, if_pos]
    by_cases hab : a = b <;> simp [hab]
  · unfold checkKey
    rw [Sem.run_bind, run_underlying h, Result.andThen_ok]
    rfl
section
variable {κ α : Type} [DecidableEq κ] {g : κ → Value} {f : α → Value}
def mfindI : List (κ × α) → κ → Nat → Option (Nat × α)
  | [], _, _ => none
  | (k', v) :: r, k, i => if k = k' then some (i, v) else mfindI r k (i + 1)
def mset : List (κ × α) → κ → α → List (κ × α)
  | [], k, v => [(k, v)]
  | (k', v') :: r, k, v => if k = k' then (k', v) :: r else (k', v') :: mset r k v
def entOk (g : κ → Value) (f : α → Value) (es : List MapEntry) (l : List (κ × α)) : Prop := es.map (fun e => (e.key, e.val)) = l.map fun p => (g p.1, f p.2)
theorem findNow_ent {kind : TypeDesc} (hs : ∀ a b, sameNow kind (g a) (g b) = some (decide (a = b))) {k : κ} : ∀ {es : List MapEntry} {l : List (κ × α)} (i : Nat), entOk g f es l → findNow kind (g k) es i = some ((mfindI l k i).map fun p => (p.1, f p.2))
  | [], [], i, _ => rfl
  | [], _ :: _, i, h => by simp [entOk] at h
  | _ :: _, [], i, h => by simp [entOk] at h
  | e :: es, (q, u) :: l, i, h => by
    simp only [entOk, List.map_cons, List.cons.injEq, Prod.mk.injEq] at h
    obtain ⟨⟨h1, h2⟩, h3⟩ := h
    unfold findNow
    rw [h1, hs]
    unfold mfindI
    by_cases hk : k = q
    · simp [hk, h2]
    · simp only [hk, decide_false]
      exact findNow_ent hs (i + 1) h3
theorem modify_ent {k : κ} {v v0 : α} : ∀ {es : List MapEntry} {l : List (κ × α)} {i j : Nat}, entOk g f es l → mfindI l k i = some (j, v0) → i ≤ j ∧ j - i < es.length ∧ entOk g f (es.modify (j - i) fun e => { e with key := g k, val := f v }) (mset l k v)
  | [], [], i, j, _, h => by simp [mfindI] at h
  | [], _ :: _, i, j, h, _ => by simp [entOk] at h
  | _ :: _, [], i, j, h, _ => by simp [entOk] at h
  | e :: es, (q, u) :: l, i, j, h, hf => by
    simp only [entOk, List.map_cons, List.cons.injEq, Prod.mk.injEq] at h
    obtain ⟨⟨h1, h2⟩, h3⟩ := h
    unfold mfindI at hf
    unfold mset
    by_cases hk : k = q
    · rw [if_pos hk] at hf ⊢
      simp only [Option.some.injEq, Prod.mk.injEq] at hf
      obtain ⟨rfl, rfl⟩ := hf
      refine ⟨Nat.le_refl _, by simp, ?_⟩
      rw [Nat.sub_self]
      simp only [entOk, List.modify_zero_cons, List.map_cons, List.cons.injEq, Prod.mk.injEq]
      exact ⟨⟨by rw [hk], trivial⟩, h3⟩
    · rw [if_neg hk] at hf ⊢
      obtain ⟨a1, a2, a3⟩ := modify_ent (v := v) h3 hf
      refine ⟨by omega, by simp; omega, ?_⟩
      rw [show j - i = (j - (i + 1)) + 1 by omega]
      simp only [entOk, List.modify_succ_cons, List.map_cons, List.cons.injEq, Prod.mk.injEq]
      exact ⟨⟨h1, h2⟩, a3⟩
theorem push_ent {k : κ} {v : α} : ∀ {es : List MapEntry} {l : List (κ × α)} {i : Nat} {e : MapEntry}, entOk g f es l → mfindI l k i = none → e.key = g k → e.val = f v → entOk g f (es ++ [e]) (mset l k v)
  | [], [], i, e, _, _, h1, h2 => by simp [entOk, mset, h1, h2]
  | [], _ :: _, i, e, h, _, _, _ => by simp [entOk] at h
  | _ :: _, [], i, e, h, _, _, _ => by simp [entOk] at h
  | x :: es, (q, u) :: l, i, e, h, hf, he1, he2 => by
    simp only [entOk, List.map_cons, List.cons.injEq, Prod.mk.injEq] at h
    obtain ⟨⟨h1, h2⟩, h3⟩ := h
    unfold mfindI at hf
    by_cases hk : k = q
    · rw [if_pos hk] at hf; cases hf
    · rw [if_neg hk] at hf
      unfold mset
      rw [if_neg hk]
      simp only [entOk, List.cons_append, List.map_cons, List.cons.injEq, Prod.mk.injEq]
      exact ⟨⟨h1, h2⟩, push_ent h3 hf he1 he2⟩
/-- A map that is owned. -/
def MapR (g : κ → Value) (f : α → Value) (b : Nat) (l : List (κ × α)) : Res := fun m => ∃ es clock, m b = some (.map es clock) ∧ entOk g f es.toList l
theorem run_findKey_ent {P : Program} {kt : TypeId} (K : KeyEnc P kt g) {es : List MapEntry} {l : List (κ × α)} (h : entOk g f es l) (k : κ) (w : World) : (findKey kt (g k) es).run P w = .ok ((mfindI l k 0).map fun p => (p.1, f p.2)) w := by
  obtain ⟨kind, hk, hs⟩ := K.same
  unfold findKey
  rw [Sem.run_bind, run_underlying hk, Result.andThen_ok, findNow_ent hs 0 h]
  rfl
theorem run_update_ent {P : Program} {t kt et : TypeId} {b clock : Nat} {es : Array MapEntry} {l : List (κ × α)} {w : World} (K : KeyEnc P kt g) (ht : P.underlying t = some (.map kt et)) (hb : w.heap[b]? = some (.map es clock)) (h : entOk g f es.toList l) (k : κ) (v : α) :
    ∃ es' clock', (Instr.mapUpdate t (.map (some b)) (g k) (f v)).run P w = .ok () { w with heap := w.heap.setIfInBounds b (.map es' clock') } ∧ entOk g f es'.toList (mset l k v) := by
  unfold Instr.mapUpdate
  cases hm : mfindI l k 0 with
  | none =>
    refine ⟨es.push ⟨g k, f v, clock⟩, clock + 1, ?_, by rw [Array.toList_push]; exact push_ent h hm rfl rfl⟩
    rw [Sem.run_bind, run_underlying ht, Result.andThen_ok]
    simp only [Sem.run_bind, MapKept.run_getObj_map hb, Result.andThen_ok, K.check, run_findKey_ent K h, hm, Option.map_none, MapKept.run_setObj_map _ hb]
  | some p =>
    obtain ⟨j, v0⟩ := p
    obtain ⟨_, hlt, hmod⟩ := modify_ent (v := v) h hm
    rw [Nat.sub_zero] at hlt hmod
    have hkey : es[j]?.map (·.key) = some (g k) := by
      have key : ∀ {es : List MapEntry} {l : List (κ × α)} {i : Nat}, entOk g f es l → mfindI l k i = some (j, v0) → i ≤ j ∧ (es[j - i]?).map (·.key) = some (g k) := by
        intro es
        induction es with
        | nil => intro l i h1 h2; cases l with
          | nil => simp [mfindI] at h2
          | cons _ _ => simp [entOk] at h1
        | cons e es ih =>
          intro l i h1 h2
          cases l with
          | nil => simp [entOk] at h1
          | cons q l =>
            obtain ⟨q, u⟩ := q
            simp only [entOk, List.map_cons, List.cons.injEq, Prod.mk.injEq] at h1
            obtain ⟨⟨a1, a2⟩, a3⟩ := h1
            unfold mfindI at h2
            by_cases hk : k = q
            · rw [if_pos hk] at h2
              simp only [Option.some.injEq, Prod.mk.injEq] at h2
              obtain ⟨rfl, rfl⟩ := h2
              refine ⟨Nat.le_refl _, ?_⟩
              rw [Nat.sub_self]
              simp [a1, hk]
            · rw [if_neg hk] at h2
              obtain ⟨b1, b2⟩ := ih a3 h2
              refine ⟨by omega, ?_⟩
              rw [show j - i = (j - (i + 1)) + 1 by omega, List.getElem?_cons_succ]
              exact b2
      have := (key h hm).2
      rw [Nat.sub_zero] at this
      rw [← Array.getElem?_toList]
      exact this
    refine ⟨es.modify j fun e => { e with key := g k, val := f v }, clock, ?_, by rw [Array.toList_modify]; exact hmod⟩
    rw [Sem.run_bind, run_underlying ht, Result.andThen_ok]
    simp only [Sem.run_bind, MapKept.run_getObj_map hb, Result.andThen_ok, K.check, run_findKey_ent K h, hm, Option.map_some, hkey, Option.getD_some, keyThatStays, K.bits, if_true, Sem.run_pure, MapKept.run_setObj_map _ hb]
end
section
variable {C : Cx} {e e' : Env} {I : PH} {R R' R0 : List Res} {K K' : Act → World → Prop} {Q : Exit → Act → World → Prop} {W : World}
variable {d : Nat} {ty t : TypeId} {pos : String} {after : Array Edge} {gd : Option (Nat × Bool)} {x y z : Operand} {dst : Option Tmp}
variable {κ α : Type}
theorem Nx.makeMap (g : κ → Value) (f : α → Value) (hlt : Nat.blt d C.n = true)
    (h : ∀ b, Nx C ((d, .map (some b)) :: e) I (MapR g f b [] :: R) K) : Nx C e I R (opK C.P ⟨some d, .makeMap t none, ty, pos, after, gd⟩ K Q) :=
  Nx.op_new (v := fun b => .map (some b)) (ob := .map #[] 0) rfl hlt (fun a w ha hw => by
    simp only [execOp, Option.map_none]
    exact run_v rfl) (fun b => (h b).ent (Ent.head fun m hm => ⟨#[], 0, hm, rfl⟩))
variable [DecidableEq κ]
end
end Go.Eng
/-
  The proof engine, part X: strings: their bytes, their parts, their order; bytes made into strings and back; a string appended to bytes.
-/
namespace Go.Eng
open Go.Lib (strCells)
open Go.Instr
variable {C : Cx} {e e' : Env} {I : PH} {R R' : List Res} {K K' : Act → World → Prop} {Q : Exit → Act → World → Prop}
variable {d : Nat} {ty t u el : TypeId} {pos : String} {after : Array Edge} {g : Option (Nat × Bool)} {x y z : Operand} {v vx vy vz : Value} {A : Option Addr} {n c : Nat}
/-- A byte's value. -/
def byteV (b : UInt8) : Value := .int .u8 b.toNat
/-- len(s). -/
theorem Nx.len_strV {tys : Array TypeId} {l : List UInt8} (hx : evo e x = some (strV l)) (hty : tys = #[t]) (ht : C.P.underlying t = some .string) (hlt : Nat.blt d C.n = true)
    (h : Nx C ((d, .int .i64 l.length) :: e) I R K) : Nx C e I R (opK C.P ⟨some d, .call { callee := .builtin .len, args := #[x], argTypes := tys }, ty, pos, after, g⟩ K Q) := by
  refine Nx.len_str (s := ⟨l.toArray⟩) hx hty ht hlt ?_
  rw [show ((ByteArray.mk l.toArray).size : Int) = l.length by simp [ByteArray.size]]
  exact h
theorem run_index_str {P : Program} {k : IntKind} {l : List UInt8} {i : Nat} (ht : P.underlying t = some .string) (hi : i < l.length) (w : World) : (Instr.index t (strV l) (.int k (i : Int))).run P w = .ok (byteV (l.getD i default)) w := by
  have h := run_index_string (P := P) w t ⟨l.toArray⟩ k (i : Int) ht
  have hs : (ByteArray.mk l.toArray).size = l.length := by simp [ByteArray.size]
  rw [dif_pos ⟨by omega, by rw [hs]; omega⟩] at h
  have he : (ByteArray.mk l.toArray)[(i : Int).toNat]'(by rw [hs]; omega) = l.getD i default := by
    rw [List.getD_eq_getElem?_getD, List.getElem?_eq_getElem hi]
    show (l.toArray)[(i : Int).toNat]'_ = _
    simp
  rw [he] at h
  exact h
/-- s[i] of a string. -/
theorem Nx.index_str {k : IntKind} {l : List UInt8} {i : Nat} (hx : evo e x = some (strV l)) (hy : evo e y = some (.int k (i : Int))) (ht : C.P.underlying t = some .string)
    (hlt : Nat.blt d C.n = true) (hi : i < l.length) (hk : Nx C ((d, byteV (l.getD i default)) :: e) I R K) : Nx C e I R (opK C.P ⟨some d, .index t x y, ty, pos, after, g⟩ K Q) :=
  Nx.op_run rfl hlt (fun a w ha _ => by
    simp only [execOp, ha.eval hx, ha.eval hy]
    exact run_v (run_index_str ht hi w)) hk
theorem QRun.index_str {S : World → Prop} {dst : Option Tmp} {k : IntKind} {l : List UInt8} {i : Nat} (hx : evo e x = some (strV l)) (hy : evo e y = some (.int k (i : Int))) (ht : C.P.underlying t = some .string) (hi : i < l.length) : QRun C e S ⟨dst, .index t x y, ty, pos, after, g⟩ (byteV (l.getD i default)) :=
  fun a w ha _ => by
    simp only [execOp, ha.eval hx, ha.eval hy]
    exact run_v (run_index_str ht hi w)
theorem Sat.drew {w : World} {I m : PH} (h : Sat w I m) : Sat w.drew I m := ⟨h.imm, h.own, h.dis⟩
/-- A row that bears the run-time's mark: it is only read. -/
def BlkZ (b : Nat) (t : TypeId) (cs : List Value) : Res := fun m => ∃ fz rest, m b = some (.cells (cs ++ rest).toArray t fz)
theorem BlkZ.sliceOf {α : Type} {f : α → Value} {b : Nat} {m I' : PH} {l : List α} {cap : Nat} (hm : PH.le m I') (h : BlkZ b t (l.map f) m) (hc : l.length ≤ cap) (hl : cap ≤ maxLen) : SliceOf f I' (some ⟨b, 0, none⟩) cap l := by
  obtain ⟨fz, rest, hb⟩ := h
  refine ⟨fun j u hj => ⟨rfl, ?_⟩, hc, hl⟩
  have hlt := (List.getElem?_eq_some_iff.1 hj).1
  rw [ad_some, Addr.add_lit, Nat.zero_add]
  simp only [cellH, hm _ _ hb, Option.isSome_none, Bool.false_eq_true, if_false]
  rw [List.getElem?_toArray, List.getElem?_append_left hlt]
  exact hj
/-- []byte(s). -/
theorem Nx.str_bytes {l : List UInt8} (hx : evo e x = some (strV l)) (hs : C.P.underlying t = some .string) (hd : C.P.underlying u = some (.slice el)) (he : C.P.underlying el = some (.int .u8)) (hlt : Nat.blt d C.n = true) (hl : l.length ≤ 34359738368)
    (h : ∀ b cap, l.length ≤ cap → cap ≤ maxLen → Nx C ((d, .slice (some ⟨b, 0, none⟩) l.length cap) :: e) I (BlkZ b el (l.map byteV) :: R) K) : Nx C e I R (opK C.P ⟨some d, .convert t u x, ty, pos, after, g⟩ K Q) := by
  intro a w ha hw
  have hsz : (ByteArray.mk l.toArray).size = l.length := by simp [ByteArray.size]
  have hr := run_bytes_of_string (P := C.P) w t u el ⟨l.toArray⟩ hs hd he
  rw [hsz] at hr
  unfold opK Oper.wp
  have hrun : (execOp a.eval ⟨some d, .convert t u x, ty, pos, after, g⟩).run C.P w = .ok (.value (.slice (some ⟨w.heap.size, 0, none⟩) l.length (grownCap w l.length 0 el))) (w.drew.alloc (.cells (bytesRow ⟨l.toArray⟩ (grownCap w l.length 0 el)) el ((bytesRow ⟨l.toArray⟩ (grownCap w l.length 0 el)).size, (bytesRow ⟨l.toArray⟩ (grownCap w l.length 0 el)).size + 1))) := by
    simp only [execOp, ha.eval hx]
    exact run_v hr
  rw [hrun]
  refine h w.heap.size (grownCap w l.length 0 el) (grownCap_ge w _ _ _) (grownCap_le_maxLen w _ _ _ (by unfold maxLen; omega)) _ _ (ha.put hlt _) ?_
  have h1 := (St.drew hw).alloc (.cells (bytesRow ⟨l.toArray⟩ (grownCap w l.length 0 el)) el ((bytesRow ⟨l.toArray⟩ (grownCap w l.length 0 el)).size, (bytesRow ⟨l.toArray⟩ (grownCap w l.length 0 el)).size + 1))
  have : bytesRow ⟨l.toArray⟩ (grownCap w l.length 0 el) = (l.map byteV ++ List.replicate (grownCap w l.length 0 el - l.length) (Value.int .u8 0)).toArray := by
    unfold bytesRow
    rw [hsz]
    apply Array.ext'
    simp [byteV]
  refine h1.ent (Ent.head fun m hm => ⟨((bytesRow ⟨l.toArray⟩ (grownCap w l.length 0 el)).size, (bytesRow ⟨l.toArray⟩ (grownCap w l.length 0 el)).size + 1), List.replicate (grownCap w l.length 0 el - l.length) (.int .u8 0), ?_⟩)
  rw [← this]
  exact hm
/-! ### Tests whose outcome is known -/
section
variable {cd : Code}
theorem Nx.p_bool_t {b : Bool} (hk : ck cd = 4) (hc : evo e (ccnd cd) = some (.bool b)) (hp : b = true) (h : Nx C e I R ((cl cd).wp C.P Q)) : Nx C e I R (cd.wp C.P Q) := Nx.p_bool hk hc (fun _ => h) (fun hn => by rw [hp] at hn; cases hn)
theorem Nx.p_bool_f {b : Bool} (hk : ck cd = 4) (hc : evo e (ccnd cd) = some (.bool b)) (hp : b = false) (h : Nx C e I R ((cr cd).wp C.P Q)) : Nx C e I R (cd.wp C.P Q) := Nx.p_bool hk hc (fun hn => by rw [hp] at hn; cases hn) (fun _ => h)
end
/-! ### Strings as keys -/
theorem strV_eq {a b : List UInt8} : (ByteArray.mk a.toArray == ByteArray.mk b.toArray) = decide (a = b) := by
  rw [Bool.eq_iff_iff, MapKept.bytes_beq, decide_eq_true_eq]
  exact ⟨fun he => by have := congrArg (fun x : ByteArray => x.data.toList) he; simpa using this, fun h => by rw [h]⟩
theorem KeyEnc.str {P : Program} {kt : TypeId} (h : P.underlying kt = some .string) : KeyEnc P kt strV := by
  refine ⟨⟨_, h, fun a b => ?_⟩, fun em a w => ?_, fun a => by show (ByteArray.mk a.toArray == ByteArray.mk a.toArray) = true; rw [strV_eq]; simp⟩
  · show some (ByteArray.mk a.toArray == ByteArray.mk b.toArray) = _
    rw [strV_eq]
  · unfold Instr.checkKey
    rw [Sem.run_bind, run_underlying h, Result.andThen_ok]
    rfl
/-! ### The order of strings -/
def strLt (a b : List UInt8) : Bool := Op.bytesLess a b
section
variable {P : Program} {a b : List UInt8}
theorem run_strlt (w : World) : (do eqGuard .lss t x y (.string ⟨a.toArray⟩) (.string ⟨b.toArray⟩); binOp .lss t (.string ⟨a.toArray⟩) (.string ⟨b.toArray⟩)).run P w = .ok (.bool (strLt a b)) w := by
  rw [show eqGuard .lss t x y (Value.string ⟨a.toArray⟩) (.string ⟨b.toArray⟩) = pure () from rfl, binOp_string_lss, ByteArray.toList_mk, ByteArray.toList_mk]
  rfl
theorem run_strgt (w : World) : (do eqGuard .gtr t x y (.string ⟨a.toArray⟩) (.string ⟨b.toArray⟩); binOp .gtr t (.string ⟨a.toArray⟩) (.string ⟨b.toArray⟩)).run P w = .ok (.bool (!(strLt a b || a == b))) w := by
  rw [show eqGuard .gtr t x y (Value.string ⟨a.toArray⟩) (.string ⟨b.toArray⟩) = pure () from rfl, binOp_string_gtr, ByteArray.toList_mk, ByteArray.toList_mk]
  rfl
theorem run_eql_c (w : World) : (do eqGuard .eql t x y (strV a) (.string ⟨b.toArray⟩); binOp .eql t (strV a) (.string ⟨b.toArray⟩)).run P w = .ok (.bool (a == b)) w := run_streq w
theorem run_eql_s (w : World) : (do eqGuard .eql t x y (strV a) (strV b); binOp .eql t (strV a) (strV b)).run P w = .ok (.bool (a == b)) w := run_streq w
theorem run_neq_s (w : World) : (do eqGuard .neq t x y (strV a) (strV b); binOp .neq t (strV a) (strV b)).run P w = .ok (.bool (!(a == b))) w := run_strne w
theorem run_lss_s (w : World) : (do eqGuard .lss t x y (strV a) (strV b); binOp .lss t (strV a) (strV b)).run P w = .ok (.bool (strLt a b)) w := run_strlt w
theorem run_gtr_s (w : World) : (do eqGuard .gtr t x y (strV a) (strV b); binOp .gtr t (strV a) (strV b)).run P w = .ok (.bool (!(strLt a b || a == b))) w := run_strgt w
end
end Go.Eng
/-
  The proof engine, part AC: bundles: one of their resources taken out and put back; lists of structs, one field set.
-/
namespace Go.Eng
/-- A statement with a part ahead of it (if n := ..; ..), by the number of its first region. -/
def isSq (c : Code) (id : Nat) : Bool := Nat.beq (ck c) 3 && Nat.beq (ck (cl c)) 3 && (Nat.beq (ck (cl (cl c))) 1 || Nat.beq (ck (cl (cl c))) 2) && Nat.beq (cid (cl (cl c))) id
theorem Nx.p_stops {C : Cx} {e : Env} {I : PH} {R : List Res} {Q : Exit → Act → World → Prop} {c : Code} (id : Nat) (hi : isSq c id = true) (h : Nx C e I R (Stop (c.wp C.P Q))) : Nx C e I R (c.wp C.P Q) := have _ := hi; h
theorem Ent.unstars {B R : List Res} : Ent (Stars B :: R) (B ++ R) := by
  rintro m ⟨m1, m2, hd, rfl, h1, h2⟩
  obtain ⟨k, hk, hkS⟩ := Stars.join hd h1 h2
  exact ⟨k, hk, hkS⟩
theorem Ent.stars {B R : List Res} : Ent (B ++ R) (Stars B :: R) := by
  intro m hm
  obtain ⟨m1, m2, hd, rfl, h1, h2⟩ := Stars.append hm
  exact ⟨_, PH.le_refl _, m1, m2, hd, rfl, h1, h2⟩
set_option maxHeartbeats 8000000 in
theorem Ent.push : ∀ (k : Nat) (R : List Res) (r : Res), R[k]? = some r → Ent (r :: R.eraseIdx k) R
  | 0, r' :: R, r, h => by simp at h; subst h; exact Ent.refl _
  | k + 1, r' :: R, r, h => (Ent.swap _ _ _).trans (Ent.pick 0 rfl (Ent.push k R r (by simpa using h)))
  | k, [], r, h => by simp at h
set_option maxHeartbeats 8000000 in
/-- Number k of a bundle is taken out. -/
theorem Ent.takeOut (k : Nat) {B R : List Res} {r : Res} (h : B[k]? = some r) : Ent (Stars B :: R) (r :: Stars (B.eraseIdx k) :: R) := by
  have hk := (List.getElem?_eq_some_iff.1 h).1
  refine Ent.unstars.trans ((Ent.pull k (B ++ R) r (by rw [List.getElem?_append_left hk]; exact h)).trans ?_)
  rw [List.eraseIdx_append_of_lt_length hk]
  exact Ent.pick 0 rfl Ent.stars
set_option maxHeartbeats 8000000 in
/-- .. and another one is put in its place. -/
theorem Ent.putIn (k : Nat) {B R : List Res} {r : Res} (hk : k < B.length) : Ent (r :: Stars (B.eraseIdx k) :: R) (Stars (B.set k r) :: R) := by
  have e : (B.set k r).eraseIdx k = B.eraseIdx k := List.eraseIdx_set_eq
  have hk2 : k < (B.set k r).length := by rw [List.length_set]; exact hk
  have h1 : Ent (r :: Stars (B.eraseIdx k) :: R) (r :: (B.eraseIdx k ++ R)) := Ent.pick 0 rfl Ent.unstars
  refine h1.trans (Ent.trans ?_ Ent.stars)
  rw [← e, ← List.eraseIdx_append_of_lt_length hk2]
  exact Ent.push k _ r (by rw [List.getElem?_append_left hk2, List.getElem?_set_self hk])
section
variable {C : Cx} {e : Env} {I : PH} {R : List Res} {K : Act → World → Prop} {Q : Exit → Act → World → Prop} {S : World → Prop} {d : Nat} {dst : Option Tmp} {ty t u : TypeId} {pos : String} {after : Array Edge} {g : Option (Nat × Bool)} {x y : Operand} {a b : List UInt8}
end
theorem flat_len {α : Type} {f : α → List Value} {sz : Nat} (hf : ∀ x, (f x).length = sz) (l : List α) : (l.flatMap f).length = l.length * sz := by
  induction l with
  | nil => simp
  | cons x l ih => rw [List.flatMap_cons, List.length_append, ih, hf, List.length_cons, Nat.succ_mul]; omega
section
variable {α : Type} [Inhabited α] {f : α → List Value} {sz : Nat}
end
end Go.Eng
/-
  The proof engine, part AE: operations with one operand, in an open statement.
-/
namespace Go.Eng
section
variable {C : Cx} {e : Env} {S : World → Prop} {ty t u : TypeId} {pos : String} {after : Array Edge} {g : Option (Nat × Bool)} {x : Operand} {dst : Option Tmp}
theorem QRun.un {op : UnOp} {vx v : Value} (hx : evo e x = some vx) (hv : pureRun C.P (Op.unary op vx) = some v) : QRun C e S ⟨dst, .unOp op t x, ty, pos, after, g⟩ v :=
  fun a w ha _ => by simp only [execOp, ha.eval hx]; exact run_v (run_of_pureRun hv w)
theorem QRun.neg {p : Int} (hx : evo e x = some (.int .i64 p)) (hr : I64 (-p)) : QRun C e S ⟨dst, .unOp .neg t x, ty, pos, after, g⟩ (.int .i64 (-p)) :=
  QRun.un hx (by rw [← wrap_i64 hr, ← Int.zero_sub]; rfl)
theorem Nx.unstop {I : PH} {R : List Res} {K : Act → World → Prop} (h : Nx C e I R K) : Nx C e I R (Stop K) := h
end
end Go.Eng
/-
  The proof engine, part AF: a body with a label that nothing jumps to (a labelled 'continue' is an exit of a block).
-/
namespace Go.Eng
/-- Nothing goes on behind a jump. -/
def NoG (Q : Exit → Act → World → Prop) : Prop := ∀ l a w, ¬ Q (.goto l) a w
theorem NoG.fn {P : Program} {fn : Func} {I : PH} {F : Res} {W : World} {Post : Value → List Res → Prop} : NoG (fnPost P fn I F W Post) := fun _ _ _ h => h
theorem NoG.then_ {K : Act → World → Prop} {Q : Exit → Act → World → Prop} (h : NoG Q) : NoG (Exit.then K Q) := fun l a w hq => h l a w hq
theorem NoG.inB {id : Nat} {Q : Exit → Act → World → Prop} (h : NoG Q) : NoG (Exit.inBlock id Q) := fun l a w hq => h l a w hq
section
variable {C : Cx} {e : Env} {I : PH} {R : List Res} {Q : Exit → Act → World → Prop} {c : Code}
theorem Nx.p_scope (hk : ck c = 10) (hg : NoG Q) (h : Nx C e I R ((cl c).wp C.P Q)) : Nx C e I R (c.wp C.P Q) := by
  have key : ∀ d : Code, Nx C e I R (d.wp C.P Q) → Nx C e I R ((Code.scope d).wp C.P Q) := fun d hd a w ha hw => wp_scope_straight (wp_mono (hd a w ha hw) fun ex a1 w1 hq => by
    cases ex <;> first | exact hq | exact absurd hq (hg _ _ _))
  cases c <;> first | exact key _ h | (simp [ck] at hk; done) | (rename_i d; cases d <;> simp [ck] at hk)
end
end Go.Eng
/-
  The proof engine, part AJ: calls that may end by a panic; a function that puts off a call which recovers.
-/
namespace Go.Eng
/-- Called in any memory that holds 'Rpre' beside any other, the function returns, or it panics; memory then holds what 'Post', or 'Pan', says beside that other. -/
def FnSpecP (P : Program) (f : FuncId) (args : List Value) (I : PH) (Rpre : List Res) (Post : Value → List Res → Prop) (Pan : List PanicEntry → List Res → Prop) : Prop :=
  ∀ (w : World) (F : Res), St w I (Rpre ++ [F]) w → Calls P f args.toArray w fun e w' => (∃ v R', e = .returned v ∧ Post v R' ∧ St w I (R' ++ [F]) w') ∨ (∃ ch R', e = .panicked ch ∧ Pan ch R' ∧ St w I (R' ++ [F]) w')
def fnPostP (P : Program) (fn : Func) (I : PH) (F : Res) (W : World) (Post : Value → List Res → Prop) (Pan : List PanicEntry → List Res → Prop) : Exit → Act → World → Prop :=
  bodyPost P fn fun e w' => (∃ v R', e = .returned v ∧ Post v R' ∧ St W I (R' ++ [F]) w') ∨ (∃ ch R', e = .panicked ch ∧ Pan ch R' ∧ St W I (R' ++ [F]) w')
set_option maxHeartbeats 8000000 in
theorem FnSpecP.enterP {P : Program} {f : FuncId} {fn : Func} {args : List Value} {I : PH} {Rpre : List Res} {Post : Value → List Res → Prop} {Pan : List PanicEntry → List Res → Prop} {n : Nat}
    (hf : P.funcs[f]? = some fn) (hb : fn.body.isSome = true) (hn : fn.ntmps = n) (hle : Nat.ble args.length n = true)
    (h : ∀ w F, Nx ⟨P, n, w⟩ (argEnv args 0) I (Rpre ++ [F]) ((bodyOf fn).wp P (fnPostP P fn I F w Post Pan))) : FnSpecP P f args I Rpre Post Pan := by
  obtain ⟨c, hc⟩ := Option.isSome_iff_exists.1 hb
  have : bodyOf fn = c := by unfold bodyOf; rw [hc]
  rw [this] at h
  intro w F hw
  have hle := Nat.le_of_ble_eq_true hle
  refine calls_of_wp hf hc (h w F _ w ⟨?_, rfl, fun t v ht => ?_⟩ hw)
  · simp [hn]; omega
  · obtain ⟨_, h2⟩ := argEnv_lk args 0 t v ht
    have hlt : t < args.length := by
      rcases Nat.lt_or_ge t args.length with h' | h'
      · exact h'
      · rw [Nat.sub_zero, List.getElem?_eq_none h'] at h2; cases h2
    rw [Array.getElem?_append_left (by simpa using hlt)]
    simpa using h2
set_option maxHeartbeats 8000000 in
theorem FnSpecP.mono {P : Program} {f : FuncId} {args : List Value} {I : PH} {Rpre : List Res} {Post Post' : Value → List Res → Prop} {Pan Pan' : List PanicEntry → List Res → Prop} (h : FnSpecP P f args I Rpre Post Pan) (hp : ∀ v R', Post v R' → Post' v R') (hq : ∀ ch R', Pan ch R' → Pan' ch R') : FnSpecP P f args I Rpre Post' Pan' :=
  fun w F hw => (h w F hw).mono fun _ _ hx => by
    rcases hx with ⟨v, R', he, hv, hs⟩ | ⟨v, R', he, hv, hs⟩
    · exact .inl ⟨v, R', he, hp v R' hv, hs⟩
    · exact .inr ⟨v, R', he, hq v R' hv, hs⟩
theorem PanicOk.fnP {P : Program} {fn : Func} {I : PH} {F : Res} {W : World} {Post : Value → List Res → Prop} {Pan : List PanicEntry → List Res → Prop} : PanicOk (fnPostP P fn I F W Post Pan) := by
  intro c d v a w h
  have hd : (Act.put a d v).defers = a.defers := by cases d <;> rfl
  obtain ⟨h1, h2⟩ := h
  exact ⟨hd ▸ h1, h2⟩
theorem NoG.fnP {P : Program} {fn : Func} {I : PH} {F : Res} {W : World} {Post : Value → List Res → Prop} {Pan : List PanicEntry → List Res → Prop} : NoG (fnPostP P fn I F W Post Pan) := fun _ _ _ h => h
section
variable {C : Cx} {e : Env} {I : PH} {R : List Res} {K : Act → World → Prop} {Q : Exit → Act → World → Prop}
variable {d : Nat} {ty : TypeId} {pos : String} {after : Array Edge} {g : Option (Nat × Bool)} {x : Operand} {dst : Option Tmp}
theorem Nx.ret_fnP {fn : Func} {F : Res} {Post : Value → List Res → Prop} {Pan : List PanicEntry → List Res → Prop} {v : Value} (hv : resV e fn.results.toList = some v) (R' : List Res) (hp : Post v R') (hR : Ent R (R' ++ [F])) : Nx C e I R (fnPostP C.P fn I F C.W Post Pan .ret) :=
  fun _ _ ha hw => ⟨ha.defers, v, resV_run ha hv, .inl ⟨v, R', rfl, hp, hw.ent hR⟩⟩
theorem Nx.end_fnP {fn : Func} {F : Res} {Post : Value → List Res → Prop} {Pan : List PanicEntry → List Res → Prop} {v : Value} (hv : resV e fn.results.toList = some v) (R' : List Res) (hp : Post v R') (hR : Ent R (R' ++ [F])) : Nx C e I R (fnPostP C.P fn I F C.W Post Pan .normal) :=
  fun _ _ ha hw => ⟨ha.defers, v, resV_run ha hv, .inl ⟨v, R', rfl, hp, hw.ent hR⟩⟩
theorem Nx.pan_fnP {fn : Func} {F : Res} {Post : Value → List Res → Prop} {Pan : List PanicEntry → List Res → Prop} {ch : List PanicEntry} (R' : List Res) (hp : Pan ch R') (hR : Ent R (R' ++ [F])) : Nx C e I R (fnPostP C.P fn I F C.W Post Pan (.panic ch)) :=
  fun _ _ ha hw => ⟨ha.defers, .inr ⟨ch, R', rfl, hp, hw.ent hR⟩⟩
theorem Nx.then_panic {ch : List PanicEntry} (h : Nx C e I R (Q (.panic ch))) : Nx C e I R (Exit.then K Q (.panic ch)) := h
theorem Nx.in_panic {ch : List PanicEntry} {id : Nat} (h : Nx C e I R (Q (.panic ch))) : Nx C e I R (Exit.inBlock id Q (.panic ch)) := h
/-- panic(x), x an interface's value. -/
theorem Nx.panic_ {t : TypeId} {v : Value} (hx : evo e x = some (.iface t v)) (h : Nx C e I R (Q (.panic [{ v := .iface t v, recovered := false }]))) : Nx C e I R (opK C.P ⟨dst, .panic x, ty, pos, after, g⟩ K Q) := by
  intro a w ha hw
  unfold opK Oper.wp
  have hr : (execOp a.eval ⟨dst, .panic x, ty, pos, after, g⟩).run C.P w = .halt (.panic (.iface t v)) w := by
    simp only [execOp, ha.eval hx]
    rfl
  rw [hr]
  exact h a w ha hw
end
/-! A function that puts a call off -/
def L (ds : List Deferred) (K : Act → World → Prop) : Act → World → Prop := fun a w => K { a with defers := ds } w
def LQ (ds : List Deferred) (Q : Exit → Act → World → Prop) : Exit → Act → World → Prop := fun ex a w => Q ex { a with defers := ds } w
/-- An operation that puts no call off, and that is no call. -/
def plainOp (o : Oper) : Bool := match o.op with
  | .move _ | .assign _ | .alloc _ | .build .. | .buildSlice .. | .load .. | .store .. | .unOp .. | .convert .. | .makeInterface .. | .makeFunc .. | .fieldAddr .. | .indexAddr .. | .extract .. => true
  | _ => false
theorem run_v_kind {s : Sem Value} {P : Program} {w w' : World} {n : Next} (h : Sem.run P (do pure (Next.value (← s))) w = .ok n w') : ∃ v, n = .value v := by
  rw [Sem.run_bind] at h
  cases hs : s.run P w with
  | ok v w1 => rw [hs] at h; cases h; exact ⟨v, rfl⟩
  | halt r w1 => rw [hs] at h; cases h
theorem run_u_kind {s : Sem Unit} {P : Program} {w w' : World} {n : Next} (h : Sem.run P (do s; pure Next.skip) w = .ok n w') : n = .skip := by
  rw [Sem.run_bind] at h
  cases hs : s.run P w with
  | ok v w1 => rw [hs] at h; cases h; rfl
  | halt r w1 => rw [hs] at h; cases h
theorem plain_run {o : Oper} (hp : plainOp o = true) {ρ : Operand → Value} {P : Program} {w w' : World} {n : Next} (h : (execOp ρ o).run P w = .ok n w') : (∃ v, n = .value v) ∨ n = .skip := by
  obtain ⟨dst, op, ty, pos, after, g⟩ := o
  cases op <;> simp only [plainOp, Bool.false_eq_true] at hp <;> first
    | exact False.elim hp
    | exact .inl (run_v_kind h)
    | exact .inr (run_u_kind h)
    | (cases h; exact .inl ⟨_, rfl⟩)
section
variable {C : Cx} {e : Env} {I : PH} {R : List Res} {K : Act → World → Prop} {Q : Exit → Act → World → Prop} {ds : List Deferred} {ops : Array Oper} {i : Nat} {o : Oper} {c : Code}
theorem NxL.at_op (ho : opAt ops.toList i = some o) (hg : o.guard = none) (h : Nx C e I R (L ds (opK C.P o (wpAt C.P ops Q (i + 1)) Q))) : Nx C e I R (L ds (wpAt C.P ops Q i)) := by
  intro a w ha hw
  have h1 := h a w ha hw
  unfold L wpAt at *
  rw [drop_of (opAt_arr ho)]
  unfold wpList
  rw [if_pos (by simp [Region.wanted, hg])]
  exact .inl h1
theorem NxL.at_end (ho : opAt ops.toList i = none) (h : Nx C e I R (L ds (Q .normal))) : Nx C e I R (L ds (wpAt C.P ops Q i)) := by
  intro a w ha hw
  have h1 := h a w ha hw
  unfold L wpAt at *
  rw [List.drop_eq_nil_of_le (by have := Array.getElem?_eq_none_iff.1 (opAt_arr ho); simpa using this)]
  exact h1
theorem NxL.p_region (hk : ck c = 1) (h : Nx C e I R (L ds (wpAt C.P (cops c) Q 0))) : Nx C e I R (L ds (c.wp C.P Q)) := by
  cases c <;> first | (simp [ck] at hk; done) | skip
  rename_i id ops d
  cases d with
  | true => simp [ck] at hk
  | false =>
    intro a w ha hw
    have h1 := h a w ha hw
    unfold L wpAt at h1
    rw [List.drop_zero] at h1
    exact wp_region_list h1
theorem NxL.p_seq (hk : ck c = 3) (h : Nx C e I R (L ds ((cl c).wp C.P (Exit.then ((cr c).wp C.P Q) Q)))) : Nx C e I R (L ds (c.wp C.P Q)) := by
  cases c <;> first | exact fun a w ha hw => wp_seq (h a w ha hw) | (simp [ck] at hk; done) | (rename_i d; cases d <;> simp [ck] at hk)
theorem NxL.p_ret (hk : ck c = 8) (h : Nx C e I R (L ds (Q .ret))) : Nx C e I R (L ds (c.wp C.P Q)) := by
  cases c <;> first | exact fun a w ha hw => wp_ret (h a w ha hw) | (simp [ck] at hk; done) | (rename_i d; cases d <;> simp [ck] at hk)
theorem NxL.then_normal (h : Nx C e I R (L ds K)) : Nx C e I R (L ds (Exit.then K Q .normal)) := h
theorem NxL.then_ret (h : Nx C e I R (L ds (Q .ret))) : Nx C e I R (L ds (Exit.then K Q .ret)) := h
theorem put_defers (a : Act) (dst : Option Tmp) (v : Value) : { a.put dst v with defers := ds } = ({ a with defers := ds } : Act).put dst v := by cases dst <;> rfl
/-- An operation, walked as if no call had been put off. -/
theorem NxL.op (hp : plainOp o = true) (h : Nx C e I R (opK C.P o (L ds K) (LQ ds Q))) : Nx C e I R (L ds (opK C.P o K Q)) := by
  intro a w ha hw
  have h1 := h a w ha hw
  unfold L
  unfold opK Oper.wp at h1 ⊢
  have he : ({ a with defers := ds } : Act).eval = a.eval := rfl
  rw [he]
  cases hr : (execOp a.eval o).run C.P w with
  | ok n w' =>
    rw [hr] at h1
    rcases plain_run hp hr with ⟨v, rfl⟩ | rfl
    · show K _ _
      have h2 : K { a.put o.dst v with defers := ds } w' := h1
      rw [put_defers] at h2
      exact h2
    · show K _ _
      have h2 : K { a.put o.dst undef with defers := ds } w' := h1
      rw [put_defers] at h2
      exact h2
  | halt s w' =>
    rw [hr] at h1
    cases s <;> first | exact h1 | exact h1.elim
variable {d : Nat} {ty : TypeId} {pos : String} {after : Array Edge} {g : Option (Nat × Bool)}
/-- A call is put off. -/
theorem Nx.defer_ {fx : Operand} {args : Array Operand} {tys : Array TypeId} {f : FuncId} {c1 c2 : Array Value} {vs : List Value} (hfx : evo e fx = some (.func (.func f) c1 c2)) (hvs : evs e args.toList = some vs)
    (h : Nx C e I R (L [{ target := .fn (.func f) c2, args := c1 ++ vs.toArray }] K)) : Nx C e I R (opK C.P ⟨none, .defer { callee := .value fx, args, argTypes := tys }, ty, pos, after, g⟩ K Q) := by
  intro a w ha hw
  unfold opK Oper.wp
  have e1 : args.map a.eval = vs.toArray := by
    apply Array.ext'
    rw [Array.toList_map]
    exact ha.evals hvs
  have hr : (execOp a.eval ⟨none, .defer { callee := .value fx, args, argTypes := tys }, ty, pos, after, g⟩).run C.P w = .ok (.defer { target := .fn (.func f) c2, args := c1 ++ vs.toArray }) w := by
    simp only [execOp, resolve, ha.eval hfx, Deferred.ofValue, e1]
    rfl
  rw [hr]
  have hd := ha.defers
  show K ({ a with defers := _ :: a.defers } : Act) w
  rw [hd]
  exact h a w ha hw
def fnPostD (P : Program) (fn : Func) (I : PH) (F : Res) (W : World) (Post : Value → List Res → Prop) : Exit → Act → World → Prop :=
  bodyPostD P fn fun e w' => ∃ v R', e = .returned v ∧ Post v R' ∧ St W I (R' ++ [F]) w'
set_option maxHeartbeats 8000000 in
theorem FnSpec.enterD {P : Program} {f : FuncId} {fn : Func} {args : List Value} {I : PH} {Rpre : List Res} {Post : Value → List Res → Prop} {n : Nat}
    (hf : P.funcs[f]? = some fn) (hb : fn.body.isSome = true) (hn : fn.ntmps = n) (hle : Nat.ble args.length n = true)
    (h : ∀ w F, Nx ⟨P, n, w⟩ (argEnv args 0) I (Rpre ++ [F]) ((bodyOf fn).wp P (fnPostD P fn I F w Post))) : FnSpec P f args I Rpre Post := by
  obtain ⟨c, hc⟩ := Option.isSome_iff_exists.1 hb
  have : bodyOf fn = c := by unfold bodyOf; rw [hc]
  rw [this] at h
  intro w F hw
  have hle := Nat.le_of_ble_eq_true hle
  refine calls_of_wp_defers hf hc (h w F _ w ⟨?_, rfl, fun t v ht => ?_⟩ hw)
  · simp [hn]; omega
  · obtain ⟨_, h2⟩ := argEnv_lk args 0 t v ht
    have hlt : t < args.length := by
      rcases Nat.lt_or_ge t args.length with h' | h'
      · exact h'
      · rw [Nat.sub_zero, List.getElem?_eq_none h'] at h2; cases h2
    rw [Array.getElem?_append_left (by simpa using hlt)]
    simpa using h2
/-- The function returns; the call that was put off finds no panic. -/
theorem NxL.ret_D {fn : Func} {F : Res} {Post : Value → List Res → Prop} {v : Value} {q : FuncId} {cap dargs : Array Value} {al : List Value} (hv : resV e fn.results.toList = some v) (hal : dargs.toList ++ cap.toList = al) (hc : callable C.P q = true)
    (hd : ∀ w, CallsD C.P q al.toArray .returning w fun en u' w' => (∃ z, en = .returned z) ∧ u' = .returning ∧ w' = w) (R' : List Res) (hp : Post v R') (hR : Ent R (R' ++ [F])) : Nx C e I R (L [{ target := .fn (.func q) cap, args := dargs }] (fnPostD C.P fn I F C.W Post .ret)) := by
  intro a w ha hw
  have e1 : dargs ++ cap = al.toArray := by rw [← hal]; apply Array.ext'; simp
  refine leaves_cons (f := q) (args := al.toArray) (by simp) (by show (callFunc q (dargs ++ cap)).run C.P w = _; rw [e1]; exact run_callFunc hc _ w) ?_
  refine (hd w).mono ?_
  rintro en u' w' ⟨⟨z, rfl⟩, rfl, rfl⟩
  exact ⟨v, resV_run ha hv, v, R', rfl, hp, hw.ent hR⟩
end
end Go.Eng
/- Contracts of functions of the given program, and lemmas about plain lists and numbers: what the laws of this seat lean on. -/
namespace Go.Proofs.YtjnhoemgceghlaaGreat
open Go.Eng Go.Sol
attribute [local irreducible] opK wpList Code.wp Exit.then Exit.inBlock fnPost bodyPost Nx Calls Oper.wp Rd Rds Wr Ent Stars Blk Again Vec FnSpec wpMix QRun Stop Upto wpAt
/-! The problem of a search: what is left of each equation, how many of its cells are open, the table so far -/
abbrev iR (A : Option Addr) (c : Nat) (l : List Int) : Res := Vec 3 1 A l.length c (l.map (Value.int .i64))
abbrev PT : TypeId := 167
/-- Where the problem's lists lie. -/
structure Pl where
  b : Nat
  tv : Value
  iv : Value
  Ar : Option Addr
  cr : Nat
  Ao : Option Addr
  co : Nat
  At : Option Addr
  ct : Nat
def Pl.blk (p : Pl) (n k : Nat) : Res := Blk p.b PT [p.tv, p.iv, .slice p.Ar k p.cr, .slice p.Ao k p.co, .slice p.At n p.ct]
/-- The equations in which a cell is. -/
def inL (l : List Eqn) (c : Nat) : List Int := ((List.range l.length).filter fun i => decide (c ∈ (l.getD i default).1)).map Int.ofNat
/-- The lists of equations of each cell, given up. -/
structure InI (I : PH) (p : Pl) (n : Nat) (l : List Eqn) : Prop where
  ex : ∃ (Ai : Option Addr) (ci : Nat) (ins : List Row), p.iv = .slice Ai n ci ∧ ins.length = n ∧ SliceOf rowV I Ai ci ins ∧ (∀ r ∈ ins, Ints I r.1 r.2.1 r.2.2) ∧ ∀ c, c < n → (ins.getD c default).2.2 = inL l c
theorem InI.mono {I I' : PH} {p : Pl} {n : Nat} {l : List Eqn} (hle : PH.le I I') (h : InI I p n l) : InI I' p n l := by
  obtain ⟨Ai, ci, ins, h1, h2, h3, h4, h5⟩ := h.ex
  exact ⟨Ai, ci, ins, h1, h2, h3.mono hle, fun r hr => (h4 r hr).mono hle, h5⟩
theorem inL_at {l : List Eqn} {c k : Nat} (hk : k < (inL l c).length) : ∃ i : Nat, (inL l c).getD k default = (i : Int) ∧ i < l.length ∧ c ∈ (l.getD i default).1 := by
  have hm : (inL l c).getD k default ∈ inL l c := by rw [List.getD_eq_getElem?_getD, List.getElem?_eq_getElem hk]; exact List.getElem_mem _
  generalize (inL l c).getD k default = z at hm
  unfold inL at hm
  obtain ⟨i, hi, rfl⟩ := List.mem_map.1 hm
  obtain ⟨h1, h2⟩ := List.mem_filter.1 hi
  exact ⟨i, rfl, List.mem_range.1 h1, of_decide_eq_true h2⟩
theorem mem_inL {l : List Eqn} {c i : Nat} : (i : Int) ∈ inL l c ↔ i < l.length ∧ c ∈ (l.getD i default).1 := by
  unfold inL
  rw [List.mem_map]
  constructor
  · rintro ⟨j, hj, he⟩
    obtain rfl : j = i := Int.ofNat.inj he
    obtain ⟨h1, h2⟩ := List.mem_filter.1 hj
    exact ⟨List.mem_range.1 h1, of_decide_eq_true h2⟩
  · rintro ⟨h1, h2⟩
    exact ⟨i, List.mem_filter.2 ⟨List.mem_range.2 h1, decide_eq_true h2⟩, rfl⟩
theorem inL_nd (l : List Eqn) (c : Nat) : (inL l c).Nodup := by
  unfold inL
  exact List.Pairwise.map Int.ofNat (fun a b h e => h (Int.ofNat.inj e)) (List.nodup_range.filter _)
theorem inL_len (l : List Eqn) (c : Nat) : (inL l c).length ≤ l.length := by
  unfold inL
  rw [List.length_map]
  exact Nat.le_trans (List.length_filter_le _ _) (by simp)
def restL (l : List Eqn) (t : List Int) : List Int := l.map (restQ t)
def openL (l : List Eqn) (U : List Nat) : List Int := l.map fun q => (openQ U q : Int)
theorem restL_len (l : List Eqn) (t : List Int) : (restL l t).length = l.length := List.length_map _
theorem openL_len (l : List Eqn) (U : List Nat) : (openL l U).length = l.length := List.length_map _
theorem restL_at {l : List Eqn} {t : List Int} {i : Nat} (hi : i < l.length) : (restL l t).getD i default = restQ t (l.getD i default) := by
  unfold restL
  rw [List.getD_eq_getElem?_getD, List.getElem?_map, List.getD_eq_getElem?_getD, List.getElem?_eq_getElem hi]; rfl
theorem openL_at {l : List Eqn} {U : List Nat} {i : Nat} (hi : i < l.length) : (openL l U).getD i default = (openQ U (l.getD i default) : Int) := by
  unfold openL
  rw [List.getD_eq_getElem?_getD, List.getElem?_map, List.getD_eq_getElem?_getD, List.getElem?_eq_getElem hi]; rfl
/-! The span of a cell -/
def lowK (rest opn ix : List Int) : Nat → Int
  | 0 => 0
  | k + 1 => if opn.getD (ix.getD k default).toNat default = 1 then max (lowK rest opn ix k) (rest.getD (ix.getD k default).toNat default) else lowK rest opn ix k
def highK (rest ix : List Int) : Nat → Int
  | 0 => 1000000
  | k + 1 => min (highK rest ix k) (rest.getD (ix.getD k default).toNat default)
theorem lowK_le {rest opn ix : List Int} {v : Int} : ∀ {k : Nat}, lowK rest opn ix k ≤ v ↔ 0 ≤ v ∧ ∀ j, j < k → opn.getD (ix.getD j default).toNat default = 1 → rest.getD (ix.getD j default).toNat default ≤ v
  | 0 => by simp [lowK]
  | k + 1 => by
    unfold lowK
    have key : (∀ j, j < k + 1 → opn.getD (ix.getD j default).toNat default = 1 → rest.getD (ix.getD j default).toNat default ≤ v) ↔ (∀ j, j < k → opn.getD (ix.getD j default).toNat default = 1 → rest.getD (ix.getD j default).toNat default ≤ v) ∧ (opn.getD (ix.getD k default).toNat default = 1 → rest.getD (ix.getD k default).toNat default ≤ v) :=
      ⟨fun h => ⟨fun j hj => h j (by omega), h k (by omega)⟩, fun h j hj => by
        by_cases hjk : j = k
        · rw [hjk]; exact h.2
        · exact h.1 j (by omega)⟩
    rw [key]
    split
    · rename_i h1
      rw [Int.max_le, lowK_le]
      exact ⟨fun ⟨⟨a, b⟩, c⟩ => ⟨a, b, fun _ => c⟩, fun ⟨a, b, c⟩ => ⟨⟨a, b⟩, c h1⟩⟩
    · rename_i h1
      rw [lowK_le]
      exact ⟨fun ⟨a, b⟩ => ⟨a, b, fun h => absurd h h1⟩, fun ⟨a, b, _⟩ => ⟨a, b⟩⟩
theorem le_highK {rest ix : List Int} {v : Int} : ∀ {k : Nat}, v ≤ highK rest ix k ↔ v ≤ 1000000 ∧ ∀ j, j < k → v ≤ rest.getD (ix.getD j default).toNat default
  | 0 => by simp [highK]
  | k + 1 => by
    unfold highK
    rw [Int.le_min, le_highK]
    constructor
    · rintro ⟨⟨h1, h2⟩, h3⟩
      refine ⟨h1, fun j hj => ?_⟩
      by_cases hjk : j = k
      · rw [hjk]; exact h3
      · exact h2 j (by omega)
    · rintro ⟨h1, h2⟩
      exact ⟨⟨h1, fun j hj => h2 j (by omega)⟩, h2 k (by omega)⟩
theorem all_in {l : List Eqn} {c : Nat} {Q : Eqn → Prop} : (∀ j, j < (inL l c).length → Q (l.getD ((inL l c).getD j default).toNat default)) ↔ ∀ q ∈ l, c ∈ q.1 → Q q := by
  constructor
  · intro h q hq hc
    obtain ⟨i, hi, rfl⟩ := List.mem_iff_getElem.1 hq
    have e : l.getD i default = l[i] := by rw [List.getD_eq_getElem?_getD, List.getElem?_eq_getElem hi]; rfl
    obtain ⟨j, hj, he⟩ := List.mem_iff_getElem.1 (mem_inL.2 ⟨hi, by rw [e]; exact hc⟩)
    have := h j hj
    rw [show (inL l c).getD j default = (i : Int) by rw [List.getD_eq_getElem?_getD, List.getElem?_eq_getElem hj]; exact he, Int.toNat_natCast, e] at this
    exact this
  · intro h j hj
    obtain ⟨i, he, hi, hc⟩ := inL_at hj
    rw [he, Int.toNat_natCast]
    exact h _ (by rw [List.getD_eq_getElem?_getD, List.getElem?_eq_getElem hi]; exact List.getElem_mem _) hc
theorem lowK_all {l : List Eqn} {c : Nat} {t : List Int} {U : List Nat} : lowK (restL l t) (openL l U) (inL l c) (inL l c).length = lowF t U c l := by
  have h : ∀ v, lowK (restL l t) (openL l U) (inL l c) (inL l c).length ≤ v ↔ lowF t U c l ≤ v := fun v => by
    rw [lowK_le, lowF_le, ← all_in (Q := fun q => openQ U q = 1 → restQ t q ≤ v)]
    constructor
    · rintro ⟨h1, h2⟩
      refine ⟨h1, fun j hj ho => ?_⟩
      obtain ⟨i, he, hi, _⟩ := inL_at hj
      have := h2 j hj
      rw [he, Int.toNat_natCast, restL_at hi, openL_at hi] at this
      rw [he, Int.toNat_natCast] at ho ⊢
      exact this (by rw [ho]; rfl)
    · rintro ⟨h1, h2⟩
      refine ⟨h1, fun j hj ho => ?_⟩
      obtain ⟨i, he, hi, _⟩ := inL_at hj
      have := h2 j hj
      rw [he, Int.toNat_natCast] at this ho ⊢
      rw [restL_at hi]
      rw [openL_at hi] at ho
      exact this (by omega)
  exact Int.le_antisymm ((h _).2 (Int.le_refl _)) ((h _).1 (Int.le_refl _))
theorem highK_all {l : List Eqn} {c : Nat} {t : List Int} : highK (restL l t) (inL l c) (inL l c).length = highF 1000000 t c l := by
  have h : ∀ v, v ≤ highK (restL l t) (inL l c) (inL l c).length ↔ v ≤ highF 1000000 t c l := fun v => by
    rw [le_highK, le_highF, ← all_in (Q := fun q => v ≤ restQ t q)]
    constructor
    · rintro ⟨h1, h2⟩
      refine ⟨h1, fun j hj => ?_⟩
      obtain ⟨i, he, hi, _⟩ := inL_at hj
      have := h2 j hj
      rw [he, Int.toNat_natCast, restL_at hi] at this
      rw [he, Int.toNat_natCast]
      exact this
    · rintro ⟨h1, h2⟩
      refine ⟨h1, fun j hj => ?_⟩
      obtain ⟨i, he, hi, _⟩ := inL_at hj
      have := h2 j hj
      rw [he, Int.toNat_natCast] at this ⊢
      rw [restL_at hi]
      exact this
  exact Int.le_antisymm ((h _).1 (Int.le_refl _)) ((h _).2 (Int.le_refl _))
set_option maxRecDepth 10000 in
set_option maxHeartbeats 4000000 in
theorem span_spec (p : Pl) (n : Nat) (l : List Eqn) (rest opn t : List Int) (I : PH) (hin : InI I p n l) (c : Nat) (hc : c < n) (hr : rest.length = l.length) (ho : opn.length = l.length) (ht : t.length = n) (hl9 : l.length ≤ 100000) :
    FnSpec Tryz.prog 153 [.pointer (some ⟨p.b, 0, none⟩), .int .i64 (c : Int)] I [p.blk n l.length, iR p.Ar p.cr rest, iR p.Ao p.co opn, iR p.At p.ct t]
      (fun v R' => v = .tuple #[.int .i64 (lowK rest opn (inL l c) (inL l c).length), .int .i64 (highK rest (inL l c) (inL l c).length)] ∧ R' = [p.blk n l.length, iR p.Ar p.cr rest, iR p.Ao p.co opn, iR p.At p.ct t]) := by
  obtain ⟨Ai, ci, ins, hiv, hil, hio, hir, hic⟩ := hin.ex
  have hinl := hio.len
  have hrow := hir _ (show ins.getD c default ∈ ins by rw [List.getD_eq_getElem?_getD, List.getElem?_eq_getElem (by omega)]; exact List.getElem_mem _)
  have hix := hic c hc
  have hrd : ∀ (W : World) (R : List Res), Rd W I R ((ad Ai).add (c * 1)) (rowV (ins.getD c default)) := fun W R => hio.rd (by omega)
  generalize ins.getD c default = rw' at hrow hix hrd
  obtain ⟨Ax, cx, ix⟩ := rw'
  dsimp only at hrow hix
  replace hrd : ∀ (W : World) (R : List Res), Rd W I R ((ad Ai).add (c * 1)) (.slice Ax ix.length cx) := hrd
  have hixl := hrow.len
  have hixb := inL_len l c
  rw [← hix] at hixb ⊢
  refine FnSpec.enterP Tryz.func153 rfl Tryz.ntmps153 rfl fun w F => ?_
  unfold Pl.blk
  rw [hiv]
  repeat' first
    | ((with_reducible refine Nx.is_wp ?_); first | refine Nx.wo ?_ | refine Nx.zp (fun hc => ?_) (fun hc => ?_))
    | (refine Nx.zo ?_; first | refine Nx.opr rfl rfl ?_ | refine Nx.indexAddr_nat (A := Ai) (i := c) (sz := 1) rfl rfl rfl rfl rfl (by omega) (hio.isSome (by omega)) ?_ | refine Nx.load rfl rfl rfl (hrd _ _) ?_ | refine Nx.so ?_ | refine Nx.sb (fun bx => ?_) | refine Nx.sa (fun A2 c2 => ?_))
    | ((with_reducible refine Nx.is_at ?_); first | refine Nx.a ?_ | refine Nx.zd ?_ | refine Nx.zs (fun hc => ?_) (fun hc => ?_))
    | ((with_reducible refine Nx.is_mix ?_); first | refine Nx.m ?_ | refine Nx.zm ?_ | refine Nx.zt (fun hc => ?_) (fun hc => ?_))
    | refine Nx.zx ?_ | fail
  refine Nx.ent (R' := [Vec 3 1 p.Ar l.length p.cr (rest.map (Value.int .i64)), Vec 3 1 p.Ao l.length p.co (opn.map (Value.int .i64)), Blk p.b PT [p.tv, .slice Ai n ci, .slice p.Ar l.length p.cr, .slice p.Ao l.length p.co, .slice p.At n p.ct], iR p.At p.ct t, F]) (by unfold iR; rw [hr, ho]; (exact Ent.auto)) ?_
  refine Nx.vec_fact fun hv1 hv2 hv3 hAr => ?_
  refine Nx.ent (R' := [Vec 3 1 p.Ao l.length p.co (opn.map (Value.int .i64)), Vec 3 1 p.Ar l.length p.cr (rest.map (Value.int .i64)), Blk p.b PT [p.tv, .slice Ai n ci, .slice p.Ar l.length p.cr, .slice p.Ao l.length p.co, .slice p.At n p.ct], iR p.At p.ct t, F]) (by (exact Ent.auto)) ?_
  refine Nx.vec_fact fun hv4 hv5 hv6 hAo => ?_
  refine Nx.p_loop (σ := Nat) (fun k => [(0, .pointer (some ⟨p.b, 0, none⟩)), (16, .slice Ax ix.length cx), (17, .int .i64 ix.length), (18, .int .i64 (k : Int)), (6, .int .i64 (lowK rest opn ix k)), (7, .int .i64 (highK rest ix k))])
    (fun _ => [Blk p.b PT [p.tv, .slice Ai n ci, .slice p.Ar l.length p.cr, .slice p.Ao l.length p.co, .slice p.At n p.ct], Vec 3 1 p.Ar l.length p.cr (rest.map (Value.int .i64)), Vec 3 1 p.Ao l.length p.co (opn.map (Value.int .i64)), iR p.At p.ct t, F]) (fun k => k ≤ ix.length) (fun k => ix.length - k) 0 rfl (Nat.zero_le _) ⟨rfl, rfl, rfl, rfl, rfl, rfl, trivial⟩ (by (exact Ent.auto)) ?_
  intro k hk
  have hk : k ≤ ix.length := hk
  by_cases hkl : k < ix.length
  case neg =>
    obtain rfl : k = ix.length := by omega
    repeat' first
      | ((with_reducible refine Nx.is_wp ?_); first | refine Nx.wo ?_ | refine Nx.zp (fun hc => ?_) (fun hc => ?_))
      | (refine Nx.zo ?_; first | refine Nx.opr rfl rfl ?_ | refine Nx.so ?_ | refine Nx.sb (fun bx => ?_) | refine Nx.sa (fun A2 c2 => ?_))
      | ((with_reducible refine Nx.is_at ?_); first | refine Nx.a ?_ | refine Nx.zd ?_ | refine Nx.zs (fun hc => ?_) (fun hc => ?_))
      | ((with_reducible refine Nx.is_mix ?_); first | refine Nx.m ?_ | refine Nx.zm ?_ | refine Nx.zt (fun hc => ?_) (fun hc => ?_))
      | refine Nx.zx ?_ | fail
    exact Nx.ret_fn rfl [_, _, _, _] ⟨rfl, rfl⟩ (by unfold iR; rw [hr, ho]; (exact Ent.auto))
  obtain ⟨i, he, hil', _⟩ := inL_at (l := l) (c := c) (k := k) (by rw [← hix]; exact hkl)
  rw [← hix] at he
  have hixr : ∀ (W : World) (R : List Res), Rd W I R ((ad Ax).add (k * 1)) (.int .i64 (i : Int)) := fun W R => by rw [← he]; exact hrow.rd hkl
  have hlow : lowK rest opn ix (k + 1) = if opn.getD i default = 1 then max (lowK rest opn ix k) (rest.getD i default) else lowK rest opn ix k := by rw [lowK, he, Int.toNat_natCast]
  have hhigh : highK rest ix (k + 1) = min (highK rest ix k) (rest.getD i default) := by rw [highK, he, Int.toNat_natCast]
  by_cases h1 : opn.getD i default = 1
  · rw [if_pos h1] at hlow
    repeat' first
      | ((with_reducible refine Nx.is_wp ?_); first | refine Nx.wo ?_ | refine Nx.zp (fun hc => ?_) (fun hc => ?_))
      | (refine Nx.zo ?_; first | refine Nx.opr rfl rfl ?_ | refine Nx.indexAddr_nat (A := Ax) (i := k) (sz := 1) rfl rfl rfl rfl rfl (by omega) (hrow.isSome (by omega)) ?_ | refine Nx.load rfl rfl rfl (hixr _ _) ?_ | refine Nx.indexAddr_nat (A := p.Ar) (i := i) (sz := 1) rfl rfl rfl rfl rfl (by omega) (hAr (by omega)) ?_ | refine Nx.load rfl rfl rfl (Rd.vecEl 1 (f := Value.int .i64) (l := rest) (i := i) rfl (by omega)) ?_ | refine Nx.indexAddr_nat (A := p.Ao) (i := i) (sz := 1) rfl rfl rfl rfl rfl (by omega) (hAo (by omega)) ?_ | refine Nx.load rfl rfl rfl (Rd.vecEl 2 (f := Value.int .i64) (l := opn) (i := i) rfl (by omega)) ?_ | refine Nx.so ?_ | refine Nx.sb (fun bx => ?_) | refine Nx.sa (fun A2 c2 => ?_))
      | ((with_reducible refine Nx.is_at ?_); first | refine Nx.a ?_ | refine Nx.zd ?_ | refine Nx.zs (fun hc => ?_) (fun hc => ?_))
      | ((with_reducible refine Nx.is_mix ?_); first | refine Nx.m ?_ | refine Nx.zm ?_ | refine Nx.zt (fun hc => ?_) (fun hc => ?_))
      | refine Nx.zx ?_ | fail
    exact Nx.again (k + 1) hkl (by omega) ⟨rfl, rfl, rfl, rfl, by rw [hlow]; rfl, by rw [hhigh]; rfl, trivial⟩ (by (exact Ent.auto))
  · rw [if_neg h1] at hlow
    repeat' first
      | ((with_reducible refine Nx.is_wp ?_); first | refine Nx.wo ?_ | refine Nx.zp (fun hc => ?_) (fun hc => ?_))
      | (refine Nx.zo ?_; first | refine Nx.opr rfl rfl ?_ | refine Nx.indexAddr_nat (A := Ax) (i := k) (sz := 1) rfl rfl rfl rfl rfl (by omega) (hrow.isSome (by omega)) ?_ | refine Nx.load rfl rfl rfl (hixr _ _) ?_ | refine Nx.indexAddr_nat (A := p.Ar) (i := i) (sz := 1) rfl rfl rfl rfl rfl (by omega) (hAr (by omega)) ?_ | refine Nx.load rfl rfl rfl (Rd.vecEl 1 (f := Value.int .i64) (l := rest) (i := i) rfl (by omega)) ?_ | refine Nx.indexAddr_nat (A := p.Ao) (i := i) (sz := 1) rfl rfl rfl rfl rfl (by omega) (hAo (by omega)) ?_ | refine Nx.load rfl rfl rfl (Rd.vecEl 2 (f := Value.int .i64) (l := opn) (i := i) rfl (by omega)) ?_ | refine Nx.so ?_ | refine Nx.sb (fun bx => ?_) | refine Nx.sa (fun A2 c2 => ?_))
      | ((with_reducible refine Nx.is_at ?_); first | refine Nx.a ?_ | refine Nx.zd ?_ | refine Nx.zs (fun hc => ?_) (fun hc => ?_))
      | ((with_reducible refine Nx.is_mix ?_); first | refine Nx.m ?_ | refine Nx.zm ?_ | refine Nx.zt (fun hc => ?_) (fun hc => ?_))
      | refine Nx.zx ?_ | fail
    exact Nx.again (k + 1) hkl (by omega) ⟨rfl, rfl, rfl, rfl, by rw [hlow]; rfl, by rw [hhigh]; rfl, trivial⟩ (by (exact Ent.auto))
end Go.Proofs.YtjnhoemgceghlaaGreat
