/- Contracts of functions of the given program, and lemmas about plain lists and numbers: what the laws of this seat lean on. -/
import Derived.Test.YtpmlehplbobjmaaDoorD3
namespace Go.Proofs.YtpmlehplbobjmaaDoor
open Go.Eng
/-! The margins of a view, as plain lists; two views of one text are one -/
def lsts (v : List Row) : List (List Int) := v.map fun r => r.2.2
theorem lsts_len (v : List Row) : (lsts v).length = v.length := by simp [lsts]
theorem lsts_at (v : List Row) {i : Nat} (hi : i < v.length) : (lsts v).getD i [] = (v.getD i default).2.2 := by
  unfold lsts
  rw [List.getD_eq_getElem?_getD, List.getElem?_map, List.getD_eq_getElem?_getD, List.getElem?_eq_getElem hi]; rfl
def textL (L : List (List Int)) : List UInt8 := L.flatMap fun l => rowT l ++ [59]
theorem viewT_lsts (v : List Row) : viewT v = textL (lsts v) := by
  unfold viewT textL lsts
  rw [List.flatMap_map]
def Small (l : List Int) : Prop := ∀ z ∈ l, -9 ≤ z ∧ z ≤ 9
theorem ofNat_inj {a b : Nat} (ha : a ≤ 9) (hb : b ≤ 9) (h : UInt8.ofNat (48 + a) = UInt8.ofNat (48 + b)) : a = b := by
  have := congrArg UInt8.toNat h
  simp only [UInt8.toNat_ofNat'] at this
  omega
theorem dig_ne {a : Nat} (ha : a ≤ 9) : UInt8.ofNat (48 + a) ≠ 45 ∧ UInt8.ofNat (48 + a) ≠ 59 ∧ UInt8.ofNat (48 + a) ≠ 32 := by
  have key : ∀ c : UInt8, c.toNat < 48 ∨ 57 < c.toNat → UInt8.ofNat (48 + a) ≠ c := fun c hc h => by
    have := congrArg UInt8.toNat h
    simp only [UInt8.toNat_ofNat'] at this
    omega
  exact ⟨key _ (by decide), key _ (by decide), key _ (by decide)⟩
theorem numT_inj {z z' : Int} (hz : -9 ≤ z ∧ z ≤ 9) (hz' : -9 ≤ z' ∧ z' ≤ 9) {X X' : List UInt8} (h : numT z ++ X = numT z' ++ X') : z = z' ∧ X = X' := by
  unfold numT at h
  by_cases h0 : z < 0 <;> by_cases h1 : z' < 0
  · rw [if_pos h0, if_pos h1] at h
    simp only [List.cons_append, List.nil_append, List.cons.injEq, true_and] at h
    have := ofNat_inj (by omega) (by omega) h.1
    exact ⟨by omega, h.2⟩
  · rw [if_pos h0, if_neg h1] at h
    simp only [List.cons_append, List.nil_append, List.cons.injEq] at h
    exact absurd h.1.symm (dig_ne (by omega)).1
  · rw [if_neg h0, if_pos h1] at h
    simp only [List.cons_append, List.nil_append, List.cons.injEq] at h
    exact absurd h.1 (dig_ne (by omega)).1
  · rw [if_neg h0, if_neg h1] at h
    simp only [List.cons_append, List.nil_append, List.cons.injEq] at h
    have := ofNat_inj (by omega) (by omega) h.1
    exact ⟨by omega, h.2⟩
theorem numT_59 {z : Int} (hz : -9 ≤ z ∧ z ≤ 9) {X X' : List UInt8} : numT z ++ X ≠ 59 :: X' := fun h => by
  unfold numT at h
  split at h
  · simp only [List.cons_append, List.cons.injEq] at h
    exact absurd h.1 (by decide)
  · simp only [List.cons_append, List.cons.injEq] at h
    exact (dig_ne (by omega)).2.1 h.1
theorem rowT_cons (z : Int) (l : List Int) : rowT (z :: l) = numT z ++ (32 :: rowT l) := by simp [rowT]
theorem rowT_inj : ∀ {l l' : List Int} {X X' : List UInt8}, Small l → Small l' → rowT l ++ 59 :: X = rowT l' ++ 59 :: X' → l = l' ∧ X = X'
  | [], [], X, X', _, _, h => by
    simp only [rowT, List.flatMap_nil, List.nil_append, List.cons.injEq, true_and] at h
    exact ⟨rfl, h⟩
  | [], z :: l', X, X', _, h2, h => by
    rw [rowT_cons, List.append_assoc] at h
    exact absurd h.symm (numT_59 (h2 z List.mem_cons_self))
  | z :: l, [], X, X', h1, _, h => by
    rw [rowT_cons, List.append_assoc] at h
    exact absurd h (numT_59 (h1 z List.mem_cons_self))
  | z :: l, z' :: l', X, X', h1, h2, h => by
    rw [rowT_cons, rowT_cons, List.append_assoc, List.append_assoc] at h
    obtain ⟨he, h⟩ := numT_inj (h1 z List.mem_cons_self) (h2 z' List.mem_cons_self) h
    simp only [List.cons_append, List.cons.injEq, true_and] at h
    obtain ⟨hl, hX⟩ := rowT_inj (fun x hx => h1 x (List.mem_cons_of_mem _ hx)) (fun x hx => h2 x (List.mem_cons_of_mem _ hx)) h
    exact ⟨by rw [he, hl], hX⟩
theorem textL_inj : ∀ {L L' : List (List Int)}, (∀ l ∈ L, Small l) → (∀ l ∈ L', Small l) → textL L = textL L' → L = L'
  | [], [], _, _, _ => rfl
  | [], l :: L', _, _, h => by
    have := congrArg List.length h
    simp [textL] at this
  | l :: L, [], _, _, h => by
    have := congrArg List.length h
    simp [textL] at this
  | l :: L, l' :: L', h1, h2, h => by
    unfold textL at h
    simp only [List.flatMap_cons, List.append_assoc, List.singleton_append] at h
    obtain ⟨he, hX⟩ := rowT_inj (h1 l List.mem_cons_self) (h2 l' List.mem_cons_self) h
    rw [he, textL_inj (fun x hx => h1 x (List.mem_cons_of_mem _ hx)) (fun x hx => h2 x (List.mem_cons_of_mem _ hx)) hX]
/-- The dimensions chosen by a number's bits in one. -/
def margV (L : List (List Int)) (set : Nat) : List (List Int) := (List.range L.length).map fun i => margL set i (L.getD i [])
theorem margV_len (L : List (List Int)) (set : Nat) : (margV L set).length = L.length := by simp [margV]
theorem margV_at (L : List (List Int)) (set : Nat) {i : Nat} (hi : i < L.length) : (margV L set).getD i [] = margL set i (L.getD i []) := by
  unfold margV
  rw [List.getD_eq_getElem?_getD, List.getElem?_map, List.getElem?_range hi]; rfl
theorem margV_take {L : List (List Int)} {set i : Nat} (hi : i < L.length) : (margV L set).take (i + 1) = (margV L set).take i ++ [margL set i (L.getD i [])] := by
  have h := margV_at L set hi
  have hl := margV_len L set
  rw [List.take_succ_eq_append_getElem (by omega)]
  rw [List.getD_eq_getElem?_getD, List.getElem?_eq_getElem (by omega)] at h
  have h : (margV L set)[i]'(by omega) = margL set i (L.getD i []) := h
  rw [h]
/-- The margins for the first n choices, each once, without the view itself. -/
def margs (L : List (List Int)) : Nat → List (List (List Int))
  | 0 => []
  | n + 1 => if margV L (n + 1) = L ∨ margV L (n + 1) ∈ margs L n then margs L n else margs L n ++ [margV L (n + 1)]
theorem margs_len (L : List (List Int)) : ∀ n, (margs L n).length ≤ n
  | 0 => Nat.le_refl _
  | n + 1 => by
    have := margs_len L n
    unfold margs
    split
    · omega
    · rw [List.length_append, List.length_singleton]; omega
theorem margs_mem {L : List (List Int)} : ∀ {n : Nat} {M : List (List Int)}, M ∈ margs L n → M ≠ L ∧ ∃ set, M = margV L set
  | 0, M, h => by cases h
  | n + 1, M, h => by
    unfold margs at h
    split at h
    · exact margs_mem h
    · rename_i hn
      rcases List.mem_append.1 h with h | h
      · exact margs_mem h
      · rw [List.mem_singleton] at h
        exact ⟨fun he => hn (.inl (h.symm.trans he)), n + 1, h⟩
theorem margs_all {L : List (List Int)} : ∀ {n set : Nat}, 1 ≤ set → set ≤ n → margV L set = L ∨ margV L set ∈ margs L n
  | 0, set, h1, h2 => by omega
  | n + 1, set, h1, h2 => by
    unfold margs
    by_cases h : set = n + 1
    · subst h
      split
      · assumption
      · exact .inr (by simp)
    · rcases margs_all (L := L) (n := n) h1 (by omega) with h3 | h3
      · exact .inl h3
      · right
        split
        · exact h3
        · exact List.mem_append_left _ h3
theorem oneL_small {l : List Int} (h : Small l) : Small (oneL l) := fun z hz => by
  obtain ⟨x, hx, rfl⟩ := List.mem_map.1 hz
  have := h x hx
  omega
theorem margV_small {L : List (List Int)} (h : ∀ l ∈ L, Small l) (set : Nat) : ∀ l ∈ margV L set, Small l := fun l hl => by
  obtain ⟨i, hi, rfl⟩ := List.mem_map.1 hl
  rw [List.mem_range] at hi
  have : L.getD i [] ∈ L := by rw [List.getD_eq_getElem?_getD, List.getElem?_eq_getElem hi]; exact List.getElem_mem _
  unfold margL
  split
  · exact oneL_small (h _ this)
  · exact h _ this
theorem margIn_of {v m : List Row} {n : Nat} (h : lsts m ∈ margs (lsts v) n) : MargIn v m := by
  obtain ⟨hne, set, he⟩ := margs_mem h
  have hl : m.length = v.length := by
    have := congrArg List.length he
    rw [margV_len, lsts_len, lsts_len] at this
    exact this
  have hat : ∀ i, i < v.length → (m.getD i default).2.2 = margL set i (v.getD i default).2.2 := fun i hi => by
    rw [← lsts_at m (by omega), ← lsts_at v hi, he, margV_at _ _ (by rw [lsts_len]; exact hi)]
  refine ⟨⟨hl, fun i hi => ?_⟩, ?_⟩
  · rw [hat i hi]
    unfold margL
    split
    · exact .inr rfl
    · exact .inl rfl
  · refine Classical.byContradiction fun hno => hne ?_
    refine List.ext_getElem (by rw [lsts_len, lsts_len, hl]) fun i h1 h2 => ?_
    rw [lsts_len] at h1 h2
    have h3 : (m.getD i default).2.2 = (v.getD i default).2.2 := Classical.byContradiction fun h3 => hno ⟨i, h2, h3⟩
    rw [← lsts_at m h1, ← lsts_at v h2, List.getD_eq_getElem?_getD, List.getD_eq_getElem?_getD, List.getElem?_eq_getElem (by rw [lsts_len]; exact h1), List.getElem?_eq_getElem (by rw [lsts_len]; exact h2)] at h3
    exact h3
/-- What the map of seen texts says. -/
structure SeenT (L : List (List Int)) (n : Nat) (sl : List (List UInt8 × Bool)) : Prop where
  iff : ∀ M : List (List Int), (∀ l ∈ M, Small l) → ((mget sl (textL M)).getD false = true ↔ (M = L ∨ M ∈ margs L n))
theorem SeenT.start {L : List (List Int)} (hL : ∀ l ∈ L, Small l) : SeenT L 0 (mset [] (textL L) true) := ⟨fun M hM => by
  rw [mget_set]
  by_cases h : textL M = textL L
  · rw [if_pos h]
    exact ⟨fun _ => .inl (textL_inj hM hL h), fun _ => rfl⟩
  · rw [if_neg h]
    simp only [mget, Option.getD_none, Bool.false_eq_true, false_iff]
    rintro (rfl | h2)
    · exact h rfl
    · cases h2⟩
theorem SeenT.old {L : List (List Int)} {n : Nat} {sl : List (List UInt8 × Bool)} (hL : ∀ l ∈ L, Small l) (h : SeenT L n sl) (ho : (mget sl (textL (margV L (n + 1)))).getD false = true) : margs L (n + 1) = margs L n ∧ SeenT L (n + 1) sl := by
  have h1 := (h.iff _ (margV_small hL _)).1 ho
  have e : margs L (n + 1) = margs L n := by
    show (if _ then _ else _) = _
    rw [if_pos h1]
  exact ⟨e, ⟨fun M hM => by rw [e]; exact h.iff M hM⟩⟩
theorem SeenT.new {L : List (List Int)} {n : Nat} {sl : List (List UInt8 × Bool)} (hL : ∀ l ∈ L, Small l) (h : SeenT L n sl) (ho : (mget sl (textL (margV L (n + 1)))).getD false = false) : margs L (n + 1) = margs L n ++ [margV L (n + 1)] ∧ SeenT L (n + 1) (mset sl (textL (margV L (n + 1))) true) := by
  have h1 : ¬(margV L (n + 1) = L ∨ margV L (n + 1) ∈ margs L n) := fun h2 => by
    have := (h.iff _ (margV_small hL _)).2 h2
    rw [ho] at this; cases this
  have e : margs L (n + 1) = margs L n ++ [margV L (n + 1)] := by
    show (if _ then _ else _) = _
    rw [if_neg h1]
  refine ⟨e, ⟨fun M hM => ?_⟩⟩
  rw [mget_set, e, List.mem_append, List.mem_singleton]
  by_cases h2 : textL M = textL (margV L (n + 1))
  · rw [if_pos h2]
    have := textL_inj hM (margV_small hL _) h2
    exact ⟨fun _ => .inr (.inr this), fun _ => rfl⟩
  · rw [if_neg h2, h.iff M hM]
    constructor
    · rintro (h3 | h3)
      · exact .inl h3
      · exact .inr (.inl h3)
    · rintro (h3 | h3 | h3)
      · exact .inl h3
      · exact .inr h3
      · rw [h3] at h2; exact absurd rfl h2
end Go.Proofs.YtpmlehplbobjmaaDoor
