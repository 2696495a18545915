/- Tables of numbers can be rounded so that their lines and the sum of all are rounded too (controlled rounding): plain facts, no program in sight. -/
import Derived.OrdersHeld
import Derived.Below
import Derived.KernelRfl
import Derived.Laws.AppendOwn
import Derived.Laws.MakeOwn
import Derived.Laws.OwnMore
import Derived.Laws.Rows
import Derived.Tactics
import Derived.Maps.AppendAt
import Derived.IntWalk
namespace Go.Ctl
def sm : Nat → (Nat → Int) → Int
  | 0, _ => 0
  | n + 1, f => sm n f + f n
theorem sm_congr {n : Nat} {f g : Nat → Int} (h : ∀ k, k < n → f k = g k) : sm n f = sm n g := by
  induction n with
  | zero => rfl
  | succ n ih => rw [sm, sm, ih fun k hk => h k (by omega), h n (by omega)]
theorem sm_add (n : Nat) (f g : Nat → Int) : sm n (fun k => f k + g k) = sm n f + sm n g := by
  induction n with
  | zero => rfl
  | succ n ih => rw [sm, sm, sm, ih]; omega
theorem sm_sub (n : Nat) (f g : Nat → Int) : sm n (fun k => f k - g k) = sm n f - sm n g := by
  induction n with
  | zero => rfl
  | succ n ih => rw [sm, sm, sm, ih]; omega
theorem sm_mul (n : Nat) (c : Int) (f : Nat → Int) : sm n (fun k => c * f k) = c * sm n f := by
  induction n with
  | zero => simp [sm]
  | succ n ih => rw [sm, sm, ih, Int.mul_add]
theorem sm_zero (n : Nat) : sm n (fun _ => 0) = 0 := by
  induction n with
  | zero => rfl
  | succ n ih => rw [sm, ih]; rfl
theorem sm_comm (m n : Nat) (f : Nat → Nat → Int) : sm m (fun i => sm n (f i)) = sm n (fun j => sm m fun i => f i j) := by
  induction m with
  | zero => rw [sm]; exact (sm_zero n).symm
  | succ m ih =>
    rw [sm, ih, ← sm_add]
    rfl
theorem sm_one {n k : Nat} (c : Int) (hk : k < n) : sm n (fun j => if j = k then c else 0) = c := by
  induction n with
  | zero => omega
  | succ n ih =>
    rw [sm]
    by_cases h : k = n
    · subst h
      rw [if_pos rfl, sm_congr (g := fun _ => 0) fun j hj => if_neg (by omega), sm_zero]; omega
    · rw [ih (by omega), if_neg (by omega)]; omega
theorem sm_dvd {n : Nat} {b : Int} {f : Nat → Int} (h : ∀ k, k < n → b ∣ f k) : b ∣ sm n f := by
  induction n with
  | zero => exact ⟨0, by simp [sm]⟩
  | succ n ih => exact Int.dvd_add (ih fun k hk => h k (by omega)) (h n (by omega))
/-- If all others are multiples and the sum is one, so is the last. -/
theorem last_dvd {n j : Nat} {b : Int} {f : Nat → Int} (hj : j < n) (hs : b ∣ sm n f) (h : ∀ k, k < n → k ≠ j → b ∣ f k) : b ∣ f j := by
  have e : sm n f = sm n (fun k => if k = j then 0 else f k) + f j := by
    have := sm_one (n := n) (f j) hj
    rw [← this, ← sm_add]
    refine sm_congr fun k _ => ?_
    by_cases hk : k = j
    · rw [if_pos hk, if_pos hk, hk]; omega
    · rw [if_neg hk, if_neg hk]; omega
  have h1 : b ∣ sm n (fun k => if k = j then 0 else f k) := sm_dvd fun k hk => by
    by_cases hkj : k = j
    · rw [if_pos hkj]; exact ⟨0, by simp⟩
    · rw [if_neg hkj]; exact h k hk hkj
  rw [e] at hs
  exact (Int.dvd_add_right h1).1 hs
theorem sm_le_one {n : Nat} {P : Nat → Prop} [DecidablePred P] (h : ∀ k k', k < n → k' < n → P k → P k' → k = k') : (sm n fun k => if P k then 1 else 0) = 0 ∨ (sm n fun k => if P k then 1 else 0) = 1 := by
  induction n with
  | zero => exact .inl rfl
  | succ n ih =>
    rw [sm]
    by_cases hn : P n
    · rw [if_pos hn, sm_congr (g := fun _ => 0) fun k hk => if_neg fun hp => by have := h k n (by omega) (by omega) hp hn; omega, sm_zero]
      exact .inr rfl
    · rw [if_neg hn, Int.add_zero]
      exact ih fun k k' hk hk' => h k k' (by omega) (by omega)
theorem sm_none {n : Nat} {P : Nat → Prop} [DecidablePred P] (h : ∀ k, k < n → ¬ P k) : (sm n fun k => if P k then (1 : Int) else 0) = 0 := by
  rw [sm_congr (g := fun _ => 0) fun k hk => if_neg (h k hk), sm_zero]
theorem sm_has {n : Nat} {P : Nat → Prop} [DecidablePred P] (h : (sm n fun k => if P k then (1 : Int) else 0) ≠ 0) : ∃ k, k < n ∧ P k := by
  refine Classical.byContradiction fun hn => h (sm_none fun k hk hp => hn ⟨k, hk, hp⟩)
theorem sm_tele {n : Nat} (f : Nat → Int) : sm n (fun k => f k - f (k + 1)) = f 0 - f n := by
  induction n with
  | zero => rw [sm]; omega
  | succ n ih => rw [sm, ih]; omega
theorem nodup_lt : ∀ (R : Nat) (l : List Nat), l.Nodup → (∀ x ∈ l, x < R) → l.length ≤ R
  | 0, l, _, h => by
    cases l with
    | nil => exact Nat.le_refl _
    | cons x l => exact absurd (h x List.mem_cons_self) (Nat.not_lt_zero _)
  | R + 1, l, hn, h => by
    have ih := nodup_lt R (l.erase R) (hn.erase R) fun x hx => by
      have := (List.Nodup.mem_erase_iff hn).1 hx
      have := h x this.2
      omega
    have := List.length_erase_le (a := R) (l := l)
    by_cases hR : R ∈ l
    · rw [List.length_erase_of_mem hR] at ih; omega
    · rw [List.erase_of_not_mem hR] at ih; omega
theorem repeats {R : Nat} {f : Nat → Nat} (h : ∀ k, f k < R) : ∃ d p, 1 ≤ d ∧ f p = f (p + d) := by
  refine Classical.byContradiction fun hn => ?_
  have hnd : ((List.range (R + 1)).map f).Nodup := by
    rw [List.nodup_iff_pairwise_ne, List.pairwise_map]
    exact List.Pairwise.imp (fun {a b} (hab : a < b) => show f a ≠ f b from fun he => hn ⟨b - a, a, by omega, by rw [show a + (b - a) = b by omega]; exact he⟩) List.pairwise_lt_range
  have := nodup_lt R _ hnd fun x hx => by
    obtain ⟨k, _, rfl⟩ := List.mem_map.1 hx
    exact h k
  rw [List.length_map, List.length_range] at this
  omega
/-- The least number with a property. -/
theorem least {P : Nat → Prop} : ∀ n, P n → ∃ m, P m ∧ ∀ k, k < m → ¬ P k := by
  intro n
  induction n using Nat.strongRecOn with
  | _ n ih =>
    intro hn
    by_cases h : ∃ k, k < n ∧ P k
    · obtain ⟨k, hk, hp⟩ := h
      exact ih k hk hp
    · exact ⟨n, hn, fun k hk hp => h ⟨k, hk, hp⟩⟩
section
variable {R C : Nat} {loose : Nat → Nat → Prop} (hin : ∀ i j, loose i j → i < R ∧ j < C) (hrow : ∀ i j, loose i j → ∃ j', j' ≠ j ∧ loose i j') (hcol : ∀ i j, loose i j → ∃ i', i' ≠ i ∧ loose i' j)
include hrow hcol in
theorem walk {i j : Nat} (h0 : loose i j) : ∃ I J : Nat → Nat, ∀ k, loose (I k) (J k) ∧ loose (I k) (J (k + 1)) ∧ J (k + 1) ≠ J k ∧ I (k + 1) ≠ I k := by
  have step : ∀ s : {p : Nat × Nat // loose p.1 p.2}, ∃ t : {p : Nat × Nat // loose p.1 p.2}, t.1.2 ≠ s.1.2 ∧ loose s.1.1 t.1.2 ∧ t.1.1 ≠ s.1.1 := fun s => by
    obtain ⟨j', h1, h2⟩ := hrow _ _ s.2
    obtain ⟨i', h3, h4⟩ := hcol _ _ h2
    exact ⟨⟨(i', j'), h4⟩, h1, h2, h3⟩
  let nx := fun s => Classical.choose (step s)
  have hnx := fun s => Classical.choose_spec (step s)
  let sq : Nat → {p : Nat × Nat // loose p.1 p.2} := fun n => Nat.rec ⟨(i, j), h0⟩ (fun _ s => nx s) n
  exact ⟨fun k => (sq k).1.1, fun k => (sq k).1.2, fun k => ⟨(sq k).2, (hnx (sq k)).2.1, (hnx (sq k)).1, (hnx (sq k)).2.2⟩⟩
include hin hrow hcol in
/-- A round walk over loose cells, by turns up and down. -/
theorem cycle {i j : Nat} (h0 : loose i j) : ∃ v : Nat → Nat → Int, (∀ i j, v i j = -1 ∨ v i j = 0 ∨ v i j = 1) ∧ (∀ i j, v i j ≠ 0 → loose i j) ∧ (∃ i j, v i j ≠ 0) ∧ (∀ i, sm C (v i) = 0) ∧ ∀ j, sm R (fun i => v i j) = 0 := by
  obtain ⟨I, J, hw⟩ := walk hrow hcol h0
  obtain ⟨d0, p0, hd0, he0⟩ := repeats (R := R) (f := I) fun k => (hin _ _ (hw k).1).1
  obtain ⟨d, ⟨hd, p, hp⟩, hmin⟩ := least (P := fun d => 1 ≤ d ∧ ∃ p, I p = I (p + d)) d0 ⟨hd0, p0, he0⟩
  have hdis : ∀ x y, x < y → y - x < d → I x ≠ I y := fun x y hxy hyx he => hmin (y - x) hyx ⟨by omega, x, by rw [show x + (y - x) = y by omega]; exact he⟩
  have hd2 : 2 ≤ d := by
    by_cases h : d = 1
    · subst h
      exact absurd hp.symm (hw p).2.2.2
    · omega
  have hA : ∀ i j k k', k < d → k' < d → (i = I (p + k) ∧ j = J (p + k + 1)) → (i = I (p + k') ∧ j = J (p + k' + 1)) → k = k' := fun i j k k' hk hk' h1 h2 => by
    rcases Nat.lt_trichotomy k k' with h | h | h
    · exact absurd (h1.1.symm.trans h2.1) (hdis _ _ (by omega) (by omega))
    · exact h
    · exact absurd (h2.1.symm.trans h1.1) (hdis _ _ (by omega) (by omega))
  have hB : ∀ i j k k', k < d → k' < d → (i = I (p + k + 1) ∧ j = J (p + k + 1)) → (i = I (p + k' + 1) ∧ j = J (p + k' + 1)) → k = k' := fun i j k k' hk hk' h1 h2 => by
    rcases Nat.lt_trichotomy k k' with h | h | h
    · exact absurd (h1.1.symm.trans h2.1) (hdis _ _ (by omega) (by omega))
    · exact h
    · exact absurd (h2.1.symm.trans h1.1) (hdis _ _ (by omega) (by omega))
  let A := fun i j => sm d fun k => if i = I (p + k) ∧ j = J (p + k + 1) then (1 : Int) else 0
  let B := fun i j => sm d fun k => if i = I (p + k + 1) ∧ j = J (p + k + 1) then (1 : Int) else 0
  have hA01 : ∀ i j, A i j = 0 ∨ A i j = 1 := fun i j => sm_le_one (hA i j)
  have hB01 : ∀ i j, B i j = 0 ∨ B i j = 1 := fun i j => sm_le_one (hB i j)
  refine ⟨fun i j => A i j - B i j, fun i j => ?_, fun i j hv => ?_, ⟨I (p + 1), J (p + 2), ?_⟩, fun i => ?_, fun j => ?_⟩
  · have := hA01 i j; have := hB01 i j; dsimp only; omega
  · by_cases ha : A i j = 0
    · have hb : B i j ≠ 0 := fun h => hv (by dsimp only; omega)
      obtain ⟨k, _, h1, h2⟩ := sm_has hb
      rw [h1, h2]; exact (hw _).1
    · obtain ⟨k, _, h1, h2⟩ := sm_has ha
      rw [h1, h2]; exact (hw _).2.1
  · have ha : A (I (p + 1)) (J (p + 2)) ≠ 0 := fun h => by
      have h1 := hA01 (I (p + 1)) (J (p + 2))
      have : (sm d fun k => if k = 1 then (1 : Int) else 0) = 1 := sm_one 1 (by omega)
      have e : A (I (p + 1)) (J (p + 2)) = sm d fun k => if k = 1 then (1 : Int) else 0 := sm_congr fun k hk => by
        by_cases hk1 : k = 1
        · subst hk1; rw [if_pos ⟨rfl, rfl⟩, if_pos rfl]
        · rw [if_neg hk1, if_neg]
          exact fun hc => hk1 (hA _ _ k 1 hk (by omega) hc ⟨rfl, rfl⟩)
      rw [e, this] at h
      exact absurd h (by decide)
    have hb : B (I (p + 1)) (J (p + 2)) = 0 := sm_none fun k hk hc => by
      have hk0 : k = 0 := by
        rcases Nat.eq_zero_or_pos k with h | h
        · exact h
        · exact absurd hc.1 (hdis _ _ (by omega) (by omega))
      subst hk0
      exact (hw (p + 1)).2.2.1 hc.2
    dsimp only
    omega
  · have e : ∀ (K L : Nat → Nat), (∀ k, L k < C) → sm C (fun j => sm d fun k => if i = K k ∧ j = L k then (1 : Int) else 0) = sm d fun k => if i = K k then 1 else 0 := fun K L hL => by
      rw [sm_comm]
      refine sm_congr fun k _ => ?_
      by_cases hi : i = K k
      · rw [if_pos hi, sm_congr (g := fun j => if j = L k then 1 else 0) fun j _ => by
          by_cases hj : j = L k
          · rw [if_pos ⟨hi, hj⟩, if_pos hj]
          · rw [if_neg fun h => hj h.2, if_neg hj], sm_one 1 (hL k)]
      · rw [if_neg hi, sm_congr (g := fun _ => 0) fun j _ => if_neg fun h => hi h.1, sm_zero]
    have hL : ∀ k, J (p + k + 1) < C := fun k => (hin _ _ (hw (p + k + 1)).1).2
    rw [sm_sub, e (fun k => I (p + k)) (fun k => J (p + k + 1)) hL, e (fun k => I (p + k + 1)) (fun k => J (p + k + 1)) hL, ← sm_sub]
    have := sm_tele (n := d) fun k => if i = I (p + k) then (1 : Int) else 0
    rw [show (fun k => (if i = I (p + k) then (1 : Int) else 0) - if i = I (p + k + 1) then 1 else 0) = fun k => (if i = I (p + k) then (1 : Int) else 0) - if i = I (p + (k + 1)) then 1 else 0 from rfl, this, Nat.add_zero, hp]
    omega
  · have e : ∀ (K L : Nat → Nat), (∀ k, K k < R) → sm R (fun i => sm d fun k => if i = K k ∧ j = L k then (1 : Int) else 0) = sm d fun k => if j = L k then 1 else 0 := fun K L hK => by
      rw [sm_comm]
      refine sm_congr fun k _ => ?_
      by_cases hj : j = L k
      · rw [if_pos hj, sm_congr (g := fun i => if i = K k then 1 else 0) fun i _ => by
          by_cases hi : i = K k
          · rw [if_pos ⟨hi, hj⟩, if_pos hi]
          · rw [if_neg fun h => hi h.1, if_neg hi], sm_one 1 (hK k)]
      · rw [if_neg hj, sm_congr (g := fun _ => 0) fun i _ => if_neg fun h => hj h.2, sm_zero]
    rw [sm_sub, e (fun k => I (p + k)) (fun k => J (p + k + 1)) fun k => (hin _ _ (hw (p + k)).1).1, e (fun k => I (p + k + 1)) (fun k => J (p + k + 1)) fun k => (hin _ _ (hw (p + k + 1)).1).1]
    omega
end
theorem filter_le {α : Type} {p q : α → Bool} : ∀ {l : List α}, (∀ x ∈ l, q x = true → p x = true) → (l.filter q).length ≤ (l.filter p).length
  | [], _ => Nat.le_refl _
  | x :: l, h => by
    have ih := filter_le (l := l) fun y hy => h y (List.mem_cons_of_mem _ hy)
    have hx := h x List.mem_cons_self
    rw [List.filter_cons, List.filter_cons]
    cases hq : q x with
    | true =>
      rw [hq] at hx
      rw [hx rfl]
      simpa using ih
    | false =>
      cases hp : p x with
      | true => simp; omega
      | false => simpa using ih
theorem filter_lt {α : Type} {p q : α → Bool} : ∀ {l : List α}, (∀ x ∈ l, q x = true → p x = true) → (∃ x ∈ l, p x = true ∧ q x = false) → (l.filter q).length < (l.filter p).length
  | [], _, h => by obtain ⟨x, hx, _⟩ := h; cases hx
  | x :: l, h, hex => by
    have ih := filter_lt (l := l) fun y hy => h y (List.mem_cons_of_mem _ hy)
    have hle := filter_le (l := l) fun y hy => h y (List.mem_cons_of_mem _ hy)
    have hx := h x List.mem_cons_self
    rw [List.filter_cons, List.filter_cons]
    cases hq : q x with
    | true =>
      rw [hq] at hx
      have hp := hx rfl
      obtain ⟨y, hy, h1, h2⟩ := hex
      have := ih ⟨y, (List.mem_cons.1 hy).resolve_left fun e => (by rw [e, hq] at h2; cases h2), h1, h2⟩
      rw [hp]
      simpa using this
    | false =>
      cases hp : p x with
      | true => simp; omega
      | false =>
        obtain ⟨y, hy, h1, h2⟩ := hex
        have := ih ⟨y, (List.mem_cons.1 hy).resolve_left fun e => (by rw [e, hp] at h1; cases h1), h1, h2⟩
        simpa using this
def lo (b x : Int) : Int := x - x % b
def up (b x : Int) : Int := if b ∣ x then x else x - x % b + b
theorem lo_dvd (b x : Int) : b ∣ lo b x := ⟨x / b, by unfold lo; have := Int.mul_ediv_add_emod x b; omega⟩
theorem up_dvd (b x : Int) : b ∣ up b x := by
  unfold up
  split
  · assumption
  · exact Int.dvd_add (lo_dvd b x) ⟨1, by omega⟩
theorem lo_ge {b m x : Int} (hb : 1 ≤ b) (hm : b ∣ m) (h : m ≤ x) : m ≤ lo b x := by
  obtain ⟨k, rfl⟩ := hm
  have h1 := Int.mul_ediv_add_emod x b
  have h2 : k ≤ x / b := Int.le_ediv_of_mul_le (by omega) (by rw [Int.mul_comm]; exact h)
  have h3 := Int.mul_le_mul_of_nonneg_left h2 (show (0 : Int) ≤ b by omega)
  unfold lo
  omega
theorem up_le {b m x : Int} (hb : 1 ≤ b) (hm : b ∣ m) (h : x ≤ m) : up b x ≤ m := by
  unfold up
  split
  · exact h
  · rename_i hx
    obtain ⟨k, rfl⟩ := hm
    have h1 := Int.mul_ediv_add_emod x b
    have h0 : 0 < x % b := by
      have := Int.emod_nonneg x (show b ≠ 0 by omega)
      rcases Int.lt_or_eq_of_le this with h | h
      · exact h
      · exact absurd (Int.dvd_of_emod_eq_zero h.symm) hx
    have h2 : x / b < k := by
      refine Int.lt_of_not_ge fun hk => ?_
      have := Int.mul_le_mul_of_nonneg_left hk (show (0 : Int) ≤ b by omega)
      omega
    have h3 := Int.mul_le_mul_of_nonneg_left (show x / b + 1 ≤ k by omega) (show (0 : Int) ≤ b by omega)
    rw [Int.mul_add, Int.mul_one] at h3
    omega
def cells (R C : Nat) : List (Nat × Nat) := (List.range R).flatMap fun i => (List.range C).map fun j => (i, j)
theorem mem_cells {R C i j : Nat} : (i, j) ∈ cells R C ↔ i < R ∧ j < C := by
  unfold cells
  rw [List.mem_flatMap]
  constructor
  · rintro ⟨x, hx, h⟩
    obtain ⟨y, hy, he⟩ := List.mem_map.1 h
    cases he
    exact ⟨List.mem_range.1 hx, List.mem_range.1 hy⟩
  · rintro ⟨hi, hj⟩
    exact ⟨i, List.mem_range.2 hi, List.mem_map.2 ⟨j, List.mem_range.2 hj, rfl⟩⟩
def cnt (R C : Nat) (b : Int) (a : Nat → Nat → Int) : Nat := ((cells R C).filter fun c => !decide (b ∣ a c.1 c.2)).length
/-- A table whose lines add up to 0 can be rounded so that they still do. -/
theorem round {R C : Nat} {b : Int} (hb : 1 ≤ b) : ∀ (n : Nat) (a : Nat → Nat → Int), cnt R C b a ≤ n → (∀ i, i < R → sm C (a i) = 0) → (∀ j, j < C → sm R (fun i => a i j) = 0) →
    ∃ z : Nat → Nat → Int, (∀ i, i < R → sm C (z i) = 0) ∧ (∀ j, j < C → sm R (fun i => z i j) = 0) ∧ ∀ i j, i < R → j < C → b ∣ z i j ∧ lo b (a i j) ≤ z i j ∧ z i j ≤ up b (a i j) := by
  intro n
  induction n with
  | zero =>
    intro a hc hr hco
    have hall : ∀ i j, i < R → j < C → b ∣ a i j := fun i j hi hj => by
      refine Classical.byContradiction fun hn => ?_
      have : (i, j) ∈ (cells R C).filter fun c => !decide (b ∣ a c.1 c.2) := List.mem_filter.2 ⟨mem_cells.2 ⟨hi, hj⟩, by rw [decide_eq_false hn]; rfl⟩
      have := List.length_pos_of_mem this
      unfold cnt at hc
      omega
    refine ⟨a, hr, hco, fun i j hi hj => ⟨hall i j hi hj, ?_, ?_⟩⟩
    · unfold lo; rw [Int.emod_eq_zero_of_dvd (hall i j hi hj)]; omega
    · unfold up; rw [if_pos (hall i j hi hj)]; exact Int.le_refl _
  | succ n ih =>
    intro a hc hr hco
    by_cases hex : ∃ i j, i < R ∧ j < C ∧ ¬ b ∣ a i j
    case neg =>
      refine ih a ?_ hr hco
      have : (cells R C).filter (fun c => !decide (b ∣ a c.1 c.2)) = [] := List.filter_eq_nil_iff.2 fun c hcm hn => by
        have := mem_cells.1 (show (c.1, c.2) ∈ cells R C from hcm)
        refine hex ⟨c.1, c.2, this.1, this.2, fun hd => ?_⟩
        rw [decide_eq_true hd] at hn
        cases hn
      unfold cnt
      rw [this]
      exact Nat.zero_le _
    obtain ⟨i0, j0, h0⟩ := hex
    have hz : b ∣ (0 : Int) := ⟨0, by simp⟩
    obtain ⟨v, v01, vl, ⟨i1, j1, v1⟩, vr, vc⟩ := cycle (R := R) (C := C) (loose := fun i j => i < R ∧ j < C ∧ ¬ b ∣ a i j) (fun i j h => ⟨h.1, h.2.1⟩)
      (fun i j h => Classical.byContradiction fun hn => h.2.2 (last_dvd h.2.1 (by rw [hr i h.1]; exact hz) fun k hk hkj => Classical.byContradiction fun hd => hn ⟨k, hkj, h.1, hk, hd⟩))
      (fun i j h => Classical.byContradiction fun hn => h.2.2 (last_dvd (f := fun i => a i j) h.1 (by rw [hco j h.2.1]; exact hz) fun k hk hkj => Classical.byContradiction fun hd => hn ⟨k, hkj, hk, h.2.1, hd⟩)) h0
    let dist := fun i j => if v i j = 1 then b - a i j % b else a i j % b
    have hmod : ∀ i j, v i j ≠ 0 → 0 < a i j % b ∧ a i j % b < b := fun i j h => by
      have hl := (vl i j h).2.2
      have h1 := Int.emod_nonneg (a i j) (show b ≠ 0 by omega)
      have h2 := Int.emod_lt_of_pos (a i j) (show 0 < b by omega)
      rcases Int.lt_or_eq_of_le h1 with h | h
      · exact ⟨h, h2⟩
      · exact absurd (Int.dvd_of_emod_eq_zero h.symm) hl
    have hdist : ∀ i j, v i j ≠ 0 → 1 ≤ dist i j := fun i j h => by
      have := hmod i j h
      show 1 ≤ if v i j = 1 then b - a i j % b else a i j % b
      split <;> omega
    obtain ⟨δ, ⟨i2, j2, v2, hδ⟩, hmin⟩ := least (P := fun d => ∃ i j, v i j ≠ 0 ∧ (dist i j).toNat = d) _ ⟨i1, j1, v1, rfl⟩
    have hle : ∀ i j, v i j ≠ 0 → (δ : Int) ≤ dist i j := fun i j h => by
      have h1 := hdist i j h
      refine Int.le_of_not_gt fun hn => hmin (dist i j).toNat (by omega) ⟨i, j, h, rfl⟩
    have hδ2 : (δ : Int) = dist i2 j2 := by have := hdist i2 j2 v2; omega
    let a' := fun i j => a i j + (δ : Int) * v i j
    have hbet : ∀ i j, lo b (a i j) ≤ a' i j ∧ a' i j ≤ up b (a i j) := fun i j => by
      show lo b (a i j) ≤ a i j + (δ : Int) * v i j ∧ a i j + (δ : Int) * v i j ≤ up b (a i j)
      have hl : lo b (a i j) ≤ a i j := by unfold lo; have := Int.emod_nonneg (a i j) (show b ≠ 0 by omega); omega
      have hu : a i j ≤ up b (a i j) := by
        unfold up
        split
        · exact Int.le_refl _
        · have := Int.emod_lt_of_pos (a i j) (show 0 < b by omega); omega
      rcases v01 i j with h | h | h
      · have hd := hle i j (by omega)
        rw [show dist i j = a i j % b from if_neg (by omega)] at hd
        rw [h]
        unfold lo at hl ⊢
        omega
      · rw [h]; omega
      · have hd := hle i j (by omega)
        rw [show dist i j = b - a i j % b from if_pos h] at hd
        have hnd := (vl i j (by omega)).2.2
        rw [h]
        unfold up at hu ⊢
        rw [if_neg hnd] at hu ⊢
        omega
    have hkeep : ∀ i j, b ∣ a i j → b ∣ a' i j := fun i j hd => by
      show b ∣ a i j + (δ : Int) * v i j
      have : v i j = 0 := Classical.byContradiction fun h => (vl i j h).2.2 hd
      rw [this, Int.mul_zero, Int.add_zero]; exact hd
    have hhit : b ∣ a' i2 j2 := by
      show b ∣ a i2 j2 + (δ : Int) * v i2 j2
      have h1 := Int.mul_ediv_add_emod (a i2 j2) b
      rcases v01 i2 j2 with h | h | h
      · rw [hδ2, show dist i2 j2 = a i2 j2 % b from if_neg (by omega), h]
        exact ⟨a i2 j2 / b, by omega⟩
      · exact absurd h v2
      · rw [hδ2, show dist i2 j2 = b - a i2 j2 % b from if_pos h, h]
        exact ⟨a i2 j2 / b + 1, by rw [Int.mul_add]; omega⟩
    have hl2 := vl i2 j2 v2
    have hlt : cnt R C b a' < cnt R C b a := by
      refine filter_lt (fun c hcm hq => ?_) ⟨(i2, j2), mem_cells.2 ⟨hl2.1, hl2.2.1⟩, ?_, ?_⟩
      · cases hp : decide (b ∣ a c.1 c.2) with
        | false => rfl
        | true =>
          rw [decide_eq_true (hkeep c.1 c.2 (of_decide_eq_true hp))] at hq
          cases hq
      · show (!decide (b ∣ a i2 j2)) = true
        rw [decide_eq_false hl2.2.2]; rfl
      · show (!decide (b ∣ a' i2 j2)) = false
        rw [decide_eq_true hhit]; rfl
    obtain ⟨z, z1, z2, z3⟩ := ih a' (by omega) (fun i hi => by
      show sm C (fun j => a i j + (δ : Int) * v i j) = 0
      rw [sm_add, sm_mul, hr i hi, vr i]; simp) fun j hj => by
      show sm R (fun i => a i j + (δ : Int) * v i j) = 0
      rw [sm_add R (fun i => a i j) fun i => (δ : Int) * v i j, sm_mul, hco j hj, vc j]; simp
    refine ⟨z, z1, z2, fun i j hi hj => ?_⟩
    obtain ⟨d1, d2, d3⟩ := z3 i j hi hj
    obtain ⟨e1, e2⟩ := hbet i j
    exact ⟨d1, Int.le_trans (lo_ge hb (lo_dvd b _) e1) d2, Int.le_trans d3 (up_le hb (up_dvd b _) e2)⟩
/-- A multiple of the base that is less than the base away. -/
def Near (b n z : Int) : Prop := n - b < z ∧ z < n + b ∧ b ∣ z
theorem near_of {b x z : Int} (hb : 1 ≤ b) (hd : b ∣ z) (h1 : lo b x ≤ z) (h2 : z ≤ up b x) : Near b x z := by
  have m1 := Int.emod_nonneg x (show b ≠ 0 by omega)
  have m2 := Int.emod_lt_of_pos x (show 0 < b by omega)
  unfold lo at h1
  unfold up at h2
  split at h2
  · rename_i h
    rw [Int.emod_eq_zero_of_dvd h] at h1
    exact ⟨by omega, by omega, hd⟩
  · rename_i h
    have : x % b ≠ 0 := fun h0 => h (Int.dvd_of_emod_eq_zero h0)
    exact ⟨by omega, by omega, hd⟩
theorem near_neg {b x z : Int} (h : Near b (-x) z) : Near b x (-z) := ⟨by have := h.2.1; omega, by have := h.1; omega, (Int.dvd_neg).2 h.2.2⟩
theorem sm_neg (n : Nat) (f : Nat → Int) : sm n (fun k => - f k) = - sm n f := by
  induction n with
  | zero => rfl
  | succ n ih => rw [sm, sm, ih]; omega
/-- Each table can be rounded so that its rows, its columns and the sum of all are rounded too. -/
theorem table {r c : Nat} {b : Int} (hb : 1 ≤ b) (t : Nat → Nat → Int) : ∃ z : Nat → Nat → Int, (∀ i j, i < r → j < c → Near b (t i j) (z i j)) ∧ (∀ i, i < r → Near b (sm c (t i)) (sm c (z i))) ∧
    (∀ j, j < c → Near b (sm r fun i => t i j) (sm r fun i => z i j)) ∧ Near b (sm r fun i => sm c (t i)) (sm r fun i => sm c (z i)) := by
  let a : Nat → Nat → Int := fun i j => if i < r then (if j < c then t i j else - sm c (t i)) else if j < c then - sm r (fun i => t i j) else sm r fun i => sm c (t i)
  have a1 : ∀ i j, i < r → j < c → a i j = t i j := fun i j hi hj => by show ite _ _ _ = _; rw [if_pos hi, if_pos hj]
  have a2 : ∀ i, i < r → a i c = - sm c (t i) := fun i hi => by show ite _ _ _ = _; rw [if_pos hi, if_neg (by omega)]
  have a3 : ∀ j, j < c → a r j = - sm r (fun i => t i j) := fun j hj => by show ite _ _ _ = _; rw [if_neg (by omega), if_pos hj]
  have a4 : a r c = sm r fun i => sm c (t i) := by show ite _ _ _ = _; rw [if_neg (by omega), if_neg (by omega)]
  obtain ⟨z, z1, z2, z3⟩ := round (R := r + 1) (C := c + 1) hb _ a (Nat.le_refl _) (fun i hi => by
    rw [sm]
    by_cases h : i < r
    · rw [a2 i h, sm_congr (g := t i) fun j hj => a1 i j h hj]; omega
    · obtain rfl : i = r := by omega
      rw [a4, sm_congr (g := fun j => - sm i fun k => t k j) fun j hj => a3 j hj, sm_neg, sm_comm i c t]; omega) fun j hj => by
    rw [sm]
    by_cases h : j < c
    · rw [a3 j h, sm_congr (g := fun i => t i j) fun i hi => a1 i j hi h]; omega
    · obtain rfl : j = c := by omega
      rw [a4, sm_congr (g := fun i => - sm j (t i)) fun i hi => a2 i hi, sm_neg]; omega
  have hn : ∀ i j, i < r + 1 → j < c + 1 → Near b (a i j) (z i j) := fun i j hi hj => near_of hb (z3 i j hi hj).1 (z3 i j hi hj).2.1 (z3 i j hi hj).2.2
  have s1 : ∀ i, i < r + 1 → sm c (z i) = - z i c := fun i hi => by have := z1 i hi; rw [sm] at this; omega
  have s2 : ∀ j, j < c + 1 → sm r (fun i => z i j) = - z r j := fun j hj => by have := z2 j hj; rw [sm] at this; omega
  refine ⟨z, fun i j hi hj => ?_, fun i hi => ?_, fun j hj => ?_, ?_⟩
  · have := hn i j (by omega) (by omega)
    rwa [a1 i j hi hj] at this
  · have := hn i c (by omega) (by omega)
    rw [a2 i hi] at this
    rw [s1 i (by omega)]
    exact near_neg this
  · have := hn r j (by omega) (by omega)
    rw [a3 j hj] at this
    rw [s2 j (by omega)]
    exact near_neg this
  · have := hn r c (by omega) (by omega)
    rw [a4] at this
    rw [sm_congr (g := fun i => - z i c) fun i hi => s1 i (by omega), sm_neg, s2 c (by omega), Int.neg_neg]
    exact this
end Go.Ctl
/- Contracts of functions of the given program, and lemmas about plain lists and numbers: what the laws of this seat lean on. -/
namespace Go.Proofs.YtjnhoemgceghlaaGreat
/-! Plain: tables that are rounded number by number -/
def nearB (n r b : Int) : Bool := decide (n - b < r) && decide (r < n + b) && decide (r % b = 0)
theorem nearB_iff {n r b : Int} : nearB n r b = true ↔ n - b < r ∧ r < n + b ∧ r % b = 0 := by
  unfold nearB
  rw [Bool.and_eq_true, Bool.and_eq_true, decide_eq_true_eq, decide_eq_true_eq, decide_eq_true_eq]
  exact ⟨fun h => ⟨h.1.1, h.1.2, h.2⟩, fun h => ⟨⟨h.1, h.2.1⟩, h.2.2⟩⟩
def chL (n b : Int) : List Int := if n % b = 0 then [n] else [n - n % b, n - n % b + b]
theorem chL_near {n b v : Int} (hb : 1 ≤ b) (hn : 0 ≤ n) (h : v ∈ chL n b) : nearB n v b = true ∧ 0 ≤ v ∧ v ≤ n + b := by
  have m1 := Int.emod_nonneg n (show b ≠ 0 by omega)
  have m2 := Int.emod_lt_of_pos n (show 0 < b by omega)
  have m3 := Int.mul_ediv_add_emod n b
  have e1 : (n - n % b) % b = 0 := by
    rw [show n - n % b = b * (n / b) by omega]; exact Int.mul_emod_right _ _
  have m4 : 0 ≤ n - n % b := by
    have := Int.mul_nonneg (show 0 ≤ b by omega) (Int.ediv_nonneg hn (show 0 ≤ b by omega))
    omega
  unfold chL at h
  split at h
  · rename_i h0
    rw [List.mem_singleton.1 h, nearB_iff]
    exact ⟨⟨by omega, by omega, h0⟩, by omega, by omega⟩
  · rename_i h0
    rcases List.mem_cons.1 h with rfl | h
    · rw [nearB_iff]
      exact ⟨⟨by omega, by omega, e1⟩, by omega, by omega⟩
    · rw [List.mem_singleton.1 h, nearB_iff]
      exact ⟨⟨by omega, by omega, by rw [Int.add_emod_right]; exact e1⟩, by omega, by omega⟩
theorem near_chL {n b v : Int} (hb : 1 ≤ b) (h : nearB n v b = true) : v ∈ chL n b := by
  rw [nearB_iff] at h
  obtain ⟨h1, h2, h3⟩ := h
  have m1 := Int.emod_nonneg n (show b ≠ 0 by omega)
  have m2 := Int.emod_lt_of_pos n (show 0 < b by omega)
  have m3 := Int.mul_ediv_add_emod n b
  have m4 := Int.mul_ediv_add_emod v b
  rw [h3] at m4
  have hk : v / b - n / b = 0 ∨ v / b - n / b = 1 ∨ (v / b - n / b = -1 ∧ False) ∨ False := by
    have e : b * (v / b - n / b) = v - n + n % b := by rw [Int.mul_sub]; omega
    have l1 : v / b - n / b < 2 := by
      refine Int.lt_of_not_ge fun hn => ?_
      have := Int.mul_le_mul_of_nonneg_left hn (show 0 ≤ b by omega)
      omega
    have l2 : -1 < v / b - n / b := by
      refine Int.lt_of_not_ge fun hn => ?_
      have := Int.mul_le_mul_of_nonneg_left hn (show 0 ≤ b by omega)
      omega
    omega
  unfold chL
  rcases hk with hk | hk | hk | hk
  · have : v = n - n % b := by rw [show v / b = n / b by omega] at m4; omega
    split
    · rw [List.mem_singleton]; omega
    · rw [this]; exact List.mem_cons_self
  · have : v = n - n % b + b := by
      rw [show v / b = n / b + 1 by omega, Int.mul_add, Int.mul_one] at m4; omega
    split
    · omega
    · rw [this]; exact List.mem_cons_of_mem _ List.mem_cons_self
  · exact hk.2.elim
  · exact hk.elim
theorem nearB_Near {b n z : Int} : Go.Ctl.Near b n z ↔ nearB n z b = true := by
  rw [nearB_iff]
  unfold Go.Ctl.Near
  rw [Int.dvd_iff_emod_eq_zero]
/-- The sums of the first numbers: of a row, of a column, of all. -/
def ac (c R : Nat) (z : Nat → Int) (i k : Nat) : Int := Go.Ctl.sm i fun j => if j / c = k ∨ R + j % c = k ∨ R + c = k then z j else 0
theorem ac_congr {c R i k : Nat} {z z' : Nat → Int} (h : ∀ j, j < i → z j = z' j) : ac c R z i k = ac c R z' i k := Go.Ctl.sm_congr fun j hj => by rw [h j hj]
theorem ac_succ (c R : Nat) (z : Nat → Int) (i k : Nat) : ac c R z (i + 1) k = ac c R z i k + if i / c = k ∨ R + i % c = k ∨ R + c = k then z i else 0 := rfl
theorem ac_bd {c R i k : Nat} {z : Nat → Int} {M : Int} (hM : 0 ≤ M) (h : ∀ j, j < i → 0 ≤ z j ∧ z j ≤ M) : 0 ≤ ac c R z i k ∧ ac c R z i k ≤ i * M := by
  induction i with
  | zero => exact ⟨Int.le_refl _, by show (0 : Int) ≤ _; simp⟩
  | succ i ih =>
    have := ih fun j hj => h j (by omega)
    have h1 := h i (by omega)
    rw [ac_succ]
    have e : ((i + 1 : Nat) : Int) * M = i * M + M := by rw [Int.natCast_add, Int.add_mul]; simp
    rw [e]
    split <;> omega
/-- Rows before the one that is being filled are complete. -/
theorem ac_row {c R i n k : Nat} {z : Nat → Int} (hc : 1 ≤ c) (hk : k < R) (hn : n ≤ R * c) (hi : i ≤ n) (h : (k + 1) * c ≤ i) : ac c R z n k = ac c R z i k := by
  induction n with
  | zero => rw [show i = 0 by omega]
  | succ n ih =>
    by_cases hin : i = n + 1
    · rw [hin]
    · rw [ac_succ, ih (by omega) (by omega), if_neg, Int.add_zero]
      rintro (h1 | h1 | h1)
      · have := Nat.div_mul_le_self n c
        have h2 := Nat.div_add_mod n c
        have h3 := Nat.mod_lt n (show 0 < c by omega)
        rw [h1] at h2
        rw [Nat.add_mul, Nat.one_mul, Nat.mul_comm] at h
        omega
      · omega
      · omega
theorem ac_new {c R i : Nat} {z : Nat → Int} (hc : 1 ≤ c) (hR : i < R * c) (h : i % c = 0) : ac c R z i (i / c) = 0 := by
  have hd : i / c < R := Nat.div_lt_of_lt_mul (by rw [Nat.mul_comm]; exact hR)
  unfold ac
  rw [Go.Ctl.sm_congr (g := fun _ => 0) fun j hj => if_neg ?_, Go.Ctl.sm_zero]
  rintro (h1 | h1 | h1)
  · have h2 := Nat.div_add_mod i c
    have h3 := Nat.div_add_mod j c
    rw [h1] at h3
    omega
  · omega
  · omega
theorem div_pred {c i : Nat} (hc : 1 ≤ c) (h : i % c ≠ 0) : (i - 1) / c = i / c := by
  have h2 := Nat.div_add_mod i c
  have h3 := Nat.mod_lt i (show 0 < c by omega)
  rw [show i - 1 = (i % c - 1) + c * (i / c) by omega, Nat.add_mul_div_left _ _ (show 0 < c by omega), Nat.div_eq_of_lt (by omega)]
  omega
theorem div_pred0 {c i : Nat} (hc : 1 ≤ c) (hi : 0 < i) (h : i % c = 0) : (i - 1) / c = i / c - 1 := by
  have h2 := Nat.div_add_mod i c
  have h4 : 1 ≤ i / c := by
    rcases Nat.eq_zero_or_pos (i / c) with h5 | h5
    · rw [h5, h, Nat.mul_zero] at h2; omega
    · exact h5
  obtain ⟨q, hq⟩ : ∃ q, i / c = q + 1 := ⟨i / c - 1, by omega⟩
  rw [hq] at h2 ⊢
  rw [Nat.mul_add, Nat.mul_one] at h2
  rw [show i - 1 = (c - 1) + c * q by omega, Nat.add_mul_div_left _ _ hc, Nat.div_eq_of_lt (by omega)]
  omega
def at0 (l : List Int) (k : Nat) : Int := l.getD k default
/-- A rounded table. -/
structure GoodT (c R : Nat) (b : Int) (t z : List Int) : Prop where
  len : z.length = R * c
  near : ∀ i, i < R * c → nearB (at0 t i) (at0 z i) b = true
  sums : ∀ k, k < R + c + 1 → nearB (ac c R (at0 t) (R * c) k) (ac c R (at0 z) (R * c) k) b = true
theorem sm_flat (R c : Nat) (f : Nat → Int) : Go.Ctl.sm (R * c) f = Go.Ctl.sm R fun i => Go.Ctl.sm c fun j => f (i * c + j) := by
  have key : ∀ (n m : Nat) (f : Nat → Int), Go.Ctl.sm (n + m) f = Go.Ctl.sm n f + Go.Ctl.sm m fun j => f (n + j) := fun n m f => by
    induction m with
    | zero => show _ = _ + (0 : Int); rw [Int.add_zero]; rfl
    | succ m ih => rw [← Nat.add_assoc, Go.Ctl.sm, ih, Go.Ctl.sm, Int.add_assoc]
  induction R with
  | zero => rw [Nat.zero_mul]; rfl
  | succ R ih => rw [Nat.add_mul, Nat.one_mul, key, ih, Go.Ctl.sm]
theorem ac_flat (c R : Nat) (f : Nat → Int) (k : Nat) : ac c R f (R * c) k = Go.Ctl.sm R fun i => Go.Ctl.sm c fun j => if i = k ∨ R + j = k ∨ R + c = k then f (i * c + j) else 0 := by
  unfold ac
  rw [sm_flat]
  refine Go.Ctl.sm_congr fun i _ => Go.Ctl.sm_congr fun j hj => ?_
  rw [show (i * c + j) / c = i by rw [Nat.mul_comm, Nat.mul_add_div (by omega), Nat.div_eq_of_lt hj, Nat.add_zero], show (i * c + j) % c = j by rw [Nat.mul_comm, Nat.mul_add_mod, Nat.mod_eq_of_lt hj]]
theorem ac_rows {c R : Nat} (f : Nat → Int) {k : Nat} (hk : k < R) : ac c R f (R * c) k = Go.Ctl.sm c fun j => f (k * c + j) := by
  rw [ac_flat, Go.Ctl.sm_congr (g := fun i => if i = k then (Go.Ctl.sm c fun j => f (k * c + j)) else 0) fun i _ => ?_, Go.Ctl.sm_one _ hk]
  split
  · rename_i h; subst h
    exact Go.Ctl.sm_congr fun j _ => if_pos (.inl rfl)
  · exact (Go.Ctl.sm_congr (g := fun _ => 0) fun j _ => if_neg (by omega)).trans (Go.Ctl.sm_zero c)
theorem ac_cols {c R : Nat} (f : Nat → Int) {k : Nat} (hk : k < c) : ac c R f (R * c) (R + k) = Go.Ctl.sm R fun i => f (i * c + k) := by
  rw [ac_flat]
  refine Go.Ctl.sm_congr fun i hi => ?_
  rw [Go.Ctl.sm_congr (g := fun j => if j = k then f (i * c + k) else 0) fun j hj => ?_, Go.Ctl.sm_one _ hk]
  by_cases h : j = k
  · subst h; rw [if_pos (.inr (.inl rfl)), if_pos rfl]
  · rw [if_neg (by omega), if_neg h]
theorem ac_all (c R : Nat) (f : Nat → Int) : ac c R f (R * c) (R + c) = Go.Ctl.sm R fun i => Go.Ctl.sm c fun j => f (i * c + j) := by
  rw [ac_flat]
  exact Go.Ctl.sm_congr fun i _ => Go.Ctl.sm_congr fun j _ => if_pos (.inr (.inr rfl))
/-- Each table has a rounded one. -/
theorem good_ex {c R : Nat} {b : Int} (hb : 1 ≤ b) (hc : 1 ≤ c) (t : List Int) : ∃ z, GoodT c R b t z := by
  obtain ⟨z, z1, z2, z3, z4⟩ := Go.Ctl.table (r := R) (c := c) hb fun i j => at0 t (i * c + j)
  refine ⟨(List.range (R * c)).map fun i => z (i / c) (i % c), ?_⟩
  have hat : ∀ i, i < R * c → at0 ((List.range (R * c)).map fun i => z (i / c) (i % c)) i = z (i / c) (i % c) := fun i hi => by
    unfold at0
    rw [List.getD_eq_getElem?_getD, List.getElem?_map, List.getElem?_range hi]; rfl
  have hlen : ((List.range (R * c)).map fun i => z (i / c) (i % c)).length = R * c := by rw [List.length_map, List.length_range]
  generalize (List.range (R * c)).map (fun i => z (i / c) (i % c)) = l at hat hlen
  have hij : ∀ i j, i < R → j < c → at0 l (i * c + j) = z i j := fun i j hi hj => by
    have h1 : (i * c + j) / c = i := by rw [Nat.mul_comm, Nat.mul_add_div (by omega), Nat.div_eq_of_lt hj, Nat.add_zero]
    have h2 : (i * c + j) % c = j := by rw [Nat.mul_comm, Nat.mul_add_mod, Nat.mod_eq_of_lt hj]
    have h3 : (i + 1) * c ≤ R * c := Nat.mul_le_mul_right c hi
    rw [Nat.add_mul, Nat.one_mul] at h3
    rw [hat _ (by omega), h1, h2]
  refine ⟨hlen, fun i hi => ?_, fun k hk => ?_⟩
  · have hd : i / c < R := Nat.div_lt_of_lt_mul (by rw [Nat.mul_comm]; exact hi)
    have hm := Nat.mod_lt i (show 0 < c by omega)
    have := nearB_Near.1 (z1 _ _ hd hm)
    rw [hat i hi]
    rwa [show i / c * c + i % c = i by have := Nat.div_add_mod i c; rw [Nat.mul_comm]; omega] at this
  · rcases Nat.lt_or_ge k R with h | h
    · rw [ac_rows _ h, ac_rows _ h, Go.Ctl.sm_congr (f := fun j => at0 l (k * c + j)) (g := z k) fun j hj => hij k j h hj]
      exact nearB_Near.1 (z2 k h)
    · rcases Nat.lt_or_ge k (R + c) with h2 | h2
      · obtain ⟨j, rfl⟩ : ∃ j, k = R + j := ⟨k - R, by omega⟩
        have hj : j < c := by omega
        rw [ac_cols _ hj, ac_cols _ hj, Go.Ctl.sm_congr (f := fun i => at0 l (i * c + j)) (g := fun i => z i j) fun i hi => hij i j hi hj]
        exact nearB_Near.1 (z3 j hj)
      · obtain rfl : k = R + c := by omega
        rw [ac_all, ac_all, Go.Ctl.sm_congr (f := fun i => Go.Ctl.sm c fun j => at0 l (i * c + j)) (g := fun i => Go.Ctl.sm c (z i)) fun i hi => Go.Ctl.sm_congr fun j hj => hij i j hi hj]
        exact nearB_Near.1 z4
theorem GoodT.same {c R : Nat} {b : Int} {t z : List Int} (hb : 1 ≤ b) (hg : GoodT c R b t z) : GoodT c R b z z := by
  have nn : ∀ x : Int, x % b = 0 → nearB x x b = true := fun x h => nearB_iff.2 ⟨by omega, by omega, h⟩
  exact ⟨hg.len, fun i hi => nn _ (nearB_iff.1 (hg.near i hi)).2.2, fun k hk => nn _ (nearB_iff.1 (hg.sums k hk)).2.2⟩
/-- What stands where the search has filled the first numbers. -/
structure PreT (c R : Nat) (b : Int) (t o : List Int) (i : Nat) : Prop where
  len : o.length = R * c
  near : ∀ j, j < i → nearB (at0 t j) (at0 o j) b = true
  rows : ∀ k, (k + 1) * c < i → nearB (ac c R (at0 t) (R * c) k) (ac c R (at0 o) i k) b = true
theorem at0_set {o : List Int} {i k : Nat} {v : Int} (hi : i < o.length) : at0 (o.set i v) k = if k = i then v else at0 o k := by
  unfold at0
  rw [List.getD_eq_getElem?_getD, List.getElem?_set]
  by_cases h : i = k
  · rw [if_pos h, if_pos h.symm, if_pos (by omega)]; rfl
  · rw [if_neg h, if_neg (Ne.symm h), ← List.getD_eq_getElem?_getD]
theorem take_at0 {o z : List Int} {i : Nat} (h : z.take i = o.take i) {j : Nat} (hj : j < i) : at0 z j = at0 o j := by
  have : (z.take i)[j]? = (o.take i)[j]? := by rw [h]
  rw [List.getElem?_take, List.getElem?_take, if_pos hj, if_pos hj] at this
  unfold at0
  rw [List.getD_eq_getElem?_getD, List.getD_eq_getElem?_getD, this]
theorem at0_take {o z : List Int} {i : Nat} (ho : i ≤ o.length) (hz : i ≤ z.length) (h : ∀ j, j < i → at0 z j = at0 o j) : z.take i = o.take i := by
  refine List.ext_getElem (by rw [List.length_take, List.length_take]; omega) fun j h1 h2 => ?_
  rw [List.length_take] at h1 h2
  have := h j (by omega)
  unfold at0 at this
  rw [List.getD_eq_getElem?_getD, List.getD_eq_getElem?_getD, List.getElem?_eq_getElem (by omega), List.getElem?_eq_getElem (by omega)] at this
  rw [List.getElem_take, List.getElem_take]
  exact this
theorem PreT.zero {c R : Nat} {b : Int} {t o : List Int} (h : o.length = R * c) : PreT c R b t o 0 := ⟨h, fun _ hj => absurd hj (Nat.not_lt_zero _), fun _ hk => absurd hk (Nat.not_lt_zero _)⟩
/-- One number more. -/
theorem PreT.next {c R : Nat} {b v : Int} {t o : List Int} {i : Nat} (hc : 1 ≤ c) (h : PreT c R b t o i) (hi : i < R * c) (hv : nearB (at0 t i) v b = true)
    (hr : 0 < i → i % c = 0 → nearB (ac c R (at0 t) (R * c) (i / c - 1)) (ac c R (at0 o) i (i / c - 1)) b = true) : PreT c R b t (o.set i v) (i + 1) := by
  have hl := h.len
  refine ⟨by rw [List.length_set]; exact hl, fun j hj => ?_, fun k hk => ?_⟩
  · rw [at0_set (by omega)]
    split
    · rename_i h; subst h; exact hv
    · exact h.near j (by omega)
  · have hki : (k + 1) * c ≤ i := by omega
    have hkR : k < R := by
      refine Nat.lt_of_not_le fun hn => ?_
      have := Nat.mul_le_mul_right c (show R ≤ k + 1 by omega)
      omega
    rw [ac_row (z := at0 (o.set i v)) (i := i) (n := i + 1) hc hkR (by omega) (by omega) hki, ac_congr (z := at0 (o.set i v)) (z' := at0 o) fun j hj => by rw [at0_set (by omega), if_neg (by omega)]]
    by_cases he : (k + 1) * c = i
    · have h1 : i % c = 0 := by rw [← he]; exact Nat.mul_mod_left _ _
      have h2 : i / c = k + 1 := by rw [← he]; exact Nat.mul_div_cancel _ (by omega)
      have h3 := hr (by rw [← he]; exact Nat.mul_pos (by omega) (by omega)) h1
      rw [h2] at h3
      exact h3
    · exact h.rows k (by omega)
/-- A table that begins so and is rounded has its rows rounded. -/
theorem GoodT.row {c R : Nat} {b : Int} {t o z : List Int} {i : Nat} (hc : 1 ≤ c) (hg : GoodT c R b t z) (hz : z.take i = o.take i) (hi : i ≤ R * c) (h0 : 0 < i) (h : i % c = 0) : nearB (ac c R (at0 t) (R * c) (i / c - 1)) (ac c R (at0 o) i (i / c - 1)) b = true := by
  have h2 := Nat.div_add_mod i c
  rw [h, Nat.add_zero] at h2
  have h3 : 1 ≤ i / c := by
    rcases Nat.eq_zero_or_pos (i / c) with h5 | h5
    · rw [h5, Nat.mul_zero] at h2; omega
    · exact h5
  have h4 : (i / c - 1 + 1) * c = i := by rw [Nat.sub_add_cancel h3, Nat.mul_comm]; exact h2
  have h6 : i / c - 1 < R := by
    refine Nat.lt_of_not_le fun hn => ?_
    have := Nat.mul_le_mul_right c (show R + 1 ≤ i / c - 1 + 1 by omega)
    rw [Nat.add_mul] at this
    omega
  have := hg.sums (i / c - 1) (by omega)
  rwa [ac_row (z := at0 z) (i := i) hc h6 (Nat.le_refl _) hi (by omega), ac_congr (z := at0 z) (z' := at0 o) fun j hj => take_at0 hz hj] at this
/-- All numbers are there. -/
theorem PreT.good {c R : Nat} {b : Int} {t o : List Int} (hc : 1 ≤ c) (h : PreT c R b t o (R * c)) (hr : nearB (ac c R (at0 t) (R * c) (R * c / c - 1)) (ac c R (at0 o) (R * c) (R * c / c - 1)) b = true)
    (hs : ∀ k, k < c → nearB (ac c R (at0 t) (R * c) (R + k)) (ac c R (at0 o) (R * c) (R + k)) b = true) (ha : nearB (ac c R (at0 t) (R * c) (R + c)) (ac c R (at0 o) (R * c) (R + c)) b = true) : GoodT c R b t o := by
  refine ⟨h.len, h.near, fun k hk => ?_⟩
  rw [Nat.mul_div_cancel _ (show 0 < c by omega)] at hr
  rcases Nat.lt_or_ge k R with h1 | h1
  · by_cases h2 : k + 1 = R
    · rw [show k = R - 1 by omega]; exact hr
    · have h3 : (k + 1) * c < R * c := Nat.mul_lt_mul_of_pos_right (by omega) (by omega)
      exact h.rows k h3
  · rcases Nat.lt_or_ge k (R + c) with h2 | h2
    · have := hs (k - R) (by omega)
      rwa [show R + (k - R) = k by omega] at this
    · obtain rfl : k = R + c := by omega
      exact ha
end Go.Proofs.YtjnhoemgceghlaaGreat
/-
  The proof engine, part A: heaps in part, separated resources, one judgement 'Nx' for every point of a walk, and the rules for control.
-/
namespace Go.Eng
/-! ## Partial heaps -/
abbrev PH := Nat → Option Obj
def PH.or (a b : PH) : PH := fun i => match a i with | some o => some o | none => b i
def PH.single (g : Nat) (o : Obj) : PH := fun i => if i = g then some o else none
def PH.le (a b : PH) : Prop := ∀ i o, a i = some o → b i = some o
def PH.dis (a b : PH) : Prop := ∀ i, a i = none ∨ b i = none
theorem PH.le_refl (a : PH) : PH.le a a := fun _ _ h => h
theorem PH.le.trans {a b c : PH} (h : PH.le a b) (k : PH.le b c) : PH.le a c := fun i o e => k i o (h i o e)
theorem PH.le_or_left (a b : PH) : PH.le a (a.or b) := fun i o h => by simp [PH.or, h]
theorem PH.le_or_right {a b : PH} (hd : PH.dis a b) : PH.le b (a.or b) := fun i o h => by
  rcases hd i with h' | h'
  · simp [PH.or, h', h]
  · rw [h'] at h; cases h
theorem PH.or_eq_some {a b : PH} {i : Nat} {o : Obj} (h : (a.or b) i = some o) : a i = some o ∨ (a i = none ∧ b i = some o) := by
  unfold PH.or at h
  split at h
  · rename_i o' ho; exact .inl (ho.trans h)
  · rename_i ho; exact .inr ⟨ho, h⟩
theorem PH.or_eq_none {a b : PH} {i : Nat} : (a.or b) i = none ↔ a i = none ∧ b i = none := by
  unfold PH.or
  split
  · rename_i o ho; simp [ho]
  · rename_i ho; simp [ho]
theorem PH.or_le {a b c : PH} (h : PH.le a c) (k : PH.le b c) : PH.le (a.or b) c := fun i o e => by
  rcases PH.or_eq_some e with e | ⟨_, e⟩
  · exact h i o e
  · exact k i o e
theorem PH.dis.symm {a b : PH} (h : PH.dis a b) : PH.dis b a := fun i => (h i).symm
theorem PH.dis_or {a b c : PH} : PH.dis a (b.or c) ↔ PH.dis a b ∧ PH.dis a c := by
  constructor
  · intro h
    refine ⟨fun i => ?_, fun i => ?_⟩
    · rcases h i with h | h
      · exact .inl h
      · exact .inr (PH.or_eq_none.1 h).1
    · rcases h i with h | h
      · exact .inl h
      · exact .inr (PH.or_eq_none.1 h).2
  · rintro ⟨h, k⟩ i
    rcases h i with h | h
    · exact .inl h
    · rcases k i with k | k
      · exact .inl k
      · exact .inr (PH.or_eq_none.2 ⟨h, k⟩)
theorem PH.or_comm {a b : PH} (h : PH.dis a b) : a.or b = b.or a := by
  funext i
  unfold PH.or
  rcases h i with h | h <;> rw [h] <;> cases a i <;> cases b i <;> simp_all
theorem PH.or_assoc (a b c : PH) : (a.or b).or c = a.or (b.or c) := by
  funext i
  unfold PH.or
  cases a i <;> rfl
/-! ## A world holds two heaps apart: what nobody writes any more, and what is owned -/
structure Sat (w : World) (I m : PH) : Prop where
  imm : ∀ i o, I i = some o → w.heap[i]? = some o
  own : ∀ i o, m i = some o → w.heap[i]? = some o
  dis : PH.dis I m
theorem Sat.sub {w : World} {I m m' : PH} (h : Sat w I m) (hm : PH.le m' m) : Sat w I m' :=
  ⟨h.imm, fun i o e => h.own i o (hm i o e), fun i => by
    rcases h.dis i with e | e
    · exact .inl e
    · right
      cases hi : m' i with
      | none => rfl
      | some o => rw [hm i o hi] at e; cases e⟩
abbrev Res := PH → Prop
def Stars : List Res → PH → Prop
  | [], _ => True
  | r :: rs, m => ∃ m1 m2, PH.dis m1 m2 ∧ m = m1.or m2 ∧ r m1 ∧ Stars rs m2
theorem Stars.append {a b : List Res} : ∀ {m : PH}, Stars (a ++ b) m → ∃ m1 m2, PH.dis m1 m2 ∧ m = m1.or m2 ∧ Stars a m1 ∧ Stars b m2 := by
  induction a with
  | nil => exact fun {m} h => ⟨fun _ => none, m, fun _ => .inl rfl, by funext i; rfl, trivial, h⟩
  | cons r rs ih =>
    rintro m ⟨m1, m2, hd, rfl, hr, hs⟩
    obtain ⟨n1, n2, hd', rfl, h1, h2⟩ := ih hs
    obtain ⟨d1, d2⟩ := PH.dis_or.1 hd
    exact ⟨m1.or n1, n2, PH.dis.symm (PH.dis_or.2 ⟨d2.symm, hd'.symm⟩), (PH.or_assoc _ _ _).symm, ⟨m1, n1, d1, rfl, hr, h1⟩, h2⟩
theorem Stars.join {a b : List Res} : ∀ {m1 m2 : PH}, PH.dis m1 m2 → Stars a m1 → Stars b m2 → ∃ m, PH.le m (m1.or m2) ∧ Stars (a ++ b) m := by
  induction a with
  | nil => exact fun {m1 m2} hd _ h => ⟨m2, PH.le_or_right hd, h⟩
  | cons r rs ih =>
    rintro m1 m2 hd ⟨n1, n2, hd', rfl, hr, hs⟩ hb
    obtain ⟨d1, d2⟩ := PH.dis_or.1 hd.symm
    obtain ⟨k, hk, hkS⟩ := ih d2.symm hs hb
    refine ⟨n1.or k, ?_, n1, k, ?_, rfl, hr, hkS⟩
    · rw [PH.or_assoc]
      exact PH.or_le (PH.le_or_left _ _) (hk.trans (PH.le_or_right (PH.dis_or.2 ⟨hd', d1.symm⟩)))
    · intro i
      rcases hd' i with e | e
      · exact .inl e
      · rcases d1 i with e' | e'
        · right
          cases hki : k i with
          | none => rfl
          | some o => have := hk i o hki; simp [PH.or, e, e'] at this
        · exact .inl e'
/-- From these resources come those (some of them may be dropped). -/
def Ent (R R' : List Res) : Prop := ∀ m, Stars R m → ∃ m', PH.le m' m ∧ Stars R' m'
theorem Ent.refl (R : List Res) : Ent R R := fun m h => ⟨m, PH.le_refl m, h⟩
theorem Ent.trans {R R' R'' : List Res} (h : Ent R R') (k : Ent R' R'') : Ent R R'' := fun m hm => by
  obtain ⟨m', hle, h'⟩ := h m hm
  obtain ⟨m'', hle', h''⟩ := k m' h'
  exact ⟨m'', hle'.trans hle, h''⟩
theorem dis_sub {a b a' b' : PH} (h : PH.dis a b) (ha : PH.le a' a) (hb : PH.le b' b) : PH.dis a' b' := fun i => by
  cases ha' : a' i with
  | none => exact .inl rfl
  | some o =>
    right
    cases hb' : b' i with
    | none => rfl
    | some o' =>
      rcases h i with e | e
      · rw [ha i o ha'] at e; cases e
      · rw [hb i o' hb'] at e; cases e
theorem Ent.cons {r : Res} {R R' : List Res} (h : Ent R R') : Ent (r :: R) (r :: R') := by
  rintro m ⟨m1, m2, hd, rfl, hr, hs⟩
  obtain ⟨m2', hle, h'⟩ := h m2 hs
  exact ⟨m1.or m2', PH.or_le (PH.le_or_left _ _) (hle.trans (PH.le_or_right hd)), m1, m2', dis_sub hd (PH.le_refl _) hle, rfl, hr, h'⟩
theorem Ent.head {r r' : Res} {R : List Res} (h : ∀ m, r m → r' m) : Ent (r :: R) (r' :: R) := by
  rintro m ⟨m1, m2, hd, rfl, hr, hs⟩
  exact ⟨_, PH.le_refl _, m1, m2, hd, rfl, h _ hr, hs⟩
theorem Ent.drop {r : Res} {R R' : List Res} (h : Ent R R') : Ent (r :: R) R' := by
  rintro m ⟨m1, m2, hd, rfl, hr, hs⟩
  obtain ⟨m2', hle, h'⟩ := h m2 hs
  exact ⟨m2', hle.trans (PH.le_or_right hd), h'⟩
theorem Ent.nil (R : List Res) : Ent R [] := fun m _ => ⟨m, PH.le_refl m, trivial⟩
theorem Ent.swap (r s : Res) (R : List Res) : Ent (r :: s :: R) (s :: r :: R) := by
  rintro m ⟨m1, m2, hd, rfl, hr, n1, n2, hd', rfl, hs, h⟩
  obtain ⟨d1, d2⟩ := PH.dis_or.1 hd
  refine ⟨_, PH.le_refl _, n1, m1.or n2, PH.dis_or.2 ⟨d1.symm, hd'⟩, ?_, hs, m1, n2, d2, rfl, hr, h⟩
  rw [← PH.or_assoc, PH.or_comm d1, PH.or_assoc]
/-- Resource number k comes first. -/
theorem Ent.pull : ∀ (k : Nat) (R : List Res) (r : Res), R[k]? = some r → Ent R (r :: R.eraseIdx k)
  | 0, r' :: R, r, h => by simp at h; subst h; exact Ent.refl _
  | k + 1, r' :: R, r, h => by
    have := Ent.pull k R r (by simpa using h)
    exact (Ent.cons this).trans (Ent.swap _ _ _)
set_option maxHeartbeats 8000000 in
theorem Ent.pick (k : Nat) {r : Res} {R R' : List Res} (hk : R[k]? = some r) (h : Ent (R.eraseIdx k) R') : Ent R (r :: R') := (Ent.pull k R r hk).trans (Ent.cons h)
theorem Ent.auto {R R' : List Res} (h : Ent R R' := by first | done | (repeat first | exact Ent.refl _ | exact Ent.nil _ | refine Ent.pick 0 rfl ?_ | refine Ent.pick 1 rfl ?_ | refine Ent.pick 2 rfl ?_ | refine Ent.pick 3 rfl ?_ | refine Ent.pick 4 rfl ?_ | refine Ent.pick 5 rfl ?_ | refine Ent.pick 6 rfl ?_ | refine Ent.pick 7 rfl ?_ | refine Ent.pick 8 rfl ?_ | refine Ent.pick 9 rfl ?_ | refine Ent.pick 10 rfl ?_ | refine Ent.pick 11 rfl ?_ | refine Ent.pick 12 rfl ?_ | refine Ent.pick 13 rfl ?_ | refine Ent.pick 14 rfl ?_)) : Ent R R' := h
set_option maxHeartbeats 8000000 in
theorem Ent.pickE (k : Nat) {r r' : Res} {R R' : List Res} (hk : R[k]? = some r') (e : r' = r) (h : Ent (R.eraseIdx k) R') : Ent R (r :: R') := by subst e; exact Ent.pick k hk h
theorem Ent.fold (R : List Res) : Ent R [Stars R] := fun m h => ⟨m, PH.le_refl m, m, fun _ => none, fun _ => .inr rfl, by funext i; unfold PH.or; cases m i <;> rfl, h, trivial⟩
theorem Ent.foldAt (A R : List Res) : Ent (A ++ R) (A ++ [Stars R]) := by
  induction A with
  | nil => exact Ent.fold R
  | cons r A ih => exact Ent.cons ih
theorem Ent.unfoldAt (A R : List Res) : Ent (A ++ [Stars R]) (A ++ R) := by
  induction A with
  | nil =>
    rintro m ⟨m1, m2, hd, rfl, h, _⟩
    exact ⟨m1, PH.le_or_left _ _, h⟩
  | cons r A ih => exact Ent.cons ih
/-! ## No run takes a draw back -/
theorem ask_drawn {α : Type} : ∀ (q : Ask α) (w : World), w.drawn ≤ (w.ask q).2.drawn
  | .done a, w => Nat.le_refl _
  | .ask what range k, w => by
    unfold World.ask
    dsimp only
    split
    · exact ask_drawn (k 0) w
    · exact Nat.le_trans (Nat.le_succ _) (ask_drawn _ { w with drawn := w.drawn + 1 })
theorem sys_drawn (c : Sys) (w : World) : w.drawn ≤ (w.sys c).2.drawn := by
  unfold World.sys
  have h := ask_drawn (Kernel.perform c w.os) w
  split
  · exact Nat.le_refl _
  · rename_i r os w1 heq
    rw [heq] at h
    exact h
theorem view_drawn {P : Program} {w w' : World} {a : Addr} {u : TypeId} {k : Addr} {v : Value} {at_ : Bool} {l : List Addr} (h : w.viewStore P a u k v at_ = .ok (w', l)) : w'.drawn = w.drawn := by
  unfold World.viewStore at h
  simp only [bind, Except.bind, pure, Except.pure, MonadExcept.throw, _root_.throwThe, MonadExceptOf.throw] at h
  (repeat' split at h) <;> first | (cases h; done) | (cases h; rfl)
theorem far_drawn {P : Program} {w w' : World} {a : Addr} {v : Value} {at_ : Bool} {l : List Addr} (h : w.farStore P a v at_ = .ok (w', l)) : w.drawn ≤ w'.drawn := by
  unfold World.farStore at h
  split at h
  · split at h
    · rename_i heq
      cases h
      exact Nat.le_of_eq (view_drawn heq).symm
    · cases h
  · cases h
theorem run_drawn {P : Program} {α : Type} (s : Sem α) : ∀ (w : World) {v : α} {w' : World}, s.run P w = .ok v w' → w.drawn ≤ w'.drawn := by
  induction s with
  | pure a => intro w v w' h; cases h; exact Nat.le_refl _
  | load m a k ih =>
    intro w v w' h
    simp only [Sem.run] at h
    (repeat' split at h) <;> first | exact ih _ _ h | cases h
  | store m a v0 k ih =>
    intro w v w' h
    cases v0 <;> simp only [Sem.run] at h <;> first
      | cases h
      | (split at h
         · split at h
           · cases h
           · exact ih (w.setCell a _) h
         · split at h
           · rename_i hf
             exact Nat.le_trans (far_drawn hf) (ih _ h)
           · cases h)
  | new o k ih => intro w v w' h; exact ih w.heap.size { w with heap := w.heap.push o } h
  | shape r k ih => intro w v w' h; exact ih _ _ h
  | freeze a n k ih =>
    intro w v w' h
    have h2 := ih (w.freeze a n) h
    have h3 : (w.freeze a n).drawn = w.drawn := by unfold World.freeze; split <;> rfl
    omega
  | frozen a k ih => intro w v w' h; exact ih _ _ h
  | getObj r k ih =>
    intro w v w' h
    simp only [Sem.run] at h
    (repeat' split at h) <;> first | exact ih _ _ h | cases h
  | setObj r o k ih =>
    intro w v w' h
    simp only [Sem.run] at h
    split at h
    · cases h
    · exact ih { w with heap := w.heap.setIfInBounds r o } h
    · cases h
  | choose q k ih =>
    intro w v w' h
    simp only [Sem.run] at h
    split at h
    · exact ih _ _ h
    · exact Nat.le_trans (Nat.le_succ _) (ih _ _ h)
  | sys c k ih => intro w v w' h; exact Nat.le_trans (sys_drawn c w) (ih _ _ h)
  | program k ih => intro w v w' h; exact ih _ _ h
  | mark m k ih => intro w v w' h; exact ih _ h
  | halt h0 => intro w v w' h; cases h
/-! ## The outside stays as it is -/
structure Still (w0 w : World) : Prop where
  os : w.os = w0.os
  tape : w.tape = w0.tape
  output : w.output = w0.output
  size : w0.heap.size ≤ w.heap.size
  drawn : w0.drawn ≤ w.drawn
theorem Still.refl (w : World) : Still w w := ⟨rfl, rfl, rfl, Nat.le_refl _, Nat.le_refl _⟩
theorem Still.trans {a b c : World} (h : Still a b) (k : Still b c) : Still a c := ⟨k.os.trans h.os, k.tape.trans h.tape, k.output.trans h.output, Nat.le_trans h.size k.size, Nat.le_trans h.drawn k.drawn⟩
structure Cx where
  P : Program
  n : Nat
  W : World
/-- The state of memory: 'I': nobody writes it; 'R': owned. -/
structure St (W : World) (I : PH) (R : List Res) (w : World) : Prop where
  mem : ∃ m, Stars R m ∧ Sat w I m
  still : Still W w
theorem St.ent {W : World} {I : PH} {R R' : List Res} {w : World} (h : St W I R w) (k : Ent R R') : St W I R' w := by
  obtain ⟨⟨m, hm, hs⟩, hst⟩ := h
  obtain ⟨m', hle, hm'⟩ := k m hm
  exact ⟨⟨m', hm', hs.sub hle⟩, hst⟩
/-! ## What is known of the temporaries -/
abbrev Env := List (Nat × Value)
def lk : Env → Nat → Option Value
  | [], _ => none
  | (k, v) :: r, t => match Nat.beq k t with | true => some v | false => lk r t
structure Mod (n : Nat) (e : Env) (a : Act) : Prop where
  size : a.tmps.size = n
  defers : a.defers = []
  get : ∀ t v, lk e t = some v → a.tmps[t]? = some v
/-- The value of an operand, where it is known. -/
def evo (e : Env) : Operand → Option Value
  | .tmp t => lk e t
  | .const v => some v
  | .global g => some (.pointer (some ⟨g, 0, none⟩))
  | .func f => some (.func (.func f) #[] #[])
def evs (e : Env) : List Operand → Option (List Value)
  | [] => some []
  | x :: xs => match evo e x with
    | none => none
    | some v => match evs e xs with
      | none => none
      | some vs => some (v :: vs)
theorem Mod.eval {n : Nat} {e : Env} {a : Act} (h : Mod n e a) {x : Operand} {v : Value} (hx : evo e x = some v) : a.eval x = v := by
  cases x with
  | tmp t => have := h.get t v hx; simp [Act.eval, this]
  | const v => simp [evo] at hx; simp [Act.eval, hx]
  | global g => simp [evo] at hx; simp [Act.eval, hx]
  | func f => simp [evo] at hx; simp [Act.eval, hx]
theorem Mod.evals {n : Nat} {e : Env} {a : Act} (h : Mod n e a) : ∀ {xs : List Operand} {vs : List Value}, evs e xs = some vs → xs.map a.eval = vs
  | [], vs, hx => by simp [evs] at hx; simp [hx]
  | x :: xs, vs, hx => by
    unfold evs at hx
    split at hx
    · cases hx
    · rename_i v hv
      split at hx
      · cases hx
      · rename_i vs' hvs
        simp at hx
        subst hx
        simp [h.eval hv, h.evals hvs]
theorem Mod.put {n : Nat} {e : Env} {a : Act} (h : Mod n e a) {d : Nat} (hd : Nat.blt d n = true) (v : Value) : Mod n ((d, v) :: e) (a.put (some d) v) := by
  have hd' : d < n := by simpa [Nat.blt_eq] using hd
  refine ⟨by simp [Act.put, h.size], h.defers, fun t u hu => ?_⟩
  unfold lk at hu
  split at hu
  · rename_i he
    have he : d = t := Nat.eq_of_beq_eq_true he
    simp at hu
    subst he; subst hu
    simp [Act.put, h.size, hd']
  · rename_i he
    have he : d ≠ t := Nat.ne_of_beq_eq_false he
    simp only [Act.put]
    rw [Array.getElem?_setIfInBounds_ne he]
    exact h.get t u hu
/-- The part of 'e' that is wanted further on. -/
def EnvSub : Env → Env → Prop
  | [], _ => True
  | (t, v) :: r, e => lk e t = some v ∧ EnvSub r e
theorem EnvSub.lk {e' e : Env} (h : EnvSub e' e) {t : Nat} {v : Value} (hl : lk e' t = some v) : lk e t = some v := by
  induction e' with
  | nil => simp [Eng.lk] at hl
  | cons p r ih =>
    obtain ⟨k, u⟩ := p
    unfold Eng.lk at hl
    split at hl
    · rename_i he
      have he : k = t := Nat.eq_of_beq_eq_true he
      simp at hl
      subst he; subst hl
      exact h.1
    · exact ih h.2 hl
theorem Mod.sub {n : Nat} {e e' : Env} {a : Act} (h : Mod n e a) (hs : EnvSub e' e) : Mod n e' a := ⟨h.size, h.defers, fun t v ht => h.get t v (hs.lk ht)⟩
/-! ## The judgement: K holds in every state of this description -/
def Nx (C : Cx) (e : Env) (I : PH) (R : List Res) (K : Act → World → Prop) : Prop := ∀ a w, Mod C.n e a → St C.W I R w → K a w
section
variable {C : Cx} {e e' : Env} {I : PH} {R R' : List Res} {K K' : Act → World → Prop} {Q : Exit → Act → World → Prop}
theorem Nx.weak (he : EnvSub e' e) (hR : Ent R R') (h : Nx C e' I R' K) : Nx C e I R K := fun a w ha hw => h a w (ha.sub he) (hw.ent hR)
theorem Nx.ent (hR : Ent R R') (h : Nx C e I R' K) : Nx C e I R K := fun a w ha hw => h a w ha (hw.ent hR)
theorem Nx.env (he : EnvSub e' e) (h : Nx C e' I R K) : Nx C e I R K := fun a w ha hw => h a w (ha.sub he) hw
theorem Nx.pull (k : Nat) {r : Res} (hk : R[k]? = some r) (h : Nx C e I (r :: R.eraseIdx k) K) : Nx C e I R K := h.ent (Ent.pull k R r hk)
theorem Nx.seq {x y : Code} (h : Nx C e I R (x.wp C.P (Exit.then (y.wp C.P Q) Q))) : Nx C e I R ((Code.seq x y).wp C.P Q) := fun a w ha hw => wp_seq (h a w ha hw)
theorem Nx.skip (h : Nx C e I R (Q .normal)) : Nx C e I R (Code.skip.wp C.P Q) := fun a w ha hw => wp_skip (h a w ha hw)
theorem Nx.ret (h : Nx C e I R (Q .ret)) : Nx C e I R (Code.ret.wp C.P Q) := fun a w ha hw => wp_ret (h a w ha hw)
theorem Nx.exit {id : Nat} (h : Nx C e I R (Q (.exit id))) : Nx C e I R ((Code.exit id).wp C.P Q) := fun a w ha hw => wp_exit (h a w ha hw)
theorem Nx.block {id : Nat} {c : Code} (h : Nx C e I R (c.wp C.P (Exit.inBlock id Q))) : Nx C e I R ((Code.block id c).wp C.P Q) := fun a w ha hw => wp_block (h a w ha hw)
theorem Nx.label {l : Nat} (h : Nx C e I R (Q .normal)) : Nx C e I R ((Code.label l).wp C.P Q) := fun a w ha hw => wp_label (h a w ha hw)
theorem Nx.region {id : Nat} {l : List Oper} (h : Nx C e I R (wpList C.P l.toArray Q l)) : Nx C e I R ((Code.region id l.toArray false).wp C.P Q) := fun a w ha hw => wp_region_lit (h a w ha hw)
theorem Nx.nil {ops : Array Oper} (h : Nx C e I R (Q .normal)) : Nx C e I R (wpList C.P ops Q []) := fun a w ha hw => wpList_nil (h a w ha hw)
theorem Nx.cond_true {c : Operand} {x y : Code} (hc : evo e c = some (.bool true)) (h : Nx C e I R (x.wp C.P Q)) : Nx C e I R ((Code.cond c x y).wp C.P Q) :=
  fun a w ha hw => wp_cond_true (ha.eval hc) (h a w ha hw)
theorem Nx.cond_false {c : Operand} {x y : Code} (hc : evo e c = some (.bool false)) (h : Nx C e I R (y.wp C.P Q)) : Nx C e I R ((Code.cond c x y).wp C.P Q) :=
  fun a w ha hw => wp_cond_false (ha.eval hc) (h a w ha hw)
theorem Nx.cond_dec {c : Operand} {x y : Code} {p : Prop} [Decidable p] (hc : evo e c = some (.bool (decide p))) (ht : p → Nx C e I R (x.wp C.P Q)) (hf : ¬p → Nx C e I R (y.wp C.P Q)) :
    Nx C e I R ((Code.cond c x y).wp C.P Q) :=
  fun a w ha hw => wp_cond_split (ha.eval hc) (fun h => ht (of_decide_eq_true h) a w ha hw) (fun h => hf (of_decide_eq_false h) a w ha hw)
theorem Nx.cond_bool {c : Operand} {x y : Code} {b : Bool} (hc : evo e c = some (.bool b)) (ht : b = true → Nx C e I R (x.wp C.P Q)) (hf : b = false → Nx C e I R (y.wp C.P Q)) :
    Nx C e I R ((Code.cond c x y).wp C.P Q) :=
  fun a w ha hw => wp_cond_split (ha.eval hc) (fun h => ht h a w ha hw) (fun h => hf h a w ha hw)
/-- A test's outcome is decided. -/
theorem Nx.force (t : Nat) {p : Prop} [Decidable p] (hc : lk e t = some (.bool (decide p))) (ht : p → Nx C ((t, .bool true) :: e) I R K) (hf : ¬p → Nx C ((t, .bool false) :: e) I R K) : Nx C e I R K := by
  intro a w ha hw
  have key : ∀ b, decide p = b → Mod C.n ((t, .bool b) :: e) a := fun b hb => ⟨ha.size, ha.defers, fun u v hu => by
    unfold lk at hu
    split at hu
    · rename_i he
      have he : t = u := Nat.eq_of_beq_eq_true he
      simp at hu
      subst he; subst hu
      rw [← hb]; exact ha.get _ _ hc
    · exact ha.get _ _ hu⟩
  by_cases h : p
  · exact ht h a w (key true (by simp [h])) hw
  · exact hf h a w (key false (by simp [h])) hw
theorem Nx.force_bool (t : Nat) {b : Bool} (hc : lk e t = some (.bool b)) (ht : b = true → Nx C ((t, .bool true) :: e) I R K) (hf : b = false → Nx C ((t, .bool false) :: e) I R K) : Nx C e I R K := by
  refine Nx.force t (p := b = true) ?_ ht (fun h => hf (by simpa using h))
  rw [hc]; cases b <;> rfl
/-! ### Where a way ends -/
theorem Nx.then_normal (h : Nx C e I R K) : Nx C e I R (Exit.then K Q .normal) := h
theorem Nx.then_exit {id : Nat} (h : Nx C e I R (Q (.exit id))) : Nx C e I R (Exit.then K Q (.exit id)) := h
theorem Nx.then_ret (h : Nx C e I R (Q .ret)) : Nx C e I R (Exit.then K Q .ret) := h
theorem Nx.in_normal {id : Nat} (h : Nx C e I R (Q .normal)) : Nx C e I R (Exit.inBlock id Q .normal) := h
theorem Nx.in_ret {id : Nat} (h : Nx C e I R (Q .ret)) : Nx C e I R (Exit.inBlock id Q .ret) := h
theorem Nx.in_exit {id : Nat} (h : Nx C e I R (Q .normal)) : Nx C e I R (Exit.inBlock id Q (.exit id)) := fun a w ha hw => by
  show (if id = id then Q .normal a w else Q (.exit id) a w)
  rw [if_pos rfl]; exact h a w ha hw
theorem Nx.in_other {id id' : Nat} (hne : Nat.beq id' id = false) (h : Nx C e I R (Q (.exit id'))) : Nx C e I R (Exit.inBlock id Q (.exit id')) := fun a w ha hw => by
  show (if id' = id then Q .normal a w else Q (.exit id') a w)
  rw [if_neg (Nat.ne_of_beq_eq_false hne)]; exact h a w ha hw
/-! ### A loop: what holds at each round's head, told by a parameter 's' -/
def Again (C : Cx) {σ : Type} (E : σ → Env) (H : PH) (T : σ → List Res) (ok : σ → Prop) (μ : σ → Nat) (s : σ) : Act → World → Prop :=
  fun a w => ∃ s', ok s' ∧ μ s' < μ s ∧ Mod C.n (E s') a ∧ St C.W H (T s') w
theorem Nx.loop {σ : Type} (E : σ → Env) (T : σ → List Res) (ok : σ → Prop) (μ : σ → Nat) (s0 : σ) {c : Code} (h0 : ok s0) (he : EnvSub (E s0) e) (hR : Ent R (T s0))
    (round : ∀ s, ok s → Nx C (E s) I (T s) (c.wp C.P (Exit.then (Again C E I T ok μ s) Q))) : Nx C e I R ((Code.loop c).wp C.P Q) := by
  have key : ∀ n s, μ s = n → ok s → ∀ a w, Mod C.n (E s) a → St C.W I (T s) w → ∀ (b : Frame) (k : List Item) (cs : List Frame),
      ∃ ex a' w', Q ex a' w' ∧ Arrives C.P (lone (b.at a (.code c :: .inLoop c :: k)) cs w) b k cs ex a' w' := by
    intro n
    induction n using Nat.strongRecOn with
    | _ n ih =>
      intro s hn hok a w ha hw b k cs
      obtain ⟨ex, a₁, w₁, hq, harr⟩ := round s hok a w ha hw b (.inLoop c :: k) cs
      cases ex with
      | normal =>
        obtain ⟨s', hok', hlt, ha', hw'⟩ := hq
        obtain ⟨e₂, a₂, w₂, hq₂, harr₂⟩ := ih (μ s') (hn ▸ hlt) s' rfl hok' a₁ w₁ ha' hw' b k cs
        exact ⟨e₂, a₂, w₂, hq₂, .of_steps (Steps.trans harr (.one step_inLoop)) harr₂⟩
      | exit id => exact ⟨_, a₁, w₁, hq, .pass (x := .inLoop c) rfl (fun _ _ => .inl (by simp)) harr⟩
      | goto l => exact ⟨_, a₁, w₁, hq, .pass (x := .inLoop c) rfl (fun _ _ => .inl (by simp)) harr⟩
      | ret => exact ⟨_, a₁, w₁, hq, .pass (x := .inLoop c) rfl (fun _ _ => .inl (by simp)) harr⟩
      | panic ch => exact ⟨_, a₁, w₁, hq, .pass (x := .inLoop c) rfl (fun _ _ => .inl (by simp)) harr⟩
      | outgrown => exact ⟨_, a₁, w₁, hq, .pass (x := .inLoop c) rfl (fun _ _ => .inl (by simp)) harr⟩
  intro a w ha hw b k cs
  obtain ⟨ex, a', w', hq, harr⟩ := key _ s0 rfl h0 a w (ha.sub he) (hw.ent hR) b k cs
  exact ⟨ex, a', w', hq, .of_steps (.one step_loop) harr⟩
theorem Nx.again {σ : Type} {E : σ → Env} {T : σ → List Res} {ok : σ → Prop} {μ : σ → Nat} {s : σ} (s' : σ) (hok : ok s') (hμ : μ s' < μ s) (he : EnvSub (E s') e) (hR : Ent R (T s')) :
    Nx C e I R (Again C E I T ok μ s) := fun _ _ ha hw => ⟨s', hok, hμ, ha.sub he, hw.ent hR⟩
/-! ### Ways that meet again -/
def Stop (K : Act → World → Prop) : Act → World → Prop := K
/-- Some state of this description. -/
def Upto (C : Cx) {σ : Type} (E : σ → Env) (H : PH) (T : σ → List Res) (ok : σ → Prop) : Act → World → Prop := fun a w => ∃ s, ok s ∧ Mod C.n (E s) a ∧ St C.W H (T s) w
end
end Go.Eng
/-
  The proof engine, part B: the rules for single operations.
-/
namespace Go.Eng
def nthL {α : Type} : List α → Nat → Option α
  | [], _ => none
  | c :: _, 0 => some c
  | _ :: r, i + 1 => nthL r i
theorem nthL_eq {α : Type} : ∀ {l : List α} {i : Nat}, nthL l i = l[i]?
  | [], i => by simp [nthL]
  | _ :: _, 0 => rfl
  | _ :: r, i + 1 => by simp only [nthL, List.getElem?_cons_succ]; exact nthL_eq
/-! ## Operations that need no world -/
def pureRun (P : Program) {α : Type} : Sem α → Option α
  | .pure a => some a
  | .program k => pureRun P (k P)
  | .mark _ k => pureRun P k
  | _ => none
theorem run_of_pureRun {P : Program} {α : Type} : ∀ {s : Sem α} {a : α}, pureRun P s = some a → ∀ w : World, s.run P w = .ok a w
  | .pure a, b, h, w => by simp [pureRun] at h; simp [Sem.run, h]
  | .program k, b, h, w => by simp [pureRun] at h; simp [Sem.run, run_of_pureRun h w]
  | .mark m k, b, h, w => by simp [pureRun] at h; simp [Sem.run, run_of_pureRun h w]
  | .load .., b, h, w => by simp [pureRun] at h
  | .store .., b, h, w => by simp [pureRun] at h
  | .new .., b, h, w => by simp [pureRun] at h
  | .shape .., b, h, w => by simp [pureRun] at h
  | .freeze .., b, h, w => by simp [pureRun] at h
  | .frozen .., b, h, w => by simp [pureRun] at h
  | .getObj .., b, h, w => by simp [pureRun] at h
  | .setObj .., b, h, w => by simp [pureRun] at h
  | .choose .., b, h, w => by simp [pureRun] at h
  | .sys .., b, h, w => by simp [pureRun] at h
  | .halt .., b, h, w => by simp [pureRun] at h
def opK (P : Program) (o : Oper) (K : Act → World → Prop) (Q : Exit → Act → World → Prop) : Act → World → Prop := fun a w => o.wp P a w K Q
section
variable {C : Cx} {e e' : Env} {I : PH} {R R' : List Res} {K K' : Act → World → Prop} {Q : Exit → Act → World → Prop}
/-! ## The operations of a region, one by one -/
theorem Nx.cons {ops : Array Oper} {rest : List Oper} {o : Oper} (hg : o.guard = none) (h : Nx C e I R (opK C.P o (wpList C.P ops Q rest) Q)) : Nx C e I R (wpList C.P ops Q (o :: rest)) := by
  intro a w ha hw
  unfold wpList
  rw [if_pos (by simp [Region.wanted, hg])]
  exact .inl (h a w ha hw)
theorem yielded_of {n : Nat} {ops : Array Oper} {a : Act} {j d : Nat} {b : Bool} (ha : Mod n e a) (hd : (ops[j]?).bind (·.dst) = some d) (hb : lk e d = some (.bool b)) : yielded ops a.tmps j = some b := by
  have := ha.get d _ hb
  simp [yielded, hd, this]
theorem Nx.cons_do {ops : Array Oper} {rest : List Oper} {o : Oper} {j d : Nat} {want : Bool} (hg : o.guard = some (j, want)) (hd : (ops[j]?).bind (·.dst) = some d) (hb : lk e d = some (.bool want))
    (h : Nx C e I R (opK C.P o (wpList C.P ops Q rest) Q)) : Nx C e I R (wpList C.P ops Q (o :: rest)) := by
  intro a w ha hw
  unfold wpList
  rw [if_pos (by simp [Region.wanted, hg, yielded_of ha hd hb])]
  exact .inl (h a w ha hw)
theorem Nx.cons_no {ops : Array Oper} {rest : List Oper} {o : Oper} {j d t : Nat} {want : Bool} (hg : o.guard = some (j, want)) (hd : (ops[j]?).bind (·.dst) = some d) (hb : lk e d = some (.bool (!want)))
    (ht : o.dst = some t) (hlt : Nat.blt t C.n = true) (h : Nx C ((t, undef) :: e) I R (wpList C.P ops Q rest)) : Nx C e I R (wpList C.P ops Q (o :: rest)) := by
  intro a w ha hw
  unfold wpList
  rw [if_neg (by simp [Region.wanted, hg, yielded_of ha hd hb]), ht]
  exact h _ w (ha.put hlt _) hw
theorem Nx.op_run {o : Oper} {d : Nat} {v : Value} (hd : o.dst = some d) (hlt : Nat.blt d C.n = true)
    (hrun : ∀ a w, Mod C.n e a → St C.W I R w → (execOp a.eval o).run C.P w = .ok (.value v) w) (h : Nx C ((d, v) :: e) I R K) : Nx C e I R (opK C.P o K Q) := by
  intro a w ha hw
  unfold opK Oper.wp
  rw [hrun a w ha hw]
  show K (a.put o.dst v) w
  rw [hd]
  exact h _ w (ha.put hlt v) hw
variable {d : Nat} {ty t u : TypeId} {pos : String} {after : Array Edge} {g : Option (Nat × Bool)} {x y z : Operand} {v vx vy vz : Value}
/-! Which operation stands next: each is the identity, and fails at once at all others. -/
variable {dst : Option Tmp}
theorem Nx.is_load (h : Nx C e I R (opK C.P ⟨dst, .load t x, ty, pos, after, g⟩ K Q)) : Nx C e I R (opK C.P ⟨dst, .load t x, ty, pos, after, g⟩ K Q) := h
theorem Nx.is_store (h : Nx C e I R (opK C.P ⟨dst, .store t x y, ty, pos, after, g⟩ K Q)) : Nx C e I R (opK C.P ⟨dst, .store t x y, ty, pos, after, g⟩ K Q) := h
theorem Nx.is_bin {op : BinOp} (h : Nx C e I R (opK C.P ⟨dst, .binOp op t x y u, ty, pos, after, g⟩ K Q)) : Nx C e I R (opK C.P ⟨dst, .binOp op t x y u, ty, pos, after, g⟩ K Q) := h
theorem Nx.is_un {op : UnOp} (h : Nx C e I R (opK C.P ⟨dst, .unOp op t x, ty, pos, after, g⟩ K Q)) : Nx C e I R (opK C.P ⟨dst, .unOp op t x, ty, pos, after, g⟩ K Q) := h
theorem Nx.is_conv (h : Nx C e I R (opK C.P ⟨dst, .convert t u x, ty, pos, after, g⟩ K Q)) : Nx C e I R (opK C.P ⟨dst, .convert t u x, ty, pos, after, g⟩ K Q) := h
theorem Nx.is_build {p : Array (Nat × Operand)} (h : Nx C e I R (opK C.P ⟨dst, .build t p, ty, pos, after, g⟩ K Q)) : Nx C e I R (opK C.P ⟨dst, .build t p, ty, pos, after, g⟩ K Q) := h
theorem Nx.is_lit {p : Array (Nat × Operand)} {n : Nat} (h : Nx C e I R (opK C.P ⟨dst, .buildSlice t n p, ty, pos, after, g⟩ K Q)) : Nx C e I R (opK C.P ⟨dst, .buildSlice t n p, ty, pos, after, g⟩ K Q) := h
theorem Nx.is_box (h : Nx C e I R (opK C.P ⟨dst, .box t x, ty, pos, after, g⟩ K Q)) : Nx C e I R (opK C.P ⟨dst, .box t x, ty, pos, after, g⟩ K Q) := h
theorem Nx.is_alloc (h : Nx C e I R (opK C.P ⟨dst, .alloc t, ty, pos, after, g⟩ K Q)) : Nx C e I R (opK C.P ⟨dst, .alloc t, ty, pos, after, g⟩ K Q) := h
theorem Nx.is_call {c : Call} (h : Nx C e I R (opK C.P ⟨dst, .call c, ty, pos, after, g⟩ K Q)) : Nx C e I R (opK C.P ⟨dst, .call c, ty, pos, after, g⟩ K Q) := h
theorem Nx.is_append {xs : Array Operand} {tys : Array TypeId} (h : Nx C e I R (opK C.P ⟨dst, .call { callee := .builtin .append, args := xs, argTypes := tys }, ty, pos, after, g⟩ K Q)) : Nx C e I R (opK C.P ⟨dst, .call { callee := .builtin .append, args := xs, argTypes := tys }, ty, pos, after, g⟩ K Q) := h
theorem Nx.move (hx : evo e x = some v) (hlt : Nat.blt d C.n = true) (h : Nx C ((d, v) :: e) I R K) : Nx C e I R (opK C.P ⟨some d, .move x, ty, pos, after, g⟩ K Q) :=
  Nx.op_run rfl hlt (fun a w ha _ => by simp only [execOp, ha.eval hx]; rfl) h
theorem Nx.assign (hx : evo e x = some v) (hlt : Nat.blt d C.n = true) (h : Nx C ((d, v) :: e) I R K) : Nx C e I R (opK C.P ⟨some d, .assign x, ty, pos, after, g⟩ K Q) :=
  Nx.op_run rfl hlt (fun a w ha _ => by simp only [execOp, ha.eval hx]; rfl) h
theorem run_v {s : Sem Value} {P : Program} {w w' : World} (h : s.run P w = .ok v w') : (do pure (Next.value (← s)) : Sem Next).run P w = .ok (.value v) w' := by
  rw [Sem.run_bind, h]; rfl
theorem Nx.bin {op : BinOp} (hx : evo e x = some vx) (hy : evo e y = some vy) (hv : pureRun C.P (do eqGuard op t x y vx vy; binOp op t vx vy) = some v) (hlt : Nat.blt d C.n = true)
    (h : Nx C ((d, v) :: e) I R K) : Nx C e I R (opK C.P ⟨some d, .binOp op t x y u, ty, pos, after, g⟩ K Q) :=
  Nx.op_run rfl hlt (fun a w ha _ => by simp only [execOp, ha.eval hx, ha.eval hy]; exact run_v (run_of_pureRun hv w)) h
def I64 (z : Int) : Prop := -9223372036854775808 ≤ z ∧ z ≤ 9223372036854775807
theorem wrap_i64 {z : Int} (h : I64 z) : IntKind.i64.wrap z = z := IntWalk.i64_in _ (by unfold I64 at h; omega)
theorem Nx.add {p q : Int} (hx : evo e x = some (.int .i64 p)) (hy : evo e y = some (.int .i64 q)) (hr : I64 (p + q)) (hlt : Nat.blt d C.n = true)
    (h : Nx C ((d, .int .i64 (p + q)) :: e) I R K) : Nx C e I R (opK C.P ⟨some d, .binOp .add t x y u, ty, pos, after, g⟩ K Q) :=
  Nx.bin hx hy (by rw [← wrap_i64 hr]; rfl) hlt h
theorem Nx.sub {p q : Int} (hx : evo e x = some (.int .i64 p)) (hy : evo e y = some (.int .i64 q)) (hr : I64 (p - q)) (hlt : Nat.blt d C.n = true)
    (h : Nx C ((d, .int .i64 (p - q)) :: e) I R K) : Nx C e I R (opK C.P ⟨some d, .binOp .sub t x y u, ty, pos, after, g⟩ K Q) :=
  Nx.bin hx hy (by rw [← wrap_i64 hr]; rfl) hlt h
theorem Nx.mul {p q : Int} (hx : evo e x = some (.int .i64 p)) (hy : evo e y = some (.int .i64 q)) (hr : I64 (p * q)) (hlt : Nat.blt d C.n = true)
    (h : Nx C ((d, .int .i64 (p * q)) :: e) I R K) : Nx C e I R (opK C.P ⟨some d, .binOp .mul t x y u, ty, pos, after, g⟩ K Q) :=
  Nx.bin hx hy (by rw [← wrap_i64 hr]; rfl) hlt h
theorem run_rem {P : Program} {p q : Int} (h0 : 0 ≤ p) (hq : 0 < q) : pureRun P (do eqGuard .rem t x y (.int .i64 p) (.int .i64 q); binOp .rem t (.int .i64 p) (.int .i64 q)) = some (.int .i64 (p % q)) := by
  rw [eqGuard_rem, binOp_rem]
  have hne : q ≠ 0 := by omega
  have : p.tmod q = p % q := Int.tmod_eq_emod_of_nonneg h0
  unfold pureRun
  simp [Op.intDiv, hne, this]; rfl
theorem run_quo {P : Program} {p q : Int} (h0 : 0 ≤ p) (hq : 0 < q) (hr : I64 p) : pureRun P (do eqGuard .quo t x y (.int .i64 p) (.int .i64 q); binOp .quo t (.int .i64 p) (.int .i64 q)) = some (.int .i64 (p / q)) := by
  rw [eqGuard_quo, binOp_quo]
  have hne : q ≠ 0 := by omega
  have : p.tdiv q = p / q := Int.tdiv_eq_ediv_of_nonneg h0
  have h1 : p / q ≤ p := Int.ediv_le_self _ h0
  have h2 : 0 ≤ p / q := Int.ediv_nonneg h0 (by omega)
  have hw : IntKind.i64.wrap (p / q) = p / q := wrap_i64 (by unfold I64 at *; omega)
  unfold pureRun
  simp [Op.intDiv, hne, this, hw]; rfl
theorem Nx.rem {p q : Int} (hx : evo e x = some (.int .i64 p)) (hy : evo e y = some (.int .i64 q)) (hq : 0 < q) (h0 : 0 ≤ p) (hlt : Nat.blt d C.n = true)
    (h : Nx C ((d, .int .i64 (p % q)) :: e) I R K) : Nx C e I R (opK C.P ⟨some d, .binOp .rem t x y u, ty, pos, after, g⟩ K Q) :=
  Nx.bin hx hy (run_rem h0 hq) hlt h
theorem Nx.quo {p q : Int} (hx : evo e x = some (.int .i64 p)) (hy : evo e y = some (.int .i64 q)) (hq : 0 < q) (h0 : 0 ≤ p) (hr : I64 p) (hlt : Nat.blt d C.n = true)
    (h : Nx C ((d, .int .i64 (p / q)) :: e) I R K) : Nx C e I R (opK C.P ⟨some d, .binOp .quo t x y u, ty, pos, after, g⟩ K Q) :=
  Nx.bin hx hy (run_quo h0 hq hr) hlt h
theorem Nx.un {op : UnOp} (hx : evo e x = some vx) (hv : pureRun C.P (Op.unary op vx) = some v) (hlt : Nat.blt d C.n = true)
    (h : Nx C ((d, v) :: e) I R K) : Nx C e I R (opK C.P ⟨some d, .unOp op t x, ty, pos, after, g⟩ K Q) :=
  Nx.op_run rfl hlt (fun a w ha _ => by simp only [execOp, ha.eval hx]; exact run_v (run_of_pureRun hv w)) h
theorem Nx.neg {p : Int} (hx : evo e x = some (.int .i64 p)) (hr : I64 (-p)) (hlt : Nat.blt d C.n = true)
    (h : Nx C ((d, .int .i64 (-p)) :: e) I R K) : Nx C e I R (opK C.P ⟨some d, .unOp .neg t x, ty, pos, after, g⟩ K Q) :=
  Nx.un hx (by rw [← wrap_i64 hr, ← Int.zero_sub]; rfl) hlt h
theorem Nx.not_dec {p : Prop} [Decidable p] (hx : evo e x = some (.bool (decide p))) (hlt : Nat.blt d C.n = true)
    (h : Nx C ((d, .bool (decide (¬p))) :: e) I R K) : Nx C e I R (opK C.P ⟨some d, .unOp .not t x, ty, pos, after, g⟩ K Q) :=
  Nx.un hx (by
    have : decide (¬p) = !decide p := by simp
    rw [this]; rfl) hlt h
theorem Nx.conv (hx : evo e x = some vx) (hv : pureRun C.P (convert t u vx) = some v) (hlt : Nat.blt d C.n = true)
    (h : Nx C ((d, v) :: e) I R K) : Nx C e I R (opK C.P ⟨some d, .convert t u x, ty, pos, after, g⟩ K Q) :=
  Nx.op_run rfl hlt (fun a w ha _ => by simp only [execOp, ha.eval hx]; exact run_v (run_of_pureRun hv w)) h
/-- Conversion of an integer to int, in range. -/
theorem Nx.conv_i64 {k : IntKind} {p : Int} {s : TypeDesc} (hx : evo e x = some (.int k p)) (hs : C.P.underlying t = some s) (ht : C.P.underlying u = some (.int .i64)) (hr : I64 p) (hlt : Nat.blt d C.n = true)
    (h : Nx C ((d, .int .i64 p) :: e) I R K) : Nx C e I R (opK C.P ⟨some d, .convert t u x, ty, pos, after, g⟩ K Q) :=
  Nx.op_run rfl hlt (fun a w ha _ => by
    simp only [execOp, ha.eval hx]
    refine run_v ?_
    unfold convert
    rw [Sem.run_bind, run_underlying hs, Result.andThen_ok, Sem.run_bind, run_underlying ht, Result.andThen_ok]
    show Result.ok (Value.int .i64 (IntKind.i64.wrap p)) w = _
    rw [wrap_i64 hr]) h
theorem Nx.extract {k : Nat} {vs : Array Value} (hx : evo e x = some (.tuple vs)) (hv : vs[k]? = some v) (hlt : Nat.blt d C.n = true)
    (h : Nx C ((d, v) :: e) I R K) : Nx C e I R (opK C.P ⟨some d, .extract x k, ty, pos, after, g⟩ K Q) :=
  Nx.op_run rfl hlt (fun a w ha _ => by
    simp only [execOp, ha.eval hx]
    refine run_v ?_
    simp [Instr.extract, hv]) h
theorem Nx.nilCheck {A : Addr} (hx : evo e x = some (.pointer (some A))) (hlt : Nat.blt d C.n = true)
    (h : Nx C ((d, .pointer (some A)) :: e) I R K) : Nx C e I R (opK C.P ⟨some d, .nilCheck x, ty, pos, after, g⟩ K Q) :=
  Nx.op_run rfl hlt (fun a w ha _ => by simp only [execOp, ha.eval hx]; rfl) h
theorem Nx.makeFunc {F : Fn} {c1 c2 : Array Operand} {v1 v2 : List Value} (h1 : evs e c1.toList = some v1) (h2 : evs e c2.toList = some v2) (hlt : Nat.blt d C.n = true)
    (h : Nx C ((d, .func F v1.toArray v2.toArray) :: e) I R K) : Nx C e I R (opK C.P ⟨some d, .makeFunc F c1 c2, ty, pos, after, g⟩ K Q) :=
  Nx.op_run rfl hlt (fun a w ha _ => by
    have e1 : c1.map a.eval = v1.toArray := by rw [← ha.evals h1]; exact Array.ext' (by rw [Array.toList_map])
    have e2 : c2.map a.eval = v2.toArray := by rw [← ha.evals h2]; exact Array.ext' (by rw [Array.toList_map])
    simp only [execOp, e1, e2]
    rfl) h
theorem Nx.field {k : Nat} (hx : evo e x = some vx) (hv : pureRun C.P (Instr.field t vx k) = some v) (hlt : Nat.blt d C.n = true)
    (h : Nx C ((d, v) :: e) I R K) : Nx C e I R (opK C.P ⟨some d, .field t x k, ty, pos, after, g⟩ K Q) :=
  Nx.op_run rfl hlt (fun a w ha _ => by simp only [execOp, ha.eval hx]; exact run_v (run_of_pureRun hv w)) h
theorem Nx.index (hx : evo e x = some vx) (hy : evo e y = some vy) (hv : pureRun C.P (Instr.index t vx vy) = some v) (hlt : Nat.blt d C.n = true)
    (h : Nx C ((d, v) :: e) I R K) : Nx C e I R (opK C.P ⟨some d, .index t x y, ty, pos, after, g⟩ K Q) :=
  Nx.op_run rfl hlt (fun a w ha _ => by simp only [execOp, ha.eval hx, ha.eval hy]; exact run_v (run_of_pureRun hv w)) h
/-- A small number, forced to a literal. -/
def forced : Nat → Option Nat
  | 0 => some 0 | 1 => some 1 | 2 => some 2 | 3 => some 3 | 4 => some 4 | 5 => some 5 | 6 => some 6 | 7 => some 7 | 8 => some 8 | 9 => some 9
  | 10 => some 10 | 11 => some 11 | 12 => some 12 | 13 => some 13 | 14 => some 14 | 15 => some 15 | 16 => some 16 | 17 => some 17 | 18 => some 18 | 19 => some 19
  | 20 => some 20 | 21 => some 21 | 22 => some 22 | 23 => some 23 | 24 => some 24 | 25 => some 25 | 26 => some 26 | 27 => some 27 | 28 => some 28 | 29 => some 29
  | 30 => some 30 | 31 => some 31 | 32 => some 32 | 33 => some 33 | 34 => some 34 | 35 => some 35 | 36 => some 36 | 37 => some 37 | 38 => some 38 | 39 => some 39
  | 40 => some 40 | 41 => some 41 | 42 => some 42 | 43 => some 43 | 44 => some 44 | 45 => some 45 | 46 => some 46 | 47 => some 47 | 48 => some 48 | 49 => some 49
  | _ => none
theorem forced_eq {a b : Nat} (h : forced a = some b) : a = b := by
  unfold forced at h
  split at h <;> simp at h <;> omega
def cellsIn (P : Program) (t : TypeId) : Option Nat := match P.info? t with | some i => forced i.size | none => none
theorem cellsIn_run {P : Program} {t : TypeId} {n : Nat} (h : cellsIn P t = some n) (w : World) : (sizeOf t).run P w = .ok n w := by
  unfold cellsIn at h
  split at h
  · rename_i i hi
    have := forced_eq h
    simp [sizeOf, typeInfo, hi, this]
  · cases h
def fieldOff (P : Program) (t : TypeId) (k : Nat) : Option Nat :=
  match P.underlying t with
  | some (.struct fs) => match fs[k]? with
    | some f => match cellsIn P f.type with
      | some 0 => none
      | some _ => forced f.offset
      | none => none
    | none => none
  | _ => none
theorem fieldOff_run {P : Program} {t : TypeId} {k o : Nat} (h : fieldOff P t k = some o) (A : Addr) (w : World) : (Instr.fieldAt t (.pointer (some A)) k).run P w = .ok (.pointer (some (A.add o))) w := by
  unfold fieldOff at h
  split at h
  · rename_i fs hfs
    split at h
    · rename_i f hf
      split at h
      · cases h
      · rename_i n hn0 hn
        have hsz := cellsIn_run hn w
        have ho := forced_eq h
        have h0 : ¬ n = 0 := hn0
        unfold Instr.fieldAt
        rw [Sem.run_bind, run_underlying hfs, Result.andThen_ok]
        simp only [hf]
        simp [Instr.sureAddr, fieldPlace, hsz, h0, ho]
      · cases h
    · cases h
  · cases h
theorem Nx.fieldAddr {k o : Nat} {A : Addr} (hx : evo e x = some (.pointer (some A))) (ho : fieldOff C.P t k = some o) (hlt : Nat.blt d C.n = true)
    (h : Nx C ((d, .pointer (some (A.add o))) :: e) I R K) : Nx C e I R (opK C.P ⟨some d, .fieldAddr t x k, ty, pos, after, g⟩ K Q) :=
  Nx.op_run rfl hlt (fun a w ha _ => by simp only [execOp, ha.eval hx]; exact run_v (fieldOff_run ho A w)) h
/-! ## One rule for all operations that need no world -/
def binRun (P : Program) (op : BinOp) (t : TypeId) (x y : Operand) : Value → Value → Option Value
  | .int k a, .int k' b => match op with
    | .eql => match decide (k = k') with | true => some (.bool (decide (a = b))) | false => none
    | .neq => match decide (k = k') with | true => some (.bool (decide (a ≠ b))) | false => none
    | .lss => match decide (k = k') with | true => some (.bool (decide (a < b))) | false => none
    | .leq => match decide (k = k') with | true => some (.bool (decide (a ≤ b))) | false => none
    | .gtr => match decide (k = k') with | true => some (.bool (decide (b < a))) | false => none
    | .geq => match decide (k = k') with | true => some (.bool (decide (b ≤ a))) | false => none
    | _ => none
  | vx, vy => pureRun P (do eqGuard op t x y vx vy; binOp op t vx vy)
theorem binRun_sound {P : Program} {op : BinOp} {t : TypeId} {x y : Operand} {vx vy v : Value} (h : binRun P op t x y vx vy = some v) (w : World) :
    (do eqGuard op t x y vx vy; binOp op t vx vy : Sem Value).run P w = .ok v w := by
  unfold binRun at h
  split at h
  · rename_i k a k' b
    have key : ∀ {p : Prop} [Decidable p] {c : Bool}, (match decide (k = k') with | true => some (Value.bool (decide p)) | false => none) = some v → c = decide p → k = k' ∧ v = .bool c := by
      intro p _ c hm hc
      by_cases hk : k = k'
      · simp [hk] at hm; exact ⟨hk, by rw [hc]; exact hm.symm⟩
      · simp [hk] at hm
    rw [eqGuard_at_int]
    cases op <;> simp only at h <;> try (cases h; done)
    · obtain ⟨rfl, rfl⟩ := key h rfl; rw [binOp_eql]; rfl
    · obtain ⟨rfl, rfl⟩ := key h (show (a != b) = decide (a ≠ b) by by_cases hab : a = b <;> simp [hab]); rw [binOp_neq]; rfl
    · obtain ⟨rfl, rfl⟩ := key h rfl; rw [binOp_lss]; rfl
    · obtain ⟨rfl, rfl⟩ := key h rfl; rw [binOp_leq]; rfl
    · obtain ⟨rfl, rfl⟩ := key h rfl; rw [binOp_gtr]; rfl
    · obtain ⟨rfl, rfl⟩ := key h rfl; rw [binOp_geq]; rfl
  · exact run_of_pureRun h w
def unRun (P : Program) (op : UnOp) : Value → Option Value
  | .int _ _ => match op with
    | _ => none
  | vx => pureRun P (Op.unary op vx)
def lenRun (P : Program) (t : TypeId) : Value → Option Value
  | .slice _ n _ => match P.underlying t with
    | some (.slice _) => some (.int .i64 n)
    | _ => none
  | .string s => match P.underlying t with
    | some .string => some (.int .i64 s.size)
    | _ => none
  | _ => none
def opRun (P : Program) (e : Env) : Op → Option Value
  | .move x => evo e x
  | .assign x => evo e x
  | .pick c a b => match evo e c with
    | some (.bool true) => evo e a
    | some (.bool false) => evo e b
    | _ => none
  | .binOp op t x y _ => match evo e x with
    | none => none
    | some vx => match evo e y with
      | none => none
      | some vy => binRun P op t x y vx vy
  | .unOp op _ x => match evo e x with
    | none => none
    | some vx => unRun P op vx
  | .extract x k => match evo e x with
    | some (.tuple ⟨vs⟩) => nthL vs k
    | _ => none
  | .fieldAddr t x k => match evo e x with
    | some (.pointer (some ⟨b, p, none⟩)) => match fieldOff P t k with
      | some o => some (.pointer (some ⟨b, p + o, none⟩))
      | none => none
    | _ => none
  | .nilCheck x => match evo e x with
    | some (.pointer (some a)) => some (.pointer (some a))
    | _ => none
  | .call { callee := .builtin .len, args := ⟨[x]⟩, argTypes := ⟨[t]⟩ } => match evo e x with
    | some v => lenRun P t v
    | none => none
  | _ => none
theorem opRun_sound {P : Program} {op : Op} {v : Value} (h : opRun P e op = some v) {n : Nat} {a : Act} (ha : Mod n e a) (w : World) {dst : Option Tmp} {ty : TypeId} {pos : String} {after : Array Edge} {g : Option (Nat × Bool)} :
    (execOp a.eval ⟨dst, op, ty, pos, after, g⟩).run P w = .ok (.value v) w := by
  unfold opRun at h
  split at h
  · simp only [execOp, ha.eval h]; rfl
  · simp only [execOp, ha.eval h]; rfl
  · split at h
    · rename_i hc; simp only [execOp, ha.eval hc, ha.eval h]; rfl
    · rename_i hc; simp only [execOp, ha.eval hc, ha.eval h]; rfl
    · cases h
  · split at h
    · cases h
    · rename_i vx hx
      split at h
      · cases h
      · rename_i vy hy
        simp only [execOp, ha.eval hx, ha.eval hy]
        exact run_v (binRun_sound h w)
  · split at h
    · cases h
    · rename_i vx hx
      simp only [execOp, ha.eval hx]
      refine run_v ?_
      unfold unRun at h
      split at h
      · cases h
      · exact run_of_pureRun h w
  · split at h
    · rename_i vs hx
      simp only [execOp, ha.eval hx]
      refine run_v ?_
      rw [nthL_eq] at h
      simp [Instr.extract, h]
    · cases h
  · split at h
    · rename_i b p hx
      split at h
      · rename_i o ho
        obtain rfl := Option.some.inj h
        simp only [execOp, ha.eval hx]
        have := fieldOff_run ho ⟨b, p, none⟩ w
        rw [Addr.add_lit] at this
        exact run_v this
      · cases h
    · cases h
  · split at h
    · rename_i A hx
      obtain rfl := Option.some.inj h
      simp only [execOp, ha.eval hx]; rfl
    · cases h
  · split at h
    · rename_i x t _ u hx
      unfold lenRun at h
      have e1 : ∀ cs, (builtin .len #[t] ty cs #[u]).run P w = .ok (.value v) w → (execOp a.eval ⟨dst, .call { callee := .builtin .len, args := #[x], argTypes := #[t] }, ty, pos, after, g⟩).run P w = .ok (.value v) w := by
        intro cs hcs
        simp only [execOp, resolve, List.map_toArray, List.map_cons, List.map_nil, ha.eval hx]
        exact hcs
      refine e1 #[] ?_
      refine run_v ?_
      unfold Builtin.len_
      simp only [List.getElem?_toArray, List.getElem?_cons_zero]
      split at h
      · split at h
        · rename_i el hd
          obtain rfl := Option.some.inj h
          rw [Sem.run_bind, run_underlying hd]; rfl
        · cases h
      · split at h
        · rename_i hd
          obtain rfl := Option.some.inj h
          rw [Sem.run_bind, run_underlying hd]; rfl
        · cases h
      · cases h
    · cases h
  · cases h
theorem Nx.opr {op : Op} (hv : opRun C.P e op = some v) (hlt : Nat.blt d C.n = true) (h : Nx C ((d, v) :: e) I R K) : Nx C e I R (opK C.P ⟨some d, op, ty, pos, after, g⟩ K Q) :=
  Nx.op_run rfl hlt (fun _ w ha _ => opRun_sound hv ha w) h
/-! ## Reading memory -/
/-- In every such state the cell holds this. -/
def Rd (W : World) (I : PH) (R : List Res) (A : Addr) (v : Value) : Prop := ∀ w, St W I R w → w.cell? A = some v
def cellH (I : PH) (a : Addr) : Option Value :=
  match I a.block with
  | some (.cells c _ _) => if a.spot.isSome then none else c[a.off]?
  | _ => none
theorem cellH_cell {w : World} {I : PH} (h : ∀ i o, I i = some o → w.heap[i]? = some o) {a : Addr} {v : Value} (hc : cellH I a = some v) : w.cell? a = some v := by
  unfold cellH at hc
  split at hc
  · rename_i c t fz hb
    simp only [World.cell?, h _ _ hb]
    exact hc
  · cases hc
theorem cellH_mono {I I' : PH} (h : PH.le I I') {a : Addr} {v : Value} (hc : cellH I a = some v) : cellH I' a = some v := by
  unfold cellH at hc ⊢
  split at hc
  · rename_i c t fz hb
    rw [h _ _ hb]
    exact hc
  · cases hc
variable {W : World} {A : Addr}
theorem Rd.imm (hc : cellH I A = some v) : Rd W I R A v := fun _ h => by
  obtain ⟨⟨m, _, hs⟩, _⟩ := h
  exact cellH_cell hs.imm hc
theorem Rd.own {r : Res} (hc : ∀ m, r m → cellH m A = some v) : Rd W I (r :: R) A v := fun _ h => by
  obtain ⟨⟨m, ⟨m1, m2, _, rfl, hr, _⟩, hs⟩, _⟩ := h
  exact cellH_cell (fun i o hi => hs.own i o (PH.le_or_left m1 m2 i o hi)) (hc m1 hr)
theorem Rd.tail {r : Res} (h : Rd W I R A v) : Rd W I (r :: R) A v := fun w hw => h w (hw.ent (Ent.drop (Ent.refl R)))
theorem Rd.ent (hR : Ent R R') (h : Rd W I R' A v) : Rd W I R A v := fun w hw => h w (hw.ent hR)
def Blk (b : Nat) (t : TypeId) (cs : List Value) : Res := fun m => m b = some (.cells cs.toArray t (0, 0))
theorem Rd.blk0 {b i : Nat} {cs : List Value} (hc : cs[i]? = some v) : Rd W I (Blk b t cs :: R) ⟨b, i, none⟩ v :=
  Rd.own fun m hm => by simp [cellH, show m b = _ from hm, hc]
theorem Rd.blk {b i : Nat} {cs : List Value} (hc : nthL cs i = some v) : Rd W I (Blk b t cs :: R) ⟨b, i, none⟩ v := Rd.blk0 (nthL_eq.symm.trans hc)
/-- Read in resource number k. -/
theorem Rd.at_ (k : Nat) {b i : Nat} {cs : List Value} (hk : nthL R k = some (Blk b t cs)) (hc : nthL cs i = some v) : Rd W I R ⟨b, i, none⟩ v :=
  Rd.ent (Ent.pull k R _ (nthL_eq.symm.trans hk)) (Rd.blk hc)
/-- A list of cells. -/
def Rds (W : World) (I : PH) (R : List Res) (A : Addr) (vs : List Value) : Prop := ∀ j u, vs[j]? = some u → Rd W I R (A.add j) u
theorem Rds.tail {r : Res} {vs : List Value} (h : Rds W I R A vs) : Rds W I (r :: R) A vs := fun j u hj => (h j u hj).tail
theorem Rds.blk {b i n : Nat} {cs vs : List Value} (hc : (cs.drop i).take n = vs) : Rds W I (Blk b t cs :: R) ⟨b, i, none⟩ vs := fun j u hj => by
  rw [Addr.add_lit]
  subst hc
  refine Rd.blk0 ?_
  rw [List.getElem?_take] at hj
  split at hj
  · rw [List.getElem?_drop] at hj; exact hj
  · cases hj
theorem Rds.blk0 {b : Nat} {cs : List Value} : Rds W I (Blk b t cs :: R) ⟨b, 0, none⟩ cs := fun j u hj => by
  rw [Addr.add_lit, Nat.zero_add]
  exact Rd.blk0 hj
theorem Rds.at_ (k : Nat) {b : Nat} {cs : List Value} (hk : nthL R k = some (Blk b t cs)) : Rds W I R ⟨b, 0, none⟩ cs := fun j u hj =>
  Rd.ent (Ent.pull k R _ (nthL_eq.symm.trans hk)) (Rds.blk0 j u hj)
def cutL : List Value → Nat → Nat → Option (List Value)
  | _, 0, 0 => some []
  | [], _, _ => none
  | c :: r, 0, n + 1 => match cutL r 0 n with
    | some l => some (c :: l)
    | none => none
  | _ :: r, i + 1, n => cutL r i n
theorem cutL_eq : ∀ {cs : List Value} {i n : Nat} {vs : List Value}, cutL cs i n = some vs → (cs.drop i).take n = vs
  | [], 0, 0, vs, h => by simp [cutL] at h; simp [h]
  | [], 0, n + 1, vs, h => by simp [cutL] at h
  | [], i + 1, n, vs, h => by simp [cutL] at h
  | c :: r, 0, 0, vs, h => by simp [cutL] at h; simp [h]
  | c :: r, 0, n + 1, vs, h => by
    unfold cutL at h
    split at h
    · rename_i l hl
      have := cutL_eq hl
      simp only [List.drop_zero] at this
      have h := Option.some.inj h
      simp only [List.drop_zero, List.take_succ_cons, this, h]
    · cases h
  | c :: r, i + 1, n, vs, h => by
    unfold cutL at h
    rw [List.drop_succ_cons]
    exact cutL_eq h
theorem Rds.cut (k n : Nat) {b i : Nat} {cs vs : List Value} (hk : nthL R k = some (Blk b t cs)) (hc : cutL cs i n = some vs) : Rds W I R ⟨b, i, none⟩ vs := fun j u hj =>
  Rd.ent (Ent.pull k R _ (nthL_eq.symm.trans hk)) (Rds.blk (cutL_eq hc) j u hj)
def plainT (P : Program) (t : TypeId) : Bool := match P.underlying t with
  | some (.struct _) => false
  | some (.array _ _) => false
  | some _ => true
  | none => false
def aggT (P : Program) (t : TypeId) : Bool := match P.underlying t with
  | some (.struct _) => true
  | some (.array _ _) => true
  | _ => false
theorem run_isAgg_plain {P : Program} (h : plainT P t = true) (w : World) : (isAgg t).run P w = .ok false w := by
  unfold plainT at h
  split at h
  · cases h
  · cases h
  · rename_i d h1 h2 hd
    unfold isAgg
    rw [Sem.run_bind, run_underlying hd, Result.andThen_ok]
    cases d <;> first | rfl | exact absurd rfl (h1 _) | exact absurd rfl (h2 _ _)
  · cases h
theorem run_isAgg_agg {P : Program} (h : aggT P t = true) (w : World) : (isAgg t).run P w = .ok true w := by
  unfold aggT at h
  split at h
  · rename_i fs hd; unfold isAgg; rw [Sem.run_bind, run_underlying hd, Result.andThen_ok]; rfl
  · rename_i n el hd; unfold isAgg; rw [Sem.run_bind, run_underlying hd, Result.andThen_ok]; rfl
  · cases h
theorem run_loadVar_plain {P : Program} (h : plainT P t = true) {w : World} (hc : w.cell? A = some v) : (loadVar t A).run P w = .ok v w := by
  unfold loadVar
  rw [Sem.run_bind, run_isAgg_plain h, Result.andThen_ok]
  simp only [Bool.false_eq_true, if_false]
  simp [load, Sem.run, hc]
theorem run_loadVar_agg {P : Program} {n : Nat} {vs : List Value} (h : aggT P t = true) (hn : cellsIn P t = some n) (hl : vs.length = n) {w : World} (hc : ∀ j u, vs[j]? = some u → w.cell? (A.add j) = some u) :
    (loadVar t A).run P w = .ok (.agg vs.toArray) w := by
  unfold loadVar
  rw [Sem.run_bind, run_isAgg_agg h, Result.andThen_ok]
  simp only [if_true]
  rw [Sem.run_bind, cellsIn_run hn, Result.andThen_ok, Sem.run_bind, ← hl, run_loadCells_list w A vs hc]
  rfl
theorem Nx.load (hx : evo e x = some (.pointer (some A))) (ht : plainT C.P t = true) (hlt : Nat.blt d C.n = true) (hr : Rd C.W I R A v)
    (h : Nx C ((d, v) :: e) I R K) : Nx C e I R (opK C.P ⟨some d, .load t x, ty, pos, after, g⟩ K Q) :=
  Nx.op_run rfl hlt (fun a w ha hw => by simp only [execOp, ha.eval hx]; exact run_v (run_loadVar_plain ht (hr w hw))) h
theorem Nx.loads {n : Nat} {vs : List Value} (hx : evo e x = some (.pointer (some A))) (ht : aggT C.P t = true) (hn : cellsIn C.P t = some n) (hlt : Nat.blt d C.n = true) (hr : Rds C.W I R A vs) (hl : vs.length = n)
    (h : Nx C ((d, .agg vs.toArray) :: e) I R K) : Nx C e I R (opK C.P ⟨some d, .load t x, ty, pos, after, g⟩ K Q) :=
  Nx.op_run rfl hlt (fun a w ha hw => by simp only [execOp, ha.eval hx]; exact run_v (run_loadVar_agg ht hn hl (fun j u hj => hr j u hj w hw))) h
/-! ## New memory -/
theorem Sat.alloc {w : World} {I m : PH} (h : Sat w I m) (o : Obj) : Sat (w.alloc o) I ((PH.single w.heap.size o).or m) := by
  have hlt : ∀ {i : Nat} {o' : Obj}, w.heap[i]? = some o' → i < w.heap.size := fun {i o'} hi => (Array.getElem?_eq_some_iff.1 hi).1
  have hold : ∀ {i : Nat} {o' : Obj}, w.heap[i]? = some o' → (w.alloc o).heap[i]? = some o' := fun {i o'} hi => (heap_alloc_old w o i (hlt hi)).trans hi
  refine ⟨fun i o' hi => hold (h.imm i o' hi), fun i o' hi => ?_, PH.dis_or.2 ⟨fun i => ?_, h.dis⟩⟩
  · rcases PH.or_eq_some hi with h1 | ⟨_, h1⟩
    · have h2 : (if i = w.heap.size then some o else none) = some o' := h1
      by_cases he : i = w.heap.size
      · rw [if_pos he] at h2; subst he
        obtain rfl : o = o' := by simpa using h2
        exact heap_alloc_new w o
      · rw [if_neg he] at h2; cases h2
    · exact hold (h.own i o' h1)
  · unfold PH.single
    by_cases he : i = w.heap.size
    · left
      cases hi : I i with
      | none => rfl
      | some o' => have := hlt (h.imm i o' hi); omega
    · right; rw [if_neg he]
theorem St.alloc {w : World} (h : St W I R w) (o : Obj) : St W I ((fun m => m w.heap.size = some o) :: R) (w.alloc o) := by
  obtain ⟨⟨m, hm, hs⟩, hst⟩ := h
  refine ⟨⟨_, ⟨_, m, ?_, rfl, by simp [PH.single], hm⟩, hs.alloc o⟩, hst.os, hst.tape, hst.output, Nat.le_trans hst.size (by simp), hst.drawn⟩
  intro i
  unfold PH.single
  by_cases he : i = w.heap.size
  · right
    cases hi : m i with
    | none => rfl
    | some o' => have := (Array.getElem?_eq_some_iff.1 (hs.own i o' hi)).1; omega
  · left; rw [if_neg he]
theorem Nx.op_new {o : Oper} {d : Nat} {v : Nat → Value} {ob : Obj} (hd : o.dst = some d) (hlt : Nat.blt d C.n = true)
    (hrun : ∀ a w, Mod C.n e a → St C.W I R w → (execOp a.eval o).run C.P w = .ok (.value (v w.heap.size)) (w.alloc ob))
    (h : ∀ b, Nx C ((d, v b) :: e) I ((fun m => m b = some ob) :: R) K) : Nx C e I R (opK C.P o K Q) := by
  intro a w ha hw
  unfold opK Oper.wp
  rw [hrun a w ha hw]
  show K (a.put o.dst (v w.heap.size)) (w.alloc ob)
  rw [hd]
  exact h _ _ _ (ha.put hlt _) (hw.alloc ob)
theorem Nx.box {cs : List Value} (hx : evo e x = some vx) (hc : vx.cells.toList = cs) (hlt : Nat.blt d C.n = true)
    (h : ∀ b, Nx C ((d, .pointer (some ⟨b, 0, none⟩)) :: e) I (Blk b t cs :: R) K) : Nx C e I R (opK C.P ⟨some d, .box t x, ty, pos, after, g⟩ K Q) :=
  Nx.op_new (v := fun b => .pointer (some ⟨b, 0, none⟩)) (ob := .cells cs.toArray t) rfl hlt (fun a w ha hw => by
    subst hc
    simp only [execOp, ha.eval hx]
    exact run_v rfl) h
theorem Nx.box_agg {cs : List Value} (hx : evo e x = some (.agg cs.toArray)) (hlt : Nat.blt d C.n = true)
    (h : ∀ b, Nx C ((d, .pointer (some ⟨b, 0, none⟩)) :: e) I (Blk b t cs :: R) K) : Nx C e I R (opK C.P ⟨some d, .box t x, ty, pos, after, g⟩ K Q) :=
  Nx.box hx rfl hlt h
theorem Nx.box1 (hx : evo e x = some vx) (h1 : vx.cells = #[vx]) (hlt : Nat.blt d C.n = true)
    (h : ∀ b, Nx C ((d, .pointer (some ⟨b, 0, none⟩)) :: e) I (Blk b t [vx] :: R) K) : Nx C e I R (opK C.P ⟨some d, .box t x, ty, pos, after, g⟩ K Q) :=
  Nx.box hx (by rw [h1]) hlt h
/-- A value's cells, as a list that is written out. -/
def cellsL : Value → List Value
  | .agg ⟨l⟩ => l
  | v => [v]
theorem cellsL_eq (v : Value) : v.cells.toList = cellsL v := by cases v <;> rfl
def forceL : List Value → Option (List Value)
  | [] => some []
  | v :: r => match forceL r with
    | some r' => some (v :: r')
    | none => none
theorem forceL_eq : ∀ {l l' : List Value}, forceL l = some l' → l' = l
  | [], l', h => by simp [forceL] at h; exact h
  | v :: r, l', h => by
    unfold forceL at h
    split at h
    · rename_i r' hr
      simp at h
      rw [← h, forceL_eq hr]
    · cases h
def zeroOf (P : Program) (t : TypeId) : Option (List Value) := match P.info? t with
  | some i => match i.zero with
    | some z => forceL (cellsL z)
    | none => none
  | none => none
theorem zeroOf_run {P : Program} {cs : List Value} (h : zeroOf P t = some cs) (w : World) : ∃ z : Value, z.cells = cs.toArray ∧ (zeroValue t).run P w = .ok z w := by
  unfold zeroOf at h
  split at h
  · rename_i i hi
    split at h
    · rename_i z hz
      refine ⟨z, by rw [forceL_eq h, ← cellsL_eq], by simp [zeroValue, typeInfo, hi, hz]⟩
    · cases h
  · cases h
theorem Nx.alloc {cs : List Value} (hz : zeroOf C.P t = some cs) (hlt : Nat.blt d C.n = true)
    (h : ∀ b, Nx C ((d, .pointer (some ⟨b, 0, none⟩)) :: e) I (Blk b t cs :: R) K) : Nx C e I R (opK C.P ⟨some d, .alloc t, ty, pos, after, g⟩ K Q) :=
  Nx.op_new (v := fun b => .pointer (some ⟨b, 0, none⟩)) (ob := .cells cs.toArray t) rfl hlt (fun a w ha hw => by
    obtain ⟨z, hzc, hrun⟩ := zeroOf_run hz w
    refine run_v ?_
    unfold Instr.alloc
    rw [Sem.run_bind, hrun, Result.andThen_ok]
    simp only [newVar, hzc]
    rfl) h
/-- A struct's literal: its cells, written out. -/
def setAtB : List Value → Nat → Value → Option (List Value)
  | [], _, _ => none
  | _ :: r, 0, v => some (v :: r)
  | c :: r, i + 1, v => match setAtB r i v with
    | some r' => some (c :: r')
    | none => none
def setsAtB : List Value → Nat → List Value → Option (List Value)
  | cs, _, [] => some cs
  | cs, i, v :: vs => match setAtB cs i v with
    | none => none
    | some cs' => setsAtB cs' (i + 1) vs
def buildRun (P : Program) (t : TypeId) : List (Nat × Value) → List Value → Option (List Value)
  | [], cs => forceL cs
  | (k, v) :: r, cs => match fieldOff P t k with
    | none => none
    | some o => match setsAtB cs o (cellsL v) with
      | none => none
      | some cs' => buildRun P t r cs'
def buildV (P : Program) (t : TypeId) (parts : List (Nat × Value)) : Option (List Value) := match zeroOf P t with
  | none => none
  | some zs => buildRun P t parts zs
/-- 'hcs' finds the cells, 'hv' holds them against the model's own run. -/
theorem Nx.build {parts : Array (Nat × Operand)} {vs cs : List Value} (hx : evs e (parts.toList.map (·.2)) = some vs)
    (hcs : buildV C.P t ((parts.toList.map (·.1)).zip vs) = some cs) (hv : pureRun C.P (Instr.build t (((parts.toList.map (·.1)).zip vs).toArray)) = some (.agg cs.toArray)) (hlt : Nat.blt d C.n = true)
    (h : Nx C ((d, .agg cs.toArray) :: e) I R K) : Nx C e I R (opK C.P ⟨some d, .build t parts, ty, pos, after, g⟩ K Q) :=
  have _ := hcs
  Nx.op_run rfl hlt (fun a w ha _ => by
    have e1 : (parts.map fun (i, x) => (i, a.eval x)) = ((parts.toList.map (·.1)).zip vs).toArray := by
      rw [← ha.evals hx]
      apply Array.ext'
      simp only [Array.toList_map]
      induction parts.toList with
      | nil => rfl
      | cons p r ih => simp [ih]
    simp only [execOp, e1]
    exact run_v (run_of_pureRun hv w)) h
/-- The cells of a slice's literal whose parts stand one behind the other. -/
def litRun : List (Nat × Value) → Nat → Nat → Option (List Value)
  | [], _, _ => some []
  | (j, v) :: r, i, sz => match Nat.beq j i with
    | false => none
    | true => match Nat.beq (cellsL v).length sz with
      | false => none
      | true => match litRun r (i + 1) sz with
        | none => none
        | some cs => forceL (cellsL v ++ cs)
theorem foldl_set : ∀ (vs : List Value) (k : Nat) (pre : List Value) (mid post : List Value), mid.length = vs.length → pre.length = k →
    (vs.zipIdx 0).foldl (fun (cs : Array Value) (p : Value × Nat) => cs.setIfInBounds (k + p.2) p.1) (pre ++ mid ++ post).toArray = (pre ++ vs ++ post).toArray := by
  have key : ∀ (vs : List Value) (n k : Nat) (pre mid post : List Value), mid.length = vs.length → pre.length = k + n →
      (vs.zipIdx n).foldl (fun (cs : Array Value) (p : Value × Nat) => cs.setIfInBounds (k + p.2) p.1) (pre ++ mid ++ post).toArray = (pre ++ vs ++ post).toArray := by
    intro vs
    induction vs with
    | nil =>
      intro n k pre mid post hm _
      have : mid = [] := List.eq_nil_of_length_eq_zero (by simpa using hm)
      subst this
      simp
    | cons v vs ih =>
      intro n k pre mid post hm hp
      cases mid with
      | nil => simp at hm
      | cons m mid =>
        simp only [List.zipIdx_cons, List.foldl_cons]
        have hset : (pre ++ m :: mid ++ post).toArray.setIfInBounds (k + n) v = ((pre ++ [v]) ++ mid ++ post).toArray := by
          apply Array.ext'
          simp only [Array.toList_setIfInBounds]
          rw [List.append_assoc, List.set_append]
          rw [if_neg (by omega)]
          have : k + n - pre.length = 0 := by omega
          rw [this]
          simp
        rw [hset, ih (n + 1) k (pre ++ [v]) mid post (by simpa using hm) (by simp; omega)]
        simp
  intro vs k pre mid post hm hp
  exact key vs 0 k pre mid post hm (by omega)
theorem litRun_fill : ∀ (parts : List (Nat × Value)) (i sz : Nat) (cs pre mid : List Value), litRun parts i sz = some cs → mid.length = parts.length * sz → pre.length = i * sz →
    Instr.fill (fun i => some (i * sz, sz)) (pre ++ mid).toArray parts = some (pre ++ cs).toArray
  | [], i, sz, cs, pre, mid, h, hm, _ => by
    simp [litRun] at h; subst h
    have : mid = [] := List.eq_nil_of_length_eq_zero (by simpa using hm)
    subst this
    rfl
  | (j, v) :: r, i, sz, cs, pre, mid, h, hm, hp => by
    unfold litRun at h
    split at h
    · cases h
    · rename_i hj
      split at h
      · cases h
      · rename_i hl
        split at h
        · cases h
        · rename_i cs' hcs
          have h := forceL_eq h
          subst h
          obtain rfl := Nat.eq_of_beq_eq_true hj
          have hl := Nat.eq_of_beq_eq_true hl
          have hsz : v.cells.size = sz := by rw [← hl, ← cellsL_eq]; simp
          simp only [List.length_cons, Nat.add_mul, Nat.one_mul] at hm
          unfold Instr.fill
          simp only
          rw [if_neg (by simp [hsz]; omega)]
          have e1 : v.cells.zipIdx.foldl (fun cs p => cs.setIfInBounds (j * sz + p.2) p.1) (pre ++ mid).toArray = ((pre ++ cellsL v) ++ mid.drop sz).toArray := by
            rw [← Array.foldl_toList, Array.toList_zipIdx, cellsL_eq]
            have := foldl_set (cellsL v) (j * sz) pre (mid.take sz) (mid.drop sz) (by simp; omega) hp
            rw [List.append_assoc, List.take_append_drop] at this
            exact this
          have e2 : (v.cells.zipIdx.foldl (fun cs (x : Value × Nat) => match x with | (c, j_1) => cs.setIfInBounds (j * sz + j_1) c) (pre ++ mid).toArray) = ((pre ++ cellsL v) ++ mid.drop sz).toArray := e1
          rw [e2, litRun_fill r (j + 1) sz cs' (pre ++ cellsL v) (mid.drop sz) hcs (by simp; omega) (by simp [hp, hl, Nat.add_mul])]
          simp
theorem Nx.buildSlice {el : TypeId} {len sz : Nat} {parts : Array (Nat × Operand)} {vs cs zs : List Value} (hx : evs e (parts.toList.map (·.2)) = some vs) (ht : C.P.underlying t = some (.slice el)) (hsz : cellsIn C.P el = some sz)
    (hv : litRun ((parts.toList.map (·.1)).zip vs) 0 sz = some cs) (hcnt : Nat.beq vs.length len = true) (hz : zeroOf C.P el = some zs) (hsm : Nat.ble (len * sz) 16777216 = true) (hpos : Nat.beq (len * sz) 0 = false) (hlt : Nat.blt d C.n = true)
    (h : ∀ b, Nx C ((d, .slice (some ⟨b, 0, none⟩) len len) :: e) I (Blk b el cs :: R) K) : Nx C e I R (opK C.P ⟨some d, .buildSlice t len parts, ty, pos, after, g⟩ K Q) :=
  Nx.op_new (v := fun b => .slice (some ⟨b, 0, none⟩) len len) (ob := .cells cs.toArray el) rfl hlt (fun a w ha hw => by
    have hlen : vs.length = len := Nat.eq_of_beq_eq_true hcnt
    have e1 : (parts.map fun (i, x) => (i, a.eval x)).toList = (parts.toList.map (·.1)).zip vs := by
      rw [← ha.evals hx]
      simp only [Array.toList_map]
      induction parts.toList with
      | nil => rfl
      | cons p r ih => simp [ih]
    have hpl : ((parts.toList.map (·.1)).zip vs).length = len := by
      have : (parts.toList.map (·.2)).length = vs.length := by rw [← ha.evals hx]; simp
      simp at this
      simp [← hlen]; omega
    simp only [execOp]
    refine run_v ?_
    have hle : ¬ len * sz > 2 ^ 24 := by have := Nat.le_of_ble_eq_true hsm; omega
    have hne : ¬ len * sz = 0 := Nat.ne_of_beq_eq_false hpos
    obtain ⟨z, hzc, hzrun⟩ := zeroOf_run hz w
    have hf := litRun_fill _ 0 sz cs [] ((Array.range (len * sz)).map (z.cells[· % z.cells.size]!)).toList hv (by simp [hpl]) (by simp)
    simp only [List.nil_append, Array.toArray_toList] at hf
    unfold Instr.buildSlice
    rw [Sem.run_bind, run_underlying ht, Result.andThen_ok]
    simp only
    rw [Sem.run_bind, cellsIn_run hsz, Result.andThen_ok, if_neg hle, if_neg hne]
    simp only [Sem.run_bind, Sem.run_pure, Result.andThen_ok, hzrun, e1, hf]
    rfl) h
/-- []T{}: an empty row. -/
theorem Nx.buildSlice0 {el : TypeId} {sz : Nat} (ht : C.P.underlying t = some (.slice el)) (hsz : cellsIn C.P el = some sz) (hlt : Nat.blt d C.n = true)
    (h : ∀ b, Nx C ((d, .slice (some ⟨b, 0, none⟩) 0 0) :: e) I (Blk b el [] :: R) K) : Nx C e I R (opK C.P ⟨some d, .buildSlice t 0 #[], ty, pos, after, g⟩ K Q) :=
  Nx.op_new (v := fun b => .slice (some ⟨b, 0, none⟩) 0 0) (ob := .cells #[] el) rfl hlt (fun a w ha hw => by
    simp only [execOp]
    refine run_v ?_
    unfold Instr.buildSlice
    rw [Sem.run_bind, run_underlying ht, Result.andThen_ok]
    have hz : (sizeOf el).run C.P w = .ok sz w := cellsIn_run hsz w
    have hr : (Array.map (fun _ => (default : Value)) (Array.range 0)) = #[] := by simp [Array.range]
    have hf : Instr.fill (fun i => some (i * sz, sz)) (#[] : Array Value) [] = some #[] := rfl
    simp [hz, hr, hf]
    rfl) h
end
end Go.Eng
/-
  The proof engine, part C: calls and contracts, returns, stores, slices that are owned.
-/
namespace Go.Eng
/-! ## Contracts -/
/-- Called in any memory that holds 'Rpre' beside any other, the function returns a value, and memory holds what 'Post' says beside that other. -/
def FnSpec (P : Program) (f : FuncId) (args : List Value) (I : PH) (Rpre : List Res) (Post : Value → List Res → Prop) : Prop :=
  ∀ (w : World) (F : Res), St w I (Rpre ++ [F]) w → Calls P f args.toArray w fun e w' => ∃ v R', e = .returned v ∧ Post v R' ∧ St w I (R' ++ [F]) w'
def fnPost (P : Program) (fn : Func) (I : PH) (F : Res) (W : World) (Post : Value → List Res → Prop) : Exit → Act → World → Prop :=
  bodyPost P fn fun e w' => ∃ v R', e = .returned v ∧ Post v R' ∧ St W I (R' ++ [F]) w'
def argEnv : List Value → Nat → Env
  | [], _ => []
  | v :: r, i => (i, v) :: argEnv r (i + 1)
theorem argEnv_lk : ∀ (l : List Value) (i t : Nat) (v : Value), lk (argEnv l i) t = some v → i ≤ t ∧ l[t - i]? = some v
  | [], i, t, v, h => by simp [argEnv, lk] at h
  | u :: r, i, t, v, h => by
    unfold argEnv lk at h
    split at h
    · rename_i he
      have he : i = t := Nat.eq_of_beq_eq_true he
      simp at h
      subst he; subst h
      simp
    · rename_i he
      have he : i ≠ t := Nat.ne_of_beq_eq_false he
      obtain ⟨h1, h2⟩ := argEnv_lk r (i + 1) t v h
      refine ⟨by omega, ?_⟩
      rw [show t - i = (t - (i + 1)) + 1 by omega]
      simpa using h2
set_option maxHeartbeats 8000000 in
theorem FnSpec.enter {P : Program} {f : FuncId} {fn : Func} {c : Code} {args : List Value} {I : PH} {Rpre : List Res} {Post : Value → List Res → Prop} {n : Nat}
    (hf : P.funcs[f]? = some fn) (hb : fn.body = some c) (hn : fn.ntmps = n) (hle : Nat.ble args.length n = true)
    (h : ∀ w F, Nx ⟨P, n, w⟩ (argEnv args 0) I (Rpre ++ [F]) (c.wp P (fnPost P fn I F w Post))) : FnSpec P f args I Rpre Post := by
  intro w F hw
  have hle := Nat.le_of_ble_eq_true hle
  refine calls_of_wp hf hb (h w F _ w ⟨?_, rfl, fun t v ht => ?_⟩ hw)
  · simp [hn]; omega
  · obtain ⟨_, h2⟩ := argEnv_lk args 0 t v ht
    have hlt : t < args.length := by
      rcases Nat.lt_or_ge t args.length with h' | h'
      · exact h'
      · rw [Nat.sub_zero, List.getElem?_eq_none h'] at h2; cases h2
    rw [Array.getElem?_append_left (by simpa using hlt)]
    simpa using h2
set_option maxHeartbeats 8000000 in
theorem FnSpec.mono {P : Program} {f : FuncId} {args : List Value} {I : PH} {Rpre : List Res} {Post Post' : Value → List Res → Prop} (h : FnSpec P f args I Rpre Post) (hp : ∀ v R', Post v R' → Post' v R') : FnSpec P f args I Rpre Post' :=
  fun w F hw => (h w F hw).mono fun _ _ ⟨v, R', he, hv, hs⟩ => ⟨v, R', he, hp v R' hv, hs⟩
def callable (P : Program) (f : FuncId) : Bool := match P.funcs[f]? with
  | some fn => !(fn.name == "runtime.NumGoroutine") && fn.body.isSome
  | none => false
theorem run_callFunc {P : Program} {f : FuncId} (h : callable P f = true) (args : Array Value) (w : World) : (callFunc f args).run P w = .ok (.enter f args) w := by
  unfold callable at h
  split at h
  · rename_i fn hfn
    simp only [Bool.and_eq_true, Bool.not_eq_true'] at h
    have hb : fn.body.isNone = false := by
      cases hb : fn.body with
      | none => rw [hb] at h; cases h.2
      | some c => rfl
    unfold callFunc
    simp only [program, bind, Sem.bind, Sem.run, hfn, h.1, hb, Bool.false_eq_true, if_false]
    rfl
  · cases h
section
variable {C : Cx} {e e' : Env} {I : PH} {R R' : List Res} {K K' : Act → World → Prop} {Q : Exit → Act → World → Prop}
variable {d : Nat} {ty t u : TypeId} {pos : String} {after : Array Edge} {g : Option (Nat × Bool)} {x y z : Operand} {v vx vy vz : Value}
theorem run_call {P : Program} {ρ : Operand → Value} {o : Oper} {fx : Operand} {args : Array Operand} {tys : Array TypeId} {f : FuncId} {c1 c2 : Array Value} {vs al : List Value} {w : World}
    (ho : o.op = .call { callee := .value fx, args, argTypes := tys }) (hfx : ρ fx = .func (.func f) c1 c2) (hvs : args.toList.map ρ = vs) (hal : c1.toList ++ vs ++ c2.toList = al) (hc : callable P f = true) :
    (execOp ρ o).run P w = .ok (.enter f al.toArray) w := by
  have e1 : c1 ++ args.map ρ ++ c2 = al.toArray := by
    rw [← hal, ← hvs]
    apply Array.ext'
    simp
  unfold execOp
  simp only [ho, resolve, hfx, Deferred.ofValue]
  rw [Sem.run_bind]
  show Sem.run P (callFunc f (c1 ++ args.map ρ ++ c2)) w = _
  rw [e1]
  exact run_callFunc hc _ w
theorem St.split {W : World} {A B : List Res} {w : World} (h : St W I (A ++ B) w) : St w I (A ++ [Stars B]) w := by
  obtain ⟨⟨m, hm, hs⟩, _⟩ := h.ent (Ent.foldAt A B)
  exact ⟨⟨m, hm, hs⟩, Still.refl w⟩
theorem St.unsplit {W w0 : World} {A B : List Res} {w : World} (h0 : Still W w0) (h : St w0 I (A ++ [Stars B]) w) : St W I (A ++ B) w := by
  obtain ⟨hm, hs⟩ := h.ent (Ent.unfoldAt A B)
  exact ⟨hm, h0.trans hs⟩
set_option maxHeartbeats 8000000 in
/-- A call, by the callee's contract. -/
theorem Nx.call {fx : Operand} {args : Array Operand} {tys : Array TypeId} {f : FuncId} {c1 c2 : Array Value} {vs al : List Value} {Rpre Rrest : List Res} {Post : Value → List Res → Prop}
    (hfx : evo e fx = some (.func (.func f) c1 c2)) (hvs : evs e args.toList = some vs) (hal : c1.toList ++ vs ++ c2.toList = al) (hc : callable C.P f = true) (hlt : Nat.blt d C.n = true)
    (hs : FnSpec C.P f al I Rpre Post) (hR : Ent R (Rpre ++ Rrest))
    (h : ∀ v R', Post v R' → Nx C ((d, v) :: e) I (R' ++ Rrest) K) : Nx C e I R (opK C.P ⟨some d, .call { callee := .value fx, args, argTypes := tys }, ty, pos, after, g⟩ K Q) := by
  intro a w ha hw
  unfold opK Oper.wp
  rw [run_call rfl (ha.eval hfx) (ha.evals hvs) hal hc]
  refine Calls.mono (hs w (Stars Rrest) (hw.ent hR).split) ?_
  rintro en w' ⟨v, R', rfl, hv, hst⟩
  exact h v R' hv _ w' (ha.put hlt v) (hst.unsplit hw.still)
theorem St.lend {W : World} {B A : List Res} {w : World} (h : St W I (B ++ A) w) : ∃ m, PH.dis I m ∧ Stars B m ∧ St W (I.or m) A w ∧
    ∀ {w' : World} {A' : List Res}, St W (I.or m) A' w' → St W I (B ++ A') w' := by
  obtain ⟨⟨m, hm, hs⟩, hst⟩ := h
  obtain ⟨m1, m2, hd, rfl, h1, h2⟩ := Stars.append hm
  have hd' := PH.dis_or.1 hs.dis
  refine ⟨m1, hd'.1, h1, ⟨⟨m2, h2, ⟨fun i o hi => ?_, fun i o hi => hs.own i o (PH.le_or_right hd i o hi), ?_⟩⟩, hst⟩, ?_⟩
  · rcases PH.or_eq_some hi with hi | ⟨_, hi⟩
    · exact hs.imm i o hi
    · exact hs.own i o (PH.le_or_left _ _ i o hi)
  · exact (PH.dis_or.2 ⟨hd'.2.symm, hd.symm⟩).symm
  · rintro w' A' ⟨⟨m', hm', hs'⟩, hst'⟩
    have hda := PH.dis_or.1 hs'.dis.symm
    obtain ⟨k, hk, hkS⟩ := Stars.join hda.2.symm h1 hm'
    refine ⟨⟨k, hkS, ⟨fun i o hi => hs'.imm i o (PH.le_or_left _ _ i o hi), fun i o hi => ?_, ?_⟩⟩, hst'⟩
    · rcases PH.or_eq_some (hk i o hi) with hi' | ⟨_, hi'⟩
      · exact hs'.imm i o (PH.le_or_right hd'.1 i o hi')
      · exact hs'.own i o hi'
    · exact dis_sub (PH.dis_or.2 ⟨hd'.1, hda.1.symm⟩) (PH.le_refl _) hk
set_option maxHeartbeats 8000000 in
/-- A call to which some of what is owned is lent for reading. -/
theorem Nx.call_lend {fx : Operand} {args : Array Operand} {tys : Array TypeId} {f : FuncId} {c1 c2 : Array Value} {vs al : List Value} {B Rpre Rrest : List Res} {Post : Value → List Res → Prop}
    (hfx : evo e fx = some (.func (.func f) c1 c2)) (hvs : evs e args.toList = some vs) (hal : c1.toList ++ vs ++ c2.toList = al) (hc : callable C.P f = true) (hlt : Nat.blt d C.n = true)
    (hs : ∀ m, PH.dis I m → Stars B m → FnSpec C.P f al (I.or m) Rpre Post) (hR : Ent R (B ++ (Rpre ++ Rrest)))
    (h : ∀ v R', Post v R' → Nx C ((d, v) :: e) I (B ++ (R' ++ Rrest)) K) : Nx C e I R (opK C.P ⟨some d, .call { callee := .value fx, args, argTypes := tys }, ty, pos, after, g⟩ K Q) := by
  intro a w ha hw
  unfold opK Oper.wp
  rw [run_call rfl (ha.eval hfx) (ha.evals hvs) hal hc]
  obtain ⟨m, hd, hB, hl, hback⟩ := (hw.ent hR).lend
  refine Calls.mono (hs m hd hB w (Stars Rrest) hl.split) ?_
  rintro en w' ⟨v, R', rfl, hv, hst⟩
  exact h v R' hv _ w' (ha.put hlt v) (hback (hst.unsplit hw.still))
/-- What is owned is given up for a while: nobody writes it. -/
theorem Nx.freeze {B : List Res} (hR : Ent R (B ++ R')) (h : ∀ m, PH.dis I m → Stars B m → Nx C e (I.or m) R' K) : Nx C e I R K := by
  intro a w ha hw
  obtain ⟨m, hd, hB, hl, _⟩ := (hw.ent hR).lend
  exact h m hd hB a w ha hl
/-! ## The end of a function -/
def resV (e : Env) : List ResultVar → Option Value
  | [] => some (.tuple #[])
  | [.tmp t] => lk e t
  | [.tmp t, .tmp u] => match lk e t, lk e u with
    | some a, some b => some (.tuple #[a, b])
    | _, _ => none
  | [.tmp t, .tmp u, .tmp x] => match lk e t, lk e u, lk e x with
    | some a, some b, some c => some (.tuple #[a, b, c])
    | _, _, _ => none
  | [.tmp t, .tmp u, .tmp x, .tmp y] => match lk e t, lk e u, lk e x, lk e y with
    | some a, some b, some c, some d => some (.tuple #[a, b, c, d])
    | _, _, _, _ => none
  | _ => none
theorem resV_run {n : Nat} {a : Act} (ha : Mod n e a) {P : Program} {w : World} {fn : Func} {v : Value} (h : resV e fn.results.toList = some v) : (results fn a.tmps).run P w = .ok v w := by
  have hd : ∀ {t : Nat} {u : Value}, lk e t = some u → a.tmps[t]?.getD undef = u := fun {t u} ht => by simp [ha.get t u ht]
  generalize hl : fn.results.toList = l at h
  have hr : fn.results = l.toArray := by rw [← hl]
  unfold resV at h
  split at h
  · simp at h; subst h; simp [results, hr]
  · rename_i t; simp [results, hr, hd h]
  · rename_i t u
    split at h
    · rename_i v1 v2 h1 h2; simp at h; subst h; simp [results, hr, hd h1, hd h2]
    · cases h
  · rename_i t u x
    split at h
    · rename_i v1 v2 v3 h1 h2 h3; simp at h; subst h; simp [results, hr, hd h1, hd h2, hd h3]
    · cases h
  · rename_i t u x y
    split at h
    · rename_i v1 v2 v3 v4 h1 h2 h3 h4; simp at h; subst h; simp [results, hr, hd h1, hd h2, hd h3, hd h4]
    · cases h
  · cases h
theorem Nx.ret_fn {fn : Func} {F : Res} {Post : Value → List Res → Prop} (hv : resV e fn.results.toList = some v) (R' : List Res) (hp : Post v R') (hR : Ent R (R' ++ [F])) : Nx C e I R (fnPost C.P fn I F C.W Post .ret) :=
  fun _ _ ha hw => ⟨ha.defers, v, resV_run ha hv, v, R', rfl, hp, hw.ent hR⟩
theorem Nx.end_fn {fn : Func} {F : Res} {Post : Value → List Res → Prop} (hv : resV e fn.results.toList = some v) (R' : List Res) (hp : Post v R') (hR : Ent R (R' ++ [F])) : Nx C e I R (fnPost C.P fn I F C.W Post .normal) :=
  fun _ _ ha hw => ⟨ha.defers, v, resV_run ha hv, v, R', rfl, hp, hw.ent hR⟩
/-! ## Stores -/
/-- 'vs' may be stored from the cell A on; behind it memory holds R'. -/
def Wr (P : Program) (W : World) (I : PH) (R : List Res) (A : Addr) (vs : List Value) (R' : List Res) : Prop :=
  ∀ w, St W I R w → ∃ w', (storeCells A vs).run P w = .ok () w' ∧ St W I R' w'
theorem Wr.tail {P : Program} {W : World} {A : Addr} {vs : List Value} {r : Res} (h : ∀ W F, Wr P W I (R ++ [F]) A vs (R' ++ [F])) : Wr P W I (r :: R) A vs (r :: R') := by
  intro w hw
  have h1 : St W I (R ++ [r]) w := hw.ent (by
    intro m hm
    obtain ⟨m1, m2, hd, rfl, h1, h2⟩ := hm
    obtain ⟨k, hk, hkS⟩ := Stars.join (a := R) (b := [r]) hd.symm h2 ⟨m1, fun _ => none, fun _ => .inr rfl, by funext i; unfold PH.or; cases m1 i <;> rfl, h1, trivial⟩
    exact ⟨k, by rw [PH.or_comm hd]; exact hk, hkS⟩)
  obtain ⟨w', hr, hst⟩ := h W r w h1
  refine ⟨w', hr, hst.ent ?_⟩
  intro m hm
  obtain ⟨m1, m2, hd, rfl, h1, n1, n2, hd', rfl, hr', _⟩ := Stars.append hm
  refine ⟨n1.or m1, ?_, n1, m1, (PH.dis_or.1 hd).1.symm, rfl, hr', h1⟩
  exact PH.or_le ((PH.le_or_left _ _).trans (PH.le_or_right hd)) (PH.le_or_left _ _)
/-- The block b of the first resource turns into o; all else stays. -/
theorem St.upd {W w w' : World} {r r' : Res} {b : Nat} {o : Obj} (h : St W I (r :: R) w) (hr : ∀ m, r m → (m b).isSome = true ∧ r' (fun i => if i = b then some o else m i))
    (hb : w'.heap[b]? = some o) (hne : ∀ i, i ≠ b → ∀ o', w.heap[i]? = some o' → w'.heap[i]? = some o') (hst : Still w w') : St W I (r' :: R) w' := by
  obtain ⟨⟨m, ⟨m1, m2, hd, rfl, h1, h2⟩, hs⟩, hst0⟩ := h
  obtain ⟨hsome, hr'⟩ := hr m1 h1
  have hIb : I b = none := by
    rcases hs.dis b with e | e
    · exact e
    · rw [(PH.or_eq_none.1 e).1] at hsome; cases hsome
  have h2b : m2 b = none := by
    rcases hd b with e | e
    · rw [e] at hsome; cases hsome
    · exact e
  refine ⟨⟨_, ⟨_, m2, ?_, rfl, hr', h2⟩, ⟨fun i o' hi => ?_, fun i o' hi => ?_, fun i => ?_⟩⟩, hst0.trans hst⟩
  · intro i
    by_cases hi : i = b
    · subst hi; exact .inr h2b
    · simp only [hi, if_false]; exact hd i
  · by_cases hib : i = b
    · subst hib; rw [hIb] at hi; cases hi
    · exact hne i hib o' (hs.imm i o' hi)
  · by_cases hib : i = b
    · subst hib
      rcases PH.or_eq_some hi with hi | ⟨hi, _⟩
      · simp at hi; subst hi; exact hb
      · simp at hi
    · refine hne i hib o' (hs.own i o' ?_)
      rcases PH.or_eq_some hi with hi | ⟨hi, hi'⟩
      · simp only [hib, if_false] at hi; exact PH.le_or_left _ _ i o' hi
      · exact PH.le_or_right hd i o' hi'
  · by_cases hib : i = b
    · subst hib; exact .inl hIb
    · rcases hs.dis i with e | e
      · exact .inl e
      · right
        have := PH.or_eq_none.1 e
        exact PH.or_eq_none.2 ⟨by simp only [hib, if_false]; exact this.1, this.2⟩
/-- Cells of a literal, set one behind the other (the list is written out). -/
def setAt : List Value → Nat → Value → Option (List Value)
  | [], _, _ => none
  | _ :: r, 0, v => some (v :: r)
  | c :: r, i + 1, v => match setAt r i v with
    | some r' => some (c :: r')
    | none => none
theorem setAt_eq : ∀ {l l' : List Value} {i : Nat} {v : Value}, setAt l i v = some l' → i < l.length ∧ l' = l.set i v
  | [], l', i, v, h => by simp [setAt] at h
  | c :: r, l', 0, v, h => by simp [setAt] at h; simp [h]
  | c :: r, l', i + 1, v, h => by
    unfold setAt at h
    split at h
    · rename_i r' hr
      obtain ⟨h1, h2⟩ := setAt_eq hr
      simp at h
      subst h; subst h2
      simp; omega
    · cases h
def setsAt : List Value → Nat → List Value → Option (List Value)
  | cs, _, [] => some cs
  | cs, i, v :: vs => match setAt cs i v with
    | none => none
    | some cs' => setsAt cs' (i + 1) vs
theorem Wr.nil {P : Program} {W : World} {A : Addr} : Wr P W I R A [] R := fun w hw => ⟨w, rfl, hw⟩
theorem run_store1 {P : Program} {w : World} {b i : Nat} {t : TypeId} {cs : Array Value} {v : Value} (hb : w.heap[b]? = some (.cells cs t (0, 0))) (hi : i < cs.size) (h1 : v.oneCell' = true) :
    (store ⟨b, i, none⟩ v).run P w = .ok () (w.setCell ⟨b, i, none⟩ v) := by
  rw [run_store P w _ v _ h1]
  have hc : w.cell? ⟨b, i, none⟩ = some cs[i] := by rw [cell_of_row w b i cs t (0, 0) hb]; exact Array.getElem?_eq_getElem hi
  simp [hc, frozen_of_row w b i cs t hb]
theorem storeCells_from {P : Program} {b : Nat} {t : TypeId} : ∀ (vs cs cs' : List Value) (i j : Nat) (w : World), w.heap[b]? = some (.cells cs.toArray t (0, 0)) → setsAt cs (i + j) vs = some cs' → (∀ v ∈ vs, v.oneCell' = true) →
    ∃ w', (storeCells ⟨b, i, none⟩ vs j).run P w = .ok () w' ∧ w'.heap[b]? = some (.cells cs'.toArray t (0, 0)) ∧ (∀ k, k ≠ b → w'.heap[k]? = w.heap[k]?) ∧ Still w w'
  | [], cs, cs', i, j, w, hb, hs, _ => by simp [setsAt] at hs; subst hs; exact ⟨w, rfl, hb, fun _ _ => rfl, Still.refl w⟩
  | v :: vs, cs, cs', i, j, w, hb, hs, h1 => by
    unfold setsAt at hs
    split at hs
    · cases hs
    · rename_i cs1 hcs1
      obtain ⟨hlt, he⟩ := setAt_eq hcs1
      have hrun := run_store1 (P := P) hb (i := i + j) (by simpa using hlt) (h1 v (by simp))
      have hb1 : (w.setCell ⟨b, i + j, none⟩ v).heap[b]? = some (.cells cs1.toArray t (0, 0)) := by
        rw [heap_setCell_same w b (i + j) cs.toArray t v hb, he]
        simp
      obtain ⟨w', hr, hb', hk, hst⟩ := storeCells_from (P := P) vs cs1 cs' i (j + 1) _ hb1 hs (fun u hu => h1 u (by simp [hu]))
      refine ⟨w', ?_, hb', fun k hne => (hk k hne).trans (heap_setCell_other w _ k v hne), Still.trans (b := w.setCell ⟨b, i + j, none⟩ v) ⟨rfl, rfl, rfl, by simp, Nat.le_refl _⟩ hst⟩
      unfold storeCells
      rw [Sem.run_bind, Addr.add_lit, hrun, Result.andThen_ok]
      exact hr
theorem Wr.blk {P : Program} {W : World} {b i : Nat} {cs vs cs' : List Value} (hs : setsAt cs i vs = some cs') (h1 : ∀ v ∈ vs, v.oneCell' = true) : Wr P W I (Blk b t cs :: R) ⟨b, i, none⟩ vs (Blk b t cs' :: R) := by
  intro w hw
  obtain ⟨⟨m, ⟨m1, m2, hd, rfl, hb, h2⟩, hsat⟩, hst⟩ := id hw
  have hb0 : w.heap[b]? = some (.cells cs.toArray t (0, 0)) := hsat.own _ _ (PH.le_or_left _ _ _ _ hb)
  obtain ⟨w', hr, hb', hk, hst'⟩ := storeCells_from (P := P) vs cs cs' i 0 w hb0 hs h1
  exact ⟨w', hr, hw.upd (o := .cells cs'.toArray t (0, 0)) (b := b) (fun m hm => ⟨by rw [show m b = _ from hm]; rfl, by simp [Blk]⟩) hb' (fun k hne o' ho => (hk k hne).trans ho) hst'⟩
theorem Nx.store {n : Nat} {A : Addr} {vs : List Value} (hx : evo e x = some (.pointer (some A))) (hy : evo e y = some vy) (hc : vy.cells.toList = vs) (hn : cellsIn C.P t = some n) (hl : Nat.beq vs.length n = true)
    (hw : Wr C.P C.W I R A vs R') (h : Nx C e I R' K) : Nx C e I R (opK C.P ⟨none, .store t x y, ty, pos, after, g⟩ K Q) := by
  intro a w ha hst
  obtain ⟨w', hr, hst'⟩ := hw w hst
  have hlen : vs.length = n := Nat.eq_of_beq_eq_true hl
  unfold opK Oper.wp
  have hrun : (execOp a.eval ⟨none, .store t x y, ty, pos, after, g⟩).run C.P w = .ok .skip w' := by
    simp only [execOp, ha.eval hx, ha.eval hy]
    rw [Sem.run_bind]
    unfold Instr.storeAt storeVar
    simp only [Instr.sureAddr]
    rw [Sem.run_bind, Sem.run_pure, Result.andThen_ok, Sem.run_bind, cellsIn_run hn, Result.andThen_ok]
    have hsz : vy.cells.size = n := by rw [← hlen, ← hc]; simp
    rw [if_neg (by simp [hsz]), hc, hr]
    rfl
  rw [hrun]
  exact h _ w' ha hst'
/-- A store into a variable of the call's own, resource number k. -/
theorem Nx.store_blk (k : Nat) {n b i : Nat} {t0 : TypeId} {cs cs' : List Value} (hx : evo e x = some (.pointer (some ⟨b, i, none⟩))) (hy : evo e y = some vy) (hk : nthL R k = some (Blk b t0 cs)) (hs : setsAt cs i (cellsL vy) = some cs')
    (h1 : (cellsL vy).all Value.oneCell' = true) (hn : cellsIn C.P t = some n) (hl : Nat.beq (cellsL vy).length n = true) (h : Nx C e I (Blk b t0 cs' :: R.eraseIdx k) K) : Nx C e I R (opK C.P ⟨none, .store t x y, ty, pos, after, g⟩ K Q) :=
  Nx.ent (Ent.pull k R _ (nthL_eq.symm.trans hk)) (Nx.store hx hy (cellsL_eq vy) hn hl (Wr.blk hs (fun u hu => List.all_eq_true.1 h1 u hu)) h)
end
end Go.Eng
