/- The simplex method over equations of cells: what its two phases leave, sizes, proofs: plain facts, no program in sight. -/
import Derived.MapKept
import Derived.Lib.AppendStr
import Derived.Laws.IdiomStrings
import Derived.Laws.Strings2
import Derived.Laws.Cover1
import Derived.Test.YtpcnapidlhpbkaaGreatDoorBs4
namespace Go.Bl
open Go.Det
/-- Equations: which cells each has, and its value. -/
structure Eqs where
  cnt : Nat
  m : Nat
  cell : Nat → Nat → Bool
  val : Nat → Int
abbrev Eqs.N (q : Eqs) : Nat := q.cnt + q.m
def Eqs.orig (q : Eqs) (j k : Nat) : Int := if k < q.cnt then (if q.cell j k then 1 else 0) else if k = q.cnt + q.m then q.val j else if k = q.cnt + j then 1 else 0
/-- Where both phases begin. -/
def Eqs.s0 (q : Eqs) : Tab := ⟨fun i k => (q.orig i k : Rat), fun i => q.cnt + i⟩
structure Eqs.Small (q : Eqs) : Prop where
  cnt : q.cnt ≤ 10
  m : q.m ≤ 10
  val : ∀ j, j < q.m → 0 ≤ q.val j ∧ q.val j ≤ 1000
theorem orig_cell {q : Eqs} {j k : Nat} (h : k < q.cnt) : q.orig j k = if q.cell j k then 1 else 0 := if_pos h
theorem orig_val (q : Eqs) (j : Nat) : q.orig j (q.cnt + q.m) = q.val j := by
  unfold Eqs.orig
  rw [if_neg (by omega), if_pos rfl]
theorem orig_art {q : Eqs} {j i : Nat} (hi : i < q.m) : q.orig j (q.cnt + i) = if j = i then 1 else 0 := by
  unfold Eqs.orig
  rw [if_neg (by omega), if_neg (by omega)]
  by_cases h : j = i
  · rw [if_pos (by omega), if_pos h]
  · rw [if_neg (by omega), if_neg h]
theorem orig_bd {q : Eqs} {j k : Nat} (hk : k < q.N) : (q.orig j k).natAbs ≤ 1 ∧ 0 ≤ q.orig j k := by
  by_cases hc : k < q.cnt
  · rw [orig_cell hc]; split <;> decide
  · obtain ⟨i, rfl⟩ : ∃ i, k = q.cnt + i := ⟨k - q.cnt, by omega⟩
    rw [orig_art (by show i < q.m; have : q.cnt + i < q.cnt + q.m := hk; omega)]
    split <;> decide
theorem spl_all0 {g : List Nat → Nat → List Nat → Int} {cs pre : List Nat} (h : ∀ p c q, p ++ c :: q = pre ++ cs → pre.length ≤ p.length → g p c q = 0) : spl g pre cs = 0 := (spl_congr cs pre h).trans (spl_zero cs pre)
theorem minr_id {A : Nat → Nat → Int} : ∀ rs : List Nat, rs.Nodup → (∀ r ∈ rs, ∀ c ∈ rs, A r c = if r = c then 1 else 0) → minr A rs rs = 1
  | [], _, _ => rfl
  | r :: rs, hn, h => by
    have hn' := List.nodup_cons.1 hn
    rw [minr_cons, spl, List.nil_append, minr_id rs hn'.2 fun a ha b hb => h a (List.mem_cons_of_mem _ ha) b (List.mem_cons_of_mem _ hb), h r List.mem_cons_self r List.mem_cons_self, if_pos rfl]
    rw [spl_all0 fun p c q e hp => ?_]
    · rfl
    · have hc : c ∈ rs := by
        cases p with
        | nil => simp at hp
        | cons a p' =>
          have e2 : a :: (p' ++ c :: q) = r :: rs := by simpa using e
          injection e2 with e3 e4
          rw [← e4]; simp
      rw [h r List.mem_cons_self c (List.mem_cons_of_mem _ hc), if_neg (fun he : r = c => hn'.1 (he ▸ hc))]
      simp
theorem cast_if (p : Prop) [Decidable p] : (((if p then 1 else 0 : Int) : Int) : Rat) = if p then 1 else 0 := by split <;> rfl
/-- What all tableaus of a run keep. -/
structure Inv (q : Eqs) (s : Tab) : Prop where
  ok : Ok q.m q.N s
  rs : ∀ j, j < q.m → RS q.m q.N s fun k => (q.orig j k : Rat)
  det : detB q.m q.orig s ≠ 0
  rc : ∀ i, i < q.m → ∀ k, k ≤ q.N → s.T i k = sm q.m fun j => s.T i (q.cnt + j) * (q.orig j k : Rat)
theorem s0_inv {q : Eqs} (hq : q.Small) : Inv q q.s0 := by
  have hT : ∀ i k, q.s0.T i k = (q.orig i k : Rat) := fun _ _ => rfl
  have hB : ∀ i, q.s0.B i = q.cnt + i := fun _ => rfl
  refine ⟨⟨fun i hi => ?_, fun i j hi hj => ?_, fun i hi => ?_⟩, fun j hj k hk => ?_, ?_, fun i hi k hk => ?_⟩
  · rw [hB]; show q.cnt + i < q.cnt + q.m; omega
  · rw [hB, hT, orig_art hi, cast_if]
  · rw [hT, show q.N = q.cnt + q.m from rfl, orig_val]
    have := (hq.val i hi).1
    exact_mod_cast this
  · rw [sm_congr (g := fun i => if i = j then (q.orig i k : Rat) else 0) fun i hi => ?_, sm_one _ hj]
    rw [hB, hT]
    dsimp only
    rw [orig_art hi, cast_if]
    by_cases h : j = i
    · rw [if_pos h, if_pos h.symm]; grind
    · rw [if_neg h, if_neg (Ne.symm h)]; grind
  · have : detB q.m q.orig q.s0 = 1 := minr_id _ List.nodup_range fun r hr c hc => by
      show q.orig r (q.s0.B c) = _
      rw [hB, orig_art (List.mem_range.1 hc)]
    rw [this]; decide
  · rw [sm_congr (g := fun j => if j = i then (q.orig j k : Rat) else 0) fun j hj => ?_, sm_one _ hi, hT]
    rw [hT, orig_art hj, cast_if]
    by_cases h : i = j
    · rw [if_pos h, if_pos h.symm]; grind
    · rw [if_neg h, if_neg (Ne.symm h)]; grind
section
variable {q : Eqs} {s : Tab}
theorem piv_T {r e i k : Nat} : (piv s r e).T i k = if i = r then s.T r k / s.T r e else s.T i k - s.T i e * (s.T r k / s.T r e) := rfl
/-- A pivot at a number that is not 0, where no value falls below 0. -/
theorem Inv.piv (h : Inv q s) {r e : Nat} (hr : r < q.m) (he : e < q.cnt) (hp : s.T r e ≠ 0) (hpos : ∀ i, i < q.m → 0 ≤ (piv s r e).T i q.N) : Inv q (piv s r e) := by
  have heN : e ≤ q.N := by show e ≤ q.cnt + q.m; omega
  refine ⟨⟨fun i hi => ?_, fun i j hi hj => ?_, hpos⟩, fun j hj => rs_piv hr heN hp (h.rs j hj), ?_, fun i hi k hk => ?_⟩
  · unfold Bl.piv
    dsimp only
    split
    · show e < q.cnt + q.m; omega
    · exact h.ok.bas i hi
  · unfold Bl.piv
    dsimp only
    by_cases hir : i = r
    · rw [if_pos hir]
      by_cases hjr : j = r
      · rw [if_pos hjr, div_self hp, if_pos (hjr.trans hir.symm)]
      · rw [if_neg hjr, div_self hp, if_neg (by omega)]; grind
    · rw [if_neg hir]
      have hz : s.T r (s.B i) = 0 := by rw [h.ok.unit i r hi hr, if_neg (by omega)]
      by_cases hjr : j = r
      · rw [if_pos hjr, hz, if_neg (by omega)]; grind
      · rw [if_neg hjr, hz, h.ok.unit i j hi hj]
        split <;> grind
  · intro h0
    have h1 := det_piv h.rs hr heN
    rw [h0] at h1
    have hd : (detB q.m q.orig s : Rat) ≠ 0 := fun h2 => h.det (Rat.intCast_inj.1 (h2.trans (by rfl : (0 : Rat) = ((0 : Int) : Rat))))
    have h3 : s.T r e * (detB q.m q.orig s : Rat) = 0 := h1.symm.trans rfl
    rcases Rat.mul_eq_zero.1 h3 with h4 | h4
    · exact hp h4
    · exact hd h4
  · by_cases hir : i = r
    · subst hir
      rw [piv_T, if_pos rfl, h.rc i hi k hk]
      rw [show (sm q.m fun j => s.T i (q.cnt + j) * (q.orig j k : Rat)) / s.T i e = (sm q.m fun j => s.T i (q.cnt + j) * (q.orig j k : Rat)) * (1 / s.T i e) by grind, ← sm_mul]
      refine sm_congr fun j _ => ?_
      rw [piv_T, if_pos rfl]; grind
    · rw [piv_T, if_neg hir, h.rc i hi k hk, h.rc r hr k hk]
      rw [show (sm q.m fun j => s.T i (q.cnt + j) * (q.orig j k : Rat)) - s.T i e * ((sm q.m fun j => s.T r (q.cnt + j) * (q.orig j k : Rat)) / s.T r e) = (sm q.m fun j => s.T i (q.cnt + j) * (q.orig j k : Rat)) - (sm q.m fun j => s.T r (q.cnt + j) * (q.orig j k : Rat)) * (s.T i e / s.T r e) by grind, ← sm_mul, ← sm_sub]
      refine sm_congr fun j _ => ?_
      rw [piv_T, if_neg hir]; grind
theorem Inv.step {cost : Nat → Rat} (h : Inv q s) {r e : Nat} (he : Ent q.m q.cnt cost s e) (hl : Lea q.m q.N s e r) : Inv q (Bl.piv s r e) :=
  h.piv hl.lt he.lt (by have := hl.pos; grind) (ok_piv h.ok (by show q.cnt ≤ q.cnt + q.m; omega) he hl).pos
/-- A pivot in a row whose value is 0. -/
theorem Inv.out (h : Inv q s) {r e : Nat} (hr : r < q.m) (he : e < q.cnt) (hp : s.T r e ≠ 0) (h0 : s.T r q.N = 0) : Inv q (Bl.piv s r e) := h.piv hr he hp fun i hi => by
  rw [piv_T, h0]
  have := h.ok.pos i hi
  split <;> grind
end
/-! Sizes -/
abbrev RBp (t : Rat) : Prop := t.num.natAbs ≤ 1152921504606846976 ∧ t.den ≤ 1152921504606846976
theorem rb_of {t : Rat} {p D : Int} (hD : D ≠ 0) (h : t * (D : Rat) = (p : Rat)) (hp : p.natAbs ≤ 1152921504606846976) (hd : D.natAbs ≤ 1152921504606846976) : RBp t := by
  obtain ⟨h1, h2⟩ := small_of hD h
  exact ⟨by omega, by omega⟩
structure Num (q : Eqs) (s : Tab) (D : Int) : Prop where
  ne : D ≠ 0
  le : D.natAbs ≤ 3628800
  num : ∀ i, i < q.m → ∀ k, k ≤ q.N → ∃ p : Int, s.T i k * (D : Rat) = (p : Rat) ∧ p.natAbs ≤ 3628800000 ∧ (k < q.N → p.natAbs ≤ 3628800)
theorem fact_le {n : Nat} (h : n ≤ 10) : fact n ≤ 3628800 := by
  have : n = 0 ∨ n = 1 ∨ n = 2 ∨ n = 3 ∨ n = 4 ∨ n = 5 ∨ n = 6 ∨ n = 7 ∨ n = 8 ∨ n = 9 ∨ n = 10 := by omega
  rcases this with rfl | rfl | rfl | rfl | rfl | rfl | rfl | rfl | rfl | rfl | rfl <;> decide
theorem wprod_ones {w : Nat → Nat} : ∀ l : List Nat, (∀ c ∈ l, w c = 1) → wprod w l = 1
  | [], _ => rfl
  | c :: l, h => by rw [wprod, h c List.mem_cons_self, wprod_ones l fun d hd => h d (List.mem_cons_of_mem _ hd)]
theorem wprod_one {w : Nat → Nat} {i W : Nat} (hW : 1 ≤ W) (hi : w i = W) : ∀ l : List Nat, l.Nodup → (∀ c ∈ l, c ≠ i → w c = 1) → wprod w l ≤ W
  | [], _, _ => hW
  | c :: l, hn, h => by
    have hn' := List.nodup_cons.1 hn
    rw [wprod]
    by_cases hc : c = i
    · subst hc
      rw [wprod_ones l fun d hd => h d (List.mem_cons_of_mem _ hd) (fun he : d = c => hn'.1 (he ▸ hd)), hi, Nat.mul_one]
      exact Nat.le_refl _
    · rw [h c List.mem_cons_self hc, Nat.one_mul]
      exact wprod_one hW hi l hn'.2 fun d hd => h d (List.mem_cons_of_mem _ hd)
theorem Inv.num {q : Eqs} {s : Tab} (hq : q.Small) (h : Inv q s) : ∃ D, Num q s D := by
  have hf := fact_le hq.m
  have hB : ∀ c ∈ List.range q.m, ∀ r, (q.orig r (s.B c)).natAbs ≤ 1 := fun c hc r => (orig_bd (h.ok.bas c (List.mem_range.1 hc))).1
  refine ⟨detB q.m q.orig s, h.det, ?_, fun i hi k hk => ⟨numB q.m q.orig s i k, tab_det h.rs hi hk, ?_⟩⟩
  · have := minr_leib (matB q.orig s) (fun _ => 1) (List.range q.m) (List.range q.m) rfl fun r _ c hc => hB c hc r
    rw [wprod_ones _ (fun _ _ => rfl), Nat.mul_one, List.length_range] at this
    unfold detB
    omega
  · have key : ∀ W : Nat, 1 ≤ W → (∀ r, r < q.m → (q.orig r k).natAbs ≤ W) → (numB q.m q.orig s i k).natAbs ≤ fact q.m * W := fun W hW hb => by
      have h1 := minr_leib (rep (matB q.orig s) i fun j => q.orig j k) (fun c => if c = i then W else 1) (List.range q.m) (List.range q.m) rfl fun r hr c hc => by
        unfold rep
        by_cases hci : c = i
        · rw [if_pos hci, if_pos hci]; exact hb r (List.mem_range.1 hr)
        · rw [if_neg hci, if_neg hci]; exact hB c hc r
      rw [List.length_range] at h1
      exact Nat.le_trans h1 (Nat.mul_le_mul_left _ (wprod_one (w := fun c => if c = i then W else 1) (i := i) hW (if_pos rfl) _ List.nodup_range fun c _ hc => if_neg hc))
    constructor
    · have := key 1000 (by decide) fun r hr => by
        rcases Nat.lt_or_ge k q.N with hlt | hge
        · have := (orig_bd (q := q) (j := r) hlt).1; omega
        · rw [show k = q.cnt + q.m from Nat.le_antisymm hk hge, orig_val]
          have := hq.val r hr
          omega
      omega
    · intro hlt
      have := key 1 (by decide) fun r _ => (orig_bd hlt).1
      omega
section
variable {q : Eqs} {s : Tab} {D : Int}
theorem Num.d60 (h : Num q s D) : D.natAbs ≤ 1152921504606846976 := by have := h.le; omega
theorem Num.rb (h : Num q s D) {i k : Nat} (hi : i < q.m) (hk : k ≤ q.N) : RBp (s.T i k) := by
  obtain ⟨p, h1, h2, _⟩ := h.num i hi k hk
  exact rb_of h.ne h1 (by omega) h.d60
theorem cast_ne {p : Int} (h : p ≠ 0) : (p : Rat) ≠ 0 := fun h0 => h (Rat.intCast_inj.1 (h0.trans (by rfl : (0 : Rat) = ((0 : Int) : Rat))))
theorem ne_of_mul {t : Rat} {p D : Int} (ht : t ≠ 0) (hD : D ≠ 0) (h : t * (D : Rat) = (p : Rat)) : p ≠ 0 := fun hp => by
  subst hp
  rcases Rat.mul_eq_zero.1 (h.trans rfl) with h1 | h1
  · exact ht h1
  · exact cast_ne hD h1
/-- A quotient of two numbers of a row. -/
theorem Num.quo (h : Num q s D) {i j k e : Nat} (hi : i < q.m) (hj : j < q.m) (hk : k ≤ q.N) (he : e < q.N) (hne : s.T j e ≠ 0) : ∃ p p' : Int, p' ≠ 0 ∧ p'.natAbs ≤ 3628800 ∧ p.natAbs ≤ 3628800000 ∧ s.T i k / s.T j e * (p' : Rat) = (p : Rat) := by
  obtain ⟨p, h1, h2, _⟩ := h.num i hi k hk
  obtain ⟨p', h3, _, h4⟩ := h.num j hj e (Nat.le_of_lt he)
  have hp' := ne_of_mul hne h.ne h3
  refine ⟨p, p', hp', h4 he, h2, ?_⟩
  rw [← h3, ← h1]
  grind
theorem Num.rbq (h : Num q s D) {i j k e : Nat} (hi : i < q.m) (hj : j < q.m) (hk : k ≤ q.N) (he : e < q.N) (hne : s.T j e ≠ 0) : RBp (s.T i k / s.T j e) := by
  obtain ⟨p, p', h1, h2, h3, h4⟩ := h.quo hi hj hk he hne
  exact rb_of h1 h4 (by omega) (by omega)
/-- A number times such a quotient. -/
theorem Num.rbt (h : Num q s D) {i j k e : Nat} (hi : i < q.m) (hj : j < q.m) (hk : k ≤ q.N) (he : e < q.N) (hne : s.T j e ≠ 0) : RBp (s.T i e * (s.T j k / s.T j e)) := by
  obtain ⟨p, p', h1, h2, h3, h4⟩ := h.quo hj hj hk he hne
  obtain ⟨r, h5, _, h6⟩ := h.num i hi e (Nat.le_of_lt he)
  have h6 := h6 he
  have hd := h.le
  refine rb_of (D := D * p') (p := r * p) (Int.mul_ne_zero h.ne h1) ?_ ?_ ?_
  · rw [Rat.intCast_mul, Rat.intCast_mul, ← h5, ← h4]; grind
  · rw [Int.natAbs_mul]
    have := Nat.mul_le_mul h6 h3
    omega
  · rw [Int.natAbs_mul]
    have := Nat.mul_le_mul hd h2
    omega
/-- Sums with factors 1, 0, -1. -/
theorem Num.sum (h : Num q s D) {k : Nat} (hk : k < q.N) (c : Nat → Int) (hc : ∀ i, (c i).natAbs ≤ 1) : ∀ j, j ≤ q.m → ∃ P : Int, (sm j fun i => (c i : Rat) * s.T i k) * (D : Rat) = (P : Rat) ∧ P.natAbs ≤ j * 3628800
  | 0, _ => ⟨0, by rw [sm]; grind, Nat.zero_le _⟩
  | j + 1, hj => by
    obtain ⟨P, h1, h2⟩ := Num.sum h hk c hc j (by omega)
    obtain ⟨p, h3, _, h4⟩ := h.num j (by omega) k (Nat.le_of_lt hk)
    have h4 := h4 hk
    refine ⟨P + c j * p, ?_, ?_⟩
    · rw [sm, Rat.intCast_add, Rat.intCast_mul, ← h1, ← h3]; grind
    · have h5 : (c j * p).natAbs ≤ 3628800 := by
        rw [Int.natAbs_mul]
        have := Nat.mul_le_mul (hc j) h4
        omega
      have : (P + c j * p).natAbs ≤ P.natAbs + (c j * p).natAbs := Int.natAbs_add_le _ _
      omega
theorem Num.rbs (h : Num q s D) (hq : q.Small) {k : Nat} (hk : k < q.N) (c : Nat → Int) (hc : ∀ i, (c i).natAbs ≤ 1) (c0 : Int) (h0 : c0.natAbs ≤ 1) {j : Nat} (hj : j ≤ q.m) : RBp ((c0 : Rat) - sm j fun i => (c i : Rat) * s.T i k) := by
  obtain ⟨P, h1, h2⟩ := h.sum hk c hc j hj
  have hd := h.le
  have hm := hq.m
  refine rb_of (p := c0 * D - P) h.ne ?_ ?_ h.d60
  · rw [Rat.intCast_sub, Rat.intCast_mul, ← h1]; grind
  · have h3 : (c0 * D).natAbs ≤ 3628800 := by
      rw [Int.natAbs_mul]
      have := Nat.mul_le_mul h0 hd
      omega
    have : (c0 * D - P).natAbs ≤ (c0 * D).natAbs + P.natAbs := Int.natAbs_sub_le _ _
    omega
theorem Num.rb1 (h : Num q s D) {i k : Nat} (hi : i < q.m) (hk : k ≤ q.N) (c : Int) (hc : c.natAbs ≤ 1) : RBp ((c : Rat) * s.T i k) := by
  obtain ⟨p, h1, h2, _⟩ := h.num i hi k hk
  refine rb_of (p := c * p) h.ne ?_ ?_ h.d60
  · rw [Rat.intCast_mul, ← h1]; grind
  · rw [Int.natAbs_mul]
    have := Nat.mul_le_mul hc h2
    omega
end
/-! Runs -/
inductive Run (m N cnt : Nat) (cost : Nat → Rat) : Tab → Tab → Bool → Prop
  | opt {s : Tab} (h : ∀ k, k < cnt → gain m cost s k ≤ 0) : Run m N cnt cost s s true
  | unb {s : Tab} {e : Nat} (he : Ent m cnt cost s e) (h : ∀ i, i < m → s.T i e ≤ 0) : Run m N cnt cost s s false
  | step {s s' : Tab} {e r : Nat} {b : Bool} (he : Ent m cnt cost s e) (hl : Lea m N s e r) (h : Run m N cnt cost (piv s r e) s' b) : Run m N cnt cost s s' b
theorem Run.keeps {m N cnt : Nat} {cost : Nat → Rat} {P : Tab → Prop} (hP : ∀ s e r, P s → Ent m cnt cost s e → Lea m N s e r → P (piv s r e)) {s s' : Tab} {b : Bool} (h : Run m N cnt cost s s' b) : P s → P s' := by
  induction h with
  | opt _ => exact id
  | unb _ _ => exact id
  | step he hl _ ih => exact fun hs => ih (hP _ _ _ hs he hl)
theorem Run.end_t {m N cnt : Nat} {cost : Nat → Rat} {s s' : Tab} {b : Bool} (h : Run m N cnt cost s s' b) : b = true → ∀ k, k < cnt → gain m cost s' k ≤ 0 := by
  induction h with
  | opt h => exact fun _ => h
  | unb _ _ => exact fun h => nomatch h
  | step _ _ _ ih => exact ih
theorem Run.end_f {m N cnt : Nat} {cost : Nat → Rat} {s s' : Tab} {b : Bool} (h : Run m N cnt cost s s' b) : b = false → ∃ e, Ent m cnt cost s' e ∧ ∀ i, i < m → s'.T i e ≤ 0 := by
  induction h with
  | opt _ => exact fun h => nomatch h
  | unb he h => exact fun _ => ⟨_, he, h⟩
  | step _ _ _ ih => exact ih
/-- The way that was gone, and what is still to go. -/
def Gone (m N cnt : Nat) (cost : Nat → Rat) (s0 s : Tab) (k : Nat) : Prop := ∃ (f : Nat → Tab) (E L : Nat → Nat), Way m N cnt cost k f E L ∧ f 0 = s0 ∧ f k = s
theorem Gone.zero {m N cnt : Nat} {cost : Nat → Rat} (s : Tab) : Gone m N cnt cost s s 0 := ⟨fun _ => s, fun _ => 0, fun _ => 0, ⟨fun _ hj => absurd hj (Nat.not_lt_zero _), fun _ hj => absurd hj (Nat.not_lt_zero _), fun _ hj => absurd hj (Nat.not_lt_zero _)⟩, rfl, rfl⟩
theorem Gone.lt {m N cnt k : Nat} {cost : Nat → Rat} {s0 s : Tab} (h : Gone m N cnt cost s0 s k) (hc : cnt ≤ N) (h0 : Ok m N s0) : k < N ^ m := by
  obtain ⟨f, E, L, hw, rfl, _⟩ := h
  exact way_len hw hc h0
theorem Gone.next {m N cnt k e r : Nat} {cost : Nat → Rat} {s0 s : Tab} (h : Gone m N cnt cost s0 s k) (he : Ent m cnt cost s e) (hl : Lea m N s e r) : Gone m N cnt cost s0 (piv s r e) (k + 1) := by
  obtain ⟨f, E, L, hw, h0, rfl⟩ := h
  refine ⟨fun j => if j ≤ k then f j else piv (f k) r e, fun j => if j < k then E j else e, fun j => if j < k then L j else r, ⟨fun j hj => ?_, fun j hj => ?_, fun j hj => ?_⟩, ?_, ?_⟩
  · rw [if_pos (by omega)]
    by_cases hjk : j < k
    · rw [if_pos hjk]; exact hw.ent j hjk
    · obtain rfl : j = k := by omega
      rw [if_neg hjk]; exact he
  · rw [if_pos (show j ≤ k by omega)]
    by_cases hjk : j < k
    · rw [if_pos hjk, if_pos hjk]; exact hw.lea j hjk
    · obtain rfl : j = k := by omega
      rw [if_neg hjk, if_neg hjk]; exact hl
  · rw [if_pos (show j ≤ k by omega)]
    by_cases hjk : j < k
    · rw [if_pos (by omega), if_pos hjk, if_pos hjk]; exact hw.next j hjk
    · obtain rfl : j = k := by omega
      rw [if_neg (by omega), if_neg hjk, if_neg hjk]
  · dsimp only
    rw [if_pos (Nat.zero_le _)]; exact h0
  · dsimp only
    rw [if_neg (by omega)]
theorem Gone.run {m N cnt : Nat} {cost : Nat → Rat} {s0 s s' : Tab} {b : Bool} {k : Nat} (h : Gone m N cnt cost s0 s k) (hr : Run m N cnt cost s s' b) : Run m N cnt cost s0 s' b := by
  obtain ⟨f, E, L, hw, rfl, rfl⟩ := h
  have key : ∀ d, d ≤ k → Run m N cnt cost (f (k - d)) s' b := fun d => by
    induction d with
    | zero => exact fun _ => hr
    | succ d ih =>
      intro hd
      have h1 := ih (by omega)
      have e1 : k - d = (k - (d + 1)) + 1 := by omega
      rw [e1, hw.next (k - (d + 1)) (by omega)] at h1
      exact .step (hw.ent _ (by omega)) (hw.lea _ (by omega)) h1
  have := key k (Nat.le_refl _)
  rwa [Nat.sub_self] at this
/-! Points -/
/-- A point satisfies the equations. -/
structure Feas (q : Eqs) (x : Nat → Rat) : Prop where
  pos : ∀ k, k < q.cnt → 0 ≤ x k
  eqn : ∀ i, i < q.m → (sm q.cnt fun k => if q.cell i k then x k else 0) = (q.val i : Rat)
theorem sm_split (n m : Nat) (f : Nat → Rat) : sm (n + m) f = sm n f + sm m fun j => f (n + j) := by
  induction m with
  | zero => rw [Nat.add_zero, sm]; grind
  | succ m ih => rw [← Nat.add_assoc, sm, ih, sm]; grind
theorem sm_cells {q : Eqs} {i : Nat} (x : Nat → Rat) : (sm q.cnt fun k => (q.orig i k : Rat) * x k) = sm q.cnt fun k => if q.cell i k then x k else 0 := sm_congr fun k hk => by
  rw [orig_cell hk, cast_if]
  split <;> grind
/-- Cells, and nothing of the equations' own columns. -/
def ext (q : Eqs) (x : Nat → Rat) (k : Nat) : Rat := if k < q.cnt then x k else 0
theorem sat_s0 {q : Eqs} {x : Nat → Rat} (h : Feas q x) : Sat q.m q.N q.s0 (ext q x) := fun i hi => by
  show sm (q.cnt + q.m) (fun k => (q.orig i k : Rat) * ext q x k) = (q.orig i (q.cnt + q.m) : Rat)
  rw [sm_split, orig_val, sm_congr (n := q.cnt) (g := fun k => (q.orig i k : Rat) * x k) fun k hk => by unfold ext; rw [if_pos hk], sm_cells, h.eqn i hi, sm_congr (n := q.m) (g := fun _ => 0) fun j _ => by unfold ext; rw [if_neg (by omega)]; grind, sm_zero]
  grind
/-- What is kept, with the points. -/
structure Inv2 (q : Eqs) (s : Tab) : Prop where
  inv : Inv q s
  sat : ∀ x, Feas q x → Sat q.m q.N s (ext q x)
theorem s0_inv2 {q : Eqs} (hq : q.Small) : Inv2 q q.s0 := ⟨s0_inv hq, fun _ hx => sat_s0 hx⟩
theorem Inv2.step {q : Eqs} {s : Tab} {cost : Nat → Rat} (h : Inv2 q s) {r e : Nat} (he : Ent q.m q.cnt cost s e) (hl : Lea q.m q.N s e r) : Inv2 q (piv s r e) := ⟨h.inv.step he hl, fun x hx => sat_piv (h.sat x hx) hl.lt⟩
theorem Inv2.out {q : Eqs} {s : Tab} (h : Inv2 q s) {r e : Nat} (hr : r < q.m) (he : e < q.cnt) (hp : s.T r e ≠ 0) (h0 : s.T r q.N = 0) : Inv2 q (piv s r e) := ⟨h.inv.out hr he hp h0, fun x hx => sat_piv (h.sat x hx) hr⟩
theorem Run.inv2 {q : Eqs} {cost : Nat → Rat} {s s' : Tab} {b : Bool} (h : Run q.m q.N q.cnt cost s s' b) (hs : Inv2 q s) : Inv2 q s' := h.keeps (P := Inv2 q) (fun _ _ _ hs he hl => hs.step he hl) hs
/-- The equations' columns have the value 0. -/
def Art0 (q : Eqs) (s : Tab) : Prop := ∀ i, i < q.m → q.cnt ≤ s.B i → s.T i q.N = 0
theorem pt_art {q : Eqs} {s : Tab} (h0 : Art0 q s) {k : Nat} (hk : q.cnt ≤ k) : pt q.m q.N s k = 0 := by
  unfold pt
  rw [sm_congr (g := fun _ => 0) fun i hi => by
    by_cases h : s.B i = k
    · rw [if_pos h]; exact h0 i hi (by omega)
    · rw [if_neg h], sm_zero]
theorem pt_feas {q : Eqs} {s : Tab} (h : Inv q s) (h0 : Art0 q s) : Feas q (pt q.m q.N s) := by
  refine ⟨fun k _ => pt_pos h.ok k, fun i hi => ?_⟩
  have h1 := pt_rs h.ok (h.rs i hi)
  have h2 : sm (q.cnt + q.m) (fun k => (q.orig i k : Rat) * pt q.m q.N s k) = (q.orig i (q.cnt + q.m) : Rat) := h1
  rw [sm_split, orig_val, sm_cells, sm_congr (n := q.m) (g := fun _ => 0) fun j _ => by rw [pt_art h0 (by omega)]; grind, sm_zero] at h2
  grind
/-! The first phase -/
def cost1 (q : Eqs) (k : Nat) : Int := if k < q.cnt then 0 else -1
abbrev cst (c : Nat → Int) (k : Nat) : Rat := (c k : Rat)
theorem cost1_bd (q : Eqs) (k : Nat) : (cost1 q k).natAbs ≤ 1 := by unfold cost1; split <;> decide
theorem cost1_np (q : Eqs) (k : Nat) : cst (cost1 q) k ≤ 0 := by
  unfold cst cost1
  split <;> decide
theorem phase1_true {q : Eqs} {s s' : Tab} {b : Bool} (h : Run q.m q.N q.cnt (cst (cost1 q)) s s' b) : b = true := by
  cases b with
  | true => rfl
  | false =>
    obtain ⟨e, he, hl⟩ := h.end_f rfl
    have h1 := no_leave hl (fun i _ => cost1_np q (s'.B i)) (cost1_np q e)
    have h2 := he.pos
    grind
theorem phase1 {q : Eqs} {s' : Tab} {b : Bool} (h : Run q.m q.N q.cnt (cst (cost1 q)) q.s0 s' b) (hq : q.Small) : Art0 q s' ↔ ∃ x, Feas q x := by
  have hi := h.inv2 (s0_inv2 hq)
  constructor
  · exact fun h0 => ⟨_, pt_feas hi.inv h0⟩
  · rintro ⟨x, hx⟩
    have h1 := optimum (h.end_t (phase1_true h)) (x := ext q x) (fun k _ => by unfold ext; split; exact hx.pos k (by assumption); exact Rat.le_refl) (fun k hk _ => by unfold ext; rw [if_neg (by omega)]) (hi.sat x hx)
    have h2 : sm q.N (fun k => cst (cost1 q) k * ext q x k) = 0 := by
      rw [sm_congr (g := fun _ => 0) fun k _ => ?_, sm_zero]
      unfold ext cst cost1
      by_cases hk : k < q.cnt
      · rw [if_pos hk]; grind
      · rw [if_neg hk, if_neg hk]; grind
    rw [h2] at h1
    have h3 : ∀ i, i < q.m → 0 ≤ - (cst (cost1 q) (s'.B i) * s'.T i q.N) := fun i hii => by
      have := Rat.mul_nonneg (show 0 ≤ - cst (cost1 q) (s'.B i) by have := cost1_np q (s'.B i); grind) (hi.inv.ok.pos i hii)
      grind
    have h4 : sm q.m (fun i => - (cst (cost1 q) (s'.B i) * s'.T i q.N)) = 0 := by
      have h5 := sm_nonneg h3
      have h6 : sm q.m (fun i => - (cst (cost1 q) (s'.B i) * s'.T i q.N)) = - y q.m (cst (cost1 q)) s' q.N := by
        unfold y
        rw [sm_congr (g := fun i => cst (cost1 q) (s'.B i) * s'.T i q.N * (-1)) fun i _ => by grind, sm_mul]
        grind
      grind
    intro i hii hb
    have h7 := sm_all0 h3 h4 i hii
    have h8 : cst (cost1 q) (s'.B i) = -1 := by unfold cst cost1; rw [if_neg (by omega)]; rfl
    rw [h8] at h7
    grind
/-! Between the phases, and the second one -/
/-- Rows whose own column is an equation's say nothing of the cells. -/
def Zer (q : Eqs) (s : Tab) (n : Nat) : Prop := ∀ i, i < n → q.cnt ≤ s.B i → ∀ k, k < q.cnt → s.T i k = 0
theorem art0_piv {q : Eqs} {s : Tab} (h : Art0 q s) {r e : Nat} (h0 : s.T r q.N = 0) : Art0 q (piv s r e) := fun i hi hb => by
  rw [piv_T, h0]
  by_cases hir : i = r
  · rw [if_pos hir]; grind
  · rw [if_neg hir]
    have : (piv s r e).B i = s.B i := if_neg hir
    rw [this] at hb
    rw [h i hi hb]; grind
theorem zer_piv {q : Eqs} {s : Tab} {n r e : Nat} (h : Zer q s n) (he : e < q.cnt) : Zer q (piv s r e) n := fun i hi hb k hk => by
  by_cases hir : i = r
  · exfalso
    have : (piv s r e).B i = e := if_pos hir
    omega
  · have hB : (piv s r e).B i = s.B i := if_neg hir
    rw [hB] at hb
    rw [piv_T, if_neg hir, h i hi hb k hk, h i hi hb e he]; grind
/-- Ready for the second phase. -/
structure Rdy (q : Eqs) (s : Tab) : Prop where
  inv : Inv2 q s
  art : Art0 q s
  zer : Zer q s q.m
theorem Rdy.step {q : Eqs} {s : Tab} {cost : Nat → Rat} (h : Rdy q s) {r e : Nat} (he : Ent q.m q.cnt cost s e) (hl : Lea q.m q.N s e r) : Rdy q (piv s r e) := by
  refine ⟨h.inv.step he hl, fun i hi hb => ?_, zer_piv h.zer he.lt⟩
  by_cases hir : i = r
  · exfalso
    have : (piv s r e).B i = e := if_pos hir
    have := he.lt
    omega
  · have hB : (piv s r e).B i = s.B i := if_neg hir
    rw [hB] at hb
    rw [piv_T, if_neg hir, h.art i hi hb, h.zer i hi hb e he.lt]; grind
theorem Run.rdy {q : Eqs} {cost : Nat → Rat} {s s' : Tab} {b : Bool} (h : Run q.m q.N q.cnt cost s s' b) (hs : Rdy q s) : Rdy q s' := h.keeps (P := Rdy q) (fun _ _ _ hs he hl => hs.step he hl) hs
def sgn (up : Bool) : Int := if up then 1 else -1
def cost2 (cell : Nat) (up : Bool) (k : Nat) : Int := if k = cell then sgn up else 0
theorem cost2_bd (cell : Nat) (up : Bool) (k : Nat) : (cost2 cell up k).natAbs ≤ 1 := by unfold cost2 sgn; split <;> (try split) <;> decide
/-- The least or the greatest value that a cell has at a point that satisfies the equations. -/
structure IsOpt (q : Eqs) (cell : Nat) (up : Bool) (v : Rat) : Prop where
  at_ : ∃ x, Feas q x ∧ x cell = v
  bound : ∀ x, Feas q x → if up then x cell ≤ v else v ≤ x cell
theorem IsOpt.uniq {q : Eqs} {cell : Nat} {up : Bool} {v v' : Rat} (h : IsOpt q cell up v) (h' : IsOpt q cell up v') : v = v' := by
  obtain ⟨x, hx, rfl⟩ := h.at_
  obtain ⟨x', hx', rfl⟩ := h'.at_
  have h1 := h.bound x' hx'
  have h2 := h'.bound x hx
  cases up
  · exact Rat.le_antisymm h1 h2
  · exact Rat.le_antisymm h2 h1
theorem sm_cost2 {n cell : Nat} (up : Bool) (f : Nat → Rat) (hc : cell < n) : (sm n fun k => cst (cost2 cell up) k * f k) = (sgn up : Rat) * f cell := by
  rw [sm_congr (g := fun k => if k = cell then (sgn up : Rat) * f k else 0) fun k _ => ?_, sm_one (fun k => (sgn up : Rat) * f k) hc]
  unfold cst cost2
  split <;> simp
theorem sgn_f : ((sgn false : Int) : Rat) = -1 := rfl
theorem sgn_t : ((sgn true : Int) : Rat) = 1 := rfl
theorem sgn_sq (up : Bool) : (sgn up : Rat) * (sgn up : Rat) = 1 := by
  cases up
  · rw [sgn_f]; grind
  · rw [sgn_t]; grind
theorem y_end {q : Eqs} {s : Tab} {cell : Nat} {up : Bool} (h : Rdy q s) (hc : cell < q.cnt) : y q.m (cst (cost2 cell up)) s q.N = (sgn up : Rat) * pt q.m q.N s cell := by
  have := pt_sum h.inv.inv.ok (cst (cost2 cell up))
  rw [sm_cost2 up _ (show cell < q.N by show cell < q.cnt + q.m; omega)] at this
  exact this.symm
theorem phase2_true {q : Eqs} {s : Tab} {cell : Nat} {up : Bool} (h : Rdy q s) (hc : cell < q.cnt) (hg : ∀ k, k < q.cnt → gain q.m (cst (cost2 cell up)) s k ≤ 0) : IsOpt q cell up (pt q.m q.N s cell) := by
  refine ⟨⟨_, pt_feas h.inv.inv h.art, rfl⟩, fun x hx => ?_⟩
  have h1 := optimum hg (x := ext q x) (fun k _ => by unfold ext; split; exact hx.pos k (by assumption); exact Rat.le_refl) (fun k hk _ => by unfold ext; rw [if_neg (by omega)]) (h.inv.sat x hx)
  rw [y_end h hc, sm_cost2 up _ (show cell < q.N by show cell < q.cnt + q.m; omega)] at h1
  have h2 : ext q x cell = x cell := if_pos hc
  rw [h2] at h1
  cases up
  · have e : ((sgn false : Int) : Rat) = -1 := rfl
    rw [e] at h1
    show pt q.m q.N s cell ≤ x cell
    grind
  · have e : ((sgn true : Int) : Rat) = 1 := rfl
    rw [e] at h1
    show x cell ≤ pt q.m q.N s cell
    grind
/-- A cell of no equation has the number 0 in all rows. -/
theorem no_eqn {q : Eqs} {s : Tab} (h : Inv q s) {cell : Nat} (hc : cell < q.cnt) (hn : ∀ j, j < q.m → q.cell j cell = false) {i : Nat} (hi : i < q.m) : s.T i cell = 0 := by
  rw [h.rc i hi cell (by show cell ≤ q.cnt + q.m; omega), sm_congr (g := fun _ => 0) fun j hj => ?_, sm_zero]
  rw [orig_cell hc, hn j hj]
  simp
theorem phase2_false {q : Eqs} {s s' : Tab} {cell : Nat} {up b : Bool} (hr : Run q.m q.N q.cnt (cst (cost2 cell up)) s s' b) (hs : Rdy q s) (hc : cell < q.cnt) : b = false ↔ up = true ∧ ∀ j, j < q.m → q.cell j cell = false := by
  have h := hr.rdy hs
  constructor
  · intro hb
    obtain ⟨e, he, hl⟩ := hr.end_f hb
    have hup : up = true := by
      cases up with
      | true => rfl
      | false =>
        have hneg : ∀ k, cst (cost2 cell false) k ≤ 0 := fun k => by
          unfold cst cost2 sgn
          split <;> decide
        have h1 := no_leave hl (fun i _ => hneg (s'.B i)) (hneg e)
        have h2 := he.pos
        grind
    subst hup
    refine ⟨rfl, fun j hj => ?_⟩
    cases hcell : q.cell j cell with
    | false => rfl
    | true =>
      exfalso
      have hN : e ≤ q.N := by have := he.lt; show e ≤ q.cnt + q.m; omega
      have h1 : (q.orig j e : Rat) = sm q.m fun i => (q.orig j (s'.B i) : Rat) * s'.T i e := h.inv.inv.rs j hj e hN
      have h0 : ∀ k, k < q.N → 0 ≤ (q.orig j k : Rat) := fun k hk => by
        have := (orig_bd (q := q) (j := j) hk).2
        exact_mod_cast this
      have h2 : ∀ i, i < q.m → 0 ≤ - ((q.orig j (s'.B i) : Rat) * s'.T i e) := fun i hi => by
        have := Rat.mul_nonneg (h0 _ (h.inv.inv.ok.bas i hi)) (show 0 ≤ - s'.T i e by have := hl i hi; grind)
        grind
      have h3 : sm q.m (fun i => - ((q.orig j (s'.B i) : Rat) * s'.T i e)) = - (q.orig j e : Rat) := by
        rw [h1, sm_congr (g := fun i => (q.orig j (s'.B i) : Rat) * s'.T i e * (-1)) fun i _ => by grind, sm_mul]; grind
      have h4 := h0 e (by have := he.lt; show e < q.cnt + q.m; omega)
      have h5 : (q.orig j e : Rat) = 0 := by
        have := sm_nonneg h2
        rw [h3] at this
        grind
      have h6 := sm_all0 h2 (by rw [h3, h5]; rfl)
      have hcc : (q.orig j cell : Rat) = 1 := by rw [orig_cell hc, hcell]; rfl
      by_cases hec : e = cell
      · rw [hec, hcc] at h5; exact absurd h5 (by decide)
      · have h7 := he.pos
        unfold gain y at h7
        rw [show cst (cost2 cell true) e = 0 by unfold cst cost2; rw [if_neg hec]; rfl, sm_congr (g := fun _ => 0) fun i hi => ?_, sm_zero] at h7
        · grind
        · by_cases hb : s'.B i = cell
          · have := h6 i hi
            rw [hb, hcc] at this
            have : s'.T i e = 0 := by grind
            rw [this]; grind
          · rw [show cst (cost2 cell true) (s'.B i) = 0 by unfold cst cost2; rw [if_neg hb]; rfl]; grind
  · rintro ⟨rfl, hn⟩
    cases b with
    | false => rfl
    | true =>
      exfalso
      have h1 := hr.end_t rfl cell hc
      unfold gain y at h1
      rw [show cst (cost2 cell true) cell = 1 by unfold cst cost2; rw [if_pos rfl]; rfl, sm_congr (g := fun _ => 0) fun i hi => by rw [no_eqn h.inv.inv hc hn hi]; grind, sm_zero] at h1
      grind
/-! Proofs -/
/-- Weights of the equations that exclude more. -/
structure PrOk (q : Eqs) (cell : Nat) (up : Bool) (x w : Nat → Rat) : Prop where
  feas : Feas q x
  bound : (sm q.m fun j => w j * (q.val j : Rat)) = x cell
  excl : ∀ k, k < q.cnt → if up then (if k = cell then 1 else 0) ≤ sm q.m (fun j => if q.cell j k then w j else 0) else sm q.m (fun j => if q.cell j k then w j else 0) ≤ (if k = cell then 1 else 0)
/-- Their sizes. -/
structure PrSz (q : Eqs) (x w : Nat → Rat) (D : Int) : Prop where
  ne : D ≠ 0
  le : D.natAbs ≤ 3628800
  pnt : ∀ k, k < q.cnt → ∃ p : Int, x k * (D : Rat) = (p : Rat) ∧ p.natAbs ≤ 36288000000
  wgt : ∀ j, j < q.m → ∃ p : Int, w j * (D : Rat) = (p : Rat) ∧ p.natAbs ≤ 36288000
def wt (q : Eqs) (cell : Nat) (up : Bool) (s : Tab) (j : Nat) : Rat := (sgn up : Rat) * y q.m (cst (cost2 cell up)) s (q.cnt + j)
theorem y_rows {q : Eqs} {s : Tab} (h : Inv q s) (cost : Nat → Rat) {k : Nat} (hk : k ≤ q.N) : y q.m cost s k = sm q.m fun j => y q.m cost s (q.cnt + j) * (q.orig j k : Rat) := by
  unfold y
  rw [sm_congr (g := fun i => sm q.m fun j => cost (s.B i) * s.T i (q.cnt + j) * (q.orig j k : Rat)) fun i hi => ?_, sm_comm]
  · exact sm_congr fun j _ => by rw [sm_mul]
  · rw [h.rc i hi k hk, show (cost (s.B i) * sm q.m fun j => s.T i (q.cnt + j) * (q.orig j k : Rat)) = (sm q.m fun j => s.T i (q.cnt + j) * (q.orig j k : Rat)) * cost (s.B i) by grind, ← sm_mul]
    exact sm_congr fun j _ => by grind
theorem proof_ok {q : Eqs} {s : Tab} {cell : Nat} {up : Bool} (h : Rdy q s) (hc : cell < q.cnt) (hg : ∀ k, k < q.cnt → gain q.m (cst (cost2 cell up)) s k ≤ 0) : PrOk q cell up (pt q.m q.N s) (wt q cell up s) := by
  refine ⟨pt_feas h.inv.inv h.art, ?_, fun k hk => ?_⟩
  · have h1 := y_rows h.inv.inv (cst (cost2 cell up)) (k := q.N) (Nat.le_refl _)
    rw [y_end h hc] at h1
    have h2 : sm q.m (fun j => wt q cell up s j * (q.val j : Rat)) = (sgn up : Rat) * sm q.m (fun j => y q.m (cst (cost2 cell up)) s (q.cnt + j) * (q.orig j q.N : Rat)) := by
      rw [show ((sgn up : Rat) * sm q.m fun j => y q.m (cst (cost2 cell up)) s (q.cnt + j) * (q.orig j q.N : Rat)) = (sm q.m fun j => y q.m (cst (cost2 cell up)) s (q.cnt + j) * (q.orig j q.N : Rat)) * (sgn up : Rat) by grind, ← sm_mul]
      refine sm_congr fun j _ => ?_
      unfold wt
      rw [show q.orig j q.N = q.val j from orig_val q j]; grind
    rw [h2, ← h1]
    have := sgn_sq up
    grind
  · have h1 := y_rows h.inv.inv (cst (cost2 cell up)) (k := k) (by show k ≤ q.cnt + q.m; omega)
    have h2 : sm q.m (fun j => if q.cell j k then wt q cell up s j else 0) = (sgn up : Rat) * y q.m (cst (cost2 cell up)) s k := by
      rw [h1, show ((sgn up : Rat) * sm q.m fun j => y q.m (cst (cost2 cell up)) s (q.cnt + j) * (q.orig j k : Rat)) = (sm q.m fun j => y q.m (cst (cost2 cell up)) s (q.cnt + j) * (q.orig j k : Rat)) * (sgn up : Rat) by grind, ← sm_mul]
      refine sm_congr fun j _ => ?_
      unfold wt
      rw [orig_cell hk, cast_if]
      split <;> grind
    rw [h2]
    have h3 := hg k hk
    unfold gain at h3
    have h4 : cst (cost2 cell up) k = (sgn up : Rat) * (if k = cell then 1 else 0) := by
      unfold cst cost2
      split <;> simp
    rw [h4] at h3
    cases up
    · have e : ((sgn false : Int) : Rat) = -1 := rfl
      rw [e] at h3 ⊢
      show -1 * y q.m (cst (cost2 cell false)) s k ≤ _
      grind
    · have e : ((sgn true : Int) : Rat) = 1 := rfl
      rw [e] at h3 ⊢
      show _ ≤ 1 * y q.m (cst (cost2 cell true)) s k
      grind
theorem proof_sz {q : Eqs} {s : Tab} {cell : Nat} {up : Bool} (hq : q.Small) (h : Rdy q s) : ∃ D, PrSz q (pt q.m q.N s) (wt q cell up s) D := by
  obtain ⟨D, hD⟩ := h.inv.inv.num hq
  refine ⟨D, hD.ne, hD.le, fun k _ => ?_, fun j hj => ?_⟩
  · have key : ∀ n, n ≤ q.m → ∃ p : Int, (sm n fun i => if s.B i = k then s.T i q.N else 0) * (D : Rat) = (p : Rat) ∧ p.natAbs ≤ n * 3628800000 := fun n => by
      induction n with
      | zero => exact fun _ => ⟨0, by rw [sm]; grind, Nat.zero_le _⟩
      | succ n ih =>
        intro hn
        obtain ⟨p, h1, h2⟩ := ih (by omega)
        obtain ⟨p', h3, h4, _⟩ := hD.num n (by omega) q.N (Nat.le_refl _)
        by_cases hb : s.B n = k
        · refine ⟨p + p', by rw [sm, if_pos hb, Rat.intCast_add, ← h1, ← h3]; grind, ?_⟩
          have : (p + p').natAbs ≤ p.natAbs + p'.natAbs := Int.natAbs_add_le _ _
          omega
        · exact ⟨p, by rw [sm, if_neg hb, Rat.add_zero]; exact h1, Nat.le_trans h2 (Nat.mul_le_mul_right _ (Nat.le_succ n))⟩
    obtain ⟨p, h1, h2⟩ := key q.m (Nat.le_refl _)
    have := hq.m
    exact ⟨p, h1, by omega⟩
  · obtain ⟨P, h1, h2⟩ := hD.sum (k := q.cnt + j) (by show q.cnt + j < q.cnt + q.m; omega) (fun i => cost2 cell up (s.B i)) (fun i => cost2_bd _ _ _) q.m (Nat.le_refl _)
    have := hq.m
    refine ⟨sgn up * P, ?_, ?_⟩
    · unfold wt y
      rw [Rat.intCast_mul, ← h1]
      show (sgn up : Rat) * (sm q.m fun i => (cost2 cell up (s.B i) : Rat) * s.T i (q.cnt + j)) * (D : Rat) = _
      grind
    · rw [Int.natAbs_mul]
      have : (sgn up).natAbs = 1 := by cases up <;> rfl
      rw [this]
      omega
end Go.Bl
/-
  The proof engine, part AB: what only reads, in its place; array literals; a store into an element of an owned list of structs.
-/
namespace Go.Eng
section
variable {C : Cx} {e : Env} {I : PH} {R : List Res} {K : Act → World → Prop} {Q : Exit → Act → World → Prop} {W : World} {d n c : Nat} {v : Value} {o : Oper} {P : Program} {t ty el : TypeId} {pos : String} {after : Array Edge} {g : Option (Nat × Bool)} {x y : Operand} {A : Option Addr}
/-- A store into a cell of an owned list. -/
theorem Wr.vecN {sz i : Nat} {xs : List Value} (hi : i < n * sz) (h1 : v.oneCell' = true) : Wr P W I (Vec t sz A n c xs :: R) ((ad A).add i) [v] (Vec t sz A n c (xs.set i v) :: R) := by
  intro w hw
  obtain ⟨⟨m, ⟨m1, m2, hd, rfl, hv, h2⟩, hsat⟩, hst⟩ := id hw
  rcases hv.2 with ⟨_, h0, _⟩ | ⟨b, cur, rfl, hb, hnc, hcm, hsz, htake⟩
  · rw [h0, Nat.zero_mul] at hi; omega
  have hb0 : w.heap[b]? = some (.cells cur t (0, 0)) := hsat.own _ _ (PH.le_or_left _ _ _ _ hb)
  have hle : n * sz ≤ c * sz := Nat.mul_le_mul_right _ hnc
  have hrun := run_store1 (P := P) hb0 (i := i) (by omega) h1
  refine ⟨w.setCell ⟨b, i, none⟩ v, ?_, hw.upd (o := .cells (cur.setIfInBounds i v) t (0, 0)) (b := b) (fun mm hm => ?_) ?_ (fun k hne o' ho => (heap_setCell_other w ⟨b, i, none⟩ k v hne).trans ho) ⟨rfl, rfl, rfl, by simp, Nat.le_refl _⟩⟩
  · rw [ad_some, Addr.add_lit, Nat.zero_add]
    unfold storeCells
    rw [Sem.run_bind, Addr.add_zero', hrun]
    rfl
  · rcases hm.2 with ⟨he, _, _⟩ | ⟨b', cur', he, hb', h1', h2', h3', h4'⟩
    · cases he
    · cases he
      refine ⟨by rw [hb']; rfl, by simpa using hm.1, .inr ⟨b, cur.setIfInBounds i v, rfl, by simp, h1', h2', by simpa using hsz, ?_⟩⟩
      rw [← htake]
      simp only [Array.toList_setIfInBounds]
      rw [List.take_set]
  · exact heap_setCell_same w b i cur t v hb0
end
end Go.Eng
/-
  The proof engine, part M: maps that are owned, as lists of keys and values.
-/
namespace Go.Eng
open Go.Instr
/-- How keys of one kind lie in a map. -/
structure KeyEnc (P : Program) (kt : TypeId) {κ : Type} [DecidableEq κ] (g : κ → Value) : Prop where
  same : ∃ kind, P.underlying kt = some kind ∧ ∀ a b, sameNow kind (g a) (g b) = some (decide (a = b))
  check : ∀ (em : Bool) (a : κ) (w : World), (checkKey em 10000 kt (g a)).run P w = .ok () w
  bits : ∀ a, sameBits 10000 (g a) (g a) = true
theorem KeyEnc.int {P : Program} {kt : TypeId} {k : IntKind} (h : P.underlying kt = some (.int k)) : KeyEnc P kt (fun x : Int => Value.int k x) := by
  refine ⟨⟨_, h, fun a b => ?_⟩, fun em a w => ?_, fun a => by simp [sameBits]⟩
  · simp only [sameNow, if_pos]
    by_cases hab : a = b <;> simp [hab]
  · unfold checkKey
    rw [Sem.run_bind, run_underlying h, Result.andThen_ok]
    rfl
section
variable {κ α : Type} [DecidableEq κ] {g : κ → Value} {f : α → Value}
end
section
variable {C : Cx} {e e' : Env} {I : PH} {R R' R0 : List Res} {K K' : Act → World → Prop} {Q : Exit → Act → World → Prop} {W : World}
variable {d : Nat} {ty t : TypeId} {pos : String} {after : Array Edge} {gd : Option (Nat × Bool)} {x y z : Operand} {dst : Option Tmp}
variable {κ α : Type}
variable [DecidableEq κ]
end
end Go.Eng
/-
  The proof engine, part X: strings: their bytes, their parts, their order; bytes made into strings and back; a string appended to bytes.
-/
namespace Go.Eng
open Go.Lib (strCells)
open Go.Instr
variable {C : Cx} {e e' : Env} {I : PH} {R R' : List Res} {K K' : Act → World → Prop} {Q : Exit → Act → World → Prop}
variable {d : Nat} {ty t u el : TypeId} {pos : String} {after : Array Edge} {g : Option (Nat × Bool)} {x y z : Operand} {v vx vy vz : Value} {A : Option Addr} {n c : Nat}
theorem Sat.drew {w : World} {I m : PH} (h : Sat w I m) : Sat w.drew I m := ⟨h.imm, h.own, h.dis⟩
/-- A row that bears the run-time's mark: it is only read. -/
def BlkZ (b : Nat) (t : TypeId) (cs : List Value) : Res := fun m => ∃ fz rest, m b = some (.cells (cs ++ rest).toArray t fz)
theorem BlkZ.sliceOf {α : Type} {f : α → Value} {b : Nat} {m I' : PH} {l : List α} {cap : Nat} (hm : PH.le m I') (h : BlkZ b t (l.map f) m) (hc : l.length ≤ cap) (hl : cap ≤ maxLen) : SliceOf f I' (some ⟨b, 0, none⟩) cap l := by
  obtain ⟨fz, rest, hb⟩ := h
  refine ⟨fun j u hj => ⟨rfl, ?_⟩, hc, hl⟩
  have hlt := (List.getElem?_eq_some_iff.1 hj).1
  rw [ad_some, Addr.add_lit, Nat.zero_add]
  simp only [cellH, hm _ _ hb, Option.isSome_none, Bool.false_eq_true, if_false]
  rw [List.getElem?_toArray, List.getElem?_append_left hlt]
  exact hj
/-! ### Tests whose outcome is known -/
section
variable {cd : Code}
end
/-! ### Strings as keys -/
theorem strV_eq {a b : List UInt8} : (ByteArray.mk a.toArray == ByteArray.mk b.toArray) = decide (a = b) := by
  rw [Bool.eq_iff_iff, MapKept.bytes_beq, decide_eq_true_eq]
  exact ⟨fun he => by have := congrArg (fun x : ByteArray => x.data.toList) he; simpa using this, fun h => by rw [h]⟩
theorem KeyEnc.str {P : Program} {kt : TypeId} (h : P.underlying kt = some .string) : KeyEnc P kt strV := by
  refine ⟨⟨_, h, fun a b => ?_⟩, fun em a w => ?_, fun a => by show (ByteArray.mk a.toArray == ByteArray.mk a.toArray) = true; rw [strV_eq]; simp⟩
  · show some (ByteArray.mk a.toArray == ByteArray.mk b.toArray) = _
    rw [strV_eq]
  · unfold Instr.checkKey
    rw [Sem.run_bind, run_underlying h, Result.andThen_ok]
    rfl
/-! ### The order of strings -/
section
variable {P : Program} {a b : List UInt8}
end
end Go.Eng
/-
  The proof engine, part AC: bundles: one of their resources taken out and put back; lists of structs, one field set.
-/
namespace Go.Eng
theorem Ent.unstars {B R : List Res} : Ent (Stars B :: R) (B ++ R) := by
  rintro m ⟨m1, m2, hd, rfl, h1, h2⟩
  obtain ⟨k, hk, hkS⟩ := Stars.join hd h1 h2
  exact ⟨k, hk, hkS⟩
theorem Ent.stars {B R : List Res} : Ent (B ++ R) (Stars B :: R) := by
  intro m hm
  obtain ⟨m1, m2, hd, rfl, h1, h2⟩ := Stars.append hm
  exact ⟨_, PH.le_refl _, m1, m2, hd, rfl, h1, h2⟩
set_option maxHeartbeats 8000000 in
theorem Ent.push : ∀ (k : Nat) (R : List Res) (r : Res), R[k]? = some r → Ent (r :: R.eraseIdx k) R
  | 0, r' :: R, r, h => by simp at h; subst h; exact Ent.refl _
  | k + 1, r' :: R, r, h => (Ent.swap _ _ _).trans (Ent.pick 0 rfl (Ent.push k R r (by simpa using h)))
  | k, [], r, h => by simp at h
set_option maxHeartbeats 8000000 in
/-- Number k of a bundle is taken out. -/
theorem Ent.takeOut (k : Nat) {B R : List Res} {r : Res} (h : B[k]? = some r) : Ent (Stars B :: R) (r :: Stars (B.eraseIdx k) :: R) := by
  have hk := (List.getElem?_eq_some_iff.1 h).1
  refine Ent.unstars.trans ((Ent.pull k (B ++ R) r (by rw [List.getElem?_append_left hk]; exact h)).trans ?_)
  rw [List.eraseIdx_append_of_lt_length hk]
  exact Ent.pick 0 rfl Ent.stars
set_option maxHeartbeats 8000000 in
/-- .. and another one is put in its place. -/
theorem Ent.putIn (k : Nat) {B R : List Res} {r : Res} (hk : k < B.length) : Ent (r :: Stars (B.eraseIdx k) :: R) (Stars (B.set k r) :: R) := by
  have e : (B.set k r).eraseIdx k = B.eraseIdx k := List.eraseIdx_set_eq
  have hk2 : k < (B.set k r).length := by rw [List.length_set]; exact hk
  have h1 : Ent (r :: Stars (B.eraseIdx k) :: R) (r :: (B.eraseIdx k ++ R)) := Ent.pick 0 rfl Ent.unstars
  refine h1.trans (Ent.trans ?_ Ent.stars)
  rw [← e, ← List.eraseIdx_append_of_lt_length hk2]
  exact Ent.push k _ r (by rw [List.getElem?_append_left hk2, List.getElem?_set_self hk])
section
variable {C : Cx} {e : Env} {I : PH} {R : List Res} {K : Act → World → Prop} {Q : Exit → Act → World → Prop} {S : World → Prop} {d : Nat} {dst : Option Tmp} {ty t u : TypeId} {pos : String} {after : Array Edge} {g : Option (Nat × Bool)} {x y : Operand} {a b : List UInt8}
/-- A field of what a pointer leads to. -/
theorem QRun.fld {k o : Nat} {A : Addr} (hx : evo e x = some (.pointer (some A))) (ho : fieldOff C.P t k = some o) : QRun C e S ⟨dst, .fieldAddr t x k, ty, pos, after, g⟩ (.pointer (some (A.add o))) := fun a w ha _ => by
  simp only [execOp, ha.eval hx]
  exact run_v (fieldOff_run ho A w)
end
theorem flat_len {α : Type} {f : α → List Value} {sz : Nat} (hf : ∀ x, (f x).length = sz) (l : List α) : (l.flatMap f).length = l.length * sz := by
  induction l with
  | nil => simp
  | cons x l ih => rw [List.flatMap_cons, List.length_append, ih, hf, List.length_cons, Nat.succ_mul]; omega
section
variable {α : Type} [Inhabited α] {f : α → List Value} {sz : Nat}
/-- An element of an owned list of structs is read. -/
theorem Rds.vecN {W : World} {I : PH} {R : List Res} {t : TypeId} {A : Option Addr} {n c : Nat} {l : List α} (k : Nat) {i : Nat} (hf : ∀ x, (f x).length = sz) (hk : nthL R k = some (Vec t sz A n c (l.flatMap f))) (hi : i < l.length) : Rds W I R ((ad A).add (i * sz)) (f (l.getD i default)) := by
  intro j u hj
  have hfl := flatMap_at (f := f) (sz := sz) (fun x _ => hf x) hi
  have hjl : j < sz := by have := (List.getElem?_eq_some_iff.1 hj).1; rw [hf] at this; exact this
  rw [← hfl, List.getElem?_take, if_pos hjl, List.getElem?_drop] at hj
  rw [Addr.add_add]
  exact Rd.vecAt k hk (by rw [nthL_eq]; exact hj)
/-- A field of a given-up list of structs. -/
theorem SliceN.fld {c k : Nat} {l : List α} {I : PH} {R : List Res} {W : World} {A : Option Addr} {v : Value} (h : SliceN f sz I A c l) (hk : k < l.length) (j : Nat) (hj : nthL (f (l.getD k default)) j = some v) : Rd W I R (((ad A).add (k * sz)).add j) v :=
  h.rds hk j v (nthL_eq.symm.trans hj)
end
end Go.Eng
/-
  The proof engine, part AP: a contract of a function that reads what its caller owns: it is lent and given back.
-/
namespace Go.Eng
set_option maxHeartbeats 8000000 in
theorem FnSpec.keep {P : Program} {f : FuncId} {al : List Value} {I : PH} {Rpre : List Res} {Post : Value → List Res → Prop} (B : List Res)
    (hs : ∀ m I', PH.le I I' → PH.le m I' → Stars B m → FnSpec P f al I' Rpre Post) : FnSpec P f al I (B ++ Rpre) (fun v R' => ∃ R0, Post v R0 ∧ R' = B ++ R0) := by
  intro w F hw
  rw [List.append_assoc] at hw
  obtain ⟨m, hd, hB, hl, hback⟩ := hw.lend
  refine Calls.mono (hs m _ (PH.le_or_left _ _) (PH.le_or_right hd) hB w F hl) ?_
  rintro en w' ⟨v, R', rfl, hv, hst⟩
  exact ⟨v, B ++ R', rfl, ⟨R', hv, rfl⟩, by rw [List.append_assoc]; exact hback hst⟩
theorem Ent.pre : ∀ (A B R : List Res), Ent (A ++ (B ++ R)) (A ++ R)
  | [], [], R => Ent.refl R
  | [], b :: B, R => Ent.drop (Ent.pre [] B R)
  | a :: A, B, R => Ent.cons (Ent.pre A B R)
theorem Ent.stars_pre {A B R : List Res} : Ent (Stars (A ++ B) :: R) (Stars A :: R) := by
  refine Ent.unstars.trans ?_
  rw [List.append_assoc]
  exact (Ent.pre A B R).trans Ent.stars
end Go.Eng
/-
  The proof engine, part AX: lists of structs of two cells whose elements are written whole; rows of such lists in a bundle.
-/
namespace Go.Eng
section
variable {C : Cx} {e : Env} {I : PH} {R R1 R2 : List Res} {K : Act → World → Prop} {Q : Exit → Act → World → Prop} {W : World} {n c : Nat} {P : Program} {t ty el : TypeId} {pos : String} {after : Array Edge} {g : Option (Nat × Bool)} {x y : Operand} {A : Option Addr} {v v1 v2 : Value}
theorem Wr.two {B : Addr} (h1 : Wr P W I R B [v1] R1) (h2 : Wr P W I R1 (B.add 1) [v2] R2) : Wr P W I R B [v1, v2] R2 := by
  intro w hw
  obtain ⟨w1, r1, s1⟩ := h1 w hw
  obtain ⟨w2, r2, s2⟩ := h2 w1 s1
  refine ⟨w2, ?_, s2⟩
  unfold storeCells at r1 r2 ⊢
  rw [Sem.run_bind] at r1 r2 ⊢
  have e : (B.add 1).add 0 = B.add (0 + 1) := by rw [Addr.add_add]
  rw [e] at r2
  unfold storeCells at r1 r2 ⊢
  cases hs : (store (B.add 0) v1).run P w with
  | ok u w' =>
    rw [hs, Result.andThen_ok] at r1
    rw [Result.andThen_ok]
    have hw' : w' = w1 := by
      have : (Result.ok () w' : Result Unit) = .ok () w1 := r1
      injection this
    subst hw'
    rw [Sem.run_bind]
    exact r2
  | _ => rw [hs] at r1; cases r1
/-! Arithmetic whose result is told. -/
theorem run_addK {P : Program} {t : TypeId} {x y : Operand} {p q r : Int} (hr : I64 (p + q)) (h : p + q = r) : pureRun P (do eqGuard .add t x y (.int .i64 p) (.int .i64 q); binOp .add t (.int .i64 p) (.int .i64 q)) = some (.int .i64 r) := by rw [← h, ← wrap_i64 hr]; rfl
/-- An element of two cells is stored whole. -/
theorem Wr.vec2 {i : Nat} {xs : List Value} (hi : i < n) (h1 : v1.oneCell' = true) (h2 : v2.oneCell' = true) : Wr P W I (Vec t 2 A n c xs :: R) ((ad A).add (i * 2)) [v1, v2] (Vec t 2 A n c ((xs.set (i * 2) v1).set (i * 2 + 1) v2) :: R) := by
  refine Wr.two (Wr.vecN (by omega) h1) ?_
  rw [Addr.add_add]
  exact Wr.vecN (by omega) h2
theorem flat_set2 {α : Type} [Inhabited α] {f : α → List Value} {a b : α → Value} (hf : ∀ x, f x = [a x, b x]) {l : List α} {i : Nat} {z : α} (hi : i < l.length) : ((l.flatMap f).set (i * 2) (a z)).set (i * 2 + 1) (b z) = (l.set i z).flatMap f := by
  have e1 : ∀ l : List α, ∀ i, i < l.length → ((l.flatMap f).set (i * 2) (a z)).set (i * 2 + 1) (b z) = (l.set i z).flatMap f := fun l => by
    induction l with
    | nil => intro i hi; simp at hi
    | cons x l ih =>
      intro i hi
      cases i with
      | zero => rw [List.set_cons_zero, List.flatMap_cons, List.flatMap_cons, hf x, hf z]; rfl
      | succ i =>
        rw [List.set_cons_succ, List.flatMap_cons, List.flatMap_cons, hf x, ← ih i (by simpa using hi), show (i + 1) * 2 = i * 2 + 1 + 1 by omega]
        rfl
  exact e1 l i hi
/-- An element of an owned list of structs of two cells is written, resource number k. -/
theorem Nx.store_el2 (k : Nat) {α : Type} [Inhabited α] {f : α → List Value} {a b : α → Value} {l : List α} {i : Nat} {z : α} (hx : evo e x = some (.pointer (some ((ad A).add (i * 2))))) (hy : evo e y = some v) (hc : cellsL v = [a z, b z]) (hf : ∀ x, f x = [a x, b x]) (h1 : (a z).oneCell' = true) (h2 : (b z).oneCell' = true) (hn : cellsIn C.P t = some 2)
    (hk : nthL R k = some (Vec el 2 A n c (l.flatMap f))) (hi : i < l.length) (hin : i < n) (h : Nx C e I (Vec el 2 A n c ((l.set i z).flatMap f) :: R.eraseIdx k) K) : Nx C e I R (opK C.P ⟨none, .store t x y, ty, pos, after, g⟩ K Q) := by
  refine Nx.ent (Ent.pull k R _ (nthL_eq.symm.trans hk)) (Nx.store hx hy ((cellsL_eq _).trans hc) hn rfl (Wr.vec2 hin h1 h2) ?_)
  rw [flat_set2 hf hi]
  exact h
/-- .. in a bundle of such lists. -/
theorem Nx.store_row2 (k : Nat) {β α : Type} [Inhabited β] [Inhabited α] {f : α → List Value} {a b : α → Value} {r : β → Res} {bs : List β} {j : Nat} {y' : β} {l : List α} {i : Nat} {z : α} (hx : evo e x = some (.pointer (some ((ad A).add (i * 2))))) (hy : evo e y = some v) (hc : cellsL v = [a z, b z]) (hf : ∀ x, f x = [a x, b x]) (h1 : (a z).oneCell' = true) (h2 : (b z).oneCell' = true) (hn : cellsIn C.P t = some 2)
    (hk : nthL R k = some (Stars (bs.map r))) (hj : j < bs.length) (hr : r (bs.getD j default) = Vec el 2 A n c (l.flatMap f)) (hr' : r y' = Vec el 2 A n c ((l.set i z).flatMap f)) (hi : i < l.length) (hin : i < n)
    (h : Nx C e I (Stars ((bs.set j y').map r) :: R.eraseIdx k) K) : Nx C e I R (opK C.P ⟨none, .store t x y, ty, pos, after, g⟩ K Q) := by
  have hg : (bs.map r)[j]? = some (Vec el 2 A n c (l.flatMap f)) := by
    rw [List.getElem?_map, List.getElem?_eq_getElem hj, ← hr, List.getD_eq_getElem?_getD, List.getElem?_eq_getElem hj]; rfl
  refine Nx.ent ((Ent.pull k R _ (nthL_eq.symm.trans hk)).trans (Ent.takeOut j hg)) ?_
  refine Nx.store_el2 0 hx hy hc hf h1 h2 hn rfl hi hin ?_
  refine Nx.ent ?_ h
  rw [List.map_set, hr']
  exact Ent.putIn j (by rw [List.length_map]; exact hj)
/-- An element of a list of a bundle is read. -/
theorem Rds.rowN {W : World} (k : Nat) {β α : Type} [Inhabited β] [Inhabited α] {f : α → List Value} {r : β → Res} {bs : List β} {j sz : Nat} {l : List α} {i : Nat} (hf : ∀ x, (f x).length = sz) (hk : nthL R k = some (Stars (bs.map r))) (hj : j < bs.length) (hr : r (bs.getD j default) = Vec el sz A n c (l.flatMap f)) (hi : i < l.length) : Rds W I R ((ad A).add (i * sz)) (f (l.getD i default)) := fun q u hq =>
  Rd.ent ((Ent.pull k R _ (nthL_eq.symm.trans hk)).trans (Ent.takeOut j (r := Vec el sz A n c (l.flatMap f)) (by rw [List.getElem?_map, List.getElem?_eq_getElem hj, ← hr, List.getD_eq_getElem?_getD, List.getElem?_eq_getElem hj]; rfl))) (Rds.vecN 0 hf rfl hi q u hq)
end
end Go.Eng
/- Contracts of functions of the given program, and lemmas about plain lists and numbers: what the laws of this seat lean on. -/
namespace Go.Proofs.YtpcnapidlhpbkaaGreatDoor
open Go.Eng
attribute [local irreducible] opK wpList Code.wp Exit.then Exit.inBlock fnPost bodyPost Nx Calls Oper.wp Rd Rds Wr Ent Stars Blk Again Vec FnSpec wpMix QRun Stop Upto wpAt
/-! Fractions that are small enough; lists of fractions; sums -/
set_option maxHeartbeats 8000000 in
theorem rAdd_rat (p q : Rat) (hp : RB p) (hq : RB q) (I : PH) : FnSpec Tryz.prog 18 [ratV p, ratV q] I [] (fun v R' => v = redV (p + q) ∧ R' = []) := by
  have := rAdd_spec p.num p.den q.num q.den (rat_i64 hp).1 (rat_i64 hp).2 (rat_i64 hq).1 (rat_i64 hq).2 I
  rw [opV_rat hp hq, Rat.num_divInt_den, Rat.num_divInt_den] at this
  exact this
set_option maxHeartbeats 8000000 in
theorem rLess_rat (p q : Rat) (hp : RB p) (hq : RB q) (I : PH) : FnSpec Tryz.prog 19 [ratV p, ratV q] I [] (fun v R' => v = .bool (decide (p < q)) ∧ R' = []) := by
  have := rLess_spec p.num p.den q.num q.den (rat_i64 hp).1 (rat_i64 hp).2 (rat_i64 hq).1 (rat_i64 hq).2 I
  rw [show decide (FOk p.num p.den ∧ FOk q.num q.den ∧ p.num * q.den < q.num * p.den) = decide (p < q) from decide_eq_decide.2 ⟨fun h => (Rat.lt_iff p q).2 h.2.2, fun h => ⟨hp.fok, hq.fok, (Rat.lt_iff p q).1 h⟩⟩] at this
  exact this
theorem RB_int {z : Int} (h : z.natAbs ≤ 1152921504606846976) : RB (z : Rat) := ⟨h, by show (1 : Nat) ≤ _; omega⟩
theorem rat_ne {q : Rat} (h : q ≠ 0) : q.num ≠ 0 := fun h0 => h (Rat.num_eq_zero.1 h0)
/-! The program's small operations -/
set_option maxHeartbeats 2000000 in
set_option maxRecDepth 10000 in
theorem bwhole_spec (z : Int) (I : PH) : FnSpec Tryz.prog 56 [.int .i64 z] I [] (fun v R' => v = ratV (z : Rat) ∧ R' = []) := by
  refine FnSpec.enterP Tryz.func56 rfl Tryz.ntmps56 rfl fun w F => ?_
  repeat' first
    | ((with_reducible refine Nx.is_wp ?_); first | refine Nx.wo ?_ | refine Nx.zp (fun hc => ?_) (fun hc => ?_))
    | (refine Nx.zo ?_; first | refine Nx.opr rfl rfl ?_ | refine Nx.so ?_ | refine Nx.sb (fun bx => ?_) | refine Nx.sa (fun A2 c2 => ?_))
    | ((with_reducible refine Nx.is_at ?_); first | refine Nx.a ?_ | refine Nx.zd ?_ | refine Nx.zs (fun hc => ?_) (fun hc => ?_))
    | ((with_reducible refine Nx.is_mix ?_); first | refine Nx.m ?_ | refine Nx.zm ?_ | refine Nx.zt (fun hc => ?_) (fun hc => ?_))
    | refine Nx.zx ?_ | fail
  first | exact Nx.ret_fn rfl [] ⟨rfl, rfl⟩ (by (exact Ent.auto)) | exact Nx.ret_cell 0 rfl rfl rfl rfl rfl rfl [] ⟨rfl, rfl⟩ (by (exact Ent.auto))
set_option maxHeartbeats 2000000 in
set_option maxRecDepth 10000 in
theorem btimes_spec (p q : Rat) (hp : RB p) (hq : RB q) (h : RB (p * q)) (I : PH) (hT : TabI I) : FnSpec Tryz.prog 115 [ratV p, ratV q] I [] (fun v R' => v = ratV (p * q) ∧ R' = []) := by
  have hM := Mul_rat p q hp hq I hT
  rw [redV_pos h] at hM
  refine FnSpec.enterP Tryz.func115 rfl Tryz.ntmps115 rfl fun w F => ?_
  repeat' first
    | ((with_reducible refine Nx.is_wp ?_); first | refine Nx.wo ?_ | refine Nx.zp (fun hc => ?_) (fun hc => ?_))
    | (refine Nx.zo ?_; first | refine Nx.opr rfl rfl ?_ | refine Nx.callv rfl rfl rfl (by kernel_rfl) rfl hM ?_ | refine Nx.so ?_ | refine Nx.sb (fun bx => ?_) | refine Nx.sa (fun A2 c2 => ?_))
    | ((with_reducible refine Nx.is_at ?_); first | refine Nx.a ?_ | refine Nx.zd ?_ | refine Nx.zs (fun hc => ?_) (fun hc => ?_))
    | ((with_reducible refine Nx.is_mix ?_); first | refine Nx.m ?_ | refine Nx.zm ?_ | refine Nx.zt (fun hc => ?_) (fun hc => ?_))
    | refine Nx.zx ?_ | fail
  first | exact Nx.ret_fn rfl [] ⟨rfl, rfl⟩ (by (exact Ent.auto)) | exact Nx.ret_cell 0 rfl rfl rfl rfl rfl rfl [] ⟨rfl, rfl⟩ (by (exact Ent.auto))
set_option maxHeartbeats 2000000 in
set_option maxRecDepth 10000 in
theorem bminus_spec (p q : Rat) (hp : RB p) (hq : RB q) (h : RB (p - q)) (I : PH) (hT : TabI I) : FnSpec Tryz.prog 176 [ratV p, ratV q] I [] (fun v R' => v = ratV (p - q) ∧ R' = []) := by
  have hM := Sub_rat p q hp hq I hT
  rw [redV_pos h] at hM
  refine FnSpec.enterP Tryz.func176 rfl Tryz.ntmps176 rfl fun w F => ?_
  repeat' first
    | ((with_reducible refine Nx.is_wp ?_); first | refine Nx.wo ?_ | refine Nx.zp (fun hc => ?_) (fun hc => ?_))
    | (refine Nx.zo ?_; first | refine Nx.opr rfl rfl ?_ | refine Nx.callv rfl rfl rfl (by kernel_rfl) rfl hM ?_ | refine Nx.so ?_ | refine Nx.sb (fun bx => ?_) | refine Nx.sa (fun A2 c2 => ?_))
    | ((with_reducible refine Nx.is_at ?_); first | refine Nx.a ?_ | refine Nx.zd ?_ | refine Nx.zs (fun hc => ?_) (fun hc => ?_))
    | ((with_reducible refine Nx.is_mix ?_); first | refine Nx.m ?_ | refine Nx.zm ?_ | refine Nx.zt (fun hc => ?_) (fun hc => ?_))
    | refine Nx.zx ?_ | fail
  first | exact Nx.ret_fn rfl [] ⟨rfl, rfl⟩ (by (exact Ent.auto)) | exact Nx.ret_cell 0 rfl rfl rfl rfl rfl rfl [] ⟨rfl, rfl⟩ (by (exact Ent.auto))
set_option maxHeartbeats 2000000 in
set_option maxRecDepth 10000 in
theorem bover_spec (p q : Rat) (hp : RB p) (hq : RB q) (h0 : q ≠ 0) (h : RB (p / q)) (I : PH) (hT : TabI I) : FnSpec Tryz.prog 175 [ratV p, ratV q] I [] (fun v R' => v = ratV (p / q) ∧ R' = []) := by
  have hM := Div_rat p q hp hq (rat_ne h0) I hT
  rw [redV_pos h] at hM
  refine FnSpec.enterP Tryz.func175 rfl Tryz.ntmps175 rfl fun w F => ?_
  repeat' first
    | ((with_reducible refine Nx.is_wp ?_); first | refine Nx.wo ?_ | refine Nx.zp (fun hc => ?_) (fun hc => ?_))
    | (refine Nx.zo ?_; first | refine Nx.opr rfl rfl ?_ | refine Nx.callv rfl rfl rfl (by kernel_rfl) rfl hM ?_ | refine Nx.so ?_ | refine Nx.sb (fun bx => ?_) | refine Nx.sa (fun A2 c2 => ?_))
    | ((with_reducible refine Nx.is_at ?_); first | refine Nx.a ?_ | refine Nx.zd ?_ | refine Nx.zs (fun hc => ?_) (fun hc => ?_))
    | ((with_reducible refine Nx.is_mix ?_); first | refine Nx.m ?_ | refine Nx.zm ?_ | refine Nx.zt (fun hc => ?_) (fun hc => ?_))
    | refine Nx.zx ?_ | fail
  first | exact Nx.ret_fn rfl [] ⟨rfl, rfl⟩ (by (exact Ent.auto)) | exact Nx.ret_cell 0 rfl rfl rfl rfl rfl rfl [] ⟨rfl, rfl⟩ (by (exact Ent.auto))
/-! The reference's -/
/-! Lists of fractions -/
def ratC (q : Rat) : List Value := [.int .i64 q.num, .int .i64 q.den]
theorem ratC_len (q : Rat) : (ratC q).length = 2 := rfl
abbrev Rats := SliceN ratC 2
abbrev ratsR (A : Option Addr) (n c : Nat) (l : List Rat) : Res := Vec 24 2 A n c (l.flatMap ratC)
/-- The first n numbers of a function. -/
def rl (n : Nat) (f : Nat → Rat) : List Rat := (List.range n).map f
theorem rl_len (n : Nat) (f : Nat → Rat) : (rl n f).length = n := by unfold rl; rw [List.length_map, List.length_range]
theorem rl_at {n k : Nat} (f : Nat → Rat) (h : k < n) : (rl n f).getD k default = f k := by
  unfold rl
  rw [List.getD_eq_getElem?_getD, List.getElem?_map, List.getElem?_range h]; rfl
theorem rl_congr {n : Nat} {f g : Nat → Rat} (h : ∀ k, k < n → f k = g k) : rl n f = rl n g := List.map_congr_left fun k hk => h k (List.mem_range.1 hk)
theorem rl_succ (n : Nat) (f : Nat → Rat) : rl (n + 1) f = rl n f ++ [f n] := by unfold rl; rw [List.range_succ, List.map_append]; rfl
def updF (f : Nat → Rat) (k : Nat) (v : Rat) : Nat → Rat := fun j => if j = k then v else f j
theorem rl_set {n k : Nat} {f : Nat → Rat} {v : Rat} : (rl n f).set k v = rl n (updF f k v) := by
  refine List.ext_getElem? fun j => ?_
  unfold rl updF
  rw [List.getElem?_set, List.getElem?_map, List.length_map, List.length_range]
  by_cases hj : j < n
  · rw [List.getElem?_map, List.getElem?_range hj]
    by_cases h : k = j
    · subst h; rw [if_pos rfl, if_pos hj]; show some v = some (if k = k then v else f k); rw [if_pos rfl]
    · rw [if_neg h]; show some (f j) = some (if j = k then v else f j); rw [if_neg (Ne.symm h)]
  · have e : ∀ g : Nat → Rat, Option.map g (List.range n)[j]? = none := fun g => by rw [List.getElem?_eq_none (by rw [List.length_range]; omega)]; rfl
    rw [List.getElem?_map, e, e]
    split
    · rw [if_neg (by omega)]
    · rfl
end Go.Proofs.YtpcnapidlhpbkaaGreatDoor
/- Contracts of functions of the given program, and lemmas about plain lists and numbers: what the laws of this seat lean on. -/
namespace Go.Proofs.YtpcnapidlhpbkaaGreatDoor
open Go.Eng
attribute [local irreducible] opK wpList Code.wp Exit.then Exit.inBlock fnPost bodyPost Nx Calls Oper.wp Rd Rds Wr Ent Stars Blk Again Vec FnSpec wpMix QRun Stop Upto wpAt
/-! The program's tableau in memory, and what only reads it -/
/-- Where its lists lie. -/
structure TA where
  Ar : Option Addr
  cr : Nat
  Ab : Option Addr
  cb : Nat
  ra : Nat → Option Addr × Nat
abbrev tabC (q : Bl.Eqs) (vr vb vc : Value) : List Value := [.int .i64 (q.cnt : Int), .int .i64 (q.m : Int), vr, vb, vc]
abbrev tabV (q : Bl.Eqs) (ta : TA) (vc : Value) : List Value := tabC q (.slice ta.Ar q.m ta.cr) (.slice ta.Ab q.m ta.cb) vc
/-- The tableau's lists, given up. -/
structure TabQ (I : PH) (q : Bl.Eqs) (ta : TA) (s : Bl.Tab) : Prop where
  outer : SliceOf (fun i : Nat => Value.slice (ta.ra i).1 (q.N + 1) (ta.ra i).2) I ta.Ar ta.cr (List.range q.m)
  rows : ∀ i, i < q.m → Rats I (ta.ra i).1 (ta.ra i).2 (rl (q.N + 1) (s.T i))
  basis : SliceOf (fun i : Nat => Value.int .i64 (s.B i : Int)) I ta.Ab ta.cb (List.range q.m)
theorem TabQ.mono {I I' : PH} {q : Bl.Eqs} {ta : TA} {s : Bl.Tab} (hle : PH.le I I') (h : TabQ I q ta s) : TabQ I' q ta s := ⟨h.outer.mono hle, fun i hi => (h.rows i hi).mono hle, h.basis.mono hle⟩
theorem range_getD {k m : Nat} (h : k < m) : (List.range m).getD k default = k := by rw [List.getD_eq_getElem?_getD, List.getElem?_range h]; rfl
section
variable {I : PH} {q : Bl.Eqs} {ta : TA} {s : Bl.Tab} {W : World} {R : List Res}
theorem TabQ.row (h : TabQ I q ta s) {i : Nat} (hi : i < q.m) : Rd W I R ((ad ta.Ar).add (i * 1)) (.slice (ta.ra i).1 (q.N + 1) (ta.ra i).2) := by
  have := h.outer.rd (W := W) (R := R) (k := i) (by rw [List.length_range]; exact hi)
  rwa [range_getD hi] at this
theorem TabQ.bas (h : TabQ I q ta s) {i : Nat} (hi : i < q.m) : Rd W I R ((ad ta.Ab).add (i * 1)) (.int .i64 (s.B i : Int)) := by
  have := h.basis.rd (W := W) (R := R) (k := i) (by rw [List.length_range]; exact hi)
  rwa [range_getD hi] at this
theorem TabQ.num (h : TabQ I q ta s) {i k : Nat} (hi : i < q.m) (hk : k < q.N + 1) : Rds W I R ((ad (ta.ra i).1).add (k * 2)) (ratC (s.T i k)) := by
  have := (h.rows i hi).rds (W := W) (R := R) (k := k) (by rw [rl_len]; exact hk)
  rwa [rl_at _ hk] at this
theorem TabQ.as (h : TabQ I q ta s) (hm : 0 < q.m) : ta.Ar.isSome = true := h.outer.isSome (by rw [List.length_range]; exact hm)
theorem TabQ.bs (h : TabQ I q ta s) (hm : 0 < q.m) : ta.Ab.isSome = true := h.basis.isSome (by rw [List.length_range]; exact hm)
theorem TabQ.rs (h : TabQ I q ta s) {i : Nat} (hi : i < q.m) : (ta.ra i).1.isSome = true := (h.rows i hi).isSome (by rw [rl_len]; omega) (by omega)
theorem cost_rd {Ac : Option Addr} {cc : Nat} {c : Nat → Int} {n : Nat} (h : Rats I Ac cc (rl n (Bl.cst c))) {k : Nat} (hk : k < n) : Rds W I R ((ad Ac).add (k * 2)) (ratC (Bl.cst c k)) := by
  have := h.rds (W := W) (R := R) (k := k) (by rw [rl_len]; exact hk)
  rwa [rl_at _ hk] at this
end
set_option maxHeartbeats 2000000 in
set_option maxRecDepth 10000 in
theorem value_spec' (b : Nat) (q : Bl.Eqs) (hq : q.Small) (vr vb vc : Value) (I : PH) :
    FnSpec Tryz.prog 153 [.pointer (some ⟨b, 0, none⟩)] I [Blk b 193 (tabC q vr vb vc)] (fun v R' => v = .int .i64 ((q.cnt : Int) + (q.m : Int)) ∧ R' = [Blk b 193 (tabC q vr vb vc)]) := by
  have h1 := hq.cnt
  have h2 := hq.m
  refine FnSpec.enterP Tryz.func153 rfl Tryz.ntmps153 rfl fun w F => ?_
  repeat' first
    | ((with_reducible refine Nx.is_wp ?_); first | refine Nx.wo ?_ | refine Nx.p_draw (id := 1) rfl [0, 1, 2, 3, 4, 5, 6, 7, 8, 9] [] _ rfl rfl (by kernel_rfl) (by kernel_rfl) rfl (by repeat first | exact PanicOk.fn | refine PanicOk.then_ ?_ | refine PanicOk.inB ?_) (Ent.refl _) ?_ | refine Nx.zp (fun hc => ?_) (fun hc => ?_))
    | (refine Nx.zo ?_; first | refine Nx.opr rfl rfl ?_ | refine Nx.so ?_ | refine Nx.sb (fun bx => ?_) | refine Nx.sa (fun A2 c2 => ?_))
    | ((with_reducible refine Nx.is_at ?_); first | refine Nx.a ?_ | refine Nx.zd ?_ | refine Nx.zs (fun hc => ?_) (fun hc => ?_))
    | ((with_reducible refine Nx.is_mix ?_); first | refine Nx.m ?_ | refine Nx.zm ?_ | refine Nx.zt (fun hc => ?_) (fun hc => ?_))
    | refine Nx.zx ?_ | fail
  exact Nx.ret_fn rfl [_] ⟨rfl, rfl⟩ (by (exact Ent.auto))
/-- What is still to be taken away of a column's gain. -/
def gn (c : Nat → Int) (s : Bl.Tab) (col j : Nat) : Rat := Bl.cst c col - Bl.sm j fun i => Bl.cst c (s.B i) * s.T i col
theorem gn_succ (c : Nat → Int) (s : Bl.Tab) (col j : Nat) : gn c s col (j + 1) = gn c s col j - Bl.cst c (s.B j) * s.T j col := by
  unfold gn
  rw [Bl.sm]
  grind
theorem gn_end (c : Nat → Int) (s : Bl.Tab) (col m : Nat) : gn c s col m = Bl.gain m (Bl.cst c) s col := rfl
set_option maxRecDepth 10000 in
set_option maxHeartbeats 4000000 in
theorem gain_spec (b : Nat) (q : Bl.Eqs) (hq : q.Small) (ta : TA) (s : Bl.Tab) (hs : Bl.Inv q s) (c : Nat → Int) (hc : ∀ k, (c k).natAbs ≤ 1) (Ac : Option Addr) (cc : Nat) (I : PH) (hT : TabI I) (h : TabQ I q ta s) (hcost : Rats I Ac cc (rl q.N (Bl.cst c))) (col : Nat) (hcol : col < q.N) :
    FnSpec Tryz.prog 116 [.pointer (some ⟨b, 0, none⟩), .int .i64 (col : Int)] I [Blk b 193 (tabV q ta (.slice Ac q.N cc))] (fun v R' => v = ratV (Bl.gain q.m (Bl.cst c) s col) ∧ R' = [Blk b 193 (tabV q ta (.slice Ac q.N cc))]) := by
  have h1 := hq.cnt
  have h2 := hq.m
  have hN : (q.cnt : Int) + (q.m : Int) = (q.N : Int) := by show _ = ((q.cnt + q.m : Nat) : Int); omega
  have hNb : q.N ≤ 20 := by show q.cnt + q.m ≤ 20; omega
  obtain ⟨D, hD⟩ := hs.num hq
  have hAc := hcost.isSome (by rw [rl_len]; omega) (by omega)
  have hV := value_spec' b q hq (.slice ta.Ar q.m ta.cr) (.slice ta.Ab q.m ta.cb) (.slice Ac q.N cc) I
  rw [hN] at hV
  have hcol1 : ∀ (W : World) (Q : List Res), Rds W I Q ((ad Ac).add (col * 2)) (ratC (Bl.cst c col)) := fun W Q => cost_rd hcost hcol
  refine FnSpec.enterP Tryz.func116 rfl Tryz.ntmps116 rfl fun w F => ?_
  repeat' first
    | ((with_reducible refine Nx.is_wp ?_); first | refine Nx.wo ?_ | refine Nx.zp (fun hc => ?_) (fun hc => ?_))
    | (refine Nx.zo ?_; first | refine Nx.opr rfl rfl ?_ | refine Nx.callv rfl rfl rfl (by kernel_rfl) rfl (bwhole_spec _ _) ?_ | (refine Nx.call rfl rfl rfl (by kernel_rfl) rfl hV (by (exact Ent.auto)) ?_; rintro _ _ ⟨rfl, rfl⟩) | refine Nx.indexAddr_nat (A := Ac) (i := col) (sz := 2) rfl rfl rfl rfl rfl hcol hAc ?_ | refine Nx.loads rfl rfl rfl rfl (hcol1 _ _) rfl ?_ | refine Nx.so ?_ | refine Nx.sb (fun bx => ?_) | refine Nx.sa (fun A2 c2 => ?_))
    | ((with_reducible refine Nx.is_at ?_); first | refine Nx.a ?_ | refine Nx.zd ?_ | refine Nx.zs (fun hc => ?_) (fun hc => ?_))
    | ((with_reducible refine Nx.is_mix ?_); first | refine Nx.m ?_ | refine Nx.zm ?_ | refine Nx.zt (fun hc => ?_) (fun hc => ?_))
    | refine Nx.zx ?_ | fail
  rename_i b4
  revert bx; intro b5
  refine Nx.p_loop (σ := Nat) (fun j => [(0, .pointer (some ⟨b, 0, none⟩)), (1, .int .i64 (col : Int)), (4, .pointer (some ⟨b4, 0, none⟩)), (5, .pointer (some ⟨b5, 0, none⟩)), (23, .slice ta.Ab q.m ta.cb), (24, .int .i64 (q.m : Int)), (25, .int .i64 (j : Int))])
    (fun j => [Blk b5 24 (ratC (gn c s col j)), Blk b4 24 [.int .i64 0, .int .i64 0], Blk b 193 (tabV q ta (.slice Ac q.N cc)), F]) (fun j => j ≤ q.m) (fun j => q.m - j) 0 rfl (Nat.zero_le _) ⟨rfl, rfl, rfl, rfl, rfl, rfl, rfl, trivial⟩ (by rw [show gn c s col 0 = Bl.cst c col by unfold gn; rw [Bl.sm]; grind]; (exact Ent.auto)) ?_
  intro j hj
  have hj : j ≤ q.m := hj
  have hrb : ∀ i, i ≤ q.m → RB (gn c s col i) := fun i hi => hD.rbs hq hcol (fun i => c (s.B i)) (fun i => hc _) (c col) (hc col) hi
  by_cases hjm : j < q.m
  case neg =>
    obtain rfl : j = q.m := by omega
    rw [gn_end]
    repeat' first
      | ((with_reducible refine Nx.is_wp ?_); first | refine Nx.wo ?_ | refine Nx.zp (fun hc => ?_) (fun hc => ?_))
      | (refine Nx.zo ?_; first | refine Nx.opr rfl rfl ?_ | refine Nx.so ?_ | refine Nx.sb (fun bx => ?_) | refine Nx.sa (fun A2 c2 => ?_))
      | ((with_reducible refine Nx.is_at ?_); first | refine Nx.a ?_ | refine Nx.zd ?_ | refine Nx.zs (fun hc => ?_) (fun hc => ?_))
      | ((with_reducible refine Nx.is_mix ?_); first | refine Nx.m ?_ | refine Nx.zm ?_ | refine Nx.zt (fun hc => ?_) (fun hc => ?_))
      | refine Nx.zx ?_ | fail
    exact Nx.ret_cell 0 rfl rfl rfl rfl rfl rfl [_] ⟨rfl, rfl⟩ (by (exact Ent.auto))
  have hB := hs.ok.bas j hjm
  have r1 := fun (W : World) (Q : List Res) => h.bas (W := W) (R := Q) hjm
  have r2 := fun (W : World) (Q : List Res) => cost_rd (I := I) (W := W) (R := Q) hcost hB
  have r3 := fun (W : World) (Q : List Res) => h.row (W := W) (R := Q) hjm
  have r4 := fun (W : World) (Q : List Res) => h.num (W := W) (R := Q) hjm (show col < q.N + 1 by omega)
  have hAr := h.as (by omega)
  have hAb := h.bs (by omega)
  have hra := h.rs hjm
  have hM1 := btimes_spec (Bl.cst c (s.B j)) (s.T j col) (RB_int (by have := hc (s.B j); omega)) (hD.rb hjm (Nat.le_of_lt hcol)) (hD.rb1 hjm (Nat.le_of_lt hcol) _ (hc _)) I hT
  have hM2 := bminus_spec (gn c s col j) (Bl.cst c (s.B j) * s.T j col) (hrb j hj) (hD.rb1 hjm (Nat.le_of_lt hcol) _ (hc _)) (by rw [← gn_succ]; exact hrb (j + 1) hjm) I hT
  rw [← gn_succ] at hM2
  generalize s.B j = k at hB r1 r2 hM1 hM2
  have hm64 : (q.m : Int) ≤ 10 := by omega
  repeat' first
    | ((with_reducible refine Nx.is_wp ?_); first | refine Nx.wo ?_ | refine Nx.p_drawF (id := 7) rfl [0, 1, 2, 3, 4, 5, 6, 7, 8, 9, 10, 11, 12, 13, 14, 15, 16, 17, 18] [18] [19, 20] _ rfl rfl (by kernel_rfl) (by kernel_rfl) rfl (by repeat first | exact PanicOk.fn | refine PanicOk.then_ ?_ | refine PanicOk.inB ?_) (Ent.refl _) ?_ | refine Nx.zp (fun hc => ?_) (fun hc => ?_))
    | (refine Nx.zo ?_; first | refine Nx.opr rfl rfl ?_ | refine Nx.indexAddr_nat (A := ta.Ab) (i := j) (sz := 1) rfl rfl rfl rfl rfl hjm hAb ?_ | refine Nx.load rfl rfl rfl (r1 _ _) ?_ | refine Nx.callv rfl rfl rfl (by kernel_rfl) rfl hM1 ?_ | refine Nx.callv rfl rfl rfl (by kernel_rfl) rfl hM2 ?_ | refine Nx.so ?_ | refine Nx.sb (fun bx => ?_) | refine Nx.sa (fun A2 c2 => ?_))
    | ((with_reducible refine Nx.is_at ?_); first | refine Nx.a ?_ | refine Nx.zd ?_ | refine Nx.zs (fun hc => ?_) (fun hc => ?_))
    | ((with_reducible refine Nx.is_mix ?_); first | refine Nx.m_quiet rfl rfl rfl rfl rfl (by first | exact QRun.opr rfl | exact QRun.idx (A := Ac) (i := k) (sz := 2) rfl rfl rfl rfl hB hAc | exact QRun.loads rfl rfl rfl (r2 _ _) rfl | exact QRun.idx (A := ta.Ar) (i := j) (sz := 1) rfl rfl rfl rfl hjm hAr | exact QRun.load rfl rfl (r3 _ _) | exact QRun.idx (A := (ta.ra j).1) (i := col) (sz := 2) rfl rfl rfl rfl (by omega) hra | exact QRun.loads rfl rfl rfl (r4 _ _) rfl | exact QRun.loads rfl rfl rfl (Rds.cut 0 2 rfl rfl) rfl) ?_ | refine Nx.m_quiet_do rfl rfl rfl rfl rfl rfl rfl (by first | exact QRun.opr rfl | exact QRun.idx (A := Ac) (i := k) (sz := 2) rfl rfl rfl rfl hB hAc | exact QRun.loads rfl rfl rfl (r2 _ _) rfl | exact QRun.idx (A := ta.Ar) (i := j) (sz := 1) rfl rfl rfl rfl hjm hAr | exact QRun.load rfl rfl (r3 _ _) | exact QRun.idx (A := (ta.ra j).1) (i := col) (sz := 2) rfl rfl rfl rfl (by omega) hra | exact QRun.loads rfl rfl rfl (r4 _ _) rfl | exact QRun.loads rfl rfl rfl (Rds.cut 0 2 rfl rfl) rfl) ?_ | refine Nx.m ?_ | refine Nx.zm ?_ | refine Nx.zt (fun hc => ?_) (fun hc => ?_))
    | refine Nx.zx ?_ | fail
  exact Nx.again (j + 1) hjm (by omega) ⟨rfl, rfl, rfl, rfl, rfl, rfl, rfl, trivial⟩ (by (exact Ent.auto))
end Go.Proofs.YtpcnapidlhpbkaaGreatDoor
/-
  The proof engine, part AE: operations with one operand, in an open statement.
-/
namespace Go.Eng
section
variable {C : Cx} {e : Env} {S : World → Prop} {ty t u : TypeId} {pos : String} {after : Array Edge} {g : Option (Nat × Bool)} {x : Operand} {dst : Option Tmp}
theorem QRun.un {op : UnOp} {vx v : Value} (hx : evo e x = some vx) (hv : pureRun C.P (Op.unary op vx) = some v) : QRun C e S ⟨dst, .unOp op t x, ty, pos, after, g⟩ v :=
  fun a w ha _ => by simp only [execOp, ha.eval hx]; exact run_v (run_of_pureRun hv w)
theorem QRun.neg {p : Int} (hx : evo e x = some (.int .i64 p)) (hr : I64 (-p)) : QRun C e S ⟨dst, .unOp .neg t x, ty, pos, after, g⟩ (.int .i64 (-p)) :=
  QRun.un hx (by rw [← wrap_i64 hr, ← Int.zero_sub]; rfl)
theorem Nx.unstop {I : PH} {R : List Res} {K : Act → World → Prop} (h : Nx C e I R K) : Nx C e I R (Stop K) := h
end
end Go.Eng
/- Contracts of functions of the given program, and lemmas about plain lists and numbers: what the laws of this seat lean on. -/
namespace Go.Proofs.YtpcnapidlhpbkaaGreatDoor
open Go.Eng
attribute [local irreducible] opK wpList Code.wp Exit.then Exit.inBlock fnPost bodyPost Nx Calls Oper.wp Rd Rds Wr Ent Stars Blk Again Vec FnSpec wpMix QRun Stop Upto wpAt
/-! Which column enters, and which row leaves -/
set_option maxRecDepth 10000 in
set_option maxHeartbeats 4000000 in
theorem enter_spec (b : Nat) (q : Bl.Eqs) (hq : q.Small) (ta : TA) (s : Bl.Tab) (hs : Bl.Inv q s) (c : Nat → Int) (hc : ∀ k, (c k).natAbs ≤ 1) (Ac : Option Addr) (cc : Nat) (I : PH) (hT : TabI I) (h : TabQ I q ta s) (hcost : Rats I Ac cc (rl q.N (Bl.cst c))) :
    FnSpec Tryz.prog 112 [.pointer (some ⟨b, 0, none⟩)] I [Blk b 193 (tabV q ta (.slice Ac q.N cc))]
      (fun v R' => ((v = .int .i64 (-1) ∧ ∀ k, k < q.cnt → Bl.gain q.m (Bl.cst c) s k ≤ 0) ∨ ∃ e : Nat, v = .int .i64 (e : Int) ∧ Bl.Ent q.m q.cnt (Bl.cst c) s e) ∧ R' = [Blk b 193 (tabV q ta (.slice Ac q.N cc))]) := by
  have h1 := hq.cnt
  have h2 := hq.m
  obtain ⟨D, hD⟩ := hs.num hq
  refine FnSpec.enterP Tryz.func112 rfl Tryz.ntmps112 rfl fun w F => ?_
  repeat' first
    | ((with_reducible refine Nx.is_wp ?_); first | refine Nx.wo ?_ | refine Nx.zp (fun hc => ?_) (fun hc => ?_))
    | (refine Nx.zo ?_; first | refine Nx.opr rfl rfl ?_ | refine Nx.so ?_ | refine Nx.sb (fun bx => ?_) | refine Nx.sa (fun A2 c2 => ?_))
    | ((with_reducible refine Nx.is_at ?_); first | refine Nx.a ?_ | refine Nx.zd ?_ | refine Nx.zs (fun hc => ?_) (fun hc => ?_))
    | ((with_reducible refine Nx.is_mix ?_); first | refine Nx.m ?_ | refine Nx.zm ?_ | refine Nx.zt (fun hc => ?_) (fun hc => ?_))
    | refine Nx.zx ?_ | fail
  refine Nx.p_loop (σ := Nat) (fun k => [(0, .pointer (some ⟨b, 0, none⟩)), (7, .int .i64 (q.cnt : Int)), (8, .int .i64 (k : Int))])
    (fun _ => [Blk b 193 (tabV q ta (.slice Ac q.N cc)), F]) (fun k => k ≤ q.cnt ∧ ∀ j, j < k → Bl.gain q.m (Bl.cst c) s j ≤ 0) (fun k => q.cnt - k) 0 rfl ⟨Nat.zero_le _, fun j hj => absurd hj (Nat.not_lt_zero _)⟩ ⟨rfl, rfl, rfl, trivial⟩ (by (exact Ent.auto)) ?_
  rintro k ⟨hk, hno⟩
  by_cases hkc : k < q.cnt
  case neg =>
    obtain rfl : k = q.cnt := by omega
    repeat' first
      | ((with_reducible refine Nx.is_wp ?_); first | refine Nx.wo ?_ | refine Nx.zp (fun hc => ?_) (fun hc => ?_))
      | (refine Nx.zo ?_; first | refine Nx.opr rfl rfl ?_ | refine Nx.so ?_ | refine Nx.sb (fun bx => ?_) | refine Nx.sa (fun A2 c2 => ?_))
      | ((with_reducible refine Nx.is_at ?_); first | refine Nx.a ?_ | refine Nx.zd ?_ | refine Nx.zs (fun hc => ?_) (fun hc => ?_))
      | ((with_reducible refine Nx.is_mix ?_); first | refine Nx.m ?_ | refine Nx.zm ?_ | refine Nx.zt (fun hc => ?_) (fun hc => ?_))
      | refine Nx.zx ?_ | fail
    exact Nx.ret_fn rfl [_] ⟨.inl ⟨rfl, hno⟩, rfl⟩ (by (exact Ent.auto))
  have hkN : k < q.N := by show k < q.cnt + q.m; omega
  have hg := gain_spec b q hq ta s hs c hc Ac cc I hT h hcost k hkN
  have hrb : RB (Bl.gain q.m (Bl.cst c) s k) := hD.rbs hq hkN (fun i => c (s.B i)) (fun i => hc _) (c k) (hc k) (Nat.le_refl _)
  have hL := Less_rat ((0 : Int) : Rat) (Bl.gain q.m (Bl.cst c) s k) (RB_int (by decide)) hrb I
  by_cases hpos : 0 < Bl.gain q.m (Bl.cst c) s k
  · rw [decide_eq_true (show ((0 : Int) : Rat) < Bl.gain q.m (Bl.cst c) s k from hpos)] at hL
    repeat' first
      | ((with_reducible refine Nx.is_wp ?_); first | refine Nx.wo ?_ | refine Nx.zp (fun hc => ?_) (fun hc => ?_))
      | (refine Nx.zo ?_; first | refine Nx.opr rfl rfl ?_ | refine Nx.callv rfl rfl rfl (by kernel_rfl) rfl (bwhole_spec _ _) ?_ | (refine Nx.call rfl rfl rfl (by kernel_rfl) rfl hg (by (exact Ent.auto)) ?_; rintro _ _ ⟨rfl, rfl⟩) | refine Nx.callv rfl rfl rfl (by kernel_rfl) rfl hL ?_ | refine Nx.so ?_ | refine Nx.sb (fun bx => ?_) | refine Nx.sa (fun A2 c2 => ?_))
      | ((with_reducible refine Nx.is_at ?_); first | refine Nx.a ?_ | refine Nx.zd ?_ | refine Nx.zs (fun hc => ?_) (fun hc => ?_))
      | ((with_reducible refine Nx.is_mix ?_); first | refine Nx.m ?_ | refine Nx.zm ?_ | refine Nx.zt (fun hc => ?_) (fun hc => ?_))
      | refine Nx.zx ?_ | fail
    exact Nx.ret_fn rfl [_] ⟨.inr ⟨k, rfl, hkc, hpos, hno⟩, rfl⟩ (by (exact Ent.auto))
  · rw [decide_eq_false (show ¬ ((0 : Int) : Rat) < Bl.gain q.m (Bl.cst c) s k from hpos)] at hL
    repeat' first
      | ((with_reducible refine Nx.is_wp ?_); first | refine Nx.wo ?_ | refine Nx.zp (fun hc => ?_) (fun hc => ?_))
      | (refine Nx.zo ?_; first | refine Nx.opr rfl rfl ?_ | refine Nx.callv rfl rfl rfl (by kernel_rfl) rfl (bwhole_spec _ _) ?_ | (refine Nx.call rfl rfl rfl (by kernel_rfl) rfl hg (by (exact Ent.auto)) ?_; rintro _ _ ⟨rfl, rfl⟩) | refine Nx.callv rfl rfl rfl (by kernel_rfl) rfl hL ?_ | refine Nx.so ?_ | refine Nx.sb (fun bx => ?_) | refine Nx.sa (fun A2 c2 => ?_))
      | ((with_reducible refine Nx.is_at ?_); first | refine Nx.a ?_ | refine Nx.zd ?_ | refine Nx.zs (fun hc => ?_) (fun hc => ?_))
      | ((with_reducible refine Nx.is_mix ?_); first | refine Nx.m ?_ | refine Nx.zm ?_ | refine Nx.zt (fun hc => ?_) (fun hc => ?_))
      | refine Nx.zx ?_ | fail
    refine Nx.again (k + 1) ⟨hkc, fun j hj => ?_⟩ (by omega) ⟨rfl, rfl, rfl, trivial⟩ (by (exact Ent.auto))
    by_cases hjk : j < k
    · exact hno j hjk
    · obtain rfl : j = k := by omega
      exact Rat.not_lt.1 hpos
/-- The best row among the first ones. -/
def Best (q : Bl.Eqs) (s : Bl.Tab) (e n : Nat) : Option Nat → Prop
  | none => ∀ i, i < n → s.T i e ≤ 0
  | some r => r < n ∧ 0 < s.T r e ∧ ∀ i, i < n → 0 < s.T i e → s.T r q.N / s.T r e < s.T i q.N / s.T i e ∨ (s.T r q.N / s.T r e = s.T i q.N / s.T i e ∧ s.B r ≤ s.B i)
theorem Best.skip {q : Bl.Eqs} {s : Bl.Tab} {e n : Nat} {o : Option Nat} (h : Best q s e n o) (hn : s.T n e ≤ 0) : Best q s e (n + 1) o := by
  cases o with
  | none =>
    intro i hi
    by_cases hin : i < n
    · exact h i hin
    · obtain rfl : i = n := by omega
      exact hn
  | some r =>
    obtain ⟨h1, h2, h3⟩ := h
    refine ⟨by omega, h2, fun i hi hp => ?_⟩
    by_cases hin : i < n
    · exact h3 i hin hp
    · obtain rfl : i = n := by omega
      exact absurd hp (Rat.not_lt.2 hn)
theorem Best.keep {q : Bl.Eqs} {s : Bl.Tab} {e n r : Nat} (h : Best q s e n (some r)) (hn : s.T r q.N / s.T r e < s.T n q.N / s.T n e ∨ (s.T r q.N / s.T r e = s.T n q.N / s.T n e ∧ s.B r ≤ s.B n)) : Best q s e (n + 1) (some r) := by
  obtain ⟨h1, h2, h3⟩ := h
  refine ⟨by omega, h2, fun i hi hp => ?_⟩
  by_cases hin : i < n
  · exact h3 i hin hp
  · obtain rfl : i = n := by omega
    exact hn
theorem Best.first {q : Bl.Eqs} {s : Bl.Tab} {e n : Nat} (h : Best q s e n none) (hp : 0 < s.T n e) : Best q s e (n + 1) (some n) := by
  refine ⟨by omega, hp, fun i hi hpi => ?_⟩
  by_cases hin : i < n
  · exact absurd hpi (Rat.not_lt.2 (h i hin))
  · obtain rfl : i = n := by omega
    exact .inr ⟨rfl, Nat.le_refl _⟩
theorem Best.take {q : Bl.Eqs} {s : Bl.Tab} {e n r : Nat} (h : Best q s e n (some r)) (hp : 0 < s.T n e) (hn : s.T n q.N / s.T n e < s.T r q.N / s.T r e ∨ (s.T n q.N / s.T n e = s.T r q.N / s.T r e ∧ s.B n < s.B r)) : Best q s e (n + 1) (some n) := by
  obtain ⟨h1, h2, h3⟩ := h
  refine ⟨by omega, hp, fun i hi hpi => ?_⟩
  by_cases hin : i < n
  · rcases h3 i hin hpi with h4 | ⟨h4, h5⟩
    · rcases hn with h6 | ⟨h6, _⟩
      · exact .inl (by grind)
      · rw [h6]; exact .inl h4
    · rcases hn with h6 | ⟨h6, h7⟩
      · rw [← h4]; exact .inl h6
      · exact .inr ⟨h6.trans h4, by omega⟩
  · obtain rfl : i = n := by omega
    exact .inr ⟨rfl, Nat.le_refl _⟩
theorem eql_fracK {x y : Operand} (a b c d : Int) (r : Bool) (h : decide (a = c ∧ b = d) = r) (w : World) :
    (do eqGuard .eql 24 x y (.agg #[.int .i64 a, .int .i64 b]) (.agg #[.int .i64 c, .int .i64 d]); binOp .eql 24 (.agg #[.int .i64 a, .int .i64 b]) (.agg #[.int .i64 c, .int .i64 d])).run Tryz.prog w = .ok (.bool r) w := by subst h; exact eql_frac a b c d w
def bestV : Option Nat → Int
  | none => -1
  | some r => r
def bestC (q : Bl.Eqs) (s : Bl.Tab) (e : Nat) : Option Nat → List Value
  | none => [.int .i64 0, .int .i64 0]
  | some r => ratC (s.T r q.N / s.T r e)
theorem rat_eq_iff {p q : Rat} : (p.num = q.num ∧ (p.den : Int) = (q.den : Int)) ↔ p = q := ⟨fun h => Rat.ext h.1 (by omega), fun h => by subst h; exact ⟨rfl, rfl⟩⟩
set_option maxRecDepth 10000 in
set_option maxHeartbeats 16000000 in
theorem leave_spec (b : Nat) (q : Bl.Eqs) (hq : q.Small) (ta : TA) (s : Bl.Tab) (hs : Bl.Inv q s) (vc : Value) (I : PH) (hT : TabI I) (h : TabQ I q ta s) (e : Nat) (he : e < q.cnt) :
    FnSpec Tryz.prog 113 [.pointer (some ⟨b, 0, none⟩), .int .i64 (e : Int)] I [Blk b 193 (tabV q ta vc)]
      (fun v R' => ((v = .int .i64 (-1) ∧ ∀ i, i < q.m → s.T i e ≤ 0) ∨ ∃ r : Nat, v = .int .i64 (r : Int) ∧ Bl.Lea q.m q.N s e r) ∧ R' = [Blk b 193 (tabV q ta vc)]) := by
  have h1 := hq.cnt
  have h2 := hq.m
  have hN : (q.cnt : Int) + (q.m : Int) = (q.N : Int) := by show _ = ((q.cnt + q.m : Nat) : Int); omega
  have hNb : q.N ≤ 20 := by show q.cnt + q.m ≤ 20; omega
  have heN : e < q.N := by show e < q.cnt + q.m; omega
  obtain ⟨D, hD⟩ := hs.num hq
  have hV := value_spec' b q hq (.slice ta.Ar q.m ta.cr) (.slice ta.Ab q.m ta.cb) vc I
  rw [hN] at hV
  refine FnSpec.enterP Tryz.func113 rfl Tryz.ntmps113 rfl fun w F => ?_
  repeat' first
    | ((with_reducible refine Nx.is_wp ?_); first | refine Nx.wo ?_ | refine Nx.zp (fun hc => ?_) (fun hc => ?_))
    | (refine Nx.zo ?_; first | refine Nx.opr rfl rfl ?_ | refine Nx.so ?_ | refine Nx.sb (fun bx => ?_) | refine Nx.sa (fun A2 c2 => ?_))
    | ((with_reducible refine Nx.is_at ?_); first | refine Nx.a ?_ | refine Nx.zd ?_ | refine Nx.zs (fun hc => ?_) (fun hc => ?_))
    | ((with_reducible refine Nx.is_mix ?_); first | refine Nx.m ?_ | refine Nx.zm ?_ | refine Nx.zt (fun hc => ?_) (fun hc => ?_))
    | refine Nx.zx ?_ | fail
  revert bx; intro b6
  refine Nx.p_loop (σ := Nat × Option Nat) (fun z => [(0, .pointer (some ⟨b, 0, none⟩)), (1, .int .i64 (e : Int)), (5, .int .i64 (bestV z.2)), (6, .pointer (some ⟨b6, 0, none⟩)), (13, .slice ta.Ar q.m ta.cr), (14, .int .i64 (q.m : Int)), (15, .int .i64 (z.1 : Int))])
    (fun z => [Blk b6 24 (bestC q s e z.2), Blk b 193 (tabV q ta vc), F]) (fun z => z.1 ≤ q.m ∧ Best q s e z.1 z.2) (fun z => q.m - z.1) (0, none) rfl ⟨Nat.zero_le _, fun i hi => absurd hi (Nat.not_lt_zero _)⟩ ⟨rfl, rfl, rfl, rfl, rfl, rfl, rfl, trivial⟩ (by (exact Ent.auto)) ?_
  rintro ⟨i, o⟩ ⟨hi, ho⟩
  dsimp only at hi ho ⊢
  by_cases him : i < q.m
  case neg =>
    obtain rfl : i = q.m := by omega
    repeat' first
      | ((with_reducible refine Nx.is_wp ?_); first | refine Nx.wo ?_ | refine Nx.zp (fun hc => ?_) (fun hc => ?_))
      | (refine Nx.zo ?_; first | refine Nx.opr rfl rfl ?_ | refine Nx.so ?_ | refine Nx.sb (fun bx => ?_) | refine Nx.sa (fun A2 c2 => ?_))
      | ((with_reducible refine Nx.is_at ?_); first | refine Nx.a ?_ | refine Nx.zd ?_ | refine Nx.zs (fun hc => ?_) (fun hc => ?_))
      | ((with_reducible refine Nx.is_mix ?_); first | refine Nx.m ?_ | refine Nx.zm ?_ | refine Nx.zt (fun hc => ?_) (fun hc => ?_))
      | refine Nx.zx ?_ | fail
    cases o with
    | none => exact Nx.ret_fn rfl [_] ⟨.inl ⟨rfl, ho⟩, rfl⟩ (by (exact Ent.auto))
    | some r => exact Nx.ret_fn rfl [_] ⟨.inr ⟨r, rfl, ho.1, ho.2.1, ho.2.2⟩, rfl⟩ (by (exact Ent.auto))
  have hAr := h.as (by omega)
  have hAb := h.bs (by omega)
  have hra := h.rs him
  have r3 := fun (W : World) (Q : List Res) => h.row (W := W) (R := Q) him
  have r4 := fun (W : World) (Q : List Res) => h.num (W := W) (R := Q) him (show e < q.N + 1 by omega)
  have hL := Less_rat ((0 : Int) : Rat) (s.T i e) (RB_int (by decide)) (hD.rb him (Nat.le_of_lt heN)) I
  by_cases hp : 0 < s.T i e
  case neg =>
    rw [decide_eq_false (show ¬ ((0 : Int) : Rat) < s.T i e from hp)] at hL
    repeat' first
      | ((with_reducible refine Nx.is_wp ?_); first | refine Nx.wo ?_ | refine Nx.p_drawF (id := 6) rfl [1, 2, 3, 4, 0] [0] [5, 6] _ rfl rfl (by kernel_rfl) (by kernel_rfl) rfl (by repeat first | exact PanicOk.fn | refine PanicOk.then_ ?_ | refine PanicOk.inB ?_) (Ent.refl _) ?_ | refine Nx.p_poolF (id := 7) rfl [0, 1, 5, 6, 7, 8, 2, 3, 4, 9] [2, 9] [] [11] [11] [⟨10, 9, 24, _⟩] rfl rfl (by kernel_rfl) (by kernel_rfl) (by decide) (PoolFit.cons ⟨⟨_, _, _, rfl⟩, rfl, rfl⟩ PoolFit.nil) (by repeat first | exact PanicOk.fn | refine PanicOk.then_ ?_ | refine PanicOk.inB ?_) (Ent.refl _) ?_ | refine Nx.p_drawF (id := 8) rfl [0, 1, 2, 3, 4, 5, 6, 7, 8, 9, 10, 11, 12, 13, 14, 15, 16, 17, 18, 19, 20, 21, 22, 23, 24, 25, 26, 27, 28] [5] [] _ rfl rfl (by kernel_rfl) (by kernel_rfl) rfl (by repeat first | exact PanicOk.fn | refine PanicOk.then_ ?_ | refine PanicOk.inB ?_) (Ent.refl _) ?_ | refine Nx.p_drawF (id := 9) rfl [0, 1, 2] [] [3] _ rfl rfl (by kernel_rfl) (by kernel_rfl) rfl (by repeat first | exact PanicOk.fn | refine PanicOk.then_ ?_ | refine PanicOk.inB ?_) (Ent.refl _) ?_ | refine Nx.zp (fun hc => ?_) (fun hc => ?_))
      | ((first | refine Nx.at_op rfl rfl ?_ | refine Nx.m_loud rfl rfl rfl ?_ | refine Nx.at_do rfl rfl rfl rfl ?_ | refine Nx.m_loud_do rfl rfl rfl rfl rfl ?_ | refine GoodF.loud_ rfl rfl rfl rfl (fun ex X => ?_)); first | refine Nx.opr rfl rfl ?_ | refine Nx.indexAddr_nat (A := ta.Ar) (i := i) (sz := 1) rfl rfl rfl rfl rfl him hAr ?_ | refine Nx.load rfl rfl rfl (r3 _ _) ?_ | refine Nx.callv rfl rfl rfl (by kernel_rfl) rfl (bwhole_spec _ _) ?_ | refine Nx.callv rfl rfl rfl (by kernel_rfl) rfl hL ?_ | refine Nx.so ?_ | refine Nx.sb (fun bx => ?_) | refine Nx.sa (fun A2 c2 => ?_))
      | ((with_reducible refine Nx.is_at ?_); first | refine Nx.a ?_ | refine Nx.zd ?_ | refine Nx.zs (fun hc => ?_) (fun hc => ?_))
      | ((with_reducible refine Nx.is_mix ?_); first | refine Nx.m_quiet rfl rfl rfl rfl rfl (by first | exact QRun.opr rfl | exact QRun.idx (A := (ta.ra i).1) (i := e) (sz := 2) rfl rfl rfl rfl (by omega) hra | exact QRun.loads rfl rfl rfl (r4 _ _) rfl) ?_ | refine Nx.m_quiet_do rfl rfl rfl rfl rfl rfl rfl (by first | exact QRun.opr rfl | exact QRun.idx (A := (ta.ra i).1) (i := e) (sz := 2) rfl rfl rfl rfl (by omega) hra | exact QRun.loads rfl rfl rfl (r4 _ _) rfl) ?_ | refine Nx.m ?_ | refine Nx.zm ?_ | refine Nx.zt (fun hc => ?_) (fun hc => ?_))
      | ((with_reducible refine GoodF.is ?_); first | refine GoodF.quiet rfl rfl rfl rfl rfl rfl (by first | exact QRun.opr rfl | exact QRun.idx (A := (ta.ra i).1) (i := e) (sz := 2) rfl rfl rfl rfl (by omega) hra | exact QRun.loads rfl rfl rfl (r4 _ _) rfl |  exact QRun.std) ?_ | refine GoodF.done1 rfl (fun bx => ?_) | refine GoodF.done2 rfl (fun bx by_ => ?_) | refine GoodF.done3 rfl (fun bx by_ bz => ?_))
      | ((fail_if_success (with_reducible refine Nx.is_at ?_)); (fail_if_success (with_reducible refine Nx.is_wp ?_)); (fail_if_success (with_reducible refine Nx.is_mix ?_)); first | refine Nx.ex ?_ | refine Nx.pool_nextF 0 rfl (by exact Ent.auto) ?_ | refine Nx.pool_nextF 1 rfl (by exact Ent.auto) ?_ | refine Nx.pool_nextF 2 rfl (by exact Ent.auto) ?_ | refine Nx.pool_nextF 3 rfl (by exact Ent.auto) ?_)
    exact Nx.again (i + 1, o) ⟨him, ho.skip (Rat.not_lt.1 hp)⟩ (by dsimp only; omega) ⟨rfl, rfl, rfl, rfl, rfl, rfl, rfl, trivial⟩ (by (exact Ent.auto))
  rw [decide_eq_true (show ((0 : Int) : Rat) < s.T i e from hp)] at hL
  have hne : s.T i e ≠ 0 := by grind
  have r5 := fun (W : World) (Q : List Res) => h.num (W := W) (R := Q) him (show q.N < q.N + 1 by omega)
  have hrq : ∀ r, r < q.m → 0 < s.T r e → RB (s.T r q.N / s.T r e) := fun r hr hpr => hD.rbq hr hr (Nat.le_refl _) heN (by grind)
  have hM := bover_spec (s.T i q.N) (s.T i e) (hD.rb him (Nat.le_refl _)) (hD.rb him (Nat.le_of_lt heN)) hne (hrq i him hp) I hT
  obtain ⟨rq, hrq'⟩ : ∃ rq, rq = s.T i q.N / s.T i e := ⟨_, rfl⟩
  rw [← hrq'] at hM
  obtain ⟨xe, hxe⟩ : ∃ xe, xe = s.T i e := ⟨_, rfl⟩
  obtain ⟨xn, hxn⟩ : ∃ xn, xn = s.T i q.N := ⟨_, rfl⟩
  rw [← hxe] at hL r4
  rw [← hxe, ← hxn] at hM
  rw [← hxn] at r5
  have hbc : ∃ x y : Int, bestC q s e o = [.int .i64 x, .int .i64 y] := by
    cases o with
    | none => exact ⟨_, _, rfl⟩
    | some r => exact ⟨_, _, rfl⟩
  obtain ⟨bx1, bx2, hbx⟩ := hbc
  obtain ⟨bv, hbv⟩ : ∃ bv, bv = bestV o := ⟨_, rfl⟩
  rw [hbx, ← hbv]
  repeat' first
    | ((with_reducible refine Nx.is_wp ?_); first | refine Nx.p_stopr 8 rfl ?_ | refine Nx.wo ?_ | refine Nx.p_drawF (id := 6) rfl [1, 2, 3, 4, 0] [0] [5, 6] _ rfl rfl (by kernel_rfl) (by kernel_rfl) rfl (by repeat first | exact PanicOk.fn | refine PanicOk.then_ ?_ | refine PanicOk.inB ?_) (Ent.refl _) ?_ | refine Nx.p_poolF (id := 7) rfl [0, 1, 5, 6, 7, 8, 2, 3, 4, 9] [2, 9] [] [11] [11] [⟨10, 9, 24, _⟩] rfl rfl (by kernel_rfl) (by kernel_rfl) (by decide) (PoolFit.cons ⟨⟨_, _, _, rfl⟩, rfl, rfl⟩ PoolFit.nil) (by repeat first | exact PanicOk.fn | refine PanicOk.then_ ?_ | refine PanicOk.inB ?_) (Ent.refl _) ?_ | refine Nx.p_drawF (id := 8) rfl [0, 1, 2, 3, 4, 5, 6, 7, 8, 9, 10, 11, 12, 13, 14, 15, 16, 17, 18, 19, 20, 21, 22, 23, 24, 25, 26, 27, 28] [5] [] _ rfl rfl (by kernel_rfl) (by kernel_rfl) rfl (by repeat first | exact PanicOk.fn | refine PanicOk.then_ ?_ | refine PanicOk.inB ?_) (Ent.refl _) ?_ | refine Nx.p_drawF (id := 9) rfl [0, 1, 2] [] [3] _ rfl rfl (by kernel_rfl) (by kernel_rfl) rfl (by repeat first | exact PanicOk.fn | refine PanicOk.then_ ?_ | refine PanicOk.inB ?_) (Ent.refl _) ?_ | refine Nx.zp (fun hc => ?_) (fun hc => ?_))
    | ((first | refine Nx.at_op rfl rfl ?_ | refine Nx.m_loud rfl rfl rfl ?_ | refine Nx.at_do rfl rfl rfl rfl ?_ | refine Nx.m_loud_do rfl rfl rfl rfl rfl ?_ | refine GoodF.loud_ rfl rfl rfl rfl (fun ex X => ?_)); first | refine Nx.opr rfl rfl ?_ | refine Nx.indexAddr_nat (A := ta.Ar) (i := i) (sz := 1) rfl rfl rfl rfl rfl him hAr ?_ | refine Nx.load rfl rfl rfl (r3 _ _) ?_ | refine Nx.callv rfl rfl rfl (by kernel_rfl) rfl (bwhole_spec _ _) ?_ | refine Nx.callv rfl rfl rfl (by kernel_rfl) rfl hL ?_ | (refine Nx.call rfl rfl rfl (by kernel_rfl) rfl hV (by (exact Ent.auto)) ?_; rintro _ _ ⟨rfl, rfl⟩) | refine Nx.callv rfl rfl rfl (by kernel_rfl) rfl hM ?_ | refine Nx.so ?_ | refine Nx.sb (fun bx => ?_) | refine Nx.sa (fun A2 c2 => ?_))
    | ((with_reducible refine Nx.is_at ?_); first | refine Nx.a ?_ | refine Nx.zd ?_ | refine Nx.zs (fun hc => ?_) (fun hc => ?_))
    | ((with_reducible refine Nx.is_mix ?_); first | refine Nx.m_quiet rfl rfl rfl rfl rfl (by first | exact QRun.opr rfl | exact QRun.idx (A := (ta.ra i).1) (i := e) (sz := 2) rfl rfl rfl rfl (by omega) hra | exact QRun.loads rfl rfl rfl (r4 _ _) rfl | exact QRun.idx (A := (ta.ra i).1) (i := q.N) (sz := 2) rfl rfl rfl rfl (by omega) hra | exact QRun.loads rfl rfl rfl (r5 _ _) rfl) ?_ | refine Nx.m_quiet_do rfl rfl rfl rfl rfl rfl rfl (by first | exact QRun.opr rfl | exact QRun.idx (A := (ta.ra i).1) (i := e) (sz := 2) rfl rfl rfl rfl (by omega) hra | exact QRun.loads rfl rfl rfl (r4 _ _) rfl | exact QRun.idx (A := (ta.ra i).1) (i := q.N) (sz := 2) rfl rfl rfl rfl (by omega) hra | exact QRun.loads rfl rfl rfl (r5 _ _) rfl) ?_ | refine Nx.m ?_ | refine Nx.zm ?_ | refine Nx.zt (fun hc => ?_) (fun hc => ?_))
    | ((with_reducible refine GoodF.is ?_); first | refine GoodF.quiet rfl rfl rfl rfl rfl rfl (by first | exact QRun.opr rfl | exact QRun.idx (A := (ta.ra i).1) (i := e) (sz := 2) rfl rfl rfl rfl (by omega) hra | exact QRun.loads rfl rfl rfl (r4 _ _) rfl | exact QRun.idx (A := (ta.ra i).1) (i := q.N) (sz := 2) rfl rfl rfl rfl (by omega) hra | exact QRun.loads rfl rfl rfl (r5 _ _) rfl |  exact QRun.std) ?_ | refine GoodF.done1 rfl (fun bx => ?_) | refine GoodF.done2 rfl (fun bx by_ => ?_) | refine GoodF.done3 rfl (fun bx by_ bz => ?_))
    | ((fail_if_success (with_reducible refine Nx.is_at ?_)); (fail_if_success (with_reducible refine Nx.is_wp ?_)); (fail_if_success (with_reducible refine Nx.is_mix ?_)); first | refine Nx.ex ?_ | refine Nx.pool_nextF 0 rfl (by exact Ent.auto) ?_ | refine Nx.pool_nextF 1 rfl (by exact Ent.auto) ?_ | refine Nx.pool_nextF 2 rfl (by exact Ent.auto) ?_ | refine Nx.pool_nextF 3 rfl (by exact Ent.auto) ?_)
  refine Nx.unstop ?_
  revert bx; intro b9
  have hset : Best q s e (i + 1) (some i) → bestC q s e (some i) = ratC rq := fun _ => by rw [hrq']; rfl
  cases o with
  | none =>
    have hbn := ho.first hp
    have hsb := hset hbn
    have hbvn : bv = -1 := hbv
    subst hbvn
    repeat' first
      | ((with_reducible refine Nx.is_wp ?_); first | refine Nx.wo ?_ | refine Nx.p_drawF (id := 6) rfl [1, 2, 3, 4, 0] [0] [5, 6] _ rfl rfl (by kernel_rfl) (by kernel_rfl) rfl (by repeat first | exact PanicOk.fn | refine PanicOk.then_ ?_ | refine PanicOk.inB ?_) (Ent.refl _) ?_ | refine Nx.p_poolF (id := 7) rfl [0, 1, 5, 6, 7, 8, 2, 3, 4, 9] [2, 9] [] [11] [11] [⟨10, 9, 24, _⟩] rfl rfl (by kernel_rfl) (by kernel_rfl) (by decide) (PoolFit.cons ⟨⟨_, _, _, rfl⟩, rfl, rfl⟩ PoolFit.nil) (by repeat first | exact PanicOk.fn | refine PanicOk.then_ ?_ | refine PanicOk.inB ?_) (Ent.refl _) ?_ | refine Nx.p_drawF (id := 8) rfl [0, 1, 2, 3, 4, 5, 6, 7, 8, 9, 10, 11, 12, 13, 14, 15, 16, 17, 18, 19, 20, 21, 22, 23, 24, 25, 26, 27, 28] [5] [] _ rfl rfl (by kernel_rfl) (by kernel_rfl) rfl (by repeat first | exact PanicOk.fn | refine PanicOk.then_ ?_ | refine PanicOk.inB ?_) (Ent.refl _) ?_ | refine Nx.p_drawF (id := 9) rfl [0, 1, 2] [] [3] _ rfl rfl (by kernel_rfl) (by kernel_rfl) rfl (by repeat first | exact PanicOk.fn | refine PanicOk.then_ ?_ | refine PanicOk.inB ?_) (Ent.refl _) ?_ | refine Nx.zp (fun hc => ?_) (fun hc => ?_))
      | ((first | refine Nx.at_op rfl rfl ?_ | refine Nx.m_loud rfl rfl rfl ?_ | refine Nx.at_do rfl rfl rfl rfl ?_ | refine Nx.m_loud_do rfl rfl rfl rfl rfl ?_ | refine GoodF.loud_ rfl rfl rfl rfl (fun ex X => ?_)); first | refine Nx.opr rfl rfl ?_ | refine Nx.so ?_ | refine Nx.sb (fun bx => ?_) | refine Nx.sa (fun A2 c2 => ?_))
      | ((with_reducible refine Nx.is_at ?_); first | refine Nx.a ?_ | refine Nx.zd ?_ | refine Nx.zs (fun hc => ?_) (fun hc => ?_))
      | ((with_reducible refine Nx.is_mix ?_); first | refine Nx.m ?_ | refine Nx.zm ?_ | refine Nx.zt (fun hc => ?_) (fun hc => ?_))
      | ((with_reducible refine GoodF.is ?_); first | refine GoodF.quiet rfl rfl rfl rfl rfl rfl (by first | exact QRun.opr rfl |  exact QRun.std) ?_ | refine GoodF.done1 rfl (fun bx => ?_) | refine GoodF.done2 rfl (fun bx by_ => ?_) | refine GoodF.done3 rfl (fun bx by_ bz => ?_))
      | ((fail_if_success (with_reducible refine Nx.is_at ?_)); (fail_if_success (with_reducible refine Nx.is_wp ?_)); (fail_if_success (with_reducible refine Nx.is_mix ?_)); first | refine Nx.ex ?_ | refine Nx.pool_nextF 0 rfl (by exact Ent.auto) ?_ | refine Nx.pool_nextF 1 rfl (by exact Ent.auto) ?_ | refine Nx.pool_nextF 2 rfl (by exact Ent.auto) ?_ | refine Nx.pool_nextF 3 rfl (by exact Ent.auto) ?_)
    exact Nx.again (i + 1, some i) ⟨him, hbn⟩ (by dsimp only; omega) ⟨rfl, rfl, rfl, rfl, rfl, rfl, rfl, trivial⟩ (by dsimp only; rw [hsb]; (exact Ent.auto))
  | some r =>
    have hr := ho.1
    have hbvr : bv = (r : Int) := hbv
    subst hbvr
    obtain ⟨rr, hrr⟩ : ∃ rr, rr = s.T r q.N / s.T r e := ⟨_, rfl⟩
    have hRB1 : RB rq := by rw [hrq']; exact hrq i him hp
    have hRB2 : RB rr := by rw [hrr]; exact hrq r (by omega) ho.2.1
    have hL2 := Less_rat rq rr hRB1 hRB2 I
    have hbx2 : [Value.int .i64 bx1, Value.int .i64 bx2] = ratC rr := by rw [← hbx, hrr]; rfl
    rw [hbx2]
    have hkeep : bestC q s e (some r) = ratC rr := by rw [hrr]; rfl
    have b1 := fun (W : World) (Q : List Res) => h.bas (W := W) (R := Q) him
    have b2 := fun (W : World) (Q : List Res) => h.bas (W := W) (R := Q) (show r < q.m by omega)
    have hrm : r < q.m := by omega
    have htake : rq < rr ∨ (rq = rr ∧ s.B i < s.B r) → Best q s e (i + 1) (some i) := fun hh => ho.take hp (by rw [← hrq', ← hrr]; exact hh)
    have hstay : rr < rq ∨ (rr = rq ∧ s.B r ≤ s.B i) → Best q s e (i + 1) (some r) := fun hh => ho.keep (by rw [← hrq', ← hrr]; exact hh)
    generalize s.B i = Bi at b1 htake hstay
    generalize s.B r = Br at b2 htake hstay
    clear hbx hbx2 hbv r3 r4 r5 hM hL hV
    by_cases hlt : rq < rr
    · rw [decide_eq_true hlt] at hL2
      have hbn := htake (.inl hlt)
      have hsb := hset hbn
      repeat' first
        | ((with_reducible refine Nx.is_wp ?_); first | refine Nx.wo ?_ | refine Nx.p_drawF (id := 6) rfl [1, 2, 3, 4, 0] [0] [5, 6] _ rfl rfl (by kernel_rfl) (by kernel_rfl) rfl (by repeat first | exact PanicOk.fn | refine PanicOk.then_ ?_ | refine PanicOk.inB ?_) (Ent.refl _) ?_ | refine Nx.p_poolF (id := 7) rfl [0, 1, 5, 6, 7, 8, 2, 3, 4, 9] [2, 9] [] [11] [11] [⟨10, 9, 24, _⟩] rfl rfl (by kernel_rfl) (by kernel_rfl) (by decide) (PoolFit.cons ⟨⟨_, _, _, rfl⟩, rfl, rfl⟩ PoolFit.nil) (by repeat first | exact PanicOk.fn | refine PanicOk.then_ ?_ | refine PanicOk.inB ?_) (Ent.refl _) ?_ | refine Nx.p_drawF (id := 8) rfl [0, 1, 2, 3, 4, 5, 6, 7, 8, 9, 10, 11, 12, 13, 14, 15, 16, 17, 18, 19, 20, 21, 22, 23, 24, 25, 26, 27, 28] [5] [] _ rfl rfl (by kernel_rfl) (by kernel_rfl) rfl (by repeat first | exact PanicOk.fn | refine PanicOk.then_ ?_ | refine PanicOk.inB ?_) (Ent.refl _) ?_ | refine Nx.p_drawF (id := 9) rfl [0, 1, 2] [] [3] _ rfl rfl (by kernel_rfl) (by kernel_rfl) rfl (by repeat first | exact PanicOk.fn | refine PanicOk.then_ ?_ | refine PanicOk.inB ?_) (Ent.refl _) ?_ | refine Nx.zp (fun hc => ?_) (fun hc => ?_))
        | ((first | refine Nx.at_op rfl rfl ?_ | refine Nx.m_loud rfl rfl rfl ?_ | refine Nx.at_do rfl rfl rfl rfl ?_ | refine Nx.m_loud_do rfl rfl rfl rfl rfl ?_ | refine GoodF.loud_ rfl rfl rfl rfl (fun ex X => ?_)); first | refine Nx.opr rfl rfl ?_ | refine Nx.callv rfl rfl rfl (by kernel_rfl) rfl hL2 ?_ | refine Nx.so ?_ | refine Nx.sb (fun bx => ?_) | refine Nx.sa (fun A2 c2 => ?_))
        | ((with_reducible refine Nx.is_at ?_); first | refine Nx.a ?_ | refine Nx.zd ?_ | refine Nx.zs (fun hc => ?_) (fun hc => ?_))
        | ((with_reducible refine Nx.is_mix ?_); first | refine Nx.m_quiet rfl rfl rfl rfl rfl (by first | exact QRun.opr rfl | exact QRun.loads rfl rfl rfl (Rds.cut 0 2 rfl rfl) rfl | exact QRun.loads rfl rfl rfl (Rds.cut 1 2 rfl rfl) rfl) ?_ | refine Nx.m_quiet_do rfl rfl rfl rfl rfl rfl rfl (by first | exact QRun.opr rfl | exact QRun.loads rfl rfl rfl (Rds.cut 0 2 rfl rfl) rfl | exact QRun.loads rfl rfl rfl (Rds.cut 1 2 rfl rfl) rfl) ?_ | refine Nx.m ?_ | refine Nx.zm ?_ | refine Nx.zt (fun hc => ?_) (fun hc => ?_))
        | ((with_reducible refine GoodF.is ?_); first | refine GoodF.quiet rfl rfl rfl rfl rfl rfl (by first | exact QRun.opr rfl | exact QRun.loads rfl rfl rfl (Rds.cut 0 2 rfl rfl) rfl | exact QRun.loads rfl rfl rfl (Rds.cut 1 2 rfl rfl) rfl |  exact QRun.std) ?_ | refine GoodF.done1 rfl (fun bx => ?_) | refine GoodF.done2 rfl (fun bx by_ => ?_) | refine GoodF.done3 rfl (fun bx by_ bz => ?_))
        | ((fail_if_success (with_reducible refine Nx.is_at ?_)); (fail_if_success (with_reducible refine Nx.is_wp ?_)); (fail_if_success (with_reducible refine Nx.is_mix ?_)); first | refine Nx.ex ?_ | refine Nx.pool_nextF 0 rfl (by exact Ent.auto) ?_ | refine Nx.pool_nextF 1 rfl (by exact Ent.auto) ?_ | refine Nx.pool_nextF 2 rfl (by exact Ent.auto) ?_ | refine Nx.pool_nextF 3 rfl (by exact Ent.auto) ?_)
      exact Nx.again (i + 1, some i) ⟨him, hbn⟩ (by dsimp only; omega) ⟨rfl, rfl, rfl, rfl, rfl, rfl, rfl, trivial⟩ (by dsimp only; rw [hsb]; (exact Ent.auto))
    rw [decide_eq_false hlt] at hL2
    by_cases heq : rq = rr
    · have hE := fun {x y : Operand} (w : World) => eql_fracK (x := x) (y := y) rq.num rq.den rr.num rr.den true (decide_eq_true (rat_eq_iff.2 heq)) w
      by_cases hB : Bi < Br
      · have hbn := htake (.inr ⟨heq, hB⟩)
        have hsb := hset hbn
        repeat' first
          | ((with_reducible refine Nx.is_wp ?_); first | refine Nx.wo ?_ | refine Nx.p_drawF (id := 6) rfl [1, 2, 3, 4, 0] [0] [5, 6] _ rfl rfl (by kernel_rfl) (by kernel_rfl) rfl (by repeat first | exact PanicOk.fn | refine PanicOk.then_ ?_ | refine PanicOk.inB ?_) (Ent.refl _) ?_ | refine Nx.p_poolF (id := 7) rfl [0, 1, 5, 6, 7, 8, 2, 3, 4, 9] [2, 9] [] [11] [11] [⟨10, 9, 24, _⟩] rfl rfl (by kernel_rfl) (by kernel_rfl) (by decide) (PoolFit.cons ⟨⟨_, _, _, rfl⟩, rfl, rfl⟩ PoolFit.nil) (by repeat first | exact PanicOk.fn | refine PanicOk.then_ ?_ | refine PanicOk.inB ?_) (Ent.refl _) ?_ | refine Nx.p_drawF (id := 8) rfl [0, 1, 2, 3, 4, 5, 6, 7, 8, 9, 10, 11, 12, 13, 14, 15, 16, 17, 18, 19, 20, 21, 22, 23, 24, 25, 26, 27, 28] [5] [] _ rfl rfl (by kernel_rfl) (by kernel_rfl) rfl (by repeat first | exact PanicOk.fn | refine PanicOk.then_ ?_ | refine PanicOk.inB ?_) (Ent.refl _) ?_ | refine Nx.p_drawF (id := 9) rfl [0, 1, 2] [] [3] _ rfl rfl (by kernel_rfl) (by kernel_rfl) rfl (by repeat first | exact PanicOk.fn | refine PanicOk.then_ ?_ | refine PanicOk.inB ?_) (Ent.refl _) ?_ | refine Nx.zp (fun hc => ?_) (fun hc => ?_))
          | ((first | refine Nx.at_op rfl rfl ?_ | refine Nx.m_loud rfl rfl rfl ?_ | refine Nx.at_do rfl rfl rfl rfl ?_ | refine Nx.m_loud_do rfl rfl rfl rfl rfl ?_ | refine GoodF.loud_ rfl rfl rfl rfl (fun ex X => ?_)); first | refine Nx.opr rfl rfl ?_ | refine Nx.callv rfl rfl rfl (by kernel_rfl) rfl hL2 ?_ | refine Nx.so ?_ | refine Nx.sb (fun bx => ?_) | refine Nx.sa (fun A2 c2 => ?_))
          | ((with_reducible refine Nx.is_at ?_); first | refine Nx.a ?_ | refine Nx.zd ?_ | refine Nx.zs (fun hc => ?_) (fun hc => ?_))
          | ((with_reducible refine Nx.is_mix ?_); first | refine Nx.m_quiet rfl rfl rfl rfl rfl (by first | exact QRun.opr rfl | exact QRun.binr rfl rfl hE | exact QRun.idx (A := ta.Ab) (i := i) (sz := 1) rfl rfl rfl rfl him hAb | exact QRun.idx (A := ta.Ab) (i := r) (sz := 1) rfl rfl rfl rfl hrm hAb | exact QRun.load rfl rfl (b1 _ _) | exact QRun.load rfl rfl (b2 _ _)) ?_ | refine Nx.m_quiet_do rfl rfl rfl rfl rfl rfl rfl (by first | exact QRun.opr rfl | exact QRun.binr rfl rfl hE | exact QRun.idx (A := ta.Ab) (i := i) (sz := 1) rfl rfl rfl rfl him hAb | exact QRun.idx (A := ta.Ab) (i := r) (sz := 1) rfl rfl rfl rfl hrm hAb | exact QRun.load rfl rfl (b1 _ _) | exact QRun.load rfl rfl (b2 _ _)) ?_ | refine Nx.m ?_ | refine Nx.zm ?_ | refine Nx.zt (fun hc => ?_) (fun hc => ?_))
          | ((with_reducible refine GoodF.is ?_); first | refine GoodF.quiet rfl rfl rfl rfl rfl rfl (by first | exact QRun.opr rfl | exact QRun.binr rfl rfl hE | exact QRun.idx (A := ta.Ab) (i := i) (sz := 1) rfl rfl rfl rfl him hAb | exact QRun.idx (A := ta.Ab) (i := r) (sz := 1) rfl rfl rfl rfl hrm hAb | exact QRun.load rfl rfl (b1 _ _) | exact QRun.load rfl rfl (b2 _ _) |  exact QRun.std) ?_ | refine GoodF.done1 rfl (fun bx => ?_) | refine GoodF.done2 rfl (fun bx by_ => ?_) | refine GoodF.done3 rfl (fun bx by_ bz => ?_))
          | ((fail_if_success (with_reducible refine Nx.is_at ?_)); (fail_if_success (with_reducible refine Nx.is_wp ?_)); (fail_if_success (with_reducible refine Nx.is_mix ?_)); first | refine Nx.ex ?_ | refine Nx.pool_nextF 0 rfl (by exact Ent.auto) ?_ | refine Nx.pool_nextF 1 rfl (by exact Ent.auto) ?_ | refine Nx.pool_nextF 2 rfl (by exact Ent.auto) ?_ | refine Nx.pool_nextF 3 rfl (by exact Ent.auto) ?_)
        exact Nx.again (i + 1, some i) ⟨him, hbn⟩ (by dsimp only; omega) ⟨rfl, rfl, rfl, rfl, rfl, rfl, rfl, trivial⟩ (by dsimp only; rw [hsb]; (exact Ent.auto))
      · have hbn := hstay (.inr ⟨heq.symm, by omega⟩)
        repeat' first
          | ((with_reducible refine Nx.is_wp ?_); first | refine Nx.wo ?_ | refine Nx.p_drawF (id := 6) rfl [1, 2, 3, 4, 0] [0] [5, 6] _ rfl rfl (by kernel_rfl) (by kernel_rfl) rfl (by repeat first | exact PanicOk.fn | refine PanicOk.then_ ?_ | refine PanicOk.inB ?_) (Ent.refl _) ?_ | refine Nx.p_poolF (id := 7) rfl [0, 1, 5, 6, 7, 8, 2, 3, 4, 9] [2, 9] [] [11] [11] [⟨10, 9, 24, _⟩] rfl rfl (by kernel_rfl) (by kernel_rfl) (by decide) (PoolFit.cons ⟨⟨_, _, _, rfl⟩, rfl, rfl⟩ PoolFit.nil) (by repeat first | exact PanicOk.fn | refine PanicOk.then_ ?_ | refine PanicOk.inB ?_) (Ent.refl _) ?_ | refine Nx.p_drawF (id := 8) rfl [0, 1, 2, 3, 4, 5, 6, 7, 8, 9, 10, 11, 12, 13, 14, 15, 16, 17, 18, 19, 20, 21, 22, 23, 24, 25, 26, 27, 28] [5] [] _ rfl rfl (by kernel_rfl) (by kernel_rfl) rfl (by repeat first | exact PanicOk.fn | refine PanicOk.then_ ?_ | refine PanicOk.inB ?_) (Ent.refl _) ?_ | refine Nx.p_drawF (id := 9) rfl [0, 1, 2] [] [3] _ rfl rfl (by kernel_rfl) (by kernel_rfl) rfl (by repeat first | exact PanicOk.fn | refine PanicOk.then_ ?_ | refine PanicOk.inB ?_) (Ent.refl _) ?_ | refine Nx.zp (fun hc => ?_) (fun hc => ?_))
          | ((first | refine Nx.at_op rfl rfl ?_ | refine Nx.m_loud rfl rfl rfl ?_ | refine Nx.at_do rfl rfl rfl rfl ?_ | refine Nx.m_loud_do rfl rfl rfl rfl rfl ?_ | refine GoodF.loud_ rfl rfl rfl rfl (fun ex X => ?_)); first | refine Nx.opr rfl rfl ?_ | refine Nx.callv rfl rfl rfl (by kernel_rfl) rfl hL2 ?_ | refine Nx.so ?_ | refine Nx.sb (fun bx => ?_) | refine Nx.sa (fun A2 c2 => ?_))
          | ((with_reducible refine Nx.is_at ?_); first | refine Nx.a ?_ | refine Nx.zd ?_ | refine Nx.zs (fun hc => ?_) (fun hc => ?_))
          | ((with_reducible refine Nx.is_mix ?_); first | refine Nx.m_quiet rfl rfl rfl rfl rfl (by first | exact QRun.opr rfl | exact QRun.binr rfl rfl hE | exact QRun.idx (A := ta.Ab) (i := i) (sz := 1) rfl rfl rfl rfl him hAb | exact QRun.idx (A := ta.Ab) (i := r) (sz := 1) rfl rfl rfl rfl hrm hAb | exact QRun.load rfl rfl (b1 _ _) | exact QRun.load rfl rfl (b2 _ _)) ?_ | refine Nx.m_quiet_do rfl rfl rfl rfl rfl rfl rfl (by first | exact QRun.opr rfl | exact QRun.binr rfl rfl hE | exact QRun.idx (A := ta.Ab) (i := i) (sz := 1) rfl rfl rfl rfl him hAb | exact QRun.idx (A := ta.Ab) (i := r) (sz := 1) rfl rfl rfl rfl hrm hAb | exact QRun.load rfl rfl (b1 _ _) | exact QRun.load rfl rfl (b2 _ _)) ?_ | refine Nx.m ?_ | refine Nx.zm ?_ | refine Nx.zt (fun hc => ?_) (fun hc => ?_))
          | ((with_reducible refine GoodF.is ?_); first | refine GoodF.quiet rfl rfl rfl rfl rfl rfl (by first | exact QRun.opr rfl | exact QRun.binr rfl rfl hE | exact QRun.idx (A := ta.Ab) (i := i) (sz := 1) rfl rfl rfl rfl him hAb | exact QRun.idx (A := ta.Ab) (i := r) (sz := 1) rfl rfl rfl rfl hrm hAb | exact QRun.load rfl rfl (b1 _ _) | exact QRun.load rfl rfl (b2 _ _) |  exact QRun.std) ?_ | refine GoodF.done1 rfl (fun bx => ?_) | refine GoodF.done2 rfl (fun bx by_ => ?_) | refine GoodF.done3 rfl (fun bx by_ bz => ?_))
          | ((fail_if_success (with_reducible refine Nx.is_at ?_)); (fail_if_success (with_reducible refine Nx.is_wp ?_)); (fail_if_success (with_reducible refine Nx.is_mix ?_)); first | refine Nx.ex ?_ | refine Nx.pool_nextF 0 rfl (by exact Ent.auto) ?_ | refine Nx.pool_nextF 1 rfl (by exact Ent.auto) ?_ | refine Nx.pool_nextF 2 rfl (by exact Ent.auto) ?_ | refine Nx.pool_nextF 3 rfl (by exact Ent.auto) ?_)
        exact Nx.again (i + 1, some r) ⟨him, hbn⟩ (by dsimp only; omega) ⟨rfl, rfl, rfl, rfl, rfl, rfl, rfl, trivial⟩ (by dsimp only; rw [hkeep]; (exact Ent.auto))
    · have hE := fun {x y : Operand} (w : World) => eql_fracK (x := x) (y := y) rq.num rq.den rr.num rr.den false (decide_eq_false fun hh => heq (rat_eq_iff.1 hh)) w
      have hbn := hstay (.inl (by grind))
      repeat' first
        | ((with_reducible refine Nx.is_wp ?_); first | refine Nx.wo ?_ | refine Nx.p_drawF (id := 6) rfl [1, 2, 3, 4, 0] [0] [5, 6] _ rfl rfl (by kernel_rfl) (by kernel_rfl) rfl (by repeat first | exact PanicOk.fn | refine PanicOk.then_ ?_ | refine PanicOk.inB ?_) (Ent.refl _) ?_ | refine Nx.p_poolF (id := 7) rfl [0, 1, 5, 6, 7, 8, 2, 3, 4, 9] [2, 9] [] [11] [11] [⟨10, 9, 24, _⟩] rfl rfl (by kernel_rfl) (by kernel_rfl) (by decide) (PoolFit.cons ⟨⟨_, _, _, rfl⟩, rfl, rfl⟩ PoolFit.nil) (by repeat first | exact PanicOk.fn | refine PanicOk.then_ ?_ | refine PanicOk.inB ?_) (Ent.refl _) ?_ | refine Nx.p_drawF (id := 8) rfl [0, 1, 2, 3, 4, 5, 6, 7, 8, 9, 10, 11, 12, 13, 14, 15, 16, 17, 18, 19, 20, 21, 22, 23, 24, 25, 26, 27, 28] [5] [] _ rfl rfl (by kernel_rfl) (by kernel_rfl) rfl (by repeat first | exact PanicOk.fn | refine PanicOk.then_ ?_ | refine PanicOk.inB ?_) (Ent.refl _) ?_ | refine Nx.p_drawF (id := 9) rfl [0, 1, 2] [] [3] _ rfl rfl (by kernel_rfl) (by kernel_rfl) rfl (by repeat first | exact PanicOk.fn | refine PanicOk.then_ ?_ | refine PanicOk.inB ?_) (Ent.refl _) ?_ | refine Nx.zp (fun hc => ?_) (fun hc => ?_))
        | ((first | refine Nx.at_op rfl rfl ?_ | refine Nx.m_loud rfl rfl rfl ?_ | refine Nx.at_do rfl rfl rfl rfl ?_ | refine Nx.m_loud_do rfl rfl rfl rfl rfl ?_ | refine GoodF.loud_ rfl rfl rfl rfl (fun ex X => ?_)); first | refine Nx.opr rfl rfl ?_ | refine Nx.callv rfl rfl rfl (by kernel_rfl) rfl hL2 ?_ | refine Nx.so ?_ | refine Nx.sb (fun bx => ?_) | refine Nx.sa (fun A2 c2 => ?_))
        | ((with_reducible refine Nx.is_at ?_); first | refine Nx.a ?_ | refine Nx.zd ?_ | refine Nx.zs (fun hc => ?_) (fun hc => ?_))
        | ((with_reducible refine Nx.is_mix ?_); first | refine Nx.m_quiet rfl rfl rfl rfl rfl (by first | exact QRun.opr rfl | exact QRun.binr rfl rfl hE) ?_ | refine Nx.m_quiet_do rfl rfl rfl rfl rfl rfl rfl (by first | exact QRun.opr rfl | exact QRun.binr rfl rfl hE) ?_ | refine Nx.m ?_ | refine Nx.zm ?_ | refine Nx.zt (fun hc => ?_) (fun hc => ?_))
        | ((with_reducible refine GoodF.is ?_); first | refine GoodF.quiet rfl rfl rfl rfl rfl rfl (by first | exact QRun.opr rfl | exact QRun.binr rfl rfl hE |  exact QRun.std) ?_ | refine GoodF.done1 rfl (fun bx => ?_) | refine GoodF.done2 rfl (fun bx by_ => ?_) | refine GoodF.done3 rfl (fun bx by_ bz => ?_))
        | ((fail_if_success (with_reducible refine Nx.is_at ?_)); (fail_if_success (with_reducible refine Nx.is_wp ?_)); (fail_if_success (with_reducible refine Nx.is_mix ?_)); first | refine Nx.ex ?_ | refine Nx.pool_nextF 0 rfl (by exact Ent.auto) ?_ | refine Nx.pool_nextF 1 rfl (by exact Ent.auto) ?_ | refine Nx.pool_nextF 2 rfl (by exact Ent.auto) ?_ | refine Nx.pool_nextF 3 rfl (by exact Ent.auto) ?_)
      exact Nx.again (i + 1, some r) ⟨him, hbn⟩ (by dsimp only; omega) ⟨rfl, rfl, rfl, rfl, rfl, rfl, rfl, trivial⟩ (by dsimp only; rw [hkeep]; (exact Ent.auto))
end Go.Proofs.YtpcnapidlhpbkaaGreatDoor
