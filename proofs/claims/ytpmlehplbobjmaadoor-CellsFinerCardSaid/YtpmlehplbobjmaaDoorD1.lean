/- Contracts of functions of the given program, and lemmas about plain lists and numbers: what the laws of this seat lean on. -/
import Derived.Test.YtpmlehplbobjmaaDoorC25
namespace Go.Proofs.YtpmlehplbobjmaaDoor
open Go.Eng
/-! Sums over coarser views, and margins of views: plain lists -/
def sumJ (f : Nat → Int) : Nat → Int
  | 0 => 0
  | n + 1 => sumJ f n + f n
theorem sumJ_congr {f g : Nat → Int} : ∀ n, (∀ j, j < n → f j = g j) → sumJ f n = sumJ g n
  | 0, _ => rfl
  | n + 1, h => by simp only [sumJ]; rw [sumJ_congr n (fun j hj => h j (by omega)), h n (by omega)]
theorem sumJ_add {f g : Nat → Int} : ∀ n, sumJ (fun j => f j + g j) n = sumJ f n + sumJ g n
  | 0 => rfl
  | n + 1 => by simp only [sumJ]; rw [sumJ_add n]; omega
theorem sumJ_one {c : Prop} [Decidable c] {a x : Int} {D : Nat → Prop} [DecidablePred D] : ∀ P : Nat, sumJ (fun j => if D j then (if a = (j : Int) then x else 0) else 0) P = if 0 ≤ a ∧ a < P ∧ D a.toNat then x else 0
  | 0 => by simp only [sumJ]; rw [if_neg (by omega)]
  | P + 1 => by
    simp only [sumJ]
    rw [sumJ_one (c := c) P]
    by_cases h : a = (P : Int)
    · subst h
      rw [if_neg (by omega), Int.toNat_natCast]
      by_cases hD : D P
      · rw [if_pos hD, if_pos rfl, if_pos ⟨by omega, by omega, hD⟩]; omega
      · rw [if_neg hD, if_neg (fun h => hD h.2.2)]; omega
    · have e : (if D P then (if a = (P : Int) then x else 0) else 0) = 0 := by
        rw [if_neg h]; split <;> rfl
      rw [e, Int.add_zero]
      by_cases hc : 0 ≤ a ∧ a < P ∧ D a.toNat
      · rw [if_pos hc, if_pos ⟨hc.1, by omega, hc.2.2⟩]
      · rw [if_neg hc, if_neg (fun h2 => hc ⟨h2.1, by omega, h2.2.2⟩)]
/-- The sums of a coarser view are sums of those of a finer one. -/
theorem sumAt_coarse {p q : Nat → Int} {t : List Int} {k : Int} {P : Nat} {φ : Int → Int} (hk : 0 ≤ k) : ∀ n, (∀ c, c < n → p c < P ∧ (p c < 0 → q c < 0) ∧ (0 ≤ p c → q c = φ (p c))) →
    sumAt q t k n = sumJ (fun j => if φ j = k then sumAt p t j n else 0) P
  | 0, _ => by
    have : ∀ P, sumJ (fun j : Nat => if φ j = k then sumAt p t j 0 else 0) P = 0 := by
      intro P
      induction P with
      | zero => rfl
      | succ P ih =>
        simp only [sumJ]
        rw [ih]
        split <;> rfl
    rw [this]; rfl
  | n + 1, h => by
    have h1 := h n (by omega)
    have e : (fun j : Nat => if φ j = k then sumAt p t j (n + 1) else 0) = fun j : Nat => (if φ j = k then sumAt p t j n else 0) + (if φ j = k then (if p n = (j : Int) then t.getD n default else 0) else 0) := by
      funext j
      simp only [sumAt]
      split
      · rfl
      · rfl
    rw [e, sumJ_add, ← sumAt_coarse hk n (fun c hc => h c (by omega)), sumJ_one (c := True) (D := fun j => φ j = k)]
    simp only [sumAt]
    congr 1
    by_cases hp : 0 ≤ p n
    · rw [h1.2.2 hp]
      by_cases hφ : φ (p n) = k
      · rw [if_pos hφ, if_pos ⟨hp, h1.1, by rw [Int.toNat_of_nonneg hp]; exact hφ⟩]
      · rw [if_neg hφ, if_neg (fun h2 => hφ (by have := h2.2.2; rw [Int.toNat_of_nonneg hp] at this; exact this))]
    · rw [if_neg (fun h2 => by have := h1.2.1 (by omega); omega), if_neg (fun h2 => hp h2.1)]
theorem coarse_map {p q : Nat → Int} {n : Nat} (h : ∀ c c', c < n → c' < n → 0 ≤ p c → p c = p c' → q c = q c') : ∃ φ : Int → Int, ∀ c, c < n → 0 ≤ p c → q c = φ (p c) := by
  classical
  refine ⟨fun j => if h : ∃ c, c < n ∧ p c = j then q (Classical.choose h) else 0, fun c hc h0 => ?_⟩
  have hex : ∃ c', c' < n ∧ p c' = p c := ⟨c, hc, rfl⟩
  dsimp only
  rw [dif_pos hex]
  have hs := Classical.choose_spec hex
  exact h c _ hc hs.1 h0 hs.2.symm
theorem sumAt_same {p q : Nat → Int} {t u : List Int} {P n : Nat} (hp : ∀ c, c < n → p c < P ∧ (p c < 0 → q c < 0)) (hpq : ∀ c c', c < n → c' < n → 0 ≤ p c → p c = p c' → q c = q c')
    (h : ∀ j : Nat, j < P → sumAt p t j n = sumAt p u j n) {k : Int} (hk : 0 ≤ k) : sumAt q t k n = sumAt q u k n := by
  obtain ⟨φ, hφ⟩ := coarse_map hpq
  have h2 : ∀ c, c < n → p c < P ∧ (p c < 0 → q c < 0) ∧ (0 ≤ p c → q c = φ (p c)) := fun c hc => ⟨(hp c hc).1, (hp c hc).2, hφ c hc⟩
  rw [sumAt_coarse hk n h2, sumAt_coarse hk n h2]
  refine sumJ_congr P fun j hj => ?_
  rw [h j hj]
theorem sumJ_pick {a x : Int} (P : Nat) : sumJ (fun j => if a = (j : Int) then x else 0) P = if 0 ≤ a ∧ a < P then x else 0 := by
  have := sumJ_one (c := True) (a := a) (x := x) (D := fun _ => True) P
  simp only [if_true, and_true] at this
  exact this
theorem sumAt_total {p q : Nat → Int} {t : List Int} {P : Nat} : ∀ n, (∀ c, c < n → p c < P ∧ (0 ≤ p c ↔ q c = 0)) → sumJ (fun j => sumAt p t j n) P = sumAt q t 0 n
  | 0, _ => by
    have : ∀ P, sumJ (fun j : Nat => sumAt p t j 0) P = 0 := by
      intro P
      induction P with
      | zero => rfl
      | succ P ih =>
        simp only [sumJ]
        rw [ih]; rfl
    rw [this]; rfl
  | n + 1, h => by
    have h1 := h n (by omega)
    simp only [sumAt]
    rw [sumJ_add, sumJ_pick, sumAt_total n (fun c hc => h c (by omega))]
    congr 1
    by_cases h2 : 0 ≤ p n
    · rw [if_pos ⟨h2, h1.1⟩, if_pos (h1.2.1 h2)]
    · rw [if_neg (fun h3 => h2 h3.1), if_neg (fun h3 => h2 (h1.2.2 h3))]
theorem sumAt_plus {p : Nat → Int} {t u b : List Int} {k : Int} : ∀ n, (∀ c, c < n → b.getD c default = t.getD c default + u.getD c default) → sumAt p b k n = sumAt p t k n + sumAt p u k n
  | 0, _ => rfl
  | n + 1, h => by
    simp only [sumAt]
    rw [sumAt_plus n (fun c hc => h c (by omega)), h n (by omega)]
    split <;> omega
/-! Published cells of a finer and a coarser view -/
theorem gsOf_of_pub {l : List Int} {v : List Row} (hs : Sizes l) (hw : Viewed l v) {c c' : Nat} (h0 : 0 ≤ pubOf l v c) (he : pubOf l v c = pubOf l v c') : gsOf v (pl l c) = gsOf v (pl l c') := by
  have key : ∀ c : Nat, 0 ≤ pubOf l v c → gsOf v (pl l c) = pl (szs v) (pubOf l v c) := fun c h => by
    have hc : (gsOf v (pl l c)).contains (-1) = false := by
      cases hb : (gsOf v (pl l c)).contains (-1) with
      | false => rfl
      | true => unfold pubOf at h; rw [if_pos hb] at h; omega
    refine pl_of (hw.sizes hs) (gsOf_in hw (pl_in hs c) hc) ?_
    unfold pubOf
    rw [hc, if_neg (by decide), szs_len]
  rw [key c h0, key c' (he ▸ h0), he]
theorem pub_neg {l : List Int} {v : List Row} (hs : Sizes l) (hw : Viewed l v) {c : Nat} : pubOf l v c < 0 ↔ (-1 : Int) ∈ gsOf v (pl l c) := by
  unfold pubOf
  split
  · rename_i h
    rw [List.contains_eq_mem, decide_eq_true_eq] at h
    exact ⟨fun _ => h, fun _ => by decide⟩
  · rename_i h
    have hc : (gsOf v (pl l c)).contains (-1) = false := by simpa using h
    have := numK_bound (gsOf_in hw (pl_in hs c) hc) (szs v).length (Nat.le_refl _)
    rw [szs_len] at this
    rw [List.contains_eq_mem, decide_eq_true_eq] at h
    exact ⟨fun h2 => by omega, fun h2 => absurd h2 h⟩
theorem gs_mem {v : List Row} {xs : List Int} {z : Int} : z ∈ gsOf v xs ↔ ∃ i, i < v.length ∧ (v.getD i default).2.2.getD (xs.getD i default).toNat default = z := by
  unfold gsOf
  simp only [List.mem_map, List.mem_range]
theorem pub_coarse {l : List Int} {v w : List Row} (hs : Sizes l) (hv : Viewed l v) (hw : Viewed l w) (hf : FinerP l v w) :
    (∀ c : Nat, pubOf l v c < 0 → pubOf l w c < 0) ∧ ∀ c c' : Nat, 0 ≤ pubOf l v c → pubOf l v c = pubOf l v c' → pubOf l w c = pubOf l w c' := by
  have hin := fun c : Nat => pl_in hs (c : Int)
  have hxi : ∀ (c i : Nat), i < l.length → ((pl l c).getD i default).toNat < (v.getD i default).2.2.length := fun c i hi => by
    have h1 := (hin c).each i hi
    have h2 := (hv.each i hi).1
    omega
  refine ⟨fun c h => ?_, fun c c' h0 he => ?_⟩
  · rw [pub_neg hs hv, gs_mem] at h
    obtain ⟨i, hi, he⟩ := h
    rw [pub_neg hs hw, gs_mem]
    have hil : i < l.length := by rw [← hv.len]; exact hi
    exact ⟨i, by rw [hw.len]; exact hil, (hf i hil).1 _ (hxi c i hil) he⟩
  · have hg := gsOf_of_pub hs hv h0 he
    have : gsOf w (pl l c) = gsOf w (pl l c') := by
      refine list_ext (by rw [gsOf_len, gsOf_len]) fun i hi => ?_
      rw [gsOf_len] at hi
      have hil : i < l.length := by rw [← hw.len]; exact hi
      have hiv : i < v.length := by rw [hv.len]; exact hil
      have h1 : (gsOf v (pl l c)).getD i default = (gsOf v (pl l c')).getD i default := by rw [hg]
      rw [gsOf_at _ _ _ hiv, gsOf_at _ _ _ hiv] at h1
      rw [gsOf_at _ _ _ hi, gsOf_at _ _ _ hi]
      exact (hf i hil).2 _ (hxi c' i hil) _ (hxi c i hil) h1
    unfold pubOf
    rw [this]
/-! Margins -/
def oneL (l : List Int) : List Int := l.map fun g => min g 0
theorem oneL_len (l : List Int) : (oneL l).length = l.length := by simp [oneL]
theorem oneL_at (l : List Int) (k : Nat) : (oneL l).getD k default = min (l.getD k default) 0 := by
  unfold oneL
  rw [List.getD_eq_getElem?_getD, List.getD_eq_getElem?_getD, List.getElem?_map]
  cases l[k]? <;> rfl
/-- One dimension of a margin: as it was, or in one. -/
def margL (set i : Nat) (l : List Int) : List Int := if (set / 2 ^ i) % 2 = 1 then oneL l else l
structure MargOf (v m : List Row) : Prop where
  len : m.length = v.length
  each : ∀ i, i < v.length → (m.getD i default).2.2 = (v.getD i default).2.2 ∨ (m.getD i default).2.2 = oneL (v.getD i default).2.2
theorem numb_one1 : ∀ r : List Int, (∀ x ∈ r, -1 ≤ x) → numb (oneL r) 1 = some 1
  | [], _ => rfl
  | x :: r, h => by
    have h1 := h x List.mem_cons_self
    have ih := numb_one1 r (fun y hy => h y (List.mem_cons_of_mem _ hy))
    show numb (min x 0 :: oneL r) 1 = _
    unfold numb
    rw [if_neg (by omega), if_neg (by omega)]; exact ih
theorem numb_one0 : ∀ (r : List Int) (n : Int), numb r 0 = some n → 0 < n → numb (oneL r) 0 = some 1
  | [], n, h, h0 => by simp [numb] at h; omega
  | x :: r, n, h, h0 => by
    have hall := (numb_facts _ _ _ h).2.2.1
    unfold numb at h
    split at h
    · cases h
    · rename_i hx
      show numb (min x 0 :: oneL r) 0 = _
      unfold numb
      rw [if_neg (by omega)]
      by_cases hx0 : x = 0
      · rw [if_pos (by omega)]
        exact numb_one1 r (fun y hy => (hall y (List.mem_cons_of_mem _ hy)).1)
      · rw [if_neg hx0] at h
        rw [if_neg (by omega)]
        exact numb_one0 r n h h0
theorem numbB_one {l : List Int} (h : numbB l = true) : numbB (oneL l) = true := by
  unfold numbB at h ⊢
  split at h
  · rename_i n hn
    rw [numb_one0 l n hn (of_decide_eq_true h)]; rfl
  · cases h
theorem MargOf.viewed {l : List Int} {v m : List Row} (h : MargOf v m) (hw : Viewed l v) : Viewed l m := ⟨h.len.trans hw.len, fun k hk => by
  have h1 := hw.each k hk
  rcases h.each k (by rw [hw.len]; exact hk) with he | he <;> rw [he]
  · exact h1
  · exact ⟨by rw [oneL_len]; exact h1.1, numbB_one h1.2⟩⟩
theorem within_one {a : List Int} : WithinP a (oneL a) :=
  ⟨fun k _ h => by rw [oneL_at, h]; decide, fun k _ j _ h => by rw [oneL_at, oneL_at, h]⟩
theorem MargOf.finer {l : List Int} {v m : List Row} (h : MargOf v m) (hw : Viewed l v) : FinerP l v m := fun i hi => by
  rcases h.each i (by rw [hw.len]; exact hi) with he | he <;> rw [he]
  · exact within_refl _
  · exact within_one
theorem MargOf.not_coarser {l : List Int} {v m : List Row} (h : MargOf v m) (hw : Viewed l v) (hne : ∃ i, i < v.length ∧ (m.getD i default).2.2 ≠ (v.getD i default).2.2) : ¬FinerP l m v := by
  rintro hf
  obtain ⟨i, hi, hne⟩ := hne
  have hil : i < l.length := by rw [← hw.len]; exact hi
  rcases h.each i hi with he | he
  · exact hne he
  · have h1 := hf i hil
    rw [he] at h1 hne
    refine hne (list_ext (oneL_len _) fun k hk => ?_)
    rw [oneL_len] at hk
    obtain ⟨n, hn⟩ : ∃ n, numb (v.getD i default).2.2 0 = some n ∧ 0 < n := by
      have := (hw.each i hil).2
      unfold numbB at this
      split at this
      · rename_i n hn; exact ⟨n, hn, of_decide_eq_true this⟩
      · cases this
    obtain ⟨j, hj, hj0⟩ := mem_getD (numb_all _ _ _ hn.1 0 (by omega) hn.2)
    rw [oneL_at]
    by_cases hx : (v.getD i default).2.2.getD k default ≤ 0
    · omega
    · have h2 := h1.2 k (by rw [oneL_len]; exact hk) j (by rw [oneL_len]; exact hj) (by rw [oneL_at, oneL_at, hj0]; omega)
      omega
/-- The margin of everything. -/
theorem MargOf.whole {l : List Int} {v m : List Row} (hs : Sizes l) (h : MargOf v m) (hw : Viewed l v) (h1 : prod (szs m) = 1) (c : Nat) : 0 ≤ pubOf l v c ↔ pubOf l m c = 0 := by
  have hm := h.viewed hw
  have hb := pub_bd hs hm c
  rw [h1] at hb
  have key : pubOf l v c < 0 ↔ pubOf l m c < 0 := by
    rw [pub_neg hs hw, pub_neg hs hm, gs_mem, gs_mem, h.len]
    have hx : ∀ i, i < v.length → ((m.getD i default).2.2.getD ((pl l c).getD i default).toNat default = -1 ↔ (v.getD i default).2.2.getD ((pl l c).getD i default).toNat default = -1) := fun i hi => by
      rcases h.each i hi with he | he <;> rw [he]
      rw [oneL_at]; omega
    exact ⟨fun ⟨i, hi, he⟩ => ⟨i, hi, (hx i hi).2 he⟩, fun ⟨i, hi, he⟩ => ⟨i, hi, (hx i hi).1 he⟩⟩
  omega
end Go.Proofs.YtpmlehplbobjmaaDoor
