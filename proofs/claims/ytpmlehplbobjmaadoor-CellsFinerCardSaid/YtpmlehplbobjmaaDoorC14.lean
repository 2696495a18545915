/- Contracts of functions of the given program, and lemmas about plain lists and numbers: what the laws of this seat lean on. -/
import Derived.Test.YtpmlehplbobjmaaDoorC13
namespace Go.Proofs.YtpmlehplbobjmaaDoor
open Go.Eng
/-! Places as a function of the number; published cells as a function of the cell -/
theorem prod_cons (x : Int) (r : List Int) : prod (x :: r) = x * prod r := by
  have key : ∀ (r : List Int) (a : Int), r.foldl (· * ·) a = a * r.foldl (· * ·) 1 := by
    intro r
    induction r with
    | nil => intro a; simp
    | cons y r ih => intro a; simp only [List.foldl_cons]; rw [ih (a * y), ih (1 * y), Int.one_mul, Int.mul_assoc]
  unfold prod
  rw [List.foldl_cons, key, Int.one_mul]
theorem prod_drop (l : List Int) (k : Nat) (hk : k < l.length) : prod (l.drop k) = l.getD k default * prod (l.drop (k + 1)) := by
  rw [drop_at hk, prod_cons]
theorem prod_drop_pos {l : List Int} (hs : Sizes l) : ∀ j, j ≤ l.length → 0 < prod (l.drop (l.length - j))
  | 0, _ => by simp [prod]
  | j + 1, hj => by
    have ih := prod_drop_pos hs j (by omega)
    have hx := hs.at (k := l.length - (j + 1)) (by omega)
    rw [prod_drop l _ (by omega), show l.length - (j + 1) + 1 = l.length - j by omega]
    exact Int.mul_pos (by omega) ih
def plAt (l : List Int) (n : Int) (k : Nat) : Int := (n / prod (l.drop (k + 1))) % l.getD k default
def pl (l : List Int) (n : Int) : List Int := (List.range l.length).map (plAt l n)
theorem map_range_at (f : Nat → Int) (m k : Nat) (h : k < m) : ((List.range m).map f).getD k default = f k := by
  rw [List.getD_eq_getElem?_getD, List.getElem?_map, List.getElem?_range h]; rfl
theorem list_ext {xs ys : List Int} (hl : xs.length = ys.length) (h : ∀ k, k < xs.length → xs.getD k default = ys.getD k default) : xs = ys := by
  refine List.ext_getElem hl fun k h1 h2 => ?_
  have := h k h1
  rw [List.getD_eq_getElem?_getD, List.getD_eq_getElem?_getD, List.getElem?_eq_getElem h1, List.getElem?_eq_getElem h2] at this
  exact this
theorem numK_div {l xs : List Int} (hs : Sizes l) (hx : InR l xs) : ∀ j, j ≤ l.length → numK l xs l.length / prod (l.drop (l.length - j)) = numK l xs (l.length - j)
  | 0, _ => by simp [prod]
  | j + 1, hj => by
    have ih := numK_div hs hx j (by omega)
    have hp := prod_drop_pos hs j (by omega)
    have hat := hs.at (k := l.length - (j + 1)) (by omega)
    have hxk := hx.each (l.length - (j + 1)) (by omega)
    have e1 : l.length - (j + 1) + 1 = l.length - j := by omega
    rw [prod_drop l _ (by omega), e1, Int.mul_comm, ← Int.ediv_ediv_of_nonneg (by omega), ih]
    have e2 : numK l xs (l.length - j) = numK l xs (l.length - (j + 1)) * l.getD (l.length - (j + 1)) default + xs.getD (l.length - (j + 1)) default := by rw [← e1]; rfl
    rw [e2, Int.add_comm, Int.add_mul_ediv_right _ _ (by omega), Int.ediv_eq_zero_of_lt hxk.1 hxk.2, Int.zero_add]
theorem pl_of {l xs : List Int} {n : Int} (hs : Sizes l) (hx : InR l xs) (hn : numK l xs l.length = n) : xs = pl l n := by
  refine list_ext (by simp [pl, hx.len]) fun k hk => ?_
  have hk' : k < l.length := by have := hx.len; omega
  have h1 := numK_div hs hx (l.length - (k + 1)) (by omega)
  rw [show l.length - (l.length - (k + 1)) = k + 1 by omega] at h1
  unfold pl
  rw [map_range_at _ _ _ hk', plAt, ← hn, h1]
  have hxk := hx.each k hk'
  show _ = (numK l xs k * l.getD k default + xs.getD k default) % l.getD k default
  rw [Int.add_comm, Int.add_mul_emod_self_right, Int.emod_eq_of_lt hxk.1 hxk.2]
theorem numb_facts : ∀ (l : List Int) (nx n : Int), numb l nx = some n → nx ≤ n ∧ n ≤ nx + l.length ∧ (∀ x ∈ l, -1 ≤ x ∧ x < n) ∧ (nx < n → n - 1 ∈ l)
  | [], nx, n, h => by simp [numb] at h; subst h; simp
  | g :: r, nx, n, h => by
    unfold numb at h
    split at h
    · cases h
    · rename_i hg
      by_cases he : g = nx
      · rw [if_pos he] at h
        obtain ⟨h1, h2, h3, h4⟩ := numb_facts r _ n h
        refine ⟨by omega, by simp; omega, fun x hx => ?_, fun hlt => ?_⟩
        · rcases List.mem_cons.1 hx with rfl | hx
          · omega
          · exact h3 x hx
        · by_cases h5 : nx + 1 < n
          · exact List.mem_cons_of_mem _ (h4 h5)
          · rw [show n - 1 = g by omega]; exact List.mem_cons_self
      · rw [if_neg he] at h
        obtain ⟨h1, h2, h3, h4⟩ := numb_facts r _ n h
        refine ⟨h1, by simp; omega, fun x hx => ?_, fun hlt => List.mem_cons_of_mem _ (h4 hlt)⟩
        rcases List.mem_cons.1 hx with rfl | hx
        · omega
        · exact h3 x hx
theorem maxL_le (l : List Int) : ∀ k j, j ≤ k → l.getD j default ≤ maxL l k
  | 0, j, h => by obtain rfl : j = 0 := by omega
                  exact Int.le_refl _
  | k + 1, j, h => by
    simp only [maxL]
    by_cases hj : j ≤ k
    · have := maxL_le l k j hj; omega
    · obtain rfl : j = k + 1 := by omega
      omega
theorem maxL_at (l : List Int) : ∀ k, ∃ j, j ≤ k ∧ maxL l k = l.getD j default
  | 0 => ⟨0, Nat.le_refl _, rfl⟩
  | k + 1 => by
    obtain ⟨j, hj, he⟩ := maxL_at l k
    simp only [maxL]
    by_cases h : maxL l k ≤ l.getD (k + 1) default
    · exact ⟨k + 1, Nat.le_refl _, by omega⟩
    · exact ⟨j, by omega, by omega⟩
theorem getD_mem {l : List Int} {k : Nat} (h : k < l.length) : l.getD k default ∈ l := by
  rw [List.getD_eq_getElem?_getD, List.getElem?_eq_getElem h]; exact List.getElem_mem _
theorem mem_getD {l : List Int} {x : Int} (h : x ∈ l) : ∃ k, k < l.length ∧ l.getD k default = x := by
  obtain ⟨k, hk, he⟩ := List.mem_iff_getElem.1 h
  exact ⟨k, hk, by rw [List.getD_eq_getElem?_getD, List.getElem?_eq_getElem hk]; exact he⟩
/-- What is known of the groups of one dimension. -/
structure Grouped (l : List Int) : Prop where
  pos : 1 ≤ l.length
  max : 0 ≤ maxL l (l.length - 1) ∧ maxL l (l.length - 1) < l.length
  each : ∀ k, k < l.length → -1 ≤ l.getD k default ∧ l.getD k default ≤ maxL l (l.length - 1)
theorem grouped_of {l : List Int} (h : numbB l = true) : Grouped l := by
  unfold numbB at h
  split at h
  · rename_i n hn
    have h0 : 0 < n := of_decide_eq_true h
    obtain ⟨h1, h2, h3, h4⟩ := numb_facts l 0 n hn
    have hm := h4 h0
    obtain ⟨k, hk, he⟩ := mem_getD hm
    have h5 := maxL_le l (l.length - 1) k (by omega)
    obtain ⟨j, hj, hj'⟩ := maxL_at l (l.length - 1)
    have h6 := h3 _ (getD_mem (l := l) (k := j) (by omega))
    have h7 : maxL l (l.length - 1) = n - 1 := by omega
    refine ⟨by omega, by omega, fun i hi => ?_⟩
    have := h3 _ (getD_mem hi)
    omega
  · cases h
/-- The group of each place. -/
def gsOf (v : List Row) (xs : List Int) : List Int := (List.range v.length).map fun i => (v.getD i default).2.2.getD (xs.getD i default).toNat default
def pubOf (l : List Int) (v : List Row) (n : Nat) : Int := if (gsOf v (pl l n)).contains (-1) then -1 else numK (szs v) (gsOf v (pl l n)) v.length
def pubs (l : List Int) (v : List Row) : List Int := (List.range (prod l).toNat).map (pubOf l v)
theorem szs_len (v : List Row) : (szs v).length = v.length := by simp [szs]
theorem szs_at (v : List Row) (k : Nat) (hk : k < v.length) : (szs v).getD k default = 1 + maxL (v.getD k default).2.2 ((v.getD k default).2.2.length - 1) := by
  unfold szs
  rw [List.getD_eq_getElem?_getD, List.getElem?_map, List.getD_eq_getElem?_getD, List.getElem?_eq_getElem hk]
  rfl
theorem Viewed.grouped {l : List Int} {v : List Row} (hw : Viewed l v) {k : Nat} (hk : k < l.length) : Grouped (v.getD k default).2.2 := grouped_of (hw.each k hk).2
theorem Viewed.szs {l : List Int} {v : List Row} (hw : Viewed l v) {k : Nat} (hk : k < l.length) : 1 ≤ (szs v).getD k default ∧ (szs v).getD k default ≤ l.getD k default := by
  have hg := hw.grouped hk
  have h1 := (hw.each k hk).1
  have h2 := hg.max
  rw [szs_at v k (by rw [hw.len]; exact hk)]
  omega
theorem prod_le {a b : List Int} (hl : a.length = b.length) (h : ∀ k, k < b.length → 1 ≤ a.getD k default ∧ a.getD k default ≤ b.getD k default) : ∀ k, k ≤ b.length → 1 ≤ prod (a.take k) ∧ prod (a.take k) ≤ prod (b.take k)
  | 0, _ => by simp [prod]
  | k + 1, hk => by
    have ih := prod_le hl h k (by omega)
    have hx := h k (by omega)
    rw [prod_succ a k (by omega), prod_succ b k (by omega)]
    refine ⟨?_, Int.mul_le_mul ih.2 hx.2 (by omega) (by omega)⟩
    have := Int.mul_le_mul ih.1 hx.1 (by omega) (by omega)
    omega
theorem Viewed.sizes {l : List Int} {v : List Row} (hs : Sizes l) (hw : Viewed l v) : Sizes (Proofs.YtpmlehplbobjmaaDoor.szs v) := by
  have hlen : (Proofs.YtpmlehplbobjmaaDoor.szs v).length = l.length := by rw [szs_len, hw.len]
  refine ⟨by rw [hlen]; exact hs.dims, fun x hx => ?_, ?_⟩
  · obtain ⟨k, hk, rfl⟩ := mem_getD hx
    have h1 := hw.szs (k := k) (by omega)
    have h2 := hs.at (k := k) (by omega)
    omega
  · have := prod_le hlen (fun k hk => hw.szs hk) l.length (Nat.le_refl _)
    rw [List.take_length, ← hlen, List.take_length] at this
    have := hs.cells
    omega
theorem gsOf_len (v : List Row) (xs : List Int) : (gsOf v xs).length = v.length := by simp [gsOf]
theorem gsOf_at (v : List Row) (xs : List Int) (k : Nat) (hk : k < v.length) : (gsOf v xs).getD k default = (v.getD k default).2.2.getD (xs.getD k default).toNat default := map_range_at _ _ _ hk
theorem gsOf_bd {l : List Int} {v : List Row} {xs : List Int} (hw : Viewed l v) (hx : InR l xs) {k : Nat} (hk : k < l.length) : -1 ≤ (gsOf v xs).getD k default ∧ (gsOf v xs).getD k default < (szs v).getD k default := by
  have hkv : k < v.length := by rw [hw.len]; exact hk
  have hg := hw.grouped hk
  have h1 := (hw.each k hk).1
  have h2 := hx.each k hk
  have h3 := hg.each (xs.getD k default).toNat (by omega)
  rw [gsOf_at v xs k hkv, szs_at v k hkv]
  omega
theorem gsOf_in {l : List Int} {v : List Row} {xs : List Int} (hw : Viewed l v) (hx : InR l xs) (hc : (gsOf v xs).contains (-1) = false) : InR (szs v) (gsOf v xs) := by
  refine ⟨by rw [gsOf_len, szs_len], fun k hk => ?_⟩
  rw [szs_len, hw.len] at hk
  have h1 := gsOf_bd hw hx hk
  refine ⟨?_, h1.2⟩
  have hne : (gsOf v xs).getD k default ≠ -1 := fun h => by
    have hm := getD_mem (l := gsOf v xs) (k := k) (by rw [gsOf_len, hw.len]; exact hk)
    rw [h] at hm
    rw [List.contains_eq_mem, decide_eq_false_iff_not] at hc
    exact hc hm
  omega
/-- The places of a cell. -/
theorem mod_range {a d : Int} (h : 1 ≤ d) : 0 ≤ a % d ∧ a % d < d := ⟨Int.emod_nonneg _ (by omega), Int.emod_lt_of_pos _ (by omega)⟩
theorem pl_in {l : List Int} (hs : Sizes l) (n : Int) : InR l (pl l n) := by
  refine ⟨by simp [pl], fun k hk => ?_⟩
  unfold pl
  rw [map_range_at _ _ _ hk]
  exact mod_range (hs.at hk).1
theorem pub_bd {l : List Int} {v : List Row} (hs : Sizes l) (hw : Viewed l v) (n : Nat) : -1 ≤ pubOf l v n ∧ pubOf l v n < prod (szs v) := by
  have hp := (hw.sizes hs).bound (k := (szs v).length) (Nat.le_refl _)
  rw [List.take_length] at hp
  unfold pubOf
  split
  · omega
  · rename_i hc
    have hin := gsOf_in hw (pl_in hs n) (by simpa using hc)
    have := numK_bound hin (szs v).length (Nat.le_refl _)
    rw [List.take_length, szs_len] at this
    omega
end Go.Proofs.YtpmlehplbobjmaaDoor
