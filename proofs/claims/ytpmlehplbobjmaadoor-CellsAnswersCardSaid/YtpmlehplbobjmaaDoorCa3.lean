/- Contracts of functions of the given program, and lemmas about plain lists and numbers: what the laws of this seat lean on. -/
import Derived.Test.YtpmlehplbobjmaaDoorCa2
namespace Go.Proofs.YtpmlehplbobjmaaDoor
open Go.Eng
/-! Places as a function of the number; published cells as a function of the cell -/
theorem prod_cons (x : Int) (r : List Int) : prod (x :: r) = x * prod r := by
  have key : ∀ (r : List Int) (a : Int), r.foldl (· * ·) a = a * r.foldl (· * ·) 1 := by
    intro r
    induction r with
    | nil => intro a; simp
    | cons y r ih => intro a; simp only [List.foldl_cons]; rw [ih (a * y), ih (1 * y), Int.one_mul, Int.mul_assoc]
  unfold prod
  rw [List.foldl_cons, key, Int.one_mul]
theorem prod_drop (l : List Int) (k : Nat) (hk : k < l.length) : prod (l.drop k) = l.getD k default * prod (l.drop (k + 1)) := by
  rw [drop_at hk, prod_cons]
theorem prod_drop_pos {l : List Int} (hs : Sizes l) : ∀ j, j ≤ l.length → 0 < prod (l.drop (l.length - j))
  | 0, _ => by simp [prod]
  | j + 1, hj => by
    have ih := prod_drop_pos hs j (by omega)
    have hx := hs.at (k := l.length - (j + 1)) (by omega)
    rw [prod_drop l _ (by omega), show l.length - (j + 1) + 1 = l.length - j by omega]
    exact Int.mul_pos (by omega) ih
def plAt (l : List Int) (n : Int) (k : Nat) : Int := (n / prod (l.drop (k + 1))) % l.getD k default
def pl (l : List Int) (n : Int) : List Int := (List.range l.length).map (plAt l n)
theorem map_range_at (f : Nat → Int) (m k : Nat) (h : k < m) : ((List.range m).map f).getD k default = f k := by
  rw [List.getD_eq_getElem?_getD, List.getElem?_map, List.getElem?_range h]; rfl
theorem list_ext {xs ys : List Int} (hl : xs.length = ys.length) (h : ∀ k, k < xs.length → xs.getD k default = ys.getD k default) : xs = ys := by
  refine List.ext_getElem hl fun k h1 h2 => ?_
  have := h k h1
  rw [List.getD_eq_getElem?_getD, List.getD_eq_getElem?_getD, List.getElem?_eq_getElem h1, List.getElem?_eq_getElem h2] at this
  exact this
theorem numK_div {l xs : List Int} (hs : Sizes l) (hx : InR l xs) : ∀ j, j ≤ l.length → numK l xs l.length / prod (l.drop (l.length - j)) = numK l xs (l.length - j)
  | 0, _ => by simp [prod]
  | j + 1, hj => by
    have ih := numK_div hs hx j (by omega)
    have hp := prod_drop_pos hs j (by omega)
    have hat := hs.at (k := l.length - (j + 1)) (by omega)
    have hxk := hx.each (l.length - (j + 1)) (by omega)
    have e1 : l.length - (j + 1) + 1 = l.length - j := by omega
    rw [prod_drop l _ (by omega), e1, Int.mul_comm, ← Int.ediv_ediv_of_nonneg (by omega), ih]
    have e2 : numK l xs (l.length - j) = numK l xs (l.length - (j + 1)) * l.getD (l.length - (j + 1)) default + xs.getD (l.length - (j + 1)) default := by rw [← e1]; rfl
    rw [e2, Int.add_comm, Int.add_mul_ediv_right _ _ (by omega), Int.ediv_eq_zero_of_lt hxk.1 hxk.2, Int.zero_add]
theorem pl_of {l xs : List Int} {n : Int} (hs : Sizes l) (hx : InR l xs) (hn : numK l xs l.length = n) : xs = pl l n := by
  refine list_ext (by simp [pl, hx.len]) fun k hk => ?_
  have hk' : k < l.length := by have := hx.len; omega
  have h1 := numK_div hs hx (l.length - (k + 1)) (by omega)
  rw [show l.length - (l.length - (k + 1)) = k + 1 by omega] at h1
  unfold pl
  rw [map_range_at _ _ _ hk', plAt, ← hn, h1]
  have hxk := hx.each k hk'
  show _ = (numK l xs k * l.getD k default + xs.getD k default) % l.getD k default
  rw [Int.add_comm, Int.add_mul_emod_self_right, Int.emod_eq_of_lt hxk.1 hxk.2]
theorem numb_facts : ∀ (l : List Int) (nx n : Int), numb l nx = some n → nx ≤ n ∧ n ≤ nx + l.length ∧ (∀ x ∈ l, -1 ≤ x ∧ x < n) ∧ (nx < n → n - 1 ∈ l)
  | [], nx, n, h => by simp [numb] at h; subst h; simp
  | g :: r, nx, n, h => by
    unfold numb at h
    split at h
    · cases h
    · rename_i hg
      by_cases he : g = nx
      · rw [if_pos he] at h
        obtain ⟨h1, h2, h3, h4⟩ := numb_facts r _ n h
        refine ⟨by omega, by simp; omega, fun x hx => ?_, fun hlt => ?_⟩
        · rcases List.mem_cons.1 hx with rfl | hx
          · omega
          · exact h3 x hx
        · by_cases h5 : nx + 1 < n
          · exact List.mem_cons_of_mem _ (h4 h5)
          · rw [show n - 1 = g by omega]; exact List.mem_cons_self
      · rw [if_neg he] at h
        obtain ⟨h1, h2, h3, h4⟩ := numb_facts r _ n h
        refine ⟨h1, by simp; omega, fun x hx => ?_, fun hlt => List.mem_cons_of_mem _ (h4 hlt)⟩
        rcases List.mem_cons.1 hx with rfl | hx
        · omega
        · exact h3 x hx
theorem maxL_le (l : List Int) : ∀ k j, j ≤ k → l.getD j default ≤ maxL l k
  | 0, j, h => by obtain rfl : j = 0 := by omega
                  exact Int.le_refl _
  | k + 1, j, h => by
    simp only [maxL]
    by_cases hj : j ≤ k
    · have := maxL_le l k j hj; omega
    · obtain rfl : j = k + 1 := by omega
      omega
theorem maxL_at (l : List Int) : ∀ k, ∃ j, j ≤ k ∧ maxL l k = l.getD j default
  | 0 => ⟨0, Nat.le_refl _, rfl⟩
  | k + 1 => by
    obtain ⟨j, hj, he⟩ := maxL_at l k
    simp only [maxL]
    by_cases h : maxL l k ≤ l.getD (k + 1) default
    · exact ⟨k + 1, Nat.le_refl _, by omega⟩
    · exact ⟨j, by omega, by omega⟩
theorem getD_mem {l : List Int} {k : Nat} (h : k < l.length) : l.getD k default ∈ l := by
  rw [List.getD_eq_getElem?_getD, List.getElem?_eq_getElem h]; exact List.getElem_mem _
theorem mem_getD {l : List Int} {x : Int} (h : x ∈ l) : ∃ k, k < l.length ∧ l.getD k default = x := by
  obtain ⟨k, hk, he⟩ := List.mem_iff_getElem.1 h
  exact ⟨k, hk, by rw [List.getD_eq_getElem?_getD, List.getElem?_eq_getElem hk]; exact he⟩
/-- What is known of the groups of one dimension. -/
structure Grouped (l : List Int) : Prop where
  pos : 1 ≤ l.length
  max : 0 ≤ maxL l (l.length - 1) ∧ maxL l (l.length - 1) < l.length
  each : ∀ k, k < l.length → -1 ≤ l.getD k default ∧ l.getD k default ≤ maxL l (l.length - 1)
theorem grouped_of {l : List Int} (h : numbB l = true) : Grouped l := by
  unfold numbB at h
  split at h
  · rename_i n hn
    have h0 : 0 < n := of_decide_eq_true h
    obtain ⟨h1, h2, h3, h4⟩ := numb_facts l 0 n hn
    have hm := h4 h0
    obtain ⟨k, hk, he⟩ := mem_getD hm
    have h5 := maxL_le l (l.length - 1) k (by omega)
    obtain ⟨j, hj, hj'⟩ := maxL_at l (l.length - 1)
    have h6 := h3 _ (getD_mem (l := l) (k := j) (by omega))
    have h7 : maxL l (l.length - 1) = n - 1 := by omega
    refine ⟨by omega, by omega, fun i hi => ?_⟩
    have := h3 _ (getD_mem hi)
    omega
  · cases h
/-- The group of each place. -/
def gsOf (v : List Row) (xs : List Int) : List Int := (List.range v.length).map fun i => (v.getD i default).2.2.getD (xs.getD i default).toNat default
def pubOf (l : List Int) (v : List Row) (n : Nat) : Int := if (gsOf v (pl l n)).contains (-1) then -1 else numK (szs v) (gsOf v (pl l n)) v.length
def pubs (l : List Int) (v : List Row) : List Int := (List.range (prod l).toNat).map (pubOf l v)
theorem szs_len (v : List Row) : (szs v).length = v.length := by simp [szs]
theorem szs_at (v : List Row) (k : Nat) (hk : k < v.length) : (szs v).getD k default = 1 + maxL (v.getD k default).2.2 ((v.getD k default).2.2.length - 1) := by
  unfold szs
  rw [List.getD_eq_getElem?_getD, List.getElem?_map, List.getD_eq_getElem?_getD, List.getElem?_eq_getElem hk]
  rfl
theorem Viewed.grouped {l : List Int} {v : List Row} (hw : Viewed l v) {k : Nat} (hk : k < l.length) : Grouped (v.getD k default).2.2 := grouped_of (hw.each k hk).2
theorem Viewed.szs {l : List Int} {v : List Row} (hw : Viewed l v) {k : Nat} (hk : k < l.length) : 1 ≤ (szs v).getD k default ∧ (szs v).getD k default ≤ l.getD k default := by
  have hg := hw.grouped hk
  have h1 := (hw.each k hk).1
  have h2 := hg.max
  rw [szs_at v k (by rw [hw.len]; exact hk)]
  omega
theorem prod_le {a b : List Int} (hl : a.length = b.length) (h : ∀ k, k < b.length → 1 ≤ a.getD k default ∧ a.getD k default ≤ b.getD k default) : ∀ k, k ≤ b.length → 1 ≤ prod (a.take k) ∧ prod (a.take k) ≤ prod (b.take k)
  | 0, _ => by simp [prod]
  | k + 1, hk => by
    have ih := prod_le hl h k (by omega)
    have hx := h k (by omega)
    rw [prod_succ a k (by omega), prod_succ b k (by omega)]
    refine ⟨?_, Int.mul_le_mul ih.2 hx.2 (by omega) (by omega)⟩
    have := Int.mul_le_mul ih.1 hx.1 (by omega) (by omega)
    omega
theorem Viewed.sizes {l : List Int} {v : List Row} (hs : Sizes l) (hw : Viewed l v) : Sizes (Proofs.YtpmlehplbobjmaaDoor.szs v) := by
  have hlen : (Proofs.YtpmlehplbobjmaaDoor.szs v).length = l.length := by rw [szs_len, hw.len]
  refine ⟨by rw [hlen]; exact hs.dims, fun x hx => ?_, ?_⟩
  · obtain ⟨k, hk, rfl⟩ := mem_getD hx
    have h1 := hw.szs (k := k) (by omega)
    have h2 := hs.at (k := k) (by omega)
    omega
  · have := prod_le hlen (fun k hk => hw.szs hk) l.length (Nat.le_refl _)
    rw [List.take_length, ← hlen, List.take_length] at this
    have := hs.cells
    omega
theorem gsOf_len (v : List Row) (xs : List Int) : (gsOf v xs).length = v.length := by simp [gsOf]
theorem gsOf_at (v : List Row) (xs : List Int) (k : Nat) (hk : k < v.length) : (gsOf v xs).getD k default = (v.getD k default).2.2.getD (xs.getD k default).toNat default := map_range_at _ _ _ hk
theorem gsOf_bd {l : List Int} {v : List Row} {xs : List Int} (hw : Viewed l v) (hx : InR l xs) {k : Nat} (hk : k < l.length) : -1 ≤ (gsOf v xs).getD k default ∧ (gsOf v xs).getD k default < (szs v).getD k default := by
  have hkv : k < v.length := by rw [hw.len]; exact hk
  have hg := hw.grouped hk
  have h1 := (hw.each k hk).1
  have h2 := hx.each k hk
  have h3 := hg.each (xs.getD k default).toNat (by omega)
  rw [gsOf_at v xs k hkv, szs_at v k hkv]
  omega
theorem gsOf_in {l : List Int} {v : List Row} {xs : List Int} (hw : Viewed l v) (hx : InR l xs) (hc : (gsOf v xs).contains (-1) = false) : InR (szs v) (gsOf v xs) := by
  refine ⟨by rw [gsOf_len, szs_len], fun k hk => ?_⟩
  rw [szs_len, hw.len] at hk
  have h1 := gsOf_bd hw hx hk
  refine ⟨?_, h1.2⟩
  have hne : (gsOf v xs).getD k default ≠ -1 := fun h => by
    have hm := getD_mem (l := gsOf v xs) (k := k) (by rw [gsOf_len, hw.len]; exact hk)
    rw [h] at hm
    rw [List.contains_eq_mem, decide_eq_false_iff_not] at hc
    exact hc hm
  omega
/-- The places of a cell. -/
theorem mod_range {a d : Int} (h : 1 ≤ d) : 0 ≤ a % d ∧ a % d < d := ⟨Int.emod_nonneg _ (by omega), Int.emod_lt_of_pos _ (by omega)⟩
theorem pl_in {l : List Int} (hs : Sizes l) (n : Int) : InR l (pl l n) := by
  refine ⟨by simp [pl], fun k hk => ?_⟩
  unfold pl
  rw [map_range_at _ _ _ hk]
  exact mod_range (hs.at hk).1
theorem pub_bd {l : List Int} {v : List Row} (hs : Sizes l) (hw : Viewed l v) (n : Nat) : -1 ≤ pubOf l v n ∧ pubOf l v n < prod (szs v) := by
  have hp := (hw.sizes hs).bound (k := (szs v).length) (Nat.le_refl _)
  rw [List.take_length] at hp
  unfold pubOf
  split
  · omega
  · rename_i hc
    have hin := gsOf_in hw (pl_in hs n) (by simpa using hc)
    have := numK_bound hin (szs v).length (Nat.le_refl _)
    rw [List.take_length, szs_len] at this
    omega
end Go.Proofs.YtpmlehplbobjmaaDoor
/-
  The proof engine, part F: memory that nobody writes any more; lists of lists.
-/
namespace Go.Eng
section
variable {C : Cx} {e e' : Env} {I I' : PH} {R R' : List Res} {K K' : Act → World → Prop} {Q : Exit → Act → World → Prop} {W : World}
theorem St.imm_le {w : World} (hle : PH.le I I') (h : St W I' R w) : St W I R w := by
  obtain ⟨⟨m, hm, hs⟩, hst⟩ := h
  exact ⟨⟨m, hm, ⟨fun i o hi => hs.imm i o (hle i o hi), hs.own, dis_sub hs.dis hle (PH.le_refl _)⟩⟩, hst⟩
/-- What was given up need not be told further on. -/
theorem Nx.imm_le (hle : PH.le I I') (h : Nx C e I R K) : Nx C e I' R K := fun a w ha hw => h a w ha (hw.imm_le hle)
theorem Stars.get : ∀ {R : List Res} {m : PH} (k : Nat) {r : Res}, Stars R m → nthL R k = some r → ∃ m', PH.le m' m ∧ r m'
  | [], _, k, r, _, hk => by cases k <;> simp [nthL] at hk
  | r0 :: R, m, 0, r, h, hk => by
    obtain ⟨m1, m2, hd, rfl, h1, _⟩ := h
    simp [nthL] at hk
    subst hk
    exact ⟨m1, PH.le_or_left _ _, h1⟩
  | r0 :: R, m, k + 1, r, h, hk => by
    obtain ⟨m1, m2, hd, rfl, _, h2⟩ := h
    obtain ⟨m', hle, hr⟩ := Stars.get k h2 hk
    exact ⟨m', hle.trans (PH.le_or_right hd), hr⟩
/-- Resource number k is given up for good: from here on nobody writes it. -/
theorem Nx.freezeAt (k : Nat) {r : Res} (hk : nthL R k = some r) (h : ∀ I' m, PH.le I I' → PH.le m I' → r m → Nx C e I' (R.eraseIdx k) K) : Nx C e I R K :=
  Nx.freeze (B := [r]) (R' := R.eraseIdx k) (Ent.pull k R r (nthL_eq.symm.trans hk)) (fun m hd hB => by
    obtain ⟨m1, m2, hd', rfl, hr, _⟩ := hB
    exact h _ m1 (PH.le_or_left _ _) ((PH.le_or_left m1 m2).trans (PH.le_or_right hd)) hr)
/-- Two of them. -/
theorem Nx.unfoldAt (k : Nat) {B : List Res} (hk : nthL R k = some (Stars B)) (h : Nx C e I (B ++ R.eraseIdx k) K) : Nx C e I R K := by
  refine Nx.ent (Ent.pull k R _ (nthL_eq.symm.trans hk)) (Nx.ent ?_ h)
  rintro m ⟨m1, m2, hd, rfl, h1, h2⟩
  obtain ⟨k, hk, hkS⟩ := Stars.join hd h1 h2
  exact ⟨k, hk, hkS⟩
/-- One more resource goes into a bundle: r and the bundle are the two that come first. -/
theorem Ent.bundle {r : Res} {B : List Res} {R : List Res} : Ent (r :: Stars B :: R) (Stars (B ++ [r]) :: R) := by
  refine (Ent.swap _ _ _).trans ?_
  rintro m ⟨m1, m2, hd, rfl, h1, n1, n2, hd', rfl, h2, h3⟩
  obtain ⟨d1, d2⟩ := PH.dis_or.1 hd
  obtain ⟨k, hk, hkS⟩ := Stars.join (a := B) (b := [r]) d1 h1 ⟨n1, fun _ => none, fun _ => .inr rfl, by funext i; unfold PH.or; cases n1 i <;> rfl, h2, trivial⟩
  have hkn : PH.dis k n2 := dis_sub (PH.dis.symm (PH.dis_or.2 ⟨d2.symm, hd'.symm⟩)) hk (PH.le_refl _)
  refine ⟨k.or n2, ?_, k, n2, hkn, rfl, hkS, h3⟩
  rw [← PH.or_assoc]
  refine PH.or_le (hk.trans (PH.le_or_left _ _)) (PH.le_or_right (PH.dis.symm (PH.dis_or.2 ⟨d2.symm, hd'.symm⟩)))
theorem Ent.stars_nil (R : List Res) : Ent R (Stars [] :: R) := fun m hm => ⟨m, PH.le_refl m, fun _ => none, m, fun _ => .inl rfl, by funext i; rfl, trivial, hm⟩
theorem Ent.pack2 {r s : Res} {R : List Res} : Ent (r :: s :: R) (Stars [r, s] :: R) := by
  rintro m ⟨m1, mm, hd, rfl, h1, m2, m3, hd', rfl, h2, h3⟩
  obtain ⟨d1, d2⟩ := PH.dis_or.1 hd
  refine ⟨_, PH.le_refl _, m1.or m2, m3, PH.dis.symm (PH.dis_or.2 ⟨d2.symm, hd'.symm⟩), (PH.or_assoc _ _ _).symm, ?_, h3⟩
  exact ⟨m1, m2, d1, rfl, h1, m2, fun _ => none, fun _ => .inr rfl, by funext i; unfold PH.or; cases m2 i <;> rfl, h2, trivial⟩
section
variable {d : Nat} {ty t el : TypeId} {pos : String} {after : Array Edge} {g : Option (Nat × Bool)} {x y : Operand} {A : Option Addr} {n c : Nat}
/-- A store into an owned list of values of one cell each, resource number k. -/
theorem Nx.store_of (k : Nat) {α : Type} (f : α → Value) {i : Nat} {l : List α} {z : α} (hx : evo e x = some (.pointer (some ((ad A).add (i * 1))))) (hy : evo e y = some (f z)) (hc : cellsL (f z) = [f z]) (h1 : (f z).oneCell' = true) (hn : cellsIn C.P t = some 1) (hk : nthL R k = some (Vec el 1 A n c (l.map f))) (hi : i < n)
    (h : Nx C e I (Vec el 1 A n c ((l.set i z).map f) :: R.eraseIdx k) K) : Nx C e I R (opK C.P ⟨none, .store t x y, ty, pos, after, g⟩ K Q) := by
  rw [Nat.mul_one] at hx
  refine Nx.ent (Ent.pull k R _ (nthL_eq.symm.trans hk)) (Nx.store hx hy ((cellsL_eq _).trans hc) hn rfl (Wr.vec hi h1) ?_)
  rw [List.map_set] at h
  exact h
end
end
end Go.Eng
/- Contracts of functions of the given program, and lemmas about plain lists and numbers: what the laws of this seat lean on. -/
namespace Go.Proofs.YtpmlehplbobjmaaDoor
open Go.Eng
attribute [local irreducible] opK wpList Code.wp Exit.then Exit.inBlock fnPost bodyPost Nx Calls Oper.wp Rd Rds Wr Ent Stars Blk Again Vec FnSpec wpMix QRun Stop Upto wpAt
theorem RowsOf.mono {I I' : PH} {A : Option Addr} {c : Nat} {v : List Row} (hle : PH.le I I') (h : RowsOf I A c v) : RowsOf I' A c v := ⟨h.outer.mono hle, fun r hr => (h.inner r hr).mono hle⟩
theorem mix_at {gs xs : List Int} {i : Nat} (hl : gs.length = xs.length) (hi : i < xs.length) : (gs.take i ++ xs.drop i).getD i default = xs.getD i default := by
  rw [List.getD_eq_getElem?_getD, List.getElem?_append_right (by rw [List.length_take]; omega), List.length_take, show i - min i gs.length = 0 by omega, List.getElem?_drop, List.getD_eq_getElem?_getD]; rfl
theorem mix_len {gs xs : List Int} {i : Nat} (hl : gs.length = xs.length) (hi : i ≤ xs.length) : (gs.take i ++ xs.drop i).length = xs.length := by
  rw [List.length_append, List.length_take, List.length_drop]; omega
theorem mix_set {gs xs : List Int} {i : Nat} (hl : gs.length = xs.length) (hi : i < xs.length) : (gs.take i ++ xs.drop i).set i (gs.getD i default) = gs.take (i + 1) ++ xs.drop (i + 1) := by
  rw [List.set_append, if_neg (by rw [List.length_take]; omega), List.length_take, show i - min i gs.length = 0 by omega, List.take_succ_eq_append_getElem (by omega), List.append_assoc, List.drop_eq_getElem_cons hi, List.set_cons_zero]
  simp [List.getD_eq_getElem?_getD, List.getElem?_eq_getElem (show i < gs.length by omega)]
theorem map_range_succ (f : Nat → Int) (n : Nat) : (List.range (n + 1)).map f = (List.range n).map f ++ [f n] := by rw [List.range_succ, List.map_append]; rfl
set_option maxHeartbeats 2000000 in
set_option maxRecDepth 10000 in
theorem published_spec (A B : Option Addr) (c cv : Nat) (l : List Int) (v : List Row) (I : PH) (hl : Ints I A c l) (hs : Sizes l) (hv : RowsOf I B cv v) (hw : Viewed l v) :
    FnSpec Tryd.prog 33 [.agg #[.slice A l.length c], .agg #[.slice B v.length cv]] I [] (fun u R' => ∃ A' c', u = .slice A' (pubs l v).length c' ∧ R' = [Vec 3 1 A' (pubs l v).length c' ((pubs l v).map (Value.int .i64))]) := by
  have hlen := hl.len
  have hd := hs.dims
  have hvl := hw.len
  have hpr := hs.bound (k := l.length) (Nat.le_refl _)
  rw [List.take_length] at hpr
  refine FnSpec.enterP Tryd.func33 rfl Tryd.ntmps33 rfl fun w F => ?_
  repeat' first
    | ((with_reducible refine Nx.is_wp ?_); first | refine Nx.wo ?_ | refine Nx.zp (fun hc => ?_) (fun hc => ?_))
    | (refine Nx.zo ?_; first | refine Nx.opr rfl rfl ?_ | refine Nx.so ?_ | refine Nx.sb (fun bx => ?_) | refine Nx.sa (fun A2 c2 => ?_))
    | refine Nx.za ?_ | refine Nx.zr (fun hc => ?_) (fun hc => ?_)
    | refine Nx.zq ?_ | refine Nx.zu (fun hc => ?_) (fun hc => ?_)
    | refine Nx.zx ?_ | fail
  refine Nx.at_op rfl rfl ?_
  refine Nx.call rfl rfl rfl (by kernel_rfl) rfl (sizes_spec B cv v I hv (by omega) (fun k hk => ?_)) (by (exact Ent.auto)) ?_
  · have := hw.grouped (k := k) (by omega)
    have h1 := (hw.each k (by omega)).1
    have h2 := hs.at (k := k) (by omega)
    have := this.max; have := (hw.grouped (k := k) (by omega)).pos
    omega
  rintro u R' ⟨As, cs, rfl, rfl⟩
  refine Nx.freezeAt 0 rfl fun I' m hle hm hvec => ?_
  have hz : Ints I' As cs (szs v) := Vec.sliceOf hm hvec
  have hl' := hl.mono hle
  have hv' := hv.mono hle
  repeat' first
    | ((with_reducible refine Nx.is_wp ?_); first | refine Nx.wo ?_ | refine Nx.zp (fun hc => ?_) (fun hc => ?_))
    | (refine Nx.zo ?_; first | refine Nx.opr rfl rfl ?_ | refine Nx.callv rfl rfl rfl (by kernel_rfl) rfl (product_spec _ _ _ _ hl' hs) ?_ | refine Nx.so ?_ | refine Nx.sb (fun bx => ?_) | refine Nx.sa (fun A2 c2 => ?_))
    | refine Nx.za ?_ | refine Nx.zr (fun hc => ?_) (fun hc => ?_)
    | refine Nx.zq ?_ | refine Nx.zu (fun hc => ?_) (fun hc => ?_)
    | refine Nx.zx ?_ | fail
  rename_i b2
  refine Nx.p_loop (σ := Nat × Option Addr × Nat) (fun s => [(2, .pointer (some ⟨b2, 0, none⟩)), (3, .pointer (some ⟨bx, 0, none⟩)), (5, .slice As (szs v).length cs), (6, .slice s.2.1 s.1 s.2.2), (15, .int .i64 (prod l)), (16, .int .i64 (s.1 : Int))])
    (fun s => [Vec 3 1 s.2.1 s.1 s.2.2 (((List.range s.1).map (pubOf l v)).map (Value.int .i64)), Blk b2 27 [.slice A l.length c], Blk bx 31 [.slice B v.length cv], F]) (fun s => s.1 ≤ (prod l).toNat) (fun s => (prod l).toNat - s.1) (0, none, 0) rfl (Nat.zero_le _) ⟨rfl, rfl, rfl, rfl, rfl, rfl, trivial⟩ ((Ent.vec_nil _ _ _).trans (by (exact Ent.auto))) ?_
  rintro ⟨k, A', c'⟩ hk
  dsimp only at hk ⊢
  have hmono : k < (prod l).toNat → (k : Int) < prod l := fun h => by omega
  repeat' first
    | ((with_reducible refine Nx.is_wp ?_); first | refine Nx.wo ?_ | refine Nx.zp (fun hc => ?_) (fun hc => ?_))
    | (refine Nx.zo ?_; first | refine Nx.opr rfl rfl ?_ | refine Nx.so ?_ | refine Nx.sb (fun bx => ?_) | refine Nx.sa (fun A2 c2 => ?_))
    | refine Nx.za ?_ | refine Nx.zr (fun hc => ?_) (fun hc => ?_)
    | refine Nx.zq ?_ | refine Nx.zu (fun hc => ?_) (fun hc => ?_)
    | refine Nx.zx ?_ | fail
  · refine Nx.at_op rfl rfl ?_
    refine Nx.call rfl rfl rfl (by kernel_rfl) rfl (places_spec A c l k I' hl' hs (by omega)) (Ent.refl _) ?_
    rintro u R' ⟨bp, xs, rfl, hr, hnum, _, rfl⟩
    have hpl := pl_of hs hr hnum
    have hxl := hr.len
    have hgl : (gsOf v xs).length = xs.length := by rw [gsOf_len]; omega
    repeat' first
      | ((with_reducible refine Nx.is_wp ?_); first | refine Nx.wo ?_ | refine Nx.zp (fun hc => ?_) (fun hc => ?_))
      | (refine Nx.zo ?_; first | refine Nx.opr rfl rfl ?_ | refine Nx.so ?_ | refine Nx.sb (fun bx => ?_) | refine Nx.sa (fun A2 c2 => ?_))
      | refine Nx.za ?_ | refine Nx.zr (fun hc => ?_) (fun hc => ?_)
      | refine Nx.zq ?_ | refine Nx.zu (fun hc => ?_) (fun hc => ?_)
      | refine Nx.zx ?_ | fail
    refine Nx.p_loop (σ := Nat) (fun i => [(2, .pointer (some ⟨b2, 0, none⟩)), (3, .pointer (some ⟨bx, 0, none⟩)), (5, .slice As (szs v).length cs), (6, .slice A' k c'), (15, .int .i64 (prod l)), (16, .int .i64 (k : Int)), (8, .slice (some ⟨bp, 0, none⟩) xs.length xs.length), (23, .slice (some ⟨bp, 0, none⟩) xs.length xs.length), (24, .int .i64 xs.length), (25, .int .i64 (i : Int))])
      (fun i => [Vec 3 1 (some ⟨bp, 0, none⟩) xs.length xs.length (((gsOf v xs).take i ++ xs.drop i).map (Value.int .i64)), Vec 3 1 A' k c' (((List.range k).map (pubOf l v)).map (Value.int .i64)), Blk b2 27 [.slice A l.length c], Blk bx 31 [.slice B v.length cv], F]) (fun i => i ≤ xs.length) (fun i => xs.length - i) 0 rfl (Nat.zero_le _) ⟨rfl, rfl, rfl, rfl, rfl, rfl, rfl, rfl, rfl, rfl, trivial⟩ (by (exact Ent.auto)) ?_
    intro i hi
    have hmx : i < xs.length → ((gsOf v xs).take i ++ xs.drop i).getD i default = xs.getD i default := fun h => mix_at hgl h
    have hml := mix_len hgl hi
    have hxi := hr.each i
    have hwi := hw.each i
    have hgi : i < v.length → (gsOf v xs).getD i default = (v.getD i default).2.2.getD (xs.getD i default).toNat default := gsOf_at v xs i
    by_cases hlt : i < xs.length
    · have hmx := hmx hlt
      have hgi := hgi (by omega)
      repeat' first
        | ((with_reducible refine Nx.is_wp ?_); first | refine Nx.wo ?_ | refine Nx.zp (fun hc => ?_) (fun hc => ?_))
        | (refine Nx.zo ?_; first | refine Nx.opr rfl rfl ?_ | refine Nx.indexAddr_nat rfl rfl rfl rfl rfl (by omega) rfl ?_ | refine Nx.load rfl rfl rfl (Rd.vecEl 0 rfl (by omega)) ?_ | refine Nx.so ?_ | refine Nx.sb (fun bx => ?_) | refine Nx.sa (fun A2 c2 => ?_))
        | refine Nx.za ?_ | refine Nx.zr (fun hc => ?_) (fun hc => ?_)
        | refine Nx.zq ?_ | refine Nx.zu (fun hc => ?_) (fun hc => ?_)
        | refine Nx.zx ?_ | fail
      repeat' first
        | ((with_reducible refine Nx.is_wp ?_); first | refine Nx.wo ?_ | refine Nx.zp (fun hc => ?_) (fun hc => ?_))
        | (refine Nx.zo ?_; first | refine Nx.opr rfl rfl ?_ | refine Nx.indexAddr_nat rfl rfl rfl rfl rfl (by omega) (hv'.outer.isSome (by omega)) ?_ | refine Nx.load rfl rfl rfl (hv'.outer.rd (by omega)) ?_ | refine Nx.so ?_ | refine Nx.sb (fun bx => ?_) | refine Nx.sa (fun A2 c2 => ?_))
        | refine Nx.za ?_ | refine Nx.zr (fun hc => ?_) (fun hc => ?_)
        | refine Nx.zq ?_ | refine Nx.zu (fun hc => ?_) (fun hc => ?_)
        | refine Nx.zx ?_ | fail
      refine Nx.at_op rfl rfl ?_
      refine Nx.indexAddr rfl rfl rfl rfl rfl (by omega) (by omega) ((hv'.at (by omega)).isSome (by omega)) ?_
      refine Nx.at_op rfl rfl ?_
      refine Nx.load rfl rfl rfl ((hv'.at (by omega)).rd (by omega)) ?_
      repeat' first
        | ((with_reducible refine Nx.is_wp ?_); first | refine Nx.wo ?_ | refine Nx.zp (fun hc => ?_) (fun hc => ?_))
        | (refine Nx.zo ?_; first | refine Nx.opr rfl rfl ?_ | refine Nx.indexAddr_nat rfl rfl rfl rfl rfl (by omega) rfl ?_ | refine Nx.so ?_ | refine Nx.sb (fun bx => ?_) | refine Nx.sa (fun A2 c2 => ?_))
        | refine Nx.za ?_ | refine Nx.zr (fun hc => ?_) (fun hc => ?_)
        | refine Nx.zq ?_ | refine Nx.zu (fun hc => ?_) (fun hc => ?_)
        | refine Nx.zx ?_ | fail
      refine Nx.again (i + 1) (by omega) (by omega) ⟨rfl, rfl, rfl, rfl, rfl, rfl, rfl, rfl, rfl, rfl, trivial⟩ ?_
      refine Ent.pickE 0 rfl ?_ (by (exact Ent.auto))
      rw [hmx, ← hgi, mix_set hgl hlt]
    · obtain rfl : i = xs.length := by omega
      have hfull : (gsOf v xs).take xs.length ++ xs.drop xs.length = gsOf v xs := by rw [List.drop_length, List.append_nil, ← hgl, List.take_length]
      rw [hfull]
      repeat' first
        | ((with_reducible refine Nx.is_wp ?_); first | refine Nx.wo ?_ | refine Nx.zp (fun hc => ?_) (fun hc => ?_))
        | (refine Nx.zo ?_; first | refine Nx.opr rfl rfl ?_ | refine Nx.so ?_ | refine Nx.sb (fun bx => ?_) | refine Nx.sa (fun A2 c2 => ?_))
        | refine Nx.za ?_ | refine Nx.zr (fun hc => ?_) (fun hc => ?_)
        | refine Nx.zq ?_ | refine Nx.zu (fun hc => ?_) (fun hc => ?_)
        | refine Nx.zx ?_ | fail
      refine Nx.freezeAt 0 rfl fun I2 m2 hle2 hm2 hvec2 => ?_
      have hgs : Ints I2 (some ⟨bp, 0, none⟩) (gsOf v xs).length (gsOf v xs) := Vec.sliceOf (t := 3) hm2 (by rw [hgl]; exact hvec2)
      rw [← hgl]
      have hpub : pubOf l v k = if (gsOf v xs).contains (-1) then -1 else numK (szs v) (gsOf v xs) (szs v).length := by rw [hpl, szs_len]; rfl
      repeat' first
        | ((with_reducible refine Nx.is_wp ?_); first | refine Nx.wo ?_ | refine Nx.zp (fun hc => ?_) (fun hc => ?_))
        | (refine Nx.zo ?_; first | refine Nx.opr rfl rfl ?_ | refine Nx.callv rfl rfl rfl (by kernel_rfl) rfl (Contains_spec _ _ _ _ _ hgs) ?_ | refine Nx.callv rfl rfl rfl (by kernel_rfl) rfl (number_spec _ _ _ _ _ _ _ (hz.mono hle2) hgs (hw.sizes hs) (gsOf_in hw hr hc)) ?_ | refine Nx.so ?_ | refine Nx.sb (fun bx => ?_) | refine Nx.sa (fun A2 c2 => ?_))
        | refine Nx.za ?_ | refine Nx.zr (fun hc => ?_) (fun hc => ?_)
        | refine Nx.zq ?_ | refine Nx.zu (fun hc => ?_) (fun hc => ?_)
        | refine Nx.zx ?_ | fail
      · refine Nx.imm_le hle2 (Nx.again (k + 1, A2, c2) (by dsimp only; omega) (by dsimp only; omega) ⟨rfl, rfl, rfl, rfl, rfl, rfl, trivial⟩ ?_)
        refine Ent.pickE 0 rfl ?_ (by (exact Ent.auto))
        rw [map_range_succ, hpub, if_pos hc, List.map_append]; rfl
      · refine Nx.imm_le hle2 (Nx.again (k + 1, A2, c2) (by dsimp only; omega) (by dsimp only; omega) ⟨rfl, rfl, rfl, rfl, rfl, rfl, trivial⟩ ?_)
        refine Ent.pickE 0 rfl ?_ (by (exact Ent.auto))
        rw [map_range_succ, hpub, if_neg (by rw [hc]; decide), List.map_append]; rfl
  · obtain rfl : k = (prod l).toNat := by omega
    refine Nx.imm_le hle (Nx.ret_fn rfl [_] ⟨A', c', ?_, ?_⟩ (by (exact Ent.auto)))
    · simp [pubs]
    · simp [pubs]
end Go.Proofs.YtpmlehplbobjmaaDoor
/- Contracts of functions of the given program, and lemmas about plain lists and numbers: what the laws of this seat lean on. -/
namespace Go.Proofs.YtpmlehplbobjmaaDoor
open Go.Eng
attribute [local irreducible] opK wpList Code.wp Exit.then Exit.inBlock fnPost bodyPost Nx Calls Oper.wp Rd Rds Wr Ent Stars Blk Again Vec FnSpec wpMix QRun Stop Upto wpAt
def memK (l : List Int) (v : List Row) (k : Int) (n : Nat) : List Int := ((List.range n).filter (fun j => decide (pubOf l v j = k))).map (fun j : Nat => (j : Int))
theorem memK_len (l : List Int) (v : List Row) (k : Int) (n : Nat) : (memK l v k n).length ≤ n := by
  unfold memK
  rw [List.length_map]
  exact Nat.le_trans (List.length_filter_le _ _) (by simp)
theorem memK_succ (l : List Int) (v : List Row) (k : Int) (n : Nat) : memK l v k (n + 1) = memK l v k n ++ if pubOf l v n = k then [(n : Int)] else [] := by
  unfold memK
  rw [List.range_succ, List.filter_append, List.map_append]
  by_cases h : pubOf l v n = k <;> simp [h]
theorem pubs_len (l : List Int) (v : List Row) : (pubs l v).length = (prod l).toNat := by simp [pubs]
theorem pubs_at (l : List Int) (v : List Row) (n : Nat) (h : n < (prod l).toNat) : (pubs l v).getD n default = pubOf l v n := map_range_at _ _ _ h
theorem Viewed.szsOk {l : List Int} {v : List Row} (hs : Sizes l) (hw : Viewed l v) : v.length ≤ 4 ∧ ∀ k, k < v.length → 1 ≤ (v.getD k default).2.2.length ∧ -8 ≤ maxL (v.getD k default).2.2 ((v.getD k default).2.2.length - 1) ∧ maxL (v.getD k default).2.2 ((v.getD k default).2.2.length - 1) ≤ 8 := by
  have hd := hs.dims
  have hl := hw.len
  refine ⟨by omega, fun k hk => ?_⟩
  have h1 := (hw.each k (by omega)).1
  have h2 := hs.at (k := k) (by omega)
  have := (hw.grouped (k := k) (by omega)).max; have := (hw.grouped (k := k) (by omega)).pos
  omega
set_option maxHeartbeats 2000000 in
set_option maxRecDepth 10000 in
theorem Published_spec (A B : Option Addr) (c cv : Nat) (l : List Int) (v : List Row) (I : PH) (hl : Ints I A c l) (hs : Sizes l) (hv : RowsOf I B cv v) (hw : Viewed l v) :
    FnSpec Tryd.prog 12 [.agg #[.slice A l.length c], .agg #[.slice B v.length cv]] I [] (fun u R' => u = .int .i64 (prod (szs v)) ∧ R' = []) := by
  refine FnSpec.enterP Tryd.func12 rfl Tryd.ntmps12 rfl fun w F => ?_
  repeat' first
    | ((with_reducible refine Nx.is_wp ?_); first | refine Nx.wo ?_ | refine Nx.zp (fun hc => ?_) (fun hc => ?_))
    | (refine Nx.zo ?_; first | refine Nx.opr rfl rfl ?_ | refine Nx.callv rfl rfl rfl (by kernel_rfl) rfl (View_spec _ _ _ _ _ _ _ hl hs hv hw) ?_ | refine Nx.so ?_ | refine Nx.sb (fun bx => ?_) | refine Nx.sa (fun A2 c2 => ?_))
    | refine Nx.za ?_ | refine Nx.zr (fun hc => ?_) (fun hc => ?_)
    | refine Nx.zq ?_ | refine Nx.zu (fun hc => ?_) (fun hc => ?_)
    | refine Nx.zx ?_ | fail
  refine Nx.at_op rfl rfl ?_
  refine Nx.call rfl rfl rfl (by kernel_rfl) rfl (sizes_spec B cv v I hv (hw.szsOk hs).1 (hw.szsOk hs).2) (by (exact Ent.auto)) ?_
  rintro u R' ⟨As, cs, rfl, rfl⟩
  refine Nx.freezeAt 0 rfl fun I' m hle hm hvec => ?_
  have hz : Ints I' As cs (szs v) := Vec.sliceOf hm hvec
  repeat' first
    | ((with_reducible refine Nx.is_wp ?_); first | refine Nx.wo ?_ | refine Nx.zp (fun hc => ?_) (fun hc => ?_))
    | (refine Nx.zo ?_; first | refine Nx.opr rfl rfl ?_ | refine Nx.callv rfl rfl rfl (by kernel_rfl) rfl (product_spec _ _ _ _ hz (hw.sizes hs)) ?_ | refine Nx.so ?_ | refine Nx.sb (fun bx => ?_) | refine Nx.sa (fun A2 c2 => ?_))
    | refine Nx.za ?_ | refine Nx.zr (fun hc => ?_) (fun hc => ?_)
    | refine Nx.zq ?_ | refine Nx.zu (fun hc => ?_) (fun hc => ?_)
    | refine Nx.zx ?_ | fail
  exact Nx.imm_le hle (Nx.ret_fn rfl [] ⟨rfl, rfl⟩ (by (exact Ent.auto)))
set_option maxHeartbeats 2000000 in
set_option maxRecDepth 10000 in
theorem Members_spec (A B : Option Addr) (c cv : Nat) (l : List Int) (v : List Row) (k : Int) (I : PH) (hl : Ints I A c l) (hs : Sizes l) (hv : RowsOf I B cv v) (hw : Viewed l v) (hk : 0 ≤ k ∧ k < prod (szs v)) :
    FnSpec Tryd.prog 37 [.agg #[.slice A l.length c], .agg #[.slice B v.length cv], .int .i64 k] I [] (fun u R' => ∃ A' c', u = .tuple #[.slice A' (memK l v k (prod l).toNat).length c', .int .i64 0] ∧ R' = [Vec 3 1 A' (memK l v k (prod l).toNat).length c' ((memK l v k (prod l).toNat).map (Value.int .i64))]) := by
  have hpr := hs.bound (k := l.length) (Nat.le_refl _)
  rw [List.take_length] at hpr
  have hpl := pubs_len l v
  refine FnSpec.enterP Tryd.func37 rfl Tryd.ntmps37 rfl fun w F => ?_
  repeat' first
    | ((with_reducible refine Nx.is_wp ?_); first | refine Nx.wo ?_ | refine Nx.zp (fun hc => ?_) (fun hc => ?_))
    | (refine Nx.zo ?_; first | refine Nx.opr rfl rfl ?_ | refine Nx.callv rfl rfl rfl (by kernel_rfl) rfl (View_spec _ _ _ _ _ _ _ hl hs hv hw) ?_ | refine Nx.so ?_ | refine Nx.sb (fun bx => ?_) | refine Nx.sa (fun A2 c2 => ?_))
    | refine Nx.za ?_ | refine Nx.zr (fun hc => ?_) (fun hc => ?_)
    | refine Nx.zq ?_ | refine Nx.zu (fun hc => ?_) (fun hc => ?_)
    | refine Nx.zx ?_ | fail
  refine Nx.at_do rfl rfl rfl rfl ?_
  refine Nx.call rfl rfl rfl (by kernel_rfl) rfl (sizes_spec B cv v I hv (hw.szsOk hs).1 (hw.szsOk hs).2) (by (exact Ent.auto)) ?_
  rintro u R' ⟨As, cs, rfl, rfl⟩
  refine Nx.freezeAt 0 rfl fun I' m hle hm hvec => ?_
  have hz : Ints I' As cs (szs v) := Vec.sliceOf hm hvec
  repeat' first
    | ((with_reducible refine Nx.is_wp ?_); first | refine Nx.wo ?_ | refine Nx.zp (fun hc => ?_) (fun hc => ?_))
    | (refine Nx.zo ?_; first | refine Nx.opr rfl rfl ?_ | refine Nx.callv rfl rfl rfl (by kernel_rfl) rfl (product_spec _ _ _ _ hz (hw.sizes hs)) ?_ | refine Nx.so ?_ | refine Nx.sb (fun bx => ?_) | refine Nx.sa (fun A2 c2 => ?_))
    | refine Nx.za ?_ | refine Nx.zr (fun hc => ?_) (fun hc => ?_)
    | refine Nx.zq ?_ | refine Nx.zu (fun hc => ?_) (fun hc => ?_)
    | refine Nx.zx ?_ | fail
  refine Nx.at_op rfl rfl ?_
  refine Nx.call rfl rfl rfl (by kernel_rfl) rfl (published_spec A B c cv l v I' (hl.mono hle) hs (hv.mono hle) hw) (by (exact Ent.auto)) ?_
  rintro u R' ⟨Ap, cp, rfl, rfl⟩
  refine Nx.freezeAt 0 rfl fun I2 m2 hle2 hm2 hvec2 => ?_
  have hp : Ints I2 Ap cp (pubs l v) := Vec.sliceOf hm2 hvec2
  have hplen := hp.len
  repeat' first
    | ((with_reducible refine Nx.is_wp ?_); first | refine Nx.wo ?_ | refine Nx.zp (fun hc => ?_) (fun hc => ?_))
    | (refine Nx.zo ?_; first | refine Nx.opr rfl rfl ?_ | refine Nx.so ?_ | refine Nx.sb (fun bx => ?_) | refine Nx.sa (fun A2 c2 => ?_))
    | refine Nx.za ?_ | refine Nx.zr (fun hc => ?_) (fun hc => ?_)
    | refine Nx.zq ?_ | refine Nx.zu (fun hc => ?_) (fun hc => ?_)
    | refine Nx.zx ?_ | fail
  refine Nx.p_loop (σ := Nat × Option Addr × Nat) (fun s => [(2, .int .i64 k), (9, .slice s.2.1 (memK l v k s.1).length s.2.2), (29, .slice Ap (pubs l v).length cp), (30, .int .i64 (pubs l v).length), (31, .int .i64 (s.1 : Int))])
    (fun s => [Vec 3 1 s.2.1 (memK l v k s.1).length s.2.2 ((memK l v k s.1).map (Value.int .i64)), F]) (fun s => s.1 ≤ (pubs l v).length) (fun s => (pubs l v).length - s.1) (0, none, 0) rfl (Nat.zero_le _) ⟨rfl, rfl, rfl, rfl, rfl, trivial⟩ ((Ent.vec_nil _ _ _).trans (by (exact Ent.auto))) ?_
  rintro ⟨n, A', c'⟩ hn
  dsimp only at hn ⊢
  have hmk := memK_len l v k n
  have hms := memK_succ l v k n
  have hat : n < (pubs l v).length → (pubs l v).getD n default = pubOf l v n := fun h => pubs_at l v n (by omega)
  repeat' first
    | ((with_reducible refine Nx.is_wp ?_); first | refine Nx.wo ?_ | refine Nx.zp (fun hc => ?_) (fun hc => ?_))
    | (refine Nx.zo ?_; first | refine Nx.opr rfl rfl ?_ | refine Nx.indexAddr_nat rfl rfl rfl rfl rfl (by omega) (hp.isSome (by omega)) ?_ | refine Nx.load rfl rfl rfl (hp.rd (by omega)) ?_ | refine Nx.so ?_ | refine Nx.sb (fun bx => ?_) | refine Nx.sa (fun A2 c2 => ?_))
    | refine Nx.za ?_ | refine Nx.zr (fun hc => ?_) (fun hc => ?_)
    | refine Nx.zq ?_ | refine Nx.zu (fun hc => ?_) (fun hc => ?_)
    | refine Nx.zx ?_ | fail
  · rw [hat (by omega)] at hc
    rw [if_pos hc] at hms
    refine Nx.again (n + 1, A2, c2) (by dsimp only; omega) (by dsimp only; omega) ⟨rfl, by rw [hms, List.length_append]; rfl, rfl, rfl, rfl, trivial⟩ ?_
    refine Ent.pickE 0 rfl ?_ (by (exact Ent.auto))
    rw [hms, List.map_append, List.length_append]; rfl
  · rw [hat (by omega)] at hc
    rw [if_neg hc, List.append_nil] at hms
    refine Nx.again (n + 1, A', c') (by dsimp only; omega) (by dsimp only; omega) ⟨rfl, by rw [hms]; rfl, rfl, rfl, rfl, trivial⟩ ?_
    refine Ent.pickE 0 rfl ?_ (by (exact Ent.auto))
    rw [hms]
  · obtain rfl : n = (prod l).toNat := by omega
    exact Nx.imm_le (hle.trans hle2) (Nx.ret_fn rfl [_] ⟨A', c', rfl, rfl⟩ (by (exact Ent.auto)))
end Go.Proofs.YtpmlehplbobjmaaDoor
/- Contracts of functions of the given program, and lemmas about plain lists and numbers: what the laws of this seat lean on. -/
namespace Go.Proofs.YtpmlehplbobjmaaDoor
open Go.Eng
attribute [local irreducible] opK wpList Code.wp Exit.then Exit.inBlock fnPost bodyPost Nx Calls Oper.wp Rd Rds Wr Ent Stars Blk Again Vec FnSpec wpMix QRun Stop Upto wpAt
/-! Publish: sums of a table's numbers -/
def sumAt (p : Nat → Int) (t : List Int) (k : Int) : Nat → Int
  | 0 => 0
  | n + 1 => sumAt p t k n + if p n = k then t.getD n default else 0
theorem sumAt_bd {p : Nat → Int} {t : List Int} {k : Int} (ht : ∀ j, j < t.length → 0 ≤ t.getD j default ∧ t.getD j default ≤ 1000000) : ∀ n, n ≤ t.length → 0 ≤ sumAt p t k n ∧ sumAt p t k n ≤ n * 1000000
  | 0, _ => by simp [sumAt]
  | n + 1, h => by
    have ih := sumAt_bd ht n (by omega) (k := k) (p := p)
    have := ht n (by omega)
    simp only [sumAt]
    split <;> omega
def sums (p : Nat → Int) (t : List Int) (P n : Nat) : List Int := (List.range P).map fun j : Nat => sumAt p t (j : Int) n
theorem sums_len (p : Nat → Int) (t : List Int) (P n : Nat) : (sums p t P n).length = P := by simp [sums]
theorem sums_at (p : Nat → Int) (t : List Int) (P n j : Nat) (h : j < P) : (sums p t P n).getD j default = sumAt p t (j : Int) n := map_range_at _ _ _ h
theorem sums_set {p : Nat → Int} {t : List Int} {P n : Nat} {q : Nat} (hq : (q : Int) = p n) : (sums p t P n).set q ((sums p t P n).getD q default + t.getD n default) = sums p t P (n + 1) := by
  refine list_ext (by simp [sums]) fun j hj => ?_
  rw [List.length_set, sums_len] at hj
  rw [sums_at _ _ _ _ _ hj]
  simp only [sumAt]
  by_cases h : q = j
  · subst h
    rw [getD_set_eq (by rw [sums_len]; exact hj), sums_at _ _ _ _ _ hj, if_pos hq.symm]
  · rw [getD_set_ne h, sums_at _ _ _ _ _ hj, if_neg (by omega), Int.add_zero]
theorem sums_skip {p : Nat → Int} {t : List Int} {P n : Nat} (hq : p n = -1) : sums p t P (n + 1) = sums p t P n := by
  unfold sums
  refine List.map_congr_left fun j _ => ?_
  simp only [sumAt]
  rw [if_neg (by omega), Int.add_zero]
theorem sums_zero (p : Nat → Int) (t : List Int) (P : Nat) : sums p t P 0 = List.replicate P 0 := by
  unfold sums
  simp only [sumAt]
  rw [List.map_const', List.length_range]
structure Table (l t : List Int) : Prop where
  len : t.length = (prod l).toNat
  each : ∀ j, j < t.length → 0 ≤ t.getD j default ∧ t.getD j default ≤ 1000000
theorem Table.out {l t : List Int} (h : Table l t) : t.any outB = false := by
  rw [List.any_eq_false]
  intro x hx
  obtain ⟨k, hk, rfl⟩ := mem_getD hx
  have := h.each k hk
  unfold outB
  rw [decide_eq_true_eq]
  omega
set_option maxHeartbeats 2000000 in
set_option maxRecDepth 10000 in
theorem Publish_spec (A B T : Option Addr) (c cv ct : Nat) (l t : List Int) (v : List Row) (I : PH) (hl : Ints I A c l) (hs : Sizes l) (hv : RowsOf I B cv v) (hw : Viewed l v) (ht : Ints I T ct t) (hT : Table l t) :
    FnSpec Tryd.prog 10 [.agg #[.slice A l.length c], .agg #[.slice B v.length cv], .slice T t.length ct] I [] (fun u R' => ∃ A', u = .tuple #[.slice A' (prod (szs v)).toNat (prod (szs v)).toNat, .int .i64 0] ∧
      R' = [Vec 3 1 A' (prod (szs v)).toNat (prod (szs v)).toNat ((sums (pubOf l v) t (prod (szs v)).toNat t.length).map (Value.int .i64))]) := by
  have hpr := hs.bound (k := l.length) (Nat.le_refl _)
  rw [List.take_length] at hpr
  have hcl := hs.cells
  have hpl := pubs_len l v
  have hzb := (hw.sizes hs).bound (k := (szs v).length) (Nat.le_refl _)
  rw [List.take_length] at hzb
  have htl := hT.len
  refine FnSpec.enterP Tryd.func10 rfl Tryd.ntmps10 rfl fun w F => ?_
  repeat' first
    | ((with_reducible refine Nx.is_wp ?_); first | refine Nx.wo ?_ | refine Nx.zp (fun hc => ?_) (fun hc => ?_))
    | (refine Nx.zo ?_; first | refine Nx.opr rfl rfl ?_ | refine Nx.callv rfl rfl rfl (by kernel_rfl) rfl (View_spec _ _ _ _ _ _ _ hl hs hv hw) ?_ | refine Nx.callv rfl rfl rfl (by kernel_rfl) rfl (product_spec _ _ _ _ hl hs) ?_ | refine Nx.callv rfl rfl rfl (by kernel_rfl) rfl (ContainsFunc_spec 31 outB T ct t I ht (by kernel_rfl) (fun x => outB_spec x I)) ?_ | refine Nx.so ?_ | refine Nx.sb (fun bx => ?_) | refine Nx.sa (fun A2 c2 => ?_))
    | refine Nx.za ?_ | refine Nx.zr (fun hc => ?_) (fun hc => ?_)
    | refine Nx.zq ?_ | refine Nx.zu (fun hc => ?_) (fun hc => ?_)
    | refine Nx.zx ?_ | fail
  · exact absurd hc (by rw [hT.out]; decide)
  refine Nx.at_op rfl rfl ?_
  refine Nx.call rfl rfl rfl (by kernel_rfl) rfl (sizes_spec B cv v I hv (hw.szsOk hs).1 (hw.szsOk hs).2) (by (exact Ent.auto)) ?_
  rintro u R' ⟨As, cs, rfl, rfl⟩
  refine Nx.freezeAt 0 rfl fun I' m hle hm hvec => ?_
  have hz : Ints I' As cs (szs v) := Vec.sliceOf hm hvec
  refine Nx.at_op rfl rfl ?_
  refine Nx.callv rfl rfl rfl (by kernel_rfl) rfl (product_spec _ _ _ _ hz (hw.sizes hs)) ?_
  rw [show prod (szs v) = (((prod (szs v)).toNat : Nat) : Int) by omega]
  generalize hP : (prod (szs v)).toNat = P at hzb ⊢
  have hP48 : P ≤ 4096 := by omega
  repeat' first
    | ((with_reducible refine Nx.is_wp ?_); first | refine Nx.wo ?_ | refine Nx.zp (fun hc => ?_) (fun hc => ?_))
    | (refine Nx.zo ?_; first | refine Nx.opr rfl rfl ?_ | refine Nx.so ?_ | refine Nx.sb (fun bx => ?_) | refine Nx.sa (fun A2 c2 => ?_))
    | refine Nx.za ?_ | refine Nx.zr (fun hc => ?_) (fun hc => ?_)
    | refine Nx.zq ?_ | refine Nx.zu (fun hc => ?_) (fun hc => ?_)
    | refine Nx.zx ?_ | fail
  refine Nx.at_op rfl rfl ?_
  refine Nx.call rfl rfl rfl (by kernel_rfl) rfl (published_spec A B c cv l v I' (hl.mono hle) hs (hv.mono hle) hw) (by (exact Ent.auto)) ?_
  rintro u R' ⟨Ap, cp, rfl, rfl⟩
  refine Nx.freezeAt 0 rfl fun I2 m2 hle2 hm2 hvec2 => ?_
  have hp : Ints I2 Ap cp (pubs l v) := Vec.sliceOf hm2 hvec2
  have hplen := hp.len
  have ht2 := ht.mono (hle.trans hle2)
  repeat' first
    | ((with_reducible refine Nx.is_wp ?_); first | refine Nx.wo ?_ | refine Nx.zp (fun hc => ?_) (fun hc => ?_))
    | (refine Nx.zo ?_; first | refine Nx.opr rfl rfl ?_ | refine Nx.so ?_ | refine Nx.sb (fun bx => ?_) | refine Nx.sa (fun A2 c2 => ?_))
    | refine Nx.za ?_ | refine Nx.zr (fun hc => ?_) (fun hc => ?_)
    | refine Nx.zq ?_ | refine Nx.zu (fun hc => ?_) (fun hc => ?_)
    | refine Nx.zx ?_ | fail
  refine Nx.p_loop (σ := Nat) (fun s => [(2, .slice T t.length ct), (9, .slice (some ⟨bx, 0, none⟩) P P), (32, .slice Ap (pubs l v).length cp), (33, .int .i64 (pubs l v).length), (34, .int .i64 (s : Int))])
    (fun s => [Vec 3 1 (some ⟨bx, 0, none⟩) P P ((sums (pubOf l v) t P s).map (Value.int .i64)), F]) (fun s => s ≤ (pubs l v).length) (fun s => (pubs l v).length - s) 0 rfl (Nat.zero_le _) ⟨rfl, rfl, rfl, rfl, rfl, trivial⟩ (by rw [sums_zero]; (exact Ent.auto)) ?_
  intro n hn
  have hat : n < (pubs l v).length → (pubs l v).getD n default = pubOf l v n := fun h => pubs_at l v n (by omega)
  have hpb := pub_bd hs hw n
  have hsb := fun (k : Int) => sumAt_bd (p := pubOf l v) (k := k) hT.each n (by omega)
  have hsl := sums_len (pubOf l v) t P n
  by_cases hlt : n < (pubs l v).length
  · have hat := hat hlt
    have htn := hT.each n (by omega)
    repeat' first
      | ((with_reducible refine Nx.is_wp ?_); first | refine Nx.wo ?_ | refine Nx.zp (fun hc => ?_) (fun hc => ?_))
      | (refine Nx.zo ?_; first | refine Nx.opr rfl rfl ?_ | refine Nx.indexAddr_nat rfl rfl rfl rfl rfl (by omega) (hp.isSome (by omega)) ?_ | refine Nx.load rfl rfl rfl (hp.rd (by omega)) ?_ | refine Nx.so ?_ | refine Nx.sb (fun bx => ?_) | refine Nx.sa (fun A2 c2 => ?_))
      | refine Nx.za ?_ | refine Nx.zr (fun hc => ?_) (fun hc => ?_)
      | refine Nx.zq ?_ | refine Nx.zu (fun hc => ?_) (fun hc => ?_)
      | refine Nx.zx ?_ | fail
    · rw [hat] at hc
      obtain ⟨q, hq⟩ : ∃ q : Nat, pubOf l v n = q := ⟨(pubOf l v n).toNat, by omega⟩
      have hqP : q < P := by omega
      have hsq := hsb (q : Int)
      have hsa := sums_at (pubOf l v) t P n q hqP
      rw [hat, hq]
      repeat' first
        | ((with_reducible refine Nx.is_wp ?_); first | refine Nx.wo ?_ | refine Nx.p_draw (id := 13) rfl [0, 1, 2, 4, 5, 6, 7, 3, 8, 9, 10] [3, 10] [] rfl rfl (by kernel_rfl) (by kernel_rfl) rfl PanicOk.auto (Ent.nil _) ?_ | refine Nx.zp (fun hc => ?_) (fun hc => ?_))
        | (refine Nx.zo ?_; first | refine Nx.opr rfl rfl ?_ | refine Nx.load rfl rfl rfl (Rd.vecEl 0 rfl (by omega)) ?_ | refine Nx.so ?_ | refine Nx.sb (fun bx => ?_) | refine Nx.sa (fun A2 c2 => ?_))
        | refine Nx.za ?_ | refine Nx.zr (fun hc => ?_) (fun hc => ?_)
        | ((with_reducible refine Nx.is_mix ?_); first | refine Nx.m_quiet rfl rfl rfl rfl rfl (by first | exact QRun.opr rfl | exact QRun.idx rfl rfl rfl rfl (by omega) rfl | exact QRun.idx rfl rfl rfl rfl (by omega) (ht2.isSome (by omega)) | exact QRun.load rfl rfl (ht2.rd (by omega))) ?_ | refine Nx.m_quiet_do rfl rfl rfl rfl rfl rfl rfl (by first | exact QRun.opr rfl | exact QRun.idx rfl rfl rfl rfl (by omega) rfl | exact QRun.idx rfl rfl rfl rfl (by omega) (ht2.isSome (by omega)) | exact QRun.load rfl rfl (ht2.rd (by omega))) ?_ | refine Nx.m ?_ | refine Nx.zm ?_ | refine Nx.zt (fun hc => ?_) (fun hc => ?_))
        | refine Nx.zx ?_ | fail
      refine Nx.again (n + 1) (by omega) (by omega) ⟨rfl, rfl, rfl, rfl, rfl, trivial⟩ ?_
      refine Ent.pickE 0 rfl ?_ (by (exact Ent.auto))
      rw [sums_set hq.symm]
    · rw [hat] at hc
      have hc : pubOf l v n = -1 := by omega
      refine Nx.again (n + 1) (by omega) (by omega) ⟨rfl, rfl, rfl, rfl, rfl, trivial⟩ ?_
      rw [sums_skip hc]
      (exact Ent.auto)
  · repeat' first
      | ((with_reducible refine Nx.is_wp ?_); first | refine Nx.wo ?_ | refine Nx.zp (fun hc => ?_) (fun hc => ?_))
      | (refine Nx.zo ?_; first | refine Nx.opr rfl rfl ?_ | refine Nx.so ?_ | refine Nx.sb (fun bx => ?_) | refine Nx.sa (fun A2 c2 => ?_))
      | refine Nx.za ?_ | refine Nx.zr (fun hc => ?_) (fun hc => ?_)
      | refine Nx.zq ?_ | refine Nx.zu (fun hc => ?_) (fun hc => ?_)
      | refine Nx.zx ?_ | fail
    obtain rfl : n = t.length := by omega
    exact Nx.imm_le (hle.trans hle2) (Nx.ret_fn rfl [_] ⟨_, rfl, rfl⟩ (by (exact Ent.auto)))
end Go.Proofs.YtpmlehplbobjmaaDoor
/- Contracts of functions of the given program, and lemmas about plain lists and numbers: what the laws of this seat lean on. -/
namespace Go.Proofs.YtpmlehplbobjmaaDoor
open Go.Eng
attribute [local irreducible] opK wpList Code.wp Exit.then Exit.inBlock fnPost bodyPost Nx Calls Oper.wp Rd Rds Wr Ent Stars Blk Again Vec FnSpec wpMix QRun Stop Upto wpAt
/-! The reference's places, and the published cell of a cell -/
set_option maxHeartbeats 2000000 in
set_option maxRecDepth 10000 in
theorem RAt_spec (A : Option Addr) (c : Nat) (l : List Int) (n : Int) (I : PH) (hl : Ints I A c l) (hs : Sizes l) (hn : 0 ≤ n ∧ n < prod l) :
    FnSpec Tryd.prog 19 [.agg #[.slice A l.length c], .int .i64 n] I [] (fun v R' => ∃ b xs, v = .tuple #[.slice (some ⟨b, 0, none⟩) xs.length xs.length, .int .i64 0] ∧ InR l xs ∧ numK l xs l.length = n ∧ R' = [Vec 3 1 (some ⟨b, 0, none⟩) xs.length xs.length (xs.map (Value.int .i64))]) := by
  have hlen := hl.len
  have hd := hs.dims
  refine FnSpec.enterP Tryd.func19 rfl Tryd.ntmps19 rfl fun w F => ?_
  repeat' first
    | ((with_reducible refine Nx.is_wp ?_); first | refine Nx.wo ?_ | refine Nx.zp (fun hc => ?_) (fun hc => ?_))
    | (refine Nx.zo ?_; first | refine Nx.opr rfl rfl ?_ | refine Nx.callv rfl rfl rfl (by kernel_rfl) rfl (RCheck_spec _ _ _ _ hl hs) ?_ | refine Nx.callv rfl rfl rfl (by kernel_rfl) rfl (RCount_spec _ _ _ _ hl hs) ?_ | refine Nx.so ?_ | refine Nx.sb (fun bx => ?_) | refine Nx.sa (fun A2 c2 => ?_))
    | refine Nx.za ?_ | refine Nx.zr (fun hc => ?_) (fun hc => ?_)
    | refine Nx.zq ?_ | refine Nx.zu (fun hc => ?_) (fun hc => ?_)
    | refine Nx.zx ?_ | fail
  rename_i b2
  refine Nx.p_loop (σ := Nat × List Int × Int) (fun s => [(2, .pointer (some ⟨b2, 0, none⟩)), (1, .int .i64 s.2.2), (7, .slice (some ⟨bx, 0, none⟩) l.length l.length), (8, .int .i64 ((s.1 : Int) - 1))])
    (fun s => [Vec 3 1 (some ⟨bx, 0, none⟩) l.length l.length (s.2.1.map (Value.int .i64)), Blk b2 27 [.slice A l.length c], F]) (PlOk l n) (fun s => s.1) (l.length, List.replicate l.length 0, n) rfl
    ⟨Nat.le_refl _, by simp, ⟨hn.1, by rw [List.take_length]; exact hn.2⟩, fun i h1 h2 => absurd h2 (Nat.not_lt.2 h1), by show contF l _ (l.length - l.length) _ n = n; rw [Nat.sub_self]; rfl, fun h => absurd h (Nat.lt_irrefl _), fun _ => rfl⟩ ⟨rfl, rfl, rfl, rfl, trivial⟩ (by (exact Ent.auto)) ?_
  rintro ⟨j, xs, m⟩ hok
  dsimp only
  rcases j with _ | j
  · repeat' first
      | ((with_reducible refine Nx.is_wp ?_); first | refine Nx.wo ?_ | refine Nx.zp (fun hc => ?_) (fun hc => ?_))
      | (refine Nx.zo ?_; first | refine Nx.opr rfl rfl ?_ | refine Nx.so ?_ | refine Nx.sb (fun bx => ?_) | refine Nx.sa (fun A2 c2 => ?_))
      | refine Nx.za ?_ | refine Nx.zr (fun hc => ?_) (fun hc => ?_)
      | refine Nx.zq ?_ | refine Nx.zu (fun hc => ?_) (fun hc => ?_)
      | refine Nx.zx ?_ | fail
    have h0 : m = 0 := by have := hok.m; simp [prod] at this; omega
    have h1 : xs.length = l.length := hok.len
    refine Nx.ret_fn rfl [_] ⟨bx, xs, by rw [h1], ⟨h1, fun k hk => hok.each k (Nat.zero_le _) hk⟩, ?_, by rw [h1]⟩ (by (exact Ent.auto))
    have h2 := hok.num
    subst h0
    have h3 := contF_num l xs l.length 0
    rw [Nat.zero_add] at h3
    rw [← h3]
    exact h2
  · have hle : j + 1 ≤ l.length := hok.le
    have hxl : xs.length = l.length := hok.len
    have hm := hok.m
    have hb := hs.bound hle
    have hat := hs.at (k := j) (by omega)
    have hm1 : 0 ≤ m ∧ m < prod (l.take (j + 1)) := hm
    rw [show (((j + 1 : Nat) : Int) - 1) = (j : Int) by omega]
    repeat' first
      | ((with_reducible refine Nx.is_wp ?_); first | refine Nx.wo ?_ | refine Nx.zp (fun hc => ?_) (fun hc => ?_))
      | (refine Nx.zo ?_; first | refine Nx.opr rfl rfl ?_ | refine Nx.indexAddr_nat rfl rfl rfl rfl rfl (by omega) (hl.isSome (by omega)) ?_ | refine Nx.indexAddr_nat rfl rfl rfl rfl rfl (by omega) rfl ?_ | refine Nx.load rfl rfl rfl (hl.rd (by omega)) ?_ | refine Nx.so ?_ | refine Nx.sb (fun bx => ?_) | refine Nx.sa (fun A2 c2 => ?_))
      | refine Nx.za ?_ | refine Nx.zr (fun hc => ?_) (fun hc => ?_)
      | refine Nx.zq ?_ | refine Nx.zu (fun hc => ?_) (fun hc => ?_)
      | refine Nx.zx ?_ | fail
    exact Nx.again (j, xs.set j (m % l.getD j default), m / l.getD j default) (hok.step hs) (by dsimp only; omega) ⟨rfl, rfl, rfl, rfl, trivial⟩ (by (exact Ent.auto))
def grpK (l : List Int) : Nat → Int
  | 0 => 0
  | k + 1 => max (grpK l k) (l.getD k default + 1)
theorem grpK_eq (l : List Int) : ∀ k, grpK l (k + 1) = max 0 (1 + maxL l k)
  | 0 => by simp only [grpK, maxL]; omega
  | k + 1 => by
    have := grpK_eq l k
    simp only [grpK, maxL] at this ⊢
    omega
theorem grpK_bd (l : List Int) (h : ∀ k, k < l.length → -1 ≤ l.getD k default ∧ l.getD k default ≤ 1000) : ∀ k, k ≤ l.length → 0 ≤ grpK l k ∧ grpK l k ≤ 1001
  | 0, _ => by simp [grpK]
  | k + 1, hk => by
    have ih := grpK_bd l h k (by omega)
    have := h k (by omega)
    simp only [grpK]; omega
set_option maxHeartbeats 2000000 in
set_option maxRecDepth 10000 in
theorem Groups_spec (A : Option Addr) (c : Nat) (l : List Int) (I : PH) (hl : Ints I A c l) (hg : Grouped l) (h8 : l.length ≤ 1000) :
    FnSpec Tryd.prog 53 [.slice A l.length c] I [] (fun v R' => v = .int .i64 (1 + maxL l (l.length - 1)) ∧ R' = []) := by
  have hlen := hl.len
  have hm := hg.max
  have hp := hg.pos
  have he : ∀ k, k < l.length → -1 ≤ l.getD k default ∧ l.getD k default ≤ 1000 := fun k hk => by have := hg.each k hk; omega
  have hlast : grpK l l.length = 1 + maxL l (l.length - 1) := by
    have := grpK_eq l (l.length - 1)
    rw [show l.length - 1 + 1 = l.length by omega] at this
    omega
  refine FnSpec.enterP Tryd.func53 rfl Tryd.ntmps53 rfl fun w F => ?_
  repeat' first
    | ((with_reducible refine Nx.is_wp ?_); first | refine Nx.wo ?_ | refine Nx.zp (fun hc => ?_) (fun hc => ?_))
    | (refine Nx.zo ?_; first | refine Nx.opr rfl rfl ?_ | refine Nx.so ?_ | refine Nx.sb (fun bx => ?_) | refine Nx.sa (fun A2 c2 => ?_))
    | refine Nx.za ?_ | refine Nx.zr (fun hc => ?_) (fun hc => ?_)
    | refine Nx.zq ?_ | refine Nx.zu (fun hc => ?_) (fun hc => ?_)
    | refine Nx.zx ?_ | fail
  refine Nx.p_loop (σ := Nat) (fun k => [(6, .slice A l.length c), (7, .int .i64 l.length), (8, .int .i64 (k : Int)), (3, .int .i64 (grpK l k))])
    (fun _ => [F]) (fun k => k ≤ l.length) (fun k => l.length - k) 0 rfl (Nat.zero_le _) ⟨rfl, rfl, rfl, rfl, trivial⟩ (by (exact Ent.auto)) ?_
  intro k hk
  have hb := grpK_bd l he k hk
  have hek := he k
  repeat' first
    | ((with_reducible refine Nx.is_wp ?_); first | refine Nx.wo ?_ | refine Nx.zp (fun hc => ?_) (fun hc => ?_))
    | (refine Nx.zo ?_; first | refine Nx.opr rfl rfl ?_ | refine Nx.indexAddr_nat rfl rfl rfl rfl rfl (by omega) (hl.isSome (by omega)) ?_ | refine Nx.load rfl rfl rfl (hl.rd (by omega)) ?_ | refine Nx.so ?_ | refine Nx.sb (fun bx => ?_) | refine Nx.sa (fun A2 c2 => ?_))
    | refine Nx.za ?_ | refine Nx.zr (fun hc => ?_) (fun hc => ?_)
    | refine Nx.zq ?_ | refine Nx.zu (fun hc => ?_) (fun hc => ?_)
    | refine Nx.zx ?_ | fail
  · exact Nx.again (k + 1) (by omega) (by omega) ⟨rfl, rfl, rfl, rfl, trivial⟩ (Ent.refl _)
  · obtain rfl : k = l.length := by omega
    exact Nx.ret_fn rfl [] ⟨by rw [hlast], rfl⟩ (Ent.refl _)
theorem take_lt_no {gs : List Int} (h : ∀ k, k < gs.length → 0 ≤ gs.getD k default) : gs.contains (-1) = false := by
  rw [List.contains_eq_mem, decide_eq_false_iff_not]
  intro hm
  obtain ⟨k, hk, he⟩ := mem_getD hm
  have := h k hk
  omega
theorem has_neg {gs : List Int} {k : Nat} (hk : k < gs.length) (h : gs.getD k default = -1) : gs.contains (-1) = true := by
  rw [List.contains_eq_mem, ← h]
  exact decide_eq_true (getD_mem hk)
/-- Sums of numbers of places, one place more at a time. -/
theorem numK_pre {s gs : List Int} {i : Nat} (hg : ∀ k, k < i → 0 ≤ gs.getD k default ∧ gs.getD k default < s.getD k default) (hi : i ≤ s.length) : 0 ≤ numK s gs i ∧ numK s gs i < prod (s.take i) := by
  induction i with
  | zero => simp [numK, prod]
  | succ i ih =>
    simp only [numK]
    exact mul_add_lt (ih (fun k hk => hg k (by omega)) (by omega)) (hg i (by omega)) (prod_succ s i (by omega))
set_option maxHeartbeats 2000000 in
set_option maxRecDepth 10000 in
theorem Of_spec (A B : Option Addr) (c cv : Nat) (l : List Int) (v : List Row) (n : Nat) (I : PH) (hl : Ints I A c l) (hs : Sizes l) (hv : RowsOf I B cv v) (hw : Viewed l v) (hn : (n : Int) < prod l) :
    FnSpec Tryd.prog 52 [.agg #[.slice A l.length c], .agg #[.slice B v.length cv], .int .i64 n] I [] (fun u R' => u = .int .i64 (pubOf l v n) ∧ R' = []) := by
  have hd := hs.dims
  have hvl := hw.len
  have hsl := szs_len v
  have hss := hw.sizes hs
  refine FnSpec.enterP Tryd.func52 rfl Tryd.ntmps52 rfl fun w F => ?_
  repeat' first
    | ((with_reducible refine Nx.is_wp ?_); first | refine Nx.wo ?_ | refine Nx.zp (fun hc => ?_) (fun hc => ?_))
    | (refine Nx.zo ?_; first | refine Nx.opr rfl rfl ?_ | refine Nx.so ?_ | refine Nx.sb (fun bx => ?_) | refine Nx.sa (fun A2 c2 => ?_))
    | refine Nx.za ?_ | refine Nx.zr (fun hc => ?_) (fun hc => ?_)
    | refine Nx.zq ?_ | refine Nx.zu (fun hc => ?_) (fun hc => ?_)
    | refine Nx.zx ?_ | fail
  refine Nx.at_op rfl rfl ?_
  refine Nx.call rfl rfl rfl (by kernel_rfl) rfl (RAt_spec A c l n I hl hs (by omega)) (by (exact Ent.auto)) ?_
  rintro u R' ⟨bp, xs, rfl, hr, hnum, rfl⟩
  refine Nx.freezeAt 0 rfl fun I' m hle hm hvec => ?_
  have hxs : Ints I' (some ⟨bp, 0, none⟩) xs.length xs := Vec.sliceOf hm hvec
  have hv' := hv.mono hle
  have hpl := pl_of hs hr hnum
  have hxl := hr.len
  have hgl : (gsOf v xs).length = v.length := gsOf_len v xs
  have hpub : pubOf l v n = if (gsOf v xs).contains (-1) then -1 else numK (szs v) (gsOf v xs) v.length := by rw [hpl]; rfl
  repeat' first
    | ((with_reducible refine Nx.is_wp ?_); first | refine Nx.wo ?_ | refine Nx.zp (fun hc => ?_) (fun hc => ?_))
    | (refine Nx.zo ?_; first | refine Nx.opr rfl rfl ?_ | refine Nx.so ?_ | refine Nx.sb (fun bx => ?_) | refine Nx.sa (fun A2 c2 => ?_))
    | refine Nx.za ?_ | refine Nx.zr (fun hc => ?_) (fun hc => ?_)
    | refine Nx.zq ?_ | refine Nx.zu (fun hc => ?_) (fun hc => ?_)
    | refine Nx.zx ?_ | fail
  rename_i b3
  refine Nx.p_loop (σ := Nat) (fun i => [(4, .pointer (some ⟨bx, 0, none⟩)), (9, .int .i64 (numK (szs v) (gsOf v xs) i)), (19, .slice (some ⟨bp, 0, none⟩) xs.length xs.length), (20, .int .i64 xs.length), (21, .int .i64 (i : Int))])
    (fun _ => [Blk bx 31 [.slice B v.length cv], F]) (fun i => i ≤ xs.length ∧ ∀ k, k < i → 0 ≤ (gsOf v xs).getD k default) (fun i => xs.length - i) 0 rfl ⟨Nat.zero_le _, fun k hk => absurd hk (Nat.not_lt_zero _)⟩ ⟨rfl, rfl, rfl, rfl, rfl, trivial⟩ (by (exact Ent.auto)) ?_
  rintro i ⟨hi, hpos⟩
  have hxi := hr.each i
  have hwi := hw.each i
  have hgi : i < v.length → (gsOf v xs).getD i default = (v.getD i default).2.2.getD (xs.getD i default).toNat default := gsOf_at v xs i
  have hpre := numK_pre (i := i) (fun k hk => ⟨hpos k hk, (gsOf_bd hw hr (by omega)).2⟩) (by omega)
  have hbd := hss.bound (k := i) (by omega)
  by_cases hlt : i < xs.length
  · have hgi := hgi (by omega)
    have hgb := gsOf_bd hw hr (k := i) (by omega)
    have hzi := szs_at v i (by omega)
    have hz8 := hw.szs (k := i) (by omega)
    have hli := hs.at (k := i) (by omega)
    have hmul : 0 ≤ numK (szs v) (gsOf v xs) i * (szs v).getD i default ∧ numK (szs v) (gsOf v xs) i * (szs v).getD i default ≤ 4096 * 8 := ⟨Int.mul_nonneg hpre.1 (by omega), Int.mul_le_mul (by omega) (by omega) (by omega) (by omega)⟩
    rw [hzi] at hmul
    repeat' first
      | ((with_reducible refine Nx.is_wp ?_); first | refine Nx.wo ?_ | refine Nx.zp (fun hc => ?_) (fun hc => ?_))
      | (refine Nx.zo ?_; first | refine Nx.opr rfl rfl ?_ | refine Nx.indexAddr_nat rfl rfl rfl rfl rfl (by omega) (hv'.outer.isSome (by omega)) ?_ | refine Nx.indexAddr_nat rfl rfl rfl rfl rfl (by omega) rfl ?_ | refine Nx.load rfl rfl rfl (hxs.rd (by omega)) ?_ | refine Nx.load rfl rfl rfl (hv'.outer.rd (by omega)) ?_ | refine Nx.indexAddr rfl rfl rfl rfl rfl (by omega) (by omega) ((hv'.at (by omega)).isSome (by omega)) ?_ | refine Nx.load rfl rfl rfl ((hv'.at (by omega)).rd (by omega)) ?_ | refine Nx.callv rfl rfl rfl (by kernel_rfl) rfl (Groups_spec _ _ _ _ (hv'.at (by omega)) (hw.grouped (by omega)) (by omega)) ?_ | refine Nx.so ?_ | refine Nx.sb (fun bx => ?_) | refine Nx.sa (fun A2 c2 => ?_))
      | refine Nx.za ?_ | refine Nx.zr (fun hc => ?_) (fun hc => ?_)
      | refine Nx.zq ?_ | refine Nx.zu (fun hc => ?_) (fun hc => ?_)
      | refine Nx.zx ?_ | fail
    · rw [← hgi] at hc
      refine Nx.imm_le hle (Nx.ret_fn rfl [] ⟨?_, rfl⟩ (by (exact Ent.auto)))
      rw [hpub, if_pos (has_neg (k := i) (by omega) (by omega))]
    · rw [← hgi] at hc
      refine Nx.again (i + 1) ⟨by omega, fun k hk => ?_⟩ (by omega) ⟨rfl, ?_, rfl, rfl, rfl, trivial⟩ (by (exact Ent.auto))
      · by_cases hki : k = i
        · subst hki; omega
        · exact hpos k (by omega)
      · simp only [numK]
        rw [hzi, hgi]
        rfl
  · obtain rfl : i = xs.length := by omega
    repeat' first
      | ((with_reducible refine Nx.is_wp ?_); first | refine Nx.wo ?_ | refine Nx.zp (fun hc => ?_) (fun hc => ?_))
      | (refine Nx.zo ?_; first | refine Nx.opr rfl rfl ?_ | refine Nx.so ?_ | refine Nx.sb (fun bx => ?_) | refine Nx.sa (fun A2 c2 => ?_))
      | refine Nx.za ?_ | refine Nx.zr (fun hc => ?_) (fun hc => ?_)
      | refine Nx.zq ?_ | refine Nx.zu (fun hc => ?_) (fun hc => ?_)
      | refine Nx.zx ?_ | fail
    refine Nx.imm_le hle (Nx.ret_fn rfl [] ⟨?_, rfl⟩ (by (exact Ent.auto)))
    rw [hpub, if_neg (by rw [take_lt_no (fun k hk => hpos k (by omega))]; decide), show v.length = xs.length by omega]
end Go.Proofs.YtpmlehplbobjmaaDoor
/-
  The proof engine, part G: a statement whose order is open, with allocations that may come at any time between calls.
-/
namespace Go.Eng
/-- An allocation without a guard: its number, its temporary, its type and its cells. -/
structure PoolOp where
  k : Nat
  d : Nat
  t : TypeId
  cs : List Value
def pe : List PoolOp → List (Option Nat) → Env
  | p :: ps, some b :: bs => (p.d, .pointer (some ⟨b, 0, none⟩)) :: pe ps bs
  | _ :: ps, none :: bs => pe ps bs
  | _, _ => []
def pr : List PoolOp → List (Option Nat) → List Res
  | p :: ps, some b :: bs => Blk b p.t p.cs :: pr ps bs
  | _ :: ps, none :: bs => pr ps bs
  | _, _ => []
def keysFree (pool : List PoolOp) : Env → Bool
  | [] => true
  | (t, _) :: e => pool.all (fun p => !Nat.beq p.d t) && keysFree pool e
theorem keysFree_lk {pool : List PoolOp} : ∀ {e : Env} {p : PoolOp}, keysFree pool e = true → p ∈ pool → lk e p.d = none
  | [], _, _, _ => rfl
  | (t, v) :: e, p, h, hp => by
    simp only [keysFree, Bool.and_eq_true, List.all_eq_true] at h
    have h1 := h.1 p hp
    unfold lk
    have hne : Nat.beq t p.d = false := by
      cases hb : Nat.beq t p.d with
      | false => rfl
      | true => have := Nat.eq_of_beq_eq_true hb; subst this; simp at h1
    rw [hne]
    exact keysFree_lk h.2 hp
theorem lk_cons (k : Nat) (u : Value) (r : Env) (t : Nat) : lk ((k, u) :: r) t = match Nat.beq k t with | true => some u | false => lk r t := rfl
theorem Stars.up : ∀ {R : List Res} {m m' : PH}, Stars R m' → PH.le m' m → Stars R m
  | [], _, _, _, _ => trivial
  | r :: rs, m, _, ⟨m1, m2, hd, rfl, hr, h2⟩, hle => by
    refine ⟨m1, fun i => match m1 i with | some _ => none | none => m i, fun i => ?_, ?_, hr, Stars.up h2 fun i o hi => ?_⟩
    · cases h : m1 i with
      | none => exact .inl rfl
      | some o => exact .inr (by show (match m1 i with | some _ => none | none => m i) = none; rw [h])
    · funext i
      show m i = (match m1 i with | some o => some o | none => (match m1 i with | some _ => none | none => m i))
      cases h : m1 i with
      | none => simp only
      | some o => exact hle i o (PH.le_or_left m1 m2 i o h)
    · have h1 : m1 i = none := by
        rcases hd i with h | h
        · exact h
        · rw [h] at hi; cases hi
      show (match m1 i with | some _ => none | none => m i) = some o
      rw [h1]
      exact hle i o (PH.le_or_right hd i o hi)
theorem lk_app {a b : Env} {t : Nat} {v : Value} (h : lk (a ++ b) t = some v) : lk a t = some v ∨ (lk a t = none ∧ lk b t = some v) := by
  induction a with
  | nil => exact .inr ⟨rfl, h⟩
  | cons x r ih =>
    obtain ⟨k, u⟩ := x
    simp only [List.cons_append] at h
    rw [lk_cons] at h ⊢
    cases hb : Nat.beq k t with
    | true => rw [hb] at h; exact .inl h
    | false => rw [hb] at h; exact ih h
theorem lk_app_l {a b : Env} {t : Nat} {v : Value} (h : lk a t = some v) : lk (a ++ b) t = some v := by
  induction a with
  | nil => simp [lk] at h
  | cons x r ih =>
    obtain ⟨k, u⟩ := x
    simp only [List.cons_append]
    rw [lk_cons] at h ⊢
    cases hb : Nat.beq k t with
    | true => rw [hb] at h; exact h
    | false => rw [hb] at h; exact ih h
theorem lk_app_r {a b : Env} {t : Nat} (h : lk a t = none) : lk (a ++ b) t = lk b t := by
  induction a with
  | nil => rfl
  | cons x r ih =>
    obtain ⟨k, u⟩ := x
    simp only [List.cons_append]
    rw [lk_cons] at h ⊢
    cases hb : Nat.beq k t with
    | true => rw [hb] at h; cases h
    | false => rw [hb] at h; exact ih h
/-- One more has come up. -/
theorem pe_set : ∀ {pool : List PoolOp} {bs : List (Option Nat)} {j : Nat} {p : PoolOp} {b t : Nat} {v : Value}, pool[j]? = some p → lk (pe pool (bs.set j (some b))) t = some v → (t = p.d ∧ v = .pointer (some ⟨b, 0, none⟩)) ∨ lk (pe pool bs) t = some v ∨ bs[j]? ≠ some none
  | [], _, j, p, _, _, _, hj, _ => by simp at hj
  | q :: ps, [], j, p, _, _, _, _, h => by simp [pe, lk] at h
  | q :: ps, o :: bs, 0, p, b, t, v, hj, h => by
    simp at hj
    subst hj
    cases o with
    | some b0 => exact .inr (.inr (by simp))
    | none =>
      simp only [List.set_cons_zero, pe] at h ⊢
      unfold lk at h
      cases hb : Nat.beq q.d t with
      | true => rw [hb] at h; have := Nat.eq_of_beq_eq_true hb; subst this; exact .inl ⟨rfl, (Option.some.inj h).symm⟩
      | false => rw [hb] at h; exact .inr (.inl h)
  | q :: ps, o :: bs, j + 1, p, b, t, v, hj, h => by
    simp only [List.set_cons_succ] at h
    have hj' : ps[j]? = some p := by simpa using hj
    cases o with
    | none =>
      simp only [pe] at h ⊢
      rcases pe_set hj' h with h1 | h1 | h1
      · exact .inl h1
      · exact .inr (.inl h1)
      · exact .inr (.inr (by simpa using h1))
    | some b0 =>
      simp only [pe] at h ⊢
      unfold lk at h ⊢
      cases hb : Nat.beq q.d t with
      | true => rw [hb] at h; exact .inr (.inl h)
      | false =>
        rw [hb] at h
        rcases pe_set hj' h with h1 | h1 | h1
        · exact .inl h1
        · exact .inr (.inl h1)
        · exact .inr (.inr (by simpa using h1))
theorem pr_set : ∀ {pool : List PoolOp} {bs : List (Option Nat)} {j : Nat} {p : PoolOp} {b : Nat}, pool[j]? = some p → bs[j]? = some none → Ent (Blk b p.t p.cs :: pr pool bs) (pr pool (bs.set j (some b)))
  | [], _, j, p, _, hj, _ => by simp at hj
  | q :: ps, [], j, p, _, _, h => by simp at h
  | q :: ps, o :: bs, 0, p, b, hj, h => by
    simp at hj h
    subst hj; subst h
    simp only [List.set_cons_zero, pr]
    exact Ent.refl _
  | q :: ps, o :: bs, j + 1, p, b, hj, h => by
    simp only [List.set_cons_succ]
    have hj' : ps[j]? = some p := by simpa using hj
    have h' : bs[j]? = some none := by simpa using h
    cases o with
    | none => simp only [pr]; exact pr_set hj' h'
    | some b0 => simp only [pr]; exact (Ent.swap _ _ _).trans (Ent.cons (pr_set hj' h'))
/-- The dst of one that has not come up yet is not among those that have. -/
theorem pe_none : ∀ {pool : List PoolOp} {bs : List (Option Nat)} {j : Nat} {p : PoolOp}, (pool.map (·.d)).Pairwise (· ≠ ·) → pool[j]? = some p → bs[j]? = some none → lk (pe pool bs) p.d = none
  | [], _, j, p, _, hj, _ => by simp at hj
  | q :: ps, [], j, p, _, _, h => by simp at h
  | q :: ps, o :: bs, 0, p, hd, hj, h => by
    simp at hj h
    subst hj; subst h
    simp only [pe]
    simp only [List.map_cons, List.pairwise_cons] at hd
    have key : ∀ (ps : List PoolOp) (bs : List (Option Nat)), (∀ a ∈ ps.map (·.d), q.d ≠ a) → lk (pe ps bs) q.d = none := by
      intro ps
      induction ps with
      | nil => intro bs _; simp [pe, lk]
      | cons r ps ih =>
        intro bs hh
        cases bs with
        | nil => simp [pe, lk]
        | cons o bs =>
          cases o with
          | none => simp only [pe]; exact ih bs fun a ha => hh a (by simp at ha ⊢; exact .inr ha)
          | some b0 =>
            simp only [pe]
            unfold lk
            have hne : Nat.beq r.d q.d = false := by
              cases hb : Nat.beq r.d q.d with
              | false => rfl
              | true => exact absurd (Nat.eq_of_beq_eq_true hb).symm (hh r.d (by simp))
            rw [hne]
            exact ih bs fun a ha => hh a (by simp at ha ⊢; exact .inr ha)
    exact key ps bs hd.1
  | q :: ps, o :: bs, j + 1, p, hd, hj, h => by
    have hj' : ps[j]? = some p := by simpa using hj
    have h' : bs[j]? = some none := by simpa using h
    simp only [List.map_cons, List.pairwise_cons] at hd
    cases o with
    | none => simp only [pe]; exact pe_none hd.2 hj' h'
    | some b0 =>
      simp only [pe]
      unfold lk
      have hne : Nat.beq q.d p.d = false := by
        cases hb : Nat.beq q.d p.d with
        | false => rfl
        | true => exact absurd (Nat.eq_of_beq_eq_true hb) (hd.1 p.d (List.mem_map.2 ⟨p, List.mem_of_getElem? hj', rfl⟩))
      rw [hne]
      exact pe_none hd.2 hj' h'
def Good (C : Cx) (ops : Array Oper) (Q : Exit → Act → World → Prop) (S : World → Prop) (I : PH) (pool : List PoolOp) (loud rest : List Nat) : List Nat → Env → List Res → Prop
  | [], e, R => keysFree pool e = true ∧ ∀ bs : List Nat, bs.length = pool.length → Nx C (e ++ pe pool (bs.map some)) I (Stars (pr pool (bs.map some)) :: R) (wpMix C.P ops Q S loud rest)
  | k :: ch, e, R => keysFree pool e = true ∧ ∀ (ex : Env) (X : Res), Nx C (e ++ ex) I (X :: R) (wpOp C.P ops Q k (fun a w => S w ∧ ∃ e' R', Mod C.n (e' ++ ex) a ∧ St C.W I (X :: R') w ∧ Good C ops Q S I pool loud rest ch e' R'))
theorem Good.free {C : Cx} {ops : Array Oper} {Q : Exit → Act → World → Prop} {S : World → Prop} {I : PH} {pool : List PoolOp} {loud rest ch : List Nat} {e : Env} {R : List Res} (h : Good C ops Q S I pool loud rest ch e R) : keysFree pool e = true := by
  cases ch <;> exact h.1
def PoolS (C : Cx) (ops : Array Oper) (Q : Exit → Act → World → Prop) (S : World → Prop) (I : PH) (pool : List PoolOp) (loud rest ch : List Nat) (ex : Env) (X : Res) : Act → World → Prop :=
  fun a w => S w ∧ ∃ e' R', Mod C.n (e' ++ ex) a ∧ St C.W I (X :: R') w ∧ Good C ops Q S I pool loud rest ch e' R'
def PoolK (C : Cx) (ops : Array Oper) (Q : Exit → Act → World → Prop) (S : World → Prop) (I : PH) (pool : List PoolOp) (loud rest ch : List Nat) : Act → World → Prop :=
  fun a w => ∃ e R, Mod C.n e a ∧ St C.W I R w ∧ Good C ops Q S I pool loud rest ch e R
def findP : List PoolOp → List Bool → Nat → Nat → Option Nat
  | p :: ps, f :: fl, i, j => if Nat.beq p.k i && !f then some j else findP ps fl i (j + 1)
  | _, _, _, _ => none
theorem findP_ok : ∀ {pool : List PoolOp} {fl : List Bool} {i j j0 : Nat}, findP pool fl i j0 = some j → ∃ m p, j = j0 + m ∧ pool[m]? = some p ∧ fl[m]? = some false ∧ p.k = i
  | [], _, _, _, _, h => by simp [findP] at h
  | _ :: _, [], _, _, _, h => by simp [findP] at h
  | p :: ps, f :: fl, i, j, j0, h => by
    unfold findP at h
    split at h
    · rename_i hc
      simp only [Bool.and_eq_true, Bool.not_eq_true'] at hc
      exact ⟨0, p, by simpa using h.symm, rfl, by simp [hc.2], Nat.eq_of_beq_eq_true hc.1⟩
    · obtain ⟨m, q, h1, h2, h3, h4⟩ := findP_ok h
      exact ⟨m + 1, q, by omega, by simpa using h2, by simpa using h3, h4⟩
def poolOk (ops : Array Oper) (loud rest : List Nat) (pool : List PoolOp) : Nat → List Nat → List Bool → Array Bool → Bool
  | fuel, [], fl, listed =>
    if fl.all id then mixOk ops loud rest listed && Nat.ble rest.length fuel
    else match fuel with
      | 0 => false
      | f + 1 => !(Region.ready .any ops listed).isEmpty && (Region.ready .any ops listed).all fun i => match findP pool fl i 0 with
        | some j => poolOk ops loud rest pool f [] (fl.set j true) (listed.setIfInBounds i true)
        | none => false
  | 0, _ :: _, _, _ => false
  | f + 1, k :: ch, fl, listed => !(Region.ready .any ops listed).isEmpty && (Region.ready .any ops listed).all fun i =>
      if Nat.beq i k then poolOk ops loud rest pool f ch fl (listed.setIfInBounds i true)
      else match findP pool fl i 0 with
        | some j => poolOk ops loud rest pool f (k :: ch) (fl.set j true) (listed.setIfInBounds i true)
        | none => false
structure PoolFit (C : Cx) (ops : Array Oper) (p : PoolOp) : Prop where
  op : ∃ ty pos after, ops[p.k]? = some ⟨some p.d, .alloc p.t, ty, pos, after, none⟩
  zero : zeroOf C.P p.t = some p.cs
  lt : Nat.blt p.d C.n = true
section
variable {C : Cx} {e e' : Env} {I : PH} {R R' R0 : List Res} {K K' : Act → World → Prop} {Q : Exit → Act → World → Prop} {W : World}
variable {ops : Array Oper} {S : World → Prop} {loud rest ch : List Nat} {pool : List PoolOp}
theorem map_isSome {bs : List (Option Nat)} (h : (bs.map Option.isSome).all id = true) : ∃ l : List Nat, bs = l.map some := by
  induction bs with
  | nil => exact ⟨[], rfl⟩
  | cons o r ih =>
    simp only [List.map_cons, List.all_cons, Bool.and_eq_true, id_eq] at h
    obtain ⟨l, rfl⟩ := ih h.2
    cases o with
    | none => cases h.1
    | some b => exact ⟨b :: l, rfl⟩
theorem Mod.poolPut {n : Nat} {a : Act} {p : PoolOp} {bs : List (Option Nat)} {j b : Nat} (h : Mod n (e ++ pe pool bs) a) (hf : keysFree pool e = true) (hd : (pool.map (·.d)).Pairwise (· ≠ ·)) (hj : pool[j]? = some p) (hb : bs[j]? = some none) (hlt : Nat.blt p.d n = true) :
    Mod n (e ++ pe pool (bs.set j (some b))) (a.put (some p.d) (.pointer (some ⟨b, 0, none⟩))) := by
  have h1 := h.put hlt (.pointer (some ⟨b, 0, none⟩))
  refine ⟨h1.size, h1.defers, fun t v hv => ?_⟩
  have hpe := keysFree_lk hf (List.mem_of_getElem? hj)
  have hpn := pe_none hd hj hb
  have key : ∀ {t v}, lk (e ++ pe pool bs) t = some v → (a.put (some p.d) (.pointer (some ⟨b, 0, none⟩))).tmps[t]? = some v := fun {t v} hv => by
    refine h1.get t v ?_
    unfold lk
    have hne : Nat.beq p.d t = false := by
      cases hb : Nat.beq p.d t with
      | false => rfl
      | true =>
        have := Nat.eq_of_beq_eq_true hb
        subst this
        rcases lk_app hv with h2 | ⟨_, h2⟩
        · rw [hpe] at h2; cases h2
        · rw [hpn] at h2; cases h2
    rw [hne]; exact hv
  rcases lk_app hv with h2 | ⟨h2, h3⟩
  · exact key (lk_app_l h2)
  · rcases pe_set hj h3 with ⟨rfl, rfl⟩ | h4 | h4
    · exact h1.get _ _ (by unfold lk; rw [Nat.beq_refl])
    · exact key (by rw [lk_app_r h2]; exact h4)
    · exact absurd hb h4
theorem pool_any (hs : Region.noSelect ops = true) (hQ : PanicOk Q) (hd : (pool.map (·.d)).Pairwise (· ≠ ·)) (hfit : ∀ p ∈ pool, PoolFit C ops p) (hS : ∀ w o, S w → S (w.alloc o)) :
    ∀ (fuel : Nat) (ch : List Nat) (bs : List (Option Nat)) (listed : Array Bool) (e : Env) (R : List Res) (a : Act) (w : World), poolOk ops loud rest pool fuel ch (bs.map Option.isSome) listed = true → bs.length = pool.length →
      Mod C.n (e ++ pe pool bs) a → St C.W I (Stars (pr pool bs) :: R) w → S w → Good C ops Q S I pool loud rest ch e R → wpAnyH C.P .any ops Q S fuel listed a w := by
  intro fuel
  induction fuel with
  | zero =>
    intro ch bs listed e R a w hok hbl ha hw hSw hg
    cases ch with
    | cons k ch => simp [poolOk] at hok
    | nil =>
      unfold poolOk at hok
      split at hok
      · rename_i hall
        obtain ⟨l, rfl⟩ := map_isSome hall
        rw [Bool.and_eq_true] at hok
        exact wpMix_any hs hQ rest 0 listed a w hok.1 (Nat.le_of_ble_eq_true hok.2) hSw (hg.2 l (by simpa using hbl) a w ha hw)
      · cases hok
  | succ f ih =>
    intro ch bs listed e R a w hok hbl ha hw hSw hg
    have poolStep : ∀ i j, findP pool (bs.map Option.isSome) i 0 = some j → poolOk ops loud rest pool f ch ((bs.map Option.isSome).set j true) (listed.setIfInBounds i true) = true →
        wpOp C.P ops Q i (fun a' w' => S w' ∧ wpAnyH C.P .any ops Q S f (listed.setIfInBounds i true) a' w') a w := by
      intro i j hfj hokj
      obtain ⟨m, p, hm, hpm, hfm, hpk⟩ := findP_ok hfj
      obtain rfl : j = m := by omega
      subst hpk
      have hbj : bs[j]? = some none := by
        rw [List.getElem?_map] at hfm
        cases hbj : bs[j]? with
        | none => rw [hbj] at hfm; cases hfm
        | some o => cases o with
          | none => rfl
          | some b => rw [hbj] at hfm; cases hfm
      obtain ⟨⟨ty, pos, after, hop⟩, hz, hlt⟩ := hfit p (List.mem_of_getElem? hpm)
      unfold wpOp
      simp only [hop]
      rw [if_pos (by simp [Region.wanted])]
      refine .inl ?_
      obtain ⟨z, hzc, hrun⟩ := zeroOf_run hz w
      have hrun' : (execOp a.eval ⟨some p.d, .alloc p.t, ty, pos, after, none⟩).run C.P w = .ok (.value (.pointer (some ⟨w.heap.size, 0, none⟩))) (w.alloc (.cells p.cs.toArray p.t)) := by
        refine run_v ?_
        unfold Instr.alloc
        rw [Sem.run_bind, hrun, Result.andThen_ok]
        simp only [newVar, hzc]
        rfl
      unfold Oper.wp
      rw [hrun']
      refine ⟨hS w _ hSw, ?_⟩
      refine ih ch (bs.set j (some w.heap.size)) (listed.setIfInBounds p.k true) e R _ _ ?_ (by rw [List.length_set]; exact hbl) (ha.poolPut hg.free hd hpm hbj hlt) ?_ (hS w _ hSw) hg
      · rw [List.map_set]; exact hokj
      · refine (hw.alloc (.cells p.cs.toArray p.t)).ent ?_
        refine (Ent.bundle (B := pr pool bs) (r := Blk w.heap.size p.t p.cs)).trans ?_
        refine Ent.head fun m hm => ?_
        obtain ⟨m1, m2, hd', rfl, h1, h2⟩ := Stars.append hm
        obtain ⟨n1, n2, hd2, rfl, h3, _⟩ := h2
        obtain ⟨m', hle, h'⟩ := pr_set (b := w.heap.size) hpm hbj (n1.or m1) ⟨n1, m1, (PH.dis_or.1 hd').1.symm, rfl, h3, h1⟩
        exact Stars.up h' (hle.trans (PH.or_le ((PH.le_or_left n1 n2).trans (PH.le_or_right hd')) (PH.le_or_left _ _)))
    cases ch with
    | nil =>
      unfold poolOk at hok
      split at hok
      · rename_i hall
        obtain ⟨l, rfl⟩ := map_isSome hall
        rw [Bool.and_eq_true] at hok
        exact wpMix_any hs hQ rest (f + 1) listed a w hok.1 (Nat.le_of_ble_eq_true hok.2) hSw (hg.2 l (by simpa using hbl) a w ha hw)
      · simp only [Bool.and_eq_true, Bool.not_eq_true', List.all_eq_true] at hok
        refine ⟨fun h0 => by rw [h0] at hok; simp at hok, fun i hi => ?_⟩
        have := hok.2 i hi
        split at this
        · rename_i j hj; exact poolStep i j hj this
        · cases this
    | cons k ch =>
      unfold poolOk at hok
      simp only [Bool.and_eq_true, Bool.not_eq_true', List.all_eq_true] at hok
      refine ⟨fun h0 => by rw [h0] at hok; simp at hok, fun i hi => ?_⟩
      have := hok.2 i hi
      split at this
      · rename_i hik
        obtain rfl := Nat.eq_of_beq_eq_true hik
        refine wpOp_mono (fun a' w' => ?_) (hg.2 (pe pool bs) (Stars (pr pool bs)) a w ha hw)
        rintro ⟨hS', e', R', ha', hw', hg'⟩
        exact ⟨hS', ih ch bs _ e' R' a' w' this hbl ha' hw' hS' hg'⟩
      · split at this
        · rename_i j hj; exact poolStep i j hj this
        · cases this
/-! The rules for a walk -/
def preOk (ops : Array Oper) (k : Array Bool → Bool) : List Nat → Array Bool → Bool
  | [], listed => k listed
  | q :: r, listed => Region.free .any ops listed q && (Region.ready .any ops listed).contains q && preOk ops k r (listed.setIfInBounds q true)
theorem wpMix_pre {P : Program} {T : Act → World → Prop} (hs : Region.noSelect ops = true) (hQ : PanicOk Q) {k : Array Bool → Bool} {fuel : Nat} (hT : ∀ listed a w, k listed = true → S w → T a w → wpAnyH P .any ops Q S fuel listed a w) : ∀ (q : List Nat) (listed : Array Bool) (a : Act) (w : World),
    preOk ops k q listed = true → S w → wpMix P ops (Exit.then T Q) S [] q a w → wpAnyH P .any ops Q S (fuel + q.length) listed a w
  | [], listed, a, w, hok, hSw, h => hT listed a w hok hSw h
  | i :: r, listed, a, w, hok, hSw, h => by
    obtain ⟨o, ho, h⟩ := h
    simp only [preOk, Bool.and_eq_true] at hok
    rw [if_neg (by simp)] at h
    obtain ⟨v, hy, h⟩ := h
    exact wpAnyH_take ho hs hok.1.1 hok.1.2 (fun c a w => hQ c o.dst v a w) hy hSw (wpMix_pre hs hQ hT r _ _ w hok.2 hSw h)
theorem pe_nones : ∀ (pool : List PoolOp), pe pool (pool.map fun _ => none) = [] ∧ pr pool (pool.map fun _ => none) = [] ∧ ((pool.map fun _ => (none : Option Nat)).map Option.isSome) = pool.map fun _ => false
  | [] => ⟨rfl, rfl, rfl⟩
  | p :: ps => by
    obtain ⟨h1, h2, h3⟩ := pe_nones ps
    exact ⟨by simp only [List.map_cons, pe]; exact h1, by simp only [List.map_cons, pr]; exact h2, by simp [h3]⟩
variable {c : Code}
/-- 'q': what only reads; 'ch': the calls, one behind the other; 'pool': the allocations; 'rest': what comes when all of these have come up. -/
theorem Nx.p_pool {id : Nat} (hid : cid c = id) (q ch rest loud : List Nat) (pool : List PoolOp) (R0 : List Res) (fuel : Nat) (hk : ck c = 2) (hm : C.P.follows .mixedOrders = true) (hs : Region.noSelect (cops c) = true)
    (hok : preOk (cops c) (poolOk (cops c) loud rest pool fuel ch (pool.map fun _ => false)) q (Array.replicate (cops c).size false) = true) (hlen : fuel + q.length = (cops c).size)
    (hd : (pool.map (·.d)).Pairwise (· ≠ ·)) (hfit : ∀ p ∈ pool, PoolFit C (cops c) p) (hQ : PanicOk Q) (hR : Ent R R0)
    (h : Nx C e I R (wpMix C.P (cops c) (Exit.then (PoolK C (cops c) Q (St C.W I R0) I pool loud rest ch) Q) (St C.W I R0) [] q)) : Nx C e I R (c.wp C.P Q) := by
  have hc : c = .region (cid c) (cops c) true := by
    cases c <;> first | (simp [ck] at hk; done) | skip
    rename_i b
    cases b with
    | false => simp [ck] at hk
    | true => rfl
  clear hid
  rw [hc]
  have hS : ∀ w o, St C.W I R0 w → St C.W I R0 (w.alloc o) := fun w o h => (h.alloc o).ent (Ent.drop (Ent.refl _))
  intro a w ha hw
  obtain ⟨h1, h2, h3⟩ := pe_nones pool
  refine wp_region_held (S := St C.W I R0) hm ?_
  have key := fun hT => wpMix_pre (fuel := fuel) (S := St C.W I R0) (Q := Q) hs hQ hT q _ a _ hok (hw.drew.ent hR) (h a _ ha hw.drew)
  rw [hlen] at key
  refine key (fun listed a w hpo hSw hT => ?_)
  obtain ⟨e1, R1, ha1, hw1, hg⟩ := hT
  refine pool_any hs hQ hd hfit hS fuel ch (pool.map fun _ => none) listed e1 R1 a w (by rw [h3]; exact hpo) (by simp) (by rw [h1, List.append_nil]; exact ha1) (hw1.ent ?_) hSw hg
  rw [h2]
  exact Ent.stars_nil _
theorem Nx.pool_in (h : Good C ops Q S I pool loud rest ch e R) : Nx C e I R (PoolK C ops Q S I pool loud rest ch) := fun _ _ ha hw => ⟨e, R, ha, hw, h⟩
/-- One call. -/
theorem Good.call {k : Nat} {o : Oper} (hf : keysFree pool e = true) (ho : opAt ops.toList k = some o) (hg : o.guard = none) (h : ∀ (ex : Env) (X : Res), Nx C (e ++ ex) I (X :: R) (opK C.P o (PoolS C ops Q S I pool loud rest ch ex X) Q)) : Good C ops Q S I pool loud rest (k :: ch) e R :=
  ⟨hf, fun ex X a w ha hw => by
    unfold wpOp
    simp only [opAt_arr ho]
    rw [if_pos (by simp [Region.wanted, hg])]
    exact .inl (h ex X a w ha hw)⟩
theorem Nx.pool_next {ex : Env} {X : Res} {R1 : List Res} {t : Nat} {v : Value} (hR : Ent R (X :: R1)) (hS : ∀ w, St C.W I R w → S w) (h : Good C ops Q S I pool loud rest ch ((t, v) :: e) R1) : Nx C ((t, v) :: (e ++ ex)) I R (PoolS C ops Q S I pool loud rest ch ex X) :=
  fun _ w ha hw => ⟨hS w hw, (t, v) :: e, R1, ha, hw.ent hR, h⟩
theorem Good.done (hf : keysFree pool e = true) (h : ∀ bs : List Nat, bs.length = pool.length → Nx C (e ++ pe pool (bs.map some)) I (Stars (pr pool (bs.map some)) :: R) (wpMix C.P ops Q S loud rest)) : Good C ops Q S I pool loud rest [] e R := ⟨hf, h⟩
end
end Go.Eng
/-
  The proof engine, part H: a statement of open order whose last operations write what its first ones read: behind them nothing is asked of the world.
-/
namespace Go.Eng
/-- In whatever order the operations come up, S holds behind each of them that is not among the last ones. -/
def wpAnyF (P : Program) (md : Region.Mode) (ops : Array Oper) (Q : Exit → Act → World → Prop) (S : World → Prop) (fin : List Nat) : Nat → Array Bool → Act → World → Prop
  | 0, listed, a, w => Region.ready md ops listed = [] ∧ Q .normal a w
  | n + 1, listed, a, w => (Region.ready md ops listed = [] → Q .normal a w) ∧
    ∀ i ∈ Region.ready md ops listed, wpOp P ops Q i (fun a' w' => (fin.contains i = false → S w') ∧ wpAnyF P md ops Q S fin n (listed.setIfInBounds i true) a' w') a w
section
variable {P : Program} {ops : Array Oper} {Q : Exit → Act → World → Prop} {md : Region.Mode} {S : World → Prop} {fin : List Nat}
theorem wpAny_of_fin : ∀ (n : Nat) (listed : Array Bool) (a : Act) (w : World), wpAnyF P md ops Q S fin n listed a w → wpAny P md ops Q n listed a w
  | 0, _, _, _, h => h
  | n + 1, _, _, _, h => ⟨h.1, fun i hi => wpOp_mono (fun a' w' h' => wpAny_of_fin n _ a' w' h'.2) (h.2 i hi)⟩
theorem ready_waits {i j : Nat} {oj : Oper} {listed : Array Bool} (hi : i ∈ Region.ready md ops listed) (hj : j ∈ Region.ready md ops listed) (ho : ops[j]? = some oj) : ∀ e ∈ oj.after, Region.binds md e = true → e.on ≠ i := by
  intro e he hb heq
  obtain ⟨_, o, ho', hall⟩ := mem_ready.1 hj
  obtain ⟨h0, _, _, _⟩ := mem_ready.1 hi
  rw [ho] at ho'
  obtain rfl : oj = o := by simpa using ho'
  have h1 := hall e he hb
  subst heq
  rcases Nat.lt_or_ge e.on listed.size with h' | h'
  · simp [h'] at h0 h1
    rw [h0] at h1; cases h1
  · simp [Array.getElem?_eq_none h'] at h1
/-- Whatever has come up, what it waits for has come up. -/
def Closed (md : Region.Mode) (ops : Array Oper) (listed : Array Bool) : Prop := ∀ k o, ops[k]? = some o → listed.getD k false = true → ∀ e ∈ o.after, Region.binds md e = true → listed.getD e.on false = true
theorem Closed.start (n : Nat) : Closed md ops (Array.replicate n false) := fun k o _ h => by
  exfalso
  by_cases hk : k < n <;> simp [hk] at h
theorem Closed.set {i : Nat} {listed : Array Bool} (h : Closed md ops listed) (hi : i ∈ Region.ready md ops listed) : Closed md ops (listed.setIfInBounds i true) := fun k o ho hk e he hb => by
  by_cases hik : i = k
  · subst hik
    obtain ⟨_, o', ho', hall⟩ := mem_ready.1 hi
    rw [ho] at ho'
    obtain rfl : o = o' := by simpa using ho'
    exact getD_set_true (hall e he hb)
  · rw [getD_set_ne false hik] at hk
    exact getD_set_true (h k o ho hk e he hb)
/-- Number j waits for number i, directly or through others. -/
def waitsOn (md : Region.Mode) (ops : Array Oper) : Nat → Nat → Nat → Bool
  | 0, _, _ => false
  | n + 1, j, i => match ops[j]? with
    | some o => o.after.any fun e => Region.binds md e && (Nat.beq e.on i || waitsOn md ops n e.on i)
    | none => false
theorem waitsOn_listed {i : Nat} {listed : Array Bool} (hc : Closed md ops listed) : ∀ (n j : Nat), waitsOn md ops n j i = true → (∀ o, ops[j]? = some o → ∀ e ∈ o.after, Region.binds md e = true → listed.getD e.on false = true) → listed.getD i false = true
  | 0, j, h, _ => by simp [waitsOn] at h
  | n + 1, j, h, hj => by
    unfold waitsOn at h
    split at h
    · rename_i o ho
      obtain ⟨e, he, hb⟩ := Array.any_eq_true'.1 h
      simp only [Bool.and_eq_true, Bool.or_eq_true] at hb
      have h1 := hj o ho e he hb.1
      rcases hb.2 with h2 | h2
      · rw [← Nat.eq_of_beq_eq_true h2]; exact h1
      · exact waitsOn_listed hc n e.on h2 fun o' ho' => hc e.on o' ho' h1
    · cases h
/-- The last ones wait for number i. -/
def finWaits (md : Region.Mode) (ops : Array Oper) (fin : List Nat) (i : Nat) : Bool := fin.all fun j => waitsOn md ops 2 j i || waitsOn md ops 4 j i || waitsOn md ops 9 j i
theorem finWaits_not {i j : Nat} {listed : Array Bool} (hc : Closed md ops listed) (h : finWaits md ops fin i = true) (hi : i ∈ Region.ready md ops listed) (hj : j ∈ Region.ready md ops listed) : fin.contains j = false := by
  cases hf : fin.contains j with
  | false => rfl
  | true =>
    exfalso
    have h1 := List.all_eq_true.1 h j (by simpa using hf)
    obtain ⟨_, oj, hoj, hall⟩ := mem_ready.1 hj
    have hj' : ∀ o, ops[j]? = some o → ∀ e ∈ o.after, Region.binds md e = true → listed.getD e.on false = true := fun o ho => by
      rw [hoj] at ho
      obtain rfl : oj = o := by simpa using ho
      exact hall
    have h2 : listed.getD i false = true := by
      simp only [Bool.or_eq_true] at h1
      rcases h1 with (h1 | h1) | h1 <;> exact waitsOn_listed hc _ j h1 hj'
    have h0 := (mem_ready.1 hi).1
    rcases Nat.lt_or_ge i listed.size with h' | h'
    · simp [h'] at h0 h2
      rw [h0] at h2; cases h2
    · simp [Array.getElem?_eq_none h'] at h2
theorem wpAnyF_first {i : Nat} {oi : Oper} {v : Value} (hi : ops[i]? = some oi) (hs : Region.noSelect ops = true) (hQ : PanicOk Q) (hfin : finWaits md ops fin i = true) :
    ∀ (n : Nat) (listed : Array Bool) (a : Act) (w : World), Closed md ops listed →
      (∀ j oj, ops[j]? = some oj → j ≠ i → listed.getD j true = false → (∀ e ∈ oj.after, Region.binds md e = true → e.on ≠ i) → oi.apart ops oj = true) →
      i ∈ Region.ready md ops listed → YieldsIf P ops S oi v a → S w →
      wpAnyF P md ops Q S fin n (listed.setIfInBounds i true) (a.put oi.dst v) w → wpAnyF P md ops Q S fin (n + 1) listed a w
  | n, listed, a, w, hcl, hap, hr, hy, hS, H => by
    refine ⟨fun h0 => (by rw [h0] at hr; cases hr), fun j hj => ?_⟩
    by_cases hji : j = i
    · subst hji; exact hy.wpOp hi hS ⟨fun _ => hS, H⟩
    · have hj2 := ready_mono hj hji
      obtain ⟨hjun, oj, hoj, _⟩ := mem_ready.1 hj
      have hno := ready_waits hr hj hoj
      have hnf := finWaits_not hcl hfin hr hj
      match n, H with
      | 0, H => rw [H.1] at hj2; cases hj2
      | n + 1, H =>
        have h1 := H.2 j hj2
        have h2 := wpOp_putIf hoj (hap j oj hoj hji hjun hno) (fun cs b => Region.noSelect_spec hs i oi cs b hi) (fun cs b => Region.noSelect_spec hs j oj cs b hoj) (fun c a w => hQ c oi.dst v a w) hy h1
        refine wpOp_mono (fun a' w' h3 => ?_) h2
        obtain ⟨hy', hS', H'⟩ := h3
        refine ⟨fun _ => hS' hnf, wpAnyF_first hi hs hQ hfin n (listed.setIfInBounds j true) a' w' (hcl.set hj) (fun k ok hk hki hun hnk => ?_) (ready_mono hr (Ne.symm hji)) hy' (hS' hnf) ?_⟩
        · refine hap k ok hk hki ?_ hnk
          by_cases hjk : j = k
          · subst hjk; exact hjun
          · rwa [getD_set_ne true hjk] at hun
        · rw [Array.setIfInBounds_comm _ _ hji]
          exact H'
theorem wpOp_then {T : Act → World → Prop} {i : Nat} {a : Act} {w : World} {K : Act → World → Prop} (hh : wpOp P ops (Exit.then T Q) i K a w) : wpOp P ops Q i K a w := by
  unfold wpOp at *
  split
  · simpa [*] using hh
  · rename_i o ho
    simp only [ho] at hh
    split
    · rename_i hw
      simp only [hw, if_true] at hh
      rcases hh with hh | hh
      · refine .inl ?_
        unfold Oper.wp at *
        generalize (execOp a.eval o).run P w = r at *
        cases r with
        | ok n w' =>
          cases n <;> simp only [Oper.upon] at hh ⊢ <;>
            first
              | exact hh
              | exact Calls.mono hh (fun e w'' he => by cases e <;> exact he)
              | exact Rows.mono hh (fun _ _ he => he)
        | halt x w' => cases x <;> simp only [Oper.upon] at hh ⊢ <;> exact hh
      · exact .inr hh
    · rename_i hw
      simpa [hw] using hh
def mixOkF (ops : Array Oper) (fin loud : List Nat) : List Nat → Array Bool → Bool
  | [], listed => mixOk ops fin fin listed
  | k :: r, listed => (if loud.contains k then Region.ready .any ops listed == [k] && !(fin.contains k) else Region.free .any ops listed k && (Region.ready .any ops listed).contains k && finWaits .any ops fin k) && mixOkF ops fin loud r (listed.setIfInBounds k true)
theorem wpMix_fin (hs : Region.noSelect ops = true) (hQ : PanicOk Q) (hall : ∀ k ∈ fin, fin.contains k = true) : ∀ (r : List Nat) (n : Nat) (listed : Array Bool) (a : Act) (w : World), (∀ k ∈ r, fin.contains k = true) →
    mixOk ops fin r listed = true → r.length ≤ n → wpMix P ops Q AnyW fin r a w → wpAnyF P .any ops Q S fin n listed a w
  | [], n, listed, a, w, _, hok, _, h => by
    have hr : Region.ready .any ops listed = [] := by simpa [mixOk] using hok
    cases n with
    | zero => exact ⟨hr, h⟩
    | succ n => exact ⟨fun _ => h, by rw [hr]; simp⟩
  | k :: r, 0, listed, a, w, _, _, hl, _ => by simp at hl
  | k :: r, n + 1, listed, a, w, hk, hok, hl, h => by
    obtain ⟨o, ho, h⟩ := h
    have hkf := hk k (by simp)
    unfold mixOk at hok
    rw [if_pos hkf] at h hok
    simp only [Bool.and_eq_true, beq_iff_eq] at hok
    refine ⟨fun h0 => (by rw [hok.1] at h0; cases h0), fun i hi => ?_⟩
    rw [hok.1] at hi
    obtain rfl : i = k := by simpa using hi
    refine wpOp_mono (fun a' w' h3 => ⟨fun hf => ?_, wpMix_fin hs hQ hall r n _ a' w' (fun j hj => hk j (by simp [hj])) hok.2 (by simpa using hl) h3.2⟩) h
    rw [hkf] at hf; cases hf
theorem wpMix_anyF (hs : Region.noSelect ops = true) (hQ : PanicOk Q) {loud : List Nat} : ∀ (ord : List Nat) (n : Nat) (listed : Array Bool) (a : Act) (w : World), Closed .any ops listed →
    mixOkF ops fin loud ord listed = true → ord.length + fin.length ≤ n → S w → wpMix P ops (Exit.then (wpMix P ops Q AnyW fin fin) Q) S loud ord a w → wpAnyF P .any ops Q S fin n listed a w
  | [], n, listed, a, w, _, hok, hl, _, h => wpMix_fin hs hQ (fun k hk => by simpa using hk) fin n listed a w (fun k hk => by simpa using hk) hok (by simpa using hl) h
  | k :: r, 0, listed, a, w, _, _, hl, _, _ => by simp at hl
  | k :: r, n + 1, listed, a, w, hcl, hok, hl, hS, h => by
    obtain ⟨o, ho, h⟩ := h
    unfold mixOkF at hok
    rw [Bool.and_eq_true] at hok
    obtain ⟨hk, hr⟩ := hok
    have hl' : r.length + fin.length ≤ n := by simp only [List.length_cons] at hl; omega
    by_cases hc : loud.contains k = true
    · rw [if_pos hc] at h hk
      simp only [Bool.and_eq_true, beq_iff_eq, Bool.not_eq_true'] at hk
      refine ⟨fun h0 => (by rw [hk.1] at h0; cases h0), fun i hi => ?_⟩
      rw [hk.1] at hi
      obtain rfl : i = k := by simpa using hi
      refine wpOp_then (T := wpMix P ops Q AnyW fin fin) ?_
      exact wpOp_mono (fun a' w' h3 => ⟨fun _ => h3.1, wpMix_anyF hs hQ r n _ a' w' (hcl.set (by rw [hk.1]; simp)) hr hl' h3.1 h3.2⟩) h
    · rw [if_neg hc] at h hk
      simp only [Bool.and_eq_true] at hk
      obtain ⟨v, hy, h⟩ := h
      exact wpAnyF_first ho hs hQ hk.2 n listed a w hcl (Region.free_spec ho hk.1.1) (by simpa using hk.1.2) hy hS (wpMix_anyF hs hQ r n _ _ w (hcl.set (by simpa using hk.1.2)) hr hl' hS h)
end
section
variable {C : Cx} {e e' : Env} {I : PH} {R R' R0 : List Res} {K K' : Act → World → Prop} {Q : Exit → Act → World → Prop} {W : World} {c : Code} {ops : Array Oper}
theorem Nx.p_drawF {id : Nat} (hid : cid c = id) (ord loud fin : List Nat) (R0 : List Res) (hk : ck c = 2) (hm : C.P.follows .mixedOrders = true) (hs : Region.noSelect (cops c) = true) (hok : mixOkF (cops c) fin loud ord (Array.replicate (cops c).size false) = true) (hlen : Nat.ble (ord.length + fin.length) (cops c).size = true) (hQ : PanicOk Q) (hR : Ent R R0)
    (h : Nx C e I R (wpMix C.P (cops c) (Exit.then (wpMix C.P (cops c) Q AnyW fin fin) Q) (St C.W I R0) loud ord)) : Nx C e I R (c.wp C.P Q) := by
  have hc : c = .region (cid c) (cops c) true := by
    cases c <;> first | (simp [ck] at hk; done) | skip
    rename_i b
    cases b with
    | false => simp [ck] at hk
    | true => rfl
  clear hid
  rw [hc]
  intro a w ha hw
  refine wp_region_any hm (wpAny_of_fin _ _ _ _ (wpMix_anyF (S := St C.W I R0) hs hQ ord _ _ a _ (Closed.start _) hok (Nat.le_of_ble_eq_true hlen) (hw.drew.ent hR) (h a _ ha hw.drew)))
/-! ## Results: temporaries and variables of the call's own, mixed -/
/-- One result's value. -/
def resOne (tmps : Array Value) : ResultVar → Sem Value
  | .tmp t => pure (tmps.getD t undef)
  | .cell x t => do loadVar t (← asAddr (tmps.getD x undef))
def ROne (C : Cx) (e : Env) (I : PH) (R : List Res) (r : ResultVar) (v : Value) : Prop := ∀ a w, Mod C.n e a → St C.W I R w → (resOne a.tmps r).run C.P w = .ok v w
variable {v v1 v2 v3 : Value}
theorem ROne.tmp {t : Nat} (h : lk e t = some v) : ROne C e I R (.tmp t) v := fun a w ha _ => by simp [resOne, ha.get t v h]
theorem ROne.cell (k : Nat) {nc t0 b : Nat} {ty tb : TypeId} {cs : List Value} (hx : lk e t0 = some (.pointer (some ⟨b, 0, none⟩))) (ht : aggT C.P ty = true) (hn : cellsIn C.P ty = some nc) (hl : cs.length = nc) (hk : nthL R k = some (Blk b tb cs)) : ROne C e I R (.cell t0 ty) (.agg cs.toArray) := fun a w ha hw => by
  have hload := run_loadVar_agg (A := ⟨b, 0, none⟩) ht hn hl (fun j u hj => (Rds.at_ k hk : Rds C.W I R ⟨b, 0, none⟩ cs) j u hj w hw)
  simp [resOne, ha.get t0 _ hx, asAddr, hload]
end
end Go.Eng
/-
  The proof engine, part K: a statement of open order with allocations that may come at any time, in steps that a walk finds by itself.
-/
namespace Go.Eng
section
variable {P : Program} {ops : Array Oper} {Q : Exit → Act → World → Prop} {md : Region.Mode} {S : World → Prop} {fin fq : List Nat}
end
/-- What is still to come: a chain of operations (those that only read are taken first, the others come up one behind the other), allocations at any time, and last ones behind all of them. -/
def GoodF (C : Cx) (ops : Array Oper) (Q : Exit → Act → World → Prop) (S : World → Prop) (I : PH) (pool : List PoolOp) (loud mv fin fq : List Nat) : List Nat → Env → List Res → Prop
  | [], e, R => keysFree pool e = true ∧ ∀ bs : List Nat, bs.length = pool.length → Nx C (e ++ pe pool (bs.map some)) I (Stars (pr pool (bs.map some)) :: R) (wpMix C.P ops Q AnyW fq fin)
  | k :: ch, e, R => keysFree pool e = true ∧ match loud.contains k with
    | true => ∀ (ex : Env) (X : Res), Nx C (e ++ ex) I (X :: R) (wpOp C.P ops Q k (fun a w => S w ∧ ∃ e' R', Mod C.n (e' ++ ex) a ∧ St C.W I (X :: R') w ∧ GoodF C ops Q S I pool loud mv fin fq ch e' R'))
    | false => ∃ o v e', ops[k]? = some o ∧ (∀ a ex, Mod C.n (e ++ ex) a → YieldsIf C.P ops (if mv.contains k then AnyW else S) o v a ∧ Mod C.n (e' ++ ex) (a.put o.dst v)) ∧ GoodF C ops Q S I pool loud mv fin fq ch e' R
theorem GoodF.free {C : Cx} {ops : Array Oper} {Q : Exit → Act → World → Prop} {S : World → Prop} {I : PH} {pool : List PoolOp} {loud mv fin fq ch : List Nat} {e : Env} {R : List Res} (h : GoodF C ops Q S I pool loud mv fin fq ch e R) : keysFree pool e = true := by
  cases ch <;> exact h.1
section
variable {C : Cx} {e e' : Env} {I : PH} {R R' R0 : List Res} {K K' : Act → World → Prop} {Q : Exit → Act → World → Prop} {W : World}
variable {ops : Array Oper} {S : World → Prop} {loud mv fin fq ch : List Nat} {pool : List PoolOp} {c : Code} {o : Oper}
theorem GoodF.is (h : GoodF C ops Q S I pool loud mv fin fq ch e R) : GoodF C ops Q S I pool loud mv fin fq ch e R := h
theorem Mod.app_l {n : Nat} {a : Act} {ex : Env} (h : Mod n (e ++ ex) a) : Mod n e a := ⟨h.size, h.defers, fun t v ht => h.get t v (lk_app_l ht)⟩
theorem GoodF.quiet {k d : Nat} {v : Value} (hf : keysFree pool e = true) (hl : loud.contains k = false) (ho : opAt ops.toList k = some o) (hg : o.guard = none) (hd : o.dst = some d) (hlt : Nat.blt d C.n = true) (hrun : QRun C e (if mv.contains k then AnyW else S) o v) (h : GoodF C ops Q S I pool loud mv fin fq ch ((d, v) :: e) R) : GoodF C ops Q S I pool loud mv fin fq (k :: ch) e R :=
  ⟨hf, by
    rw [hl]
    refine ⟨o, v, (d, v) :: e, opAt_arr ho, fun a ex ha => ⟨.inl ⟨by simp [Region.wanted, hg], fun w hS => hrun a w ha.app_l hS⟩, ?_⟩, h⟩
    rw [hd]
    exact ha.put hlt v⟩
theorem PoolFit.cons {p : PoolOp} {r : List PoolOp} (h : PoolFit C ops p) (hr : ∀ q ∈ r, PoolFit C ops q) : ∀ q ∈ p :: r, PoolFit C ops q := fun q hq => by
  rcases List.mem_cons.1 hq with rfl | hq
  · exact h
  · exact hr q hq
theorem PoolFit.nil : ∀ q ∈ ([] : List PoolOp), PoolFit C ops q := fun q hq => by simp at hq
end
end Go.Eng
/- Contracts of functions of the given program, and lemmas about plain lists and numbers: what the laws of this seat lean on. -/
namespace Go.Proofs.YtpmlehplbobjmaaDoor
open Go.Eng
attribute [local irreducible] opK wpList Code.wp Exit.then Exit.inBlock fnPost bodyPost Nx Calls Oper.wp Rd Rds Wr Ent Stars Blk Again Vec FnSpec wpMix QRun Stop Upto wpAt
/-! The reference's views: right ones -/
set_option maxRecDepth 10000 in
set_option maxHeartbeats 4000000 in
theorem RView_spec (A B : Option Addr) (c cv : Nat) (l : List Int) (v : List Row) (I : PH) (hl : Ints I A c l) (hs : Sizes l) (hv : RowsOf I B cv v) (hw : Viewed l v) :
    FnSpec Tryd.prog 44 [.agg #[.slice A l.length c], .agg #[.slice B v.length cv]] I [] (fun u R' => u = .int .i64 0 ∧ R' = []) := by
  have hlen := hl.len
  have hvl := hw.len
  have hvlen := hv.outer.len
  refine FnSpec.enterP Tryd.func44 rfl Tryd.ntmps44 rfl fun w F => ?_
  repeat' first
    | ((with_reducible refine Nx.is_wp ?_); first | refine Nx.wo ?_ | refine Nx.zp (fun hc => ?_) (fun hc => ?_))
    | (refine Nx.zo ?_; first | refine Nx.opr rfl rfl ?_ | refine Nx.callv rfl rfl rfl (by kernel_rfl) rfl (RCheck_spec _ _ _ _ hl hs) ?_ | refine Nx.so ?_ | refine Nx.sb (fun bx => ?_) | refine Nx.sa (fun A2 c2 => ?_))
    | refine Nx.za ?_ | refine Nx.zr (fun hc => ?_) (fun hc => ?_)
    | refine Nx.zq ?_ | refine Nx.zu (fun hc => ?_) (fun hc => ?_)
    | refine Nx.zx ?_ | fail
  rename_i b2
  revert bx; intro b3
  refine Nx.p_loop (σ := Nat) (fun i => [(2, .pointer (some ⟨b2, 0, none⟩)), (24, .slice B v.length cv), (25, .int .i64 v.length), (26, .int .i64 (i : Int))])
    (fun _ => [Blk b3 31 [.slice B v.length cv], Blk b2 27 [.slice A l.length c], F]) (fun i => i ≤ v.length) (fun i => v.length - i) 0 rfl (Nat.zero_le _) ⟨rfl, rfl, rfl, rfl, trivial⟩ (by (exact Ent.auto)) ?_
  intro i hi
  have hi : i ≤ v.length := hi
  by_cases hiv : i < v.length
  case neg =>
    repeat' first
      | ((with_reducible refine Nx.is_wp ?_); first | refine Nx.wo ?_ | refine Nx.zp (fun hc => ?_) (fun hc => ?_))
      | (refine Nx.zo ?_; first | refine Nx.opr rfl rfl ?_ | refine Nx.so ?_ | refine Nx.sb (fun bx => ?_) | refine Nx.sa (fun A2 c2 => ?_))
      | refine Nx.za ?_ | refine Nx.zr (fun hc => ?_) (fun hc => ?_)
      | refine Nx.zq ?_ | refine Nx.zu (fun hc => ?_) (fun hc => ?_)
      | refine Nx.zx ?_ | fail
    exact Nx.ret_fn rfl [] ⟨rfl, rfl⟩ (by (exact Ent.auto))
  have hrow := hv.at hiv
  have hea := hw.each i (by omega)
  have hrd : ∀ (W : World) (R : List Res), Rd W I R ((ad B).add (i * 1)) (rowV (v.getD i default)) := fun W R => hv.outer.rd hiv
  have hsz : ∀ (W : World) (R : List Res), Rd W I R ((ad A).add (i * 1)) (.int .i64 (l.getD i default)) := fun W R => hl.rd (by omega)
  generalize v.getD i default = rw' at hrow hea hrd
  obtain ⟨G, cg, g⟩ := rw'
  dsimp only at hrow hea
  replace hrd : ∀ (W : World) (R : List Res), Rd W I R ((ad B).add (i * 1)) (.slice G g.length cg) := hrd
  obtain ⟨hgl, hnb⟩ := hea
  rw [← hgl] at hsz
  have hglen := hrow.len
  obtain ⟨m, hm, hm0⟩ : ∃ m, numb g 0 = some m ∧ 0 < m := by
    unfold numbB at hnb
    split at hnb
    · rename_i m hm; exact ⟨m, hm, of_decide_eq_true hnb⟩
    · cases hnb
  repeat' first
    | ((with_reducible refine Nx.is_wp ?_); first | refine Nx.wo ?_ | refine Nx.zp (fun hc => ?_) (fun hc => ?_))
    | (refine Nx.zo ?_; first | refine Nx.opr rfl rfl ?_ | refine Nx.indexAddr_nat (A := B) (i := i) (sz := 1) rfl rfl rfl rfl rfl (by omega) (hv.outer.isSome (by omega)) ?_ | refine Nx.load rfl rfl rfl (hrd _ _) ?_ | refine Nx.indexAddr_nat (A := A) (i := i) (sz := 1) rfl rfl rfl rfl rfl (by omega) (hl.isSome (by omega)) ?_ | refine Nx.load rfl rfl rfl (hsz _ _) ?_ | refine Nx.so ?_ | refine Nx.sb (fun bx => ?_) | refine Nx.sa (fun A2 c2 => ?_))
    | refine Nx.za ?_ | refine Nx.zr (fun hc => ?_) (fun hc => ?_)
    | refine Nx.zq ?_ | refine Nx.zu (fun hc => ?_) (fun hc => ?_)
    | refine Nx.zx ?_ | fail
  refine Nx.p_loop (σ := Nat × Int) (fun s => [(2, .pointer (some ⟨b2, 0, none⟩)), (24, .slice B v.length cv), (25, .int .i64 v.length), (26, .int .i64 (i : Int)), (39, .slice G g.length cg), (40, .int .i64 g.length), (41, .int .i64 (s.1 : Int)), (8, .int .i64 s.2)])
    (fun _ => [Blk b3 31 [.slice B v.length cv], Blk b2 27 [.slice A l.length c], F]) (fun s => s.1 ≤ g.length ∧ 0 ≤ s.2 ∧ s.2 ≤ s.1 ∧ numb g 0 = numb (g.drop s.1) s.2) (fun s => g.length - s.1) (0, 0) rfl ⟨Nat.zero_le _, by decide, by simp, rfl⟩ ⟨rfl, rfl, rfl, rfl, rfl, rfl, rfl, rfl, trivial⟩ (by (exact Ent.auto)) ?_
  rintro ⟨k, nx⟩ ⟨hk, h0, h1, he⟩
  dsimp only at hk h0 h1 he ⊢
  by_cases hkg : k < g.length
  case neg =>
    rw [List.drop_eq_nil_of_le (by omega)] at he
    have hnm : nx = m := by rw [hm] at he; exact (Option.some.inj he).symm
    repeat' first
      | ((with_reducible refine Nx.is_wp ?_); first | refine Nx.wo ?_ | refine Nx.zp (fun hc => ?_) (fun hc => ?_))
      | (refine Nx.zo ?_; first | refine Nx.opr rfl rfl ?_ | refine Nx.so ?_ | refine Nx.sb (fun bx => ?_) | refine Nx.sa (fun A2 c2 => ?_))
      | refine Nx.za ?_ | refine Nx.zr (fun hc => ?_) (fun hc => ?_)
      | refine Nx.zq ?_ | refine Nx.zu (fun hc => ?_) (fun hc => ?_)
      | refine Nx.zx ?_ | fail
    exact Nx.again (i + 1) hiv (by omega) ⟨rfl, rfl, rfl, rfl, trivial⟩ (by (exact Ent.auto))
  have hd : numb g 0 = if g.getD k default < -1 ∨ nx < g.getD k default then none else numb (g.drop (k + 1)) (if g.getD k default = nx then nx + 1 else nx) := by rw [he, drop_at hkg]; rfl
  have hok : ¬ (g.getD k default < -1 ∨ nx < g.getD k default) := fun h => by rw [if_pos h, hm] at hd; cases hd
  rw [if_neg hok] at hd
  have hgr : ∀ (W : World) (R : List Res), Rd W I R ((ad G).add (k * 1)) (.int .i64 (g.getD k default)) := fun W R => hrow.rd hkg
  generalize g.getD k default = y at hd hok hgr
  by_cases hyn : y = nx
  · rw [if_pos hyn] at hd
    repeat' first
      | ((with_reducible refine Nx.is_wp ?_); first | refine Nx.wo ?_ | refine Nx.zp (fun hc => ?_) (fun hc => ?_))
      | (refine Nx.zo ?_; first | refine Nx.opr rfl rfl ?_ | refine Nx.indexAddr_nat (A := G) (i := k) (sz := 1) rfl rfl rfl rfl rfl (by omega) (hrow.isSome (by omega)) ?_ | refine Nx.load rfl rfl rfl (hgr _ _) ?_ | refine Nx.so ?_ | refine Nx.sb (fun bx => ?_) | refine Nx.sa (fun A2 c2 => ?_))
      | refine Nx.za ?_ | refine Nx.zr (fun hc => ?_) (fun hc => ?_)
      | refine Nx.zq ?_ | refine Nx.zu (fun hc => ?_) (fun hc => ?_)
      | refine Nx.zx ?_ | fail
    exact Nx.again (k + 1, nx + 1) ⟨hkg, by dsimp only; omega, by dsimp only; omega, hd⟩ (by dsimp only; omega) ⟨rfl, rfl, rfl, rfl, rfl, rfl, rfl, rfl, trivial⟩ (by (exact Ent.auto))
  · rw [if_neg hyn] at hd
    repeat' first
      | ((with_reducible refine Nx.is_wp ?_); first | refine Nx.wo ?_ | refine Nx.zp (fun hc => ?_) (fun hc => ?_))
      | (refine Nx.zo ?_; first | refine Nx.opr rfl rfl ?_ | refine Nx.indexAddr_nat (A := G) (i := k) (sz := 1) rfl rfl rfl rfl rfl (by omega) (hrow.isSome (by omega)) ?_ | refine Nx.load rfl rfl rfl (hgr _ _) ?_ | refine Nx.so ?_ | refine Nx.sb (fun bx => ?_) | refine Nx.sa (fun A2 c2 => ?_))
      | refine Nx.za ?_ | refine Nx.zr (fun hc => ?_) (fun hc => ?_)
      | refine Nx.zq ?_ | refine Nx.zu (fun hc => ?_) (fun hc => ?_)
      | refine Nx.zx ?_ | fail
    exact Nx.again (k + 1, nx) ⟨hkg, by dsimp only; omega, by dsimp only; omega, hd⟩ (by dsimp only; omega) ⟨rfl, rfl, rfl, rfl, rfl, rfl, rfl, rfl, trivial⟩ (by (exact Ent.auto))
set_option maxRecDepth 10000 in
set_option maxHeartbeats 4000000 in
theorem RPublished_spec (A B : Option Addr) (c cv : Nat) (l : List Int) (v : List Row) (I : PH) (hl : Ints I A c l) (hs : Sizes l) (hv : RowsOf I B cv v) (hw : Viewed l v) :
    FnSpec Tryd.prog 45 [.agg #[.slice A l.length c], .agg #[.slice B v.length cv]] I [] (fun u R' => u = .int .i64 (prod (szs v)) ∧ R' = []) := by
  have hlen := hl.len
  have hvl := hw.len
  have hvlen := hv.outer.len
  have hszl := szs_len v
  have hss := hw.sizes hs
  refine FnSpec.enterP Tryd.func45 rfl Tryd.ntmps45 rfl fun w F => ?_
  repeat' first
    | ((with_reducible refine Nx.is_wp ?_); first | refine Nx.wo ?_ | refine Nx.zp (fun hc => ?_) (fun hc => ?_))
    | (refine Nx.zo ?_; first | refine Nx.opr rfl rfl ?_ | refine Nx.callv rfl rfl rfl (by kernel_rfl) rfl (RView_spec _ _ _ _ _ _ _ hl hs hv hw) ?_ | refine Nx.so ?_ | refine Nx.sb (fun bx => ?_) | refine Nx.sa (fun A2 c2 => ?_))
    | refine Nx.za ?_ | refine Nx.zr (fun hc => ?_) (fun hc => ?_)
    | refine Nx.zq ?_ | refine Nx.zu (fun hc => ?_) (fun hc => ?_)
    | refine Nx.zx ?_ | fail
  rename_i b2
  revert bx; intro b3
  refine Nx.p_loop (σ := Nat) (fun i => [(13, .slice B v.length cv), (14, .int .i64 v.length), (15, .int .i64 (i : Int)), (5, .int .i64 (prod ((szs v).take i)))])
    (fun _ => [F]) (fun i => i ≤ v.length) (fun i => v.length - i) 0 rfl (Nat.zero_le _) ⟨rfl, rfl, rfl, rfl, trivial⟩ (by (exact Ent.auto)) ?_
  intro i hi
  have hi : i ≤ v.length := hi
  have hb := hss.bound (k := i) (by omega)
  by_cases hiv : i < v.length
  case neg =>
    have hie : i = (szs v).length := by omega
    rw [hie, List.take_length] at hb ⊢
    repeat' first
      | ((with_reducible refine Nx.is_wp ?_); first | refine Nx.wo ?_ | refine Nx.zp (fun hc => ?_) (fun hc => ?_))
      | (refine Nx.zo ?_; first | refine Nx.opr rfl rfl ?_ | refine Nx.so ?_ | refine Nx.sb (fun bx => ?_) | refine Nx.sa (fun A2 c2 => ?_))
      | refine Nx.za ?_ | refine Nx.zr (fun hc => ?_) (fun hc => ?_)
      | refine Nx.zq ?_ | refine Nx.zu (fun hc => ?_) (fun hc => ?_)
      | refine Nx.zx ?_ | fail
    exact Nx.ret_fn rfl [] ⟨rfl, rfl⟩ (by (exact Ent.auto))
  have hrow := hv.at hiv
  have hgrp := hw.grouped (k := i) (by omega)
  have hea := (hw.each i (by omega)).1
  have hsat := szs_at v i hiv
  have hps := prod_succ (szs v) i (by omega)
  have hb2 := hss.bound (k := i + 1) (by omega)
  have hlat := hs.at (k := i) (by omega)
  rw [hsat] at hps
  have hrd : ∀ (W : World) (R : List Res), Rd W I R ((ad B).add (i * 1)) (rowV (v.getD i default)) := fun W R => hv.outer.rd hiv
  generalize v.getD i default = rw' at hrow hgrp hea hrd hps
  obtain ⟨G, cg, g⟩ := rw'
  dsimp only at hrow hgrp hea hps
  replace hrd : ∀ (W : World) (R : List Res), Rd W I R ((ad B).add (i * 1)) (.slice G g.length cg) := hrd
  have hG := Groups_spec G cg g I hrow hgrp (by omega)
  generalize 1 + maxL g (g.length - 1) = y at hG hps
  rw [hps] at hb2
  repeat' first
    | ((with_reducible refine Nx.is_wp ?_); first | refine Nx.wo ?_ | refine Nx.zp (fun hc => ?_) (fun hc => ?_))
    | (refine Nx.zo ?_; first | refine Nx.opr rfl rfl ?_ | refine Nx.indexAddr_nat (A := B) (i := i) (sz := 1) rfl rfl rfl rfl rfl (by omega) (hv.outer.isSome (by omega)) ?_ | refine Nx.load rfl rfl rfl (hrd _ _) ?_ | refine Nx.callv rfl rfl rfl (by kernel_rfl) rfl hG ?_ | refine Nx.so ?_ | refine Nx.sb (fun bx => ?_) | refine Nx.sa (fun A2 c2 => ?_))
    | refine Nx.za ?_ | refine Nx.zr (fun hc => ?_) (fun hc => ?_)
    | refine Nx.zq ?_ | refine Nx.zu (fun hc => ?_) (fun hc => ?_)
    | refine Nx.zx ?_ | fail
  exact Nx.again (i + 1) hiv (by omega) ⟨rfl, rfl, rfl, by rw [hps]; rfl, trivial⟩ (by (exact Ent.auto))
set_option maxRecDepth 10000 in
set_option maxHeartbeats 4000000 in
theorem RMembers_spec (A B : Option Addr) (c cv : Nat) (l : List Int) (v : List Row) (k : Int) (I : PH) (hl : Ints I A c l) (hs : Sizes l) (hv : RowsOf I B cv v) (hw : Viewed l v) (hk : 0 ≤ k ∧ k < prod (szs v)) :
    FnSpec Tryd.prog 41 [.agg #[.slice A l.length c], .agg #[.slice B v.length cv], .int .i64 k] I [] (fun u R' => ∃ A' c', u = .tuple #[.slice A' (memK l v k (prod l).toNat).length c', .int .i64 0] ∧ R' = [Vec 3 1 A' (memK l v k (prod l).toNat).length c' ((memK l v k (prod l).toNat).map (Value.int .i64))]) := by
  have hpr := hs.bound (k := l.length) (Nat.le_refl _)
  rw [List.take_length] at hpr
  refine FnSpec.enterP Tryd.func41 rfl Tryd.ntmps41 rfl fun w F => ?_
  repeat' first
    | ((with_reducible refine Nx.is_wp ?_); first | refine Nx.wo ?_ | refine Nx.zp (fun hc => ?_) (fun hc => ?_))
    | (refine Nx.zo ?_; first | refine Nx.opr rfl rfl ?_ | refine Nx.callv rfl rfl rfl (by kernel_rfl) rfl (RView_spec _ _ _ _ _ _ _ hl hs hv hw) ?_ | refine Nx.callv rfl rfl rfl (by kernel_rfl) rfl (RPublished_spec _ _ _ _ _ _ _ hl hs hv hw) ?_ | refine Nx.so ?_ | refine Nx.sb (fun bx => ?_) | refine Nx.sa (fun A2 c2 => ?_))
    | refine Nx.za ?_ | refine Nx.zr (fun hc => ?_) (fun hc => ?_)
    | refine Nx.zq ?_ | refine Nx.zu (fun hc => ?_) (fun hc => ?_)
    | refine Nx.zx ?_ | fail
  rename_i b2
  revert bx; intro b3
  refine Nx.p_loop (σ := Nat × Option Addr × Nat) (fun s => [(2, .int .i64 k), (3, .pointer (some ⟨b2, 0, none⟩)), (4, .pointer (some ⟨b3, 0, none⟩)), (9, .slice s.2.1 (memK l v k s.1).length s.2.2), (10, .int .i64 (s.1 : Int))])
    (fun s => [Vec 3 1 s.2.1 (memK l v k s.1).length s.2.2 ((memK l v k s.1).map (Value.int .i64)), Blk b3 31 [.slice B v.length cv], Blk b2 27 [.slice A l.length c], F]) (fun s => s.1 ≤ (prod l).toNat) (fun s => (prod l).toNat - s.1) (0, none, 0) rfl (Nat.zero_le _) ⟨rfl, rfl, rfl, rfl, rfl, trivial⟩ ((Ent.vec_nil _ _ _).trans (by (exact Ent.auto))) ?_
  rintro ⟨n, A', c'⟩ hn
  have hn : n ≤ (prod l).toNat := hn
  dsimp only
  have hmk := memK_len l v k n
  have hms := memK_succ l v k n
  by_cases hlt : n < (prod l).toNat
  case neg =>
    obtain rfl : n = (prod l).toNat := by omega
    repeat' first
      | ((with_reducible refine Nx.is_wp ?_); first | refine Nx.wo ?_ | refine Nx.zp (fun hc => ?_) (fun hc => ?_))
      | (refine Nx.zo ?_; first | refine Nx.opr rfl rfl ?_ | refine Nx.callv rfl rfl rfl (by kernel_rfl) rfl (RCount_spec _ _ _ _ hl hs) ?_ | refine Nx.so ?_ | refine Nx.sb (fun bx => ?_) | refine Nx.sa (fun A2 c2 => ?_))
      | refine Nx.za ?_ | refine Nx.zr (fun hc => ?_) (fun hc => ?_)
      | refine Nx.zq ?_ | refine Nx.zu (fun hc => ?_) (fun hc => ?_)
      | refine Nx.zx ?_ | fail
    exact Nx.ret_fn rfl [_] ⟨A', c', rfl, rfl⟩ (by (exact Ent.auto))
  have hO := Of_spec A B c cv l v n I hl hs hv hw (by omega)
  by_cases he : pubOf l v n = k
  · rw [if_pos he] at hms
    have hl2 : (memK l v k n).length + 1 = (memK l v k (n + 1)).length := by rw [hms]; simp
    repeat' first
      | ((with_reducible refine Nx.is_wp ?_); first | refine Nx.wo ?_ | refine Nx.zp (fun hc => ?_) (fun hc => ?_))
      | (refine Nx.zo ?_; first | refine Nx.opr rfl rfl ?_ | refine Nx.callv rfl rfl rfl (by kernel_rfl) rfl (RCount_spec _ _ _ _ hl hs) ?_ | refine Nx.callv rfl rfl rfl (by kernel_rfl) rfl hO ?_ | refine Nx.so ?_ | refine Nx.sb (fun bx => ?_) | refine Nx.sa (fun A2 c2 => ?_))
      | refine Nx.za ?_ | refine Nx.zr (fun hc => ?_) (fun hc => ?_)
      | refine Nx.zq ?_ | refine Nx.zu (fun hc => ?_) (fun hc => ?_)
      | refine Nx.zx ?_ | fail
    exact Nx.again (n + 1, A2, c2) hlt (by dsimp only; omega) ⟨rfl, rfl, rfl, by dsimp only; rw [← hl2]; rfl, rfl, trivial⟩ (by dsimp only; rw [← hl2, hms, List.map_append]; (exact Ent.auto))
  · rw [if_neg he, List.append_nil] at hms
    repeat' first
      | ((with_reducible refine Nx.is_wp ?_); first | refine Nx.wo ?_ | refine Nx.zp (fun hc => ?_) (fun hc => ?_))
      | (refine Nx.zo ?_; first | refine Nx.opr rfl rfl ?_ | refine Nx.callv rfl rfl rfl (by kernel_rfl) rfl (RCount_spec _ _ _ _ hl hs) ?_ | refine Nx.callv rfl rfl rfl (by kernel_rfl) rfl hO ?_ | refine Nx.so ?_ | refine Nx.sb (fun bx => ?_) | refine Nx.sa (fun A2 c2 => ?_))
      | refine Nx.za ?_ | refine Nx.zr (fun hc => ?_) (fun hc => ?_)
      | refine Nx.zq ?_ | refine Nx.zu (fun hc => ?_) (fun hc => ?_)
      | refine Nx.zx ?_ | fail
    exact Nx.again (n + 1, A', c') hlt (by dsimp only; omega) ⟨rfl, rfl, rfl, by dsimp only; rw [hms]; rfl, rfl, trivial⟩ (by dsimp only; rw [hms]; (exact Ent.auto))
set_option maxRecDepth 10000 in
set_option maxHeartbeats 4000000 in
theorem RPublish_spec (A B T : Option Addr) (c cv ct : Nat) (l t : List Int) (v : List Row) (I : PH) (hl : Ints I A c l) (hs : Sizes l) (hv : RowsOf I B cv v) (hw : Viewed l v) (ht : Ints I T ct t) (hT : Table l t) :
    FnSpec Tryd.prog 42 [.agg #[.slice A l.length c], .agg #[.slice B v.length cv], .slice T t.length ct] I [] (fun u R' => ∃ A', u = .tuple #[.slice A' (prod (szs v)).toNat (prod (szs v)).toNat, .int .i64 0] ∧
      R' = [Vec 3 1 A' (prod (szs v)).toNat (prod (szs v)).toNat ((sums (pubOf l v) t (prod (szs v)).toNat t.length).map (Value.int .i64))]) := by
  have hpr := hs.bound (k := l.length) (Nat.le_refl _)
  rw [List.take_length] at hpr
  have hzb := (hw.sizes hs).bound (k := (szs v).length) (Nat.le_refl _)
  rw [List.take_length] at hzb
  have htl := hT.len
  have htn := ht.len
  have hP := RPublished_spec A B c cv l v I hl hs hv hw
  rw [show prod (szs v) = (((prod (szs v)).toNat : Nat) : Int) by omega] at hP
  refine FnSpec.enterP Tryd.func42 rfl Tryd.ntmps42 rfl fun w F => ?_
  repeat' first
    | ((with_reducible refine Nx.is_wp ?_); first | refine Nx.wo ?_ | refine Nx.zp (fun hc => ?_) (fun hc => ?_))
    | (refine Nx.zo ?_; first | refine Nx.opr rfl rfl ?_ | refine Nx.callv rfl rfl rfl (by kernel_rfl) rfl (RView_spec _ _ _ _ _ _ _ hl hs hv hw) ?_ | refine Nx.callv rfl rfl rfl (by kernel_rfl) rfl (RCount_spec _ _ _ _ hl hs) ?_ | refine Nx.so ?_ | refine Nx.sb (fun bx => ?_) | refine Nx.sa (fun A2 c2 => ?_))
    | refine Nx.za ?_ | refine Nx.zr (fun hc => ?_) (fun hc => ?_)
    | refine Nx.zq ?_ | refine Nx.zu (fun hc => ?_) (fun hc => ?_)
    | refine Nx.zx ?_ | fail
  rename_i b2
  revert bx; intro b3
  refine Nx.p_loop (σ := Nat) (fun s => [(2, .slice T t.length ct), (3, .pointer (some ⟨b2, 0, none⟩)), (4, .pointer (some ⟨b3, 0, none⟩)), (25, .slice T t.length ct), (26, .int .i64 t.length), (27, .int .i64 (s : Int))])
    (fun _ => [Blk b3 31 [.slice B v.length cv], Blk b2 27 [.slice A l.length c], F]) (fun s => s ≤ t.length) (fun s => t.length - s) 0 rfl (Nat.zero_le _) ⟨rfl, rfl, rfl, rfl, rfl, rfl, trivial⟩ (by (exact Ent.auto)) ?_
  intro n hn
  have hn : n ≤ t.length := hn
  by_cases hlt : n < t.length
  · have htn := hT.each n hlt
    have htr : ∀ (W : World) (R : List Res), Rd W I R ((ad T).add (n * 1)) (.int .i64 (t.getD n default)) := fun W R => ht.rd hlt
    generalize t.getD n default = y at htn htr
    repeat' first
      | ((with_reducible refine Nx.is_wp ?_); first | refine Nx.wo ?_ | refine Nx.zp (fun hc => ?_) (fun hc => ?_))
      | (refine Nx.zo ?_; first | refine Nx.opr rfl rfl ?_ | refine Nx.indexAddr_nat (A := T) (i := n) (sz := 1) rfl rfl rfl rfl rfl (by omega) (ht.isSome (by omega)) ?_ | refine Nx.load rfl rfl rfl (htr _ _) ?_ | refine Nx.so ?_ | refine Nx.sb (fun bx => ?_) | refine Nx.sa (fun A2 c2 => ?_))
      | refine Nx.za ?_ | refine Nx.zr (fun hc => ?_) (fun hc => ?_)
      | refine Nx.zq ?_ | refine Nx.zu (fun hc => ?_) (fun hc => ?_)
      | refine Nx.zx ?_ | fail
    exact Nx.again (n + 1) hlt (by omega) ⟨rfl, rfl, rfl, rfl, rfl, rfl, trivial⟩ (by (exact Ent.auto))
  obtain rfl : n = t.length := by omega
  generalize hPn : (prod (szs v)).toNat = P at hzb hP ⊢
  have hP48 : P ≤ 4096 := by omega
  repeat' first
    | ((with_reducible refine Nx.is_wp ?_); first | refine Nx.wo ?_ | refine Nx.zp (fun hc => ?_) (fun hc => ?_))
    | (refine Nx.zo ?_; first | refine Nx.opr rfl rfl ?_ | refine Nx.callv rfl rfl rfl (by kernel_rfl) rfl hP ?_ | refine Nx.makeInts rfl rfl rfl rfl rfl rfl rfl rfl (by omega) (fun bx => ?_) | refine Nx.so ?_ | refine Nx.sb (fun bx => ?_) | refine Nx.sa (fun A2 c2 => ?_))
    | refine Nx.za ?_ | refine Nx.zr (fun hc => ?_) (fun hc => ?_)
    | refine Nx.zq ?_ | refine Nx.zu (fun hc => ?_) (fun hc => ?_)
    | refine Nx.zx ?_ | fail
  revert bx; intro b11
  refine Nx.p_loop (σ := Nat) (fun s => [(2, .slice T t.length ct), (3, .pointer (some ⟨b2, 0, none⟩)), (4, .pointer (some ⟨b3, 0, none⟩)), (11, .slice (some ⟨b11, 0, none⟩) P P), (43, .int .i64 t.length), (44, .int .i64 (s : Int))])
    (fun s => [Vec 3 1 (some ⟨b11, 0, none⟩) P P ((sums (pubOf l v) t P s).map (Value.int .i64)), Blk b3 31 [.slice B v.length cv], Blk b2 27 [.slice A l.length c], F]) (fun s => s ≤ t.length) (fun s => t.length - s) 0 rfl (Nat.zero_le _) ⟨rfl, rfl, rfl, rfl, rfl, rfl, trivial⟩ (by rw [sums_zero]; (exact Ent.auto)) ?_
  intro n hn
  have hn : n ≤ t.length := hn
  by_cases hlt : n < t.length
  case neg =>
    obtain rfl : n = t.length := by omega
    repeat' first
      | ((with_reducible refine Nx.is_wp ?_); first | refine Nx.wo ?_ | refine Nx.zp (fun hc => ?_) (fun hc => ?_))
      | (refine Nx.zo ?_; first | refine Nx.opr rfl rfl ?_ | refine Nx.so ?_ | refine Nx.sb (fun bx => ?_) | refine Nx.sa (fun A2 c2 => ?_))
      | refine Nx.za ?_ | refine Nx.zr (fun hc => ?_) (fun hc => ?_)
      | refine Nx.zq ?_ | refine Nx.zu (fun hc => ?_) (fun hc => ?_)
      | refine Nx.zx ?_ | fail
    exact Nx.ret_fn rfl [_] ⟨_, rfl, rfl⟩ (by (exact Ent.auto))
  have hO := Of_spec A B c cv l v n I hl hs hv hw (by omega)
  have hpb := pub_bd hs hw n
  have hsl := sums_len (pubOf l v) t P n
  by_cases hq0 : 0 ≤ pubOf l v n
  case neg =>
    have hsk := sums_skip (t := t) (P := P) (show pubOf l v n = -1 by omega)
    generalize pubOf l v n = y at hO hpb hq0
    repeat' first
      | ((with_reducible refine Nx.is_wp ?_); first | refine Nx.wo ?_ | refine Nx.zp (fun hc => ?_) (fun hc => ?_))
      | (refine Nx.zo ?_; first | refine Nx.opr rfl rfl ?_ | refine Nx.callv rfl rfl rfl (by kernel_rfl) rfl hO ?_ | refine Nx.so ?_ | refine Nx.sb (fun bx => ?_) | refine Nx.sa (fun A2 c2 => ?_))
      | refine Nx.za ?_ | refine Nx.zr (fun hc => ?_) (fun hc => ?_)
      | refine Nx.zq ?_ | refine Nx.zu (fun hc => ?_) (fun hc => ?_)
      | refine Nx.zx ?_ | fail
    exact Nx.again (n + 1) hlt (by omega) ⟨rfl, rfl, rfl, rfl, rfl, rfl, trivial⟩ (by rw [hsk]; (exact Ent.auto))
  obtain ⟨q, hq⟩ : ∃ q : Nat, pubOf l v n = q := ⟨(pubOf l v n).toNat, by omega⟩
  have hqP : q < P := by omega
  have hsq := sumAt_bd (p := pubOf l v) (k := (q : Int)) hT.each n (by omega)
  have hsa := sums_at (pubOf l v) t P n q hqP
  have hset := sums_set (t := t) (P := P) hq.symm
  have htn := hT.each n hlt
  have htr : ∀ (W : World) (R : List Res), Rd W I R ((ad T).add (n * 1)) (.int .i64 (t.getD n default)) := fun W R => ht.rd hlt
  rw [hq] at hO
  rw [← hsa] at hsq
  generalize t.getD n default = y at htn htr hset
  generalize sums (pubOf l v) t P n = sm at hsl hsq hset
  repeat' first
    | ((with_reducible refine Nx.is_wp ?_); first | refine Nx.wo ?_ | refine Nx.p_drawF (id := 18) rfl [0, 1, 2, 3, 4, 5, 6, 7, 8, 9] [] [10] _ rfl rfl (by kernel_rfl) (by kernel_rfl) rfl PanicOk.auto (Ent.refl _) ?_ | refine Nx.zp (fun hc => ?_) (fun hc => ?_))
    | (refine Nx.zo ?_; first | refine Nx.opr rfl rfl ?_ | refine Nx.callv rfl rfl rfl (by kernel_rfl) rfl hO ?_ | refine Nx.store_of 0 (Value.int .i64) rfl rfl rfl rfl rfl rfl (by omega) ?_ | refine Nx.so ?_ | refine Nx.sb (fun bx => ?_) | refine Nx.sa (fun A2 c2 => ?_))
    | refine Nx.za ?_ | refine Nx.zr (fun hc => ?_) (fun hc => ?_)
    | ((with_reducible refine Nx.is_mix ?_); first | refine Nx.m_quiet rfl rfl rfl rfl rfl (by first | exact QRun.opr rfl | exact QRun.idx (A := some ⟨b11, 0, none⟩) (i := q) (sz := 1) rfl rfl rfl rfl (by omega) rfl | exact QRun.idx (A := T) (i := n) (sz := 1) rfl rfl rfl rfl (by omega) (ht.isSome (by omega)) | exact QRun.load rfl rfl (htr _ _) | exact QRun.load rfl rfl (Rd.vecEl 0 (f := Value.int .i64) (l := sm) (i := q) rfl (by omega))) ?_ | refine Nx.m_quiet_do rfl rfl rfl rfl rfl rfl rfl (by first | exact QRun.opr rfl | exact QRun.idx (A := some ⟨b11, 0, none⟩) (i := q) (sz := 1) rfl rfl rfl rfl (by omega) rfl | exact QRun.idx (A := T) (i := n) (sz := 1) rfl rfl rfl rfl (by omega) (ht.isSome (by omega)) | exact QRun.load rfl rfl (htr _ _) | exact QRun.load rfl rfl (Rd.vecEl 0 (f := Value.int .i64) (l := sm) (i := q) rfl (by omega))) ?_ | refine Nx.m ?_ | refine Nx.zm ?_ | refine Nx.zt (fun hc => ?_) (fun hc => ?_))
    | refine Nx.zx ?_ | fail
  exact Nx.again (n + 1) hlt (by omega) ⟨rfl, rfl, rfl, rfl, rfl, rfl, trivial⟩ (by rw [← hset]; (exact Ent.auto))
end Go.Proofs.YtpmlehplbobjmaaDoor
