/-
  Plain: the solutions of equations found cell by cell in the order of the cells, with what is left of each equation.
-/
import Derived.Test.YthncphjakklnoaaIa8
namespace Go.Sol
/-- The least value of the equations in which a cell is, plus 1; 0 if it is in none. -/
def roomR (L : List Eqn) (c : Nat) : Int := L.foldl (fun a q => if c ∈ q.1 then (if a = 0 ∨ q.2 + 1 < a then q.2 + 1 else a) else a) 0
theorem roomR_snoc (L : List Eqn) (q : Eqn) (c : Nat) : roomR (L ++ [q]) c = if c ∈ q.1 then (if roomR L c = 0 ∨ q.2 + 1 < roomR L c then q.2 + 1 else roomR L c) else roomR L c := by
  unfold roomR; rw [List.foldl_append]; rfl
theorem snoc_ind {α : Type} {p : List α → Prop} (h0 : p []) (h1 : ∀ l x, p l → p (l ++ [x])) : ∀ l, p l := fun l => by
  rw [← List.reverse_reverse l]
  induction l.reverse with
  | nil => exact h0
  | cons x r ih => rw [List.reverse_cons]; exact h1 _ _ ih
theorem roomR_facts {c : Nat} : ∀ (L : List Eqn), (∀ q ∈ L, 0 ≤ q.2) → 0 ≤ roomR L c ∧ (roomR L c = 0 ↔ ∀ q ∈ L, c ∉ q.1) ∧ (roomR L c ≠ 0 → ∀ v, v ≤ roomR L c - 1 ↔ ∀ q ∈ L, c ∈ q.1 → v ≤ q.2) := by
  refine snoc_ind ?_ ?_
  · intro _
    exact ⟨Int.le_refl _, ⟨fun _ q hq => (nomatch hq), fun _ => rfl⟩, fun h => absurd rfl h⟩
  · intro L q ih hv
    obtain ⟨h1, h2, h3⟩ := ih fun p hp => hv p (by simp [hp])
    have hq := hv q (by simp)
    rw [roomR_snoc]
    by_cases hc : c ∈ q.1
    · rw [if_pos hc]
      by_cases h0 : roomR L c = 0
      · rw [if_pos (.inl h0)]
        refine ⟨by omega, ⟨fun h => by omega, fun h => absurd hc (h q (by simp))⟩, fun _ v => ⟨fun h p hp hcp => ?_, fun h => by have := h q (by simp) hc; omega⟩⟩
        rcases List.mem_append.1 hp with hp | hp
        · exact absurd hcp ((h2.1 h0) p hp)
        · rw [List.mem_singleton] at hp; subst hp; omega
      · have h3 := h3 h0
        by_cases hlt : q.2 + 1 < roomR L c
        · rw [if_pos (.inr hlt)]
          refine ⟨by omega, ⟨fun h => by omega, fun h => absurd hc (h q (by simp))⟩, fun _ v => ⟨fun h p hp hcp => ?_, fun h => by have := h q (by simp) hc; omega⟩⟩
          rcases List.mem_append.1 hp with hp | hp
          · exact (h3 v).1 (by omega) p hp hcp
          · rw [List.mem_singleton] at hp; subst hp; omega
        · rw [if_neg (by omega)]
          refine ⟨h1, ⟨fun h => absurd h h0, fun h => absurd hc (h q (by simp))⟩, fun _ v => ⟨fun h p hp hcp => ?_, fun h => (h3 v).2 fun p hp hcp => h p (by simp [hp]) hcp⟩⟩
          rcases List.mem_append.1 hp with hp | hp
          · exact (h3 v).1 h p hp hcp
          · rw [List.mem_singleton] at hp; subst hp; omega
    · rw [if_neg hc]
      refine ⟨h1, ⟨fun h p hp => ?_, fun h => h2.2 fun p hp => h p (by simp [hp])⟩, fun h0 v => ⟨fun h p hp hcp => ?_, fun h => (h3 h0 v).2 fun p hp hcp => h p (by simp [hp]) hcp⟩⟩
      · rcases List.mem_append.1 hp with hp | hp
        · exact h2.1 h p hp
        · rw [List.mem_singleton] at hp; subst hp; exact hc
      · rcases List.mem_append.1 hp with hp | hp
        · exact (h3 h0 v).1 h p hp hcp
        · rw [List.mem_singleton] at hp; subst hp; exact absurd hcp hc
/-- How far a cell can go, where so much is left of each equation. -/
def gtF (t : List Int) (c : Nat) (a : Int) (L : List Eqn) : Int := L.foldl (fun a q => if c ∈ q.1 then min a (restQ t q) else a) a
theorem gtF_snoc (t : List Int) (c : Nat) (a : Int) (L : List Eqn) (q : Eqn) : gtF t c a (L ++ [q]) = if c ∈ q.1 then min (gtF t c a L) (restQ t q) else gtF t c a L := by
  unfold gtF; rw [List.foldl_append]; rfl
theorem le_gtF {t : List Int} {c : Nat} {a v : Int} : ∀ (L : List Eqn), v ≤ gtF t c a L ↔ v ≤ a ∧ ∀ q ∈ L, c ∈ q.1 → v ≤ restQ t q := by
  refine snoc_ind ?_ ?_
  · exact ⟨fun h => ⟨h, fun q hq => (nomatch hq)⟩, fun h => h.1⟩
  · intro L q ih
    rw [gtF_snoc]
    by_cases hc : c ∈ q.1
    · rw [if_pos hc, Int.le_min, ih]
      refine ⟨fun h => ⟨h.1.1, fun p hp hcp => ?_⟩, fun h => ⟨⟨h.1, fun p hp => h.2 p (by simp [hp])⟩, h.2 q (by simp) hc⟩⟩
      rcases List.mem_append.1 hp with hp | hp
      · exact h.1.2 p hp hcp
      · rw [List.mem_singleton] at hp; subst hp; exact h.2
    · rw [if_neg hc, ih]
      refine ⟨fun h => ⟨h.1, fun p hp hcp => ?_⟩, fun h => ⟨h.1, fun p hp => h.2 p (by simp [hp])⟩⟩
      rcases List.mem_append.1 hp with hp | hp
      · exact h.2 p hp hcp
      · rw [List.mem_singleton] at hp; subst hp; exact absurd hcp hc
def topF (L : List Eqn) (t : List Int) : Int := gtF t t.length (max 0 (roomR L t.length - 1)) L
/-- Whether the equations whose last cell has just got its number are right. -/
def fitB (L : List Eqn) (t : List Int) : Bool := L.all fun q => !decide (q.1.getLast? = some (t.length - 1)) || decide (restQ t q = 0)
def rs (L : List Eqn) : Nat → List Int → List (List Int)
  | 0, t => if L.all (fun q => decide (restQ t q = 0)) then [t] else []
  | k + 1, t => (List.range (topF L t + 1).toNat).flatMap fun (n : Nat) => if fitB L (t ++ [(n : Int)]) then rs L k (t ++ [(n : Int)]) else []
/-- Equations over cells below N, ascending. -/
structure Asc (N : Nat) (L : List Eqn) : Prop where
  asc : ∀ q ∈ L, q.1.Pairwise (· < ·)
  lt : ∀ q ∈ L, ∀ c ∈ q.1, c < N
  val : ∀ q ∈ L, 0 ≤ q.2
theorem Asc.once {N : Nat} {L : List Eqn} (h : Asc N L) : Once L := fun q hq => (h.asc q hq).imp fun h => Nat.ne_of_lt h
theorem getD_app_lt {t r : List Int} {c : Nat} (h : c < t.length) : (t ++ r).getD c 0 = t.getD c 0 := by
  rw [List.getD_eq_getElem?_getD, List.getD_eq_getElem?_getD, List.getElem?_append_left h]
theorem getD_ge {t : List Int} {c : Nat} (h : t.length ≤ c) : t.getD c 0 = 0 := by
  rw [List.getD_eq_getElem?_getD, List.getElem?_eq_none h]; rfl
theorem getD_app_at {t : List Int} {v : Int} : (t ++ [v]).getD t.length 0 = v := by
  rw [List.getD_eq_getElem?_getD, List.getElem?_append_right (Nat.le_refl _), Nat.sub_self]; rfl
theorem last_le : ∀ {cs : List Nat} {m : Nat}, cs.Pairwise (· < ·) → cs.getLast? = some m → ∀ c ∈ cs, c ≤ m
  | [], _, _, h => by cases h
  | [x], m, _, h => by
    have h : some x = some m := h
    injection h with h
    intro c hc; rw [List.mem_singleton] at hc; omega
  | x :: y :: r, m, hp, h => by
    rw [List.getLast?_cons_cons] at h
    rw [List.pairwise_cons] at hp
    have ih := last_le hp.2 h
    intro c hc
    rcases List.mem_cons.1 hc with rfl | hc
    · have := hp.1 y (by simp); have := ih y (by simp); omega
    · exact ih c hc
/-- A table that goes on from a shorter one. -/
structure From (L : List Eqn) (k : Nat) (t s : List Int) : Prop where
  len : s.length = t.length + k
  pre : s.take t.length = t
  pos : ∀ c, t.length ≤ c → 0 ≤ s.getD c 0 ∧ ((∀ q ∈ L, c ∉ q.1) → s.getD c 0 = 0)
  sum : ∀ q ∈ L, sumC s q.1 = q.2
theorem pre_at {s t : List Int} (h : s.take t.length = t) {c : Nat} (hc : c < t.length) : s.getD c 0 = t.getD c 0 := by
  rw [← h, List.length_take] at hc
  rw [← h, List.getD_eq_getElem?_getD, List.getD_eq_getElem?_getD, List.getElem?_take, if_pos (by omega)]
theorem pre_snoc {s t : List Int} (h : s.take t.length = t) (hl : t.length < s.length) : s.take (t.length + 1) = t ++ [s.getD t.length 0] := by
  rw [List.take_succ_eq_append_getElem hl, h, List.getD_eq_getElem?_getD, List.getElem?_eq_getElem hl]; rfl
theorem mem_rs {N : Nat} {L : List Eqn} (ha : Asc N L) : ∀ {k : Nat} {t s : List Int}, t.length + k = N → (∀ c, 0 ≤ t.getD c 0) → (s ∈ rs L k t ↔ From L k t s)
  | 0, t, s, hN, h0 => by
    rw [rs]
    constructor
    · intro h
      by_cases hall : L.all (fun q => decide (restQ t q = 0)) = true
      · rw [if_pos hall, List.mem_singleton] at h
        subst h
        refine ⟨rfl, List.take_length, fun c hc => by rw [getD_ge hc]; exact ⟨Int.le_refl _, fun _ => rfl⟩, fun q hq => ?_⟩
        have := of_decide_eq_true (List.all_eq_true.1 hall q hq)
        unfold restQ at this
        omega
      · rw [if_neg hall] at h; cases h
    · intro h
      have hst : s = t := by
        have := h.pre
        rwa [← Nat.add_zero t.length, ← h.len, List.take_length] at this
      subst hst
      rw [if_pos (List.all_eq_true.2 fun q hq => decide_eq_true (by have := h.sum q hq; unfold restQ; omega))]
      exact List.mem_singleton.2 rfl
  | k + 1, t, s, hN, h0 => by
    rw [rs, List.mem_flatMap]
    constructor
    · rintro ⟨n, hn, hs⟩
      rw [List.mem_range] at hn
      by_cases hf : fitB L (t ++ [(n : Int)]) = true
      · rw [if_pos hf] at hs
        have hl1 : (t ++ [(n : Int)]).length = t.length + 1 := by simp
        have h0' : ∀ c, 0 ≤ (t ++ [(n : Int)]).getD c 0 := fun c => by
          rcases Nat.lt_trichotomy c t.length with h | h | h
          · rw [getD_app_lt h]; exact h0 c
          · subst h; rw [getD_app_at]; omega
          · rw [getD_ge (by rw [hl1]; omega)]; exact Int.le_refl _
        have g := (mem_rs ha (by rw [hl1]; omega) h0').1 hs
        have hat : s.getD t.length 0 = n := by
          rw [pre_at g.pre (by rw [hl1]; omega), getD_app_at]
        refine ⟨by rw [g.len, hl1]; omega, ?_, fun c hc => ?_, g.sum⟩
        · have := congrArg (List.take t.length) g.pre
          rwa [List.take_take, hl1, Nat.min_eq_left (by omega), List.take_left' rfl] at this
        · rcases Nat.lt_or_ge t.length c with h | h
          · exact g.pos c (by rw [hl1]; omega)
          · obtain rfl : c = t.length := by omega
            rw [hat]
            refine ⟨by omega, fun hno => ?_⟩
            have hle := (le_gtF L).1 (show (n : Int) ≤ gtF t t.length (max 0 (roomR L t.length - 1)) L by unfold topF at hn; omega)
            have hr := (roomR_facts (c := t.length) L ha.val).2.1.2 hno
            have := hle.1
            omega
      · rw [if_neg hf] at hs; cases hs
    · intro g
      have hlt : t.length < s.length := by rw [g.len]; omega
      have hp := g.pos t.length (Nat.le_refl _)
      have hnn : ∀ c, 0 ≤ s.getD c 0 := fun c => by
        rcases Nat.lt_or_ge c t.length with h | h
        · rw [pre_at g.pre h]; exact h0 c
        · exact (g.pos c h).1
      have htn : ((s.getD t.length 0).toNat : Int) = s.getD t.length 0 := by omega
      refine ⟨(s.getD t.length 0).toNat, List.mem_range.2 ?_, ?_⟩
      · have : s.getD t.length 0 ≤ topF L t := by
          unfold topF
          refine (le_gtF L).2 ⟨?_, fun q hq hc => ?_⟩
          · obtain ⟨r1, r2, r3⟩ := roomR_facts (c := t.length) L ha.val
            by_cases hr : roomR L t.length = 0
            · have := hp.2 (r2.1 hr); omega
            · have := (r3 hr (s.getD t.length 0)).2 fun q hq hc => by
                have := le_sumC (s := s) (c := t.length) (cs := q.1) (fun d _ => hnn d) hc
                have := g.sum q hq
                omega
              omega
          · have h1 : sumC s q.1 = sumC t q.1 + sumC s (q.1.filter fun c => decide (t.length ≤ c)) := by
              have : ∀ cs : List Nat, sumC s cs = sumC t cs + sumC s (cs.filter fun c => decide (t.length ≤ c)) := by
                intro cs
                induction cs with
                | nil => rfl
                | cons d r ih =>
                  rw [sumC, sumC, ih]
                  rcases Nat.lt_or_ge d t.length with h | h
                  · rw [List.filter_cons_of_neg (by simpa using h), pre_at g.pre h]; omega
                  · rw [List.filter_cons_of_pos (by simpa using h), sumC, getD_ge h]; omega
              exact this _
            have h2 := le_sumC (s := s) (c := t.length) (cs := q.1.filter fun c => decide (t.length ≤ c)) (fun d _ => hnn d) (List.mem_filter.2 ⟨hc, by simp⟩)
            have h3 := g.sum q hq
            unfold restQ
            omega
        omega
      · rw [htn]
        have hl1 : (t ++ [s.getD t.length 0]).length = t.length + 1 := by simp
        have hpre := pre_snoc g.pre hlt
        rw [if_pos]
        · refine (mem_rs ha (by rw [hl1]; omega) (fun c => ?_)).2 ⟨by rw [g.len, hl1]; omega, by rw [hl1]; exact hpre, fun c hc => g.pos c (by rw [hl1] at hc; omega), g.sum⟩
          rcases Nat.lt_or_ge c (t.length + 1) with h | h
          · rw [← pre_at (s := s) (by rw [hl1]; exact hpre) (by rw [hl1]; exact h)]; exact hnn c
          · rw [getD_ge (by rw [hl1]; exact h)]; exact Int.le_refl _
        · refine List.all_eq_true.2 fun q hq => ?_
          rw [hl1, Nat.add_sub_cancel]
          by_cases hla : q.1.getLast? = some t.length
          · have hle := last_le (ha.asc q hq) hla
            have : sumC (t ++ [s.getD t.length 0]) q.1 = sumC s q.1 := sumC_congr fun c hc => (pre_at (s := s) (by rw [hl1]; exact hpre) (by rw [hl1]; have := hle c hc; omega)).symm
            rw [decide_eq_true hla, decide_eq_true (show restQ (t ++ [s.getD t.length 0]) q = 0 by unfold restQ; rw [this, g.sum q hq]; omega)]
            rfl
          · rw [decide_eq_false hla]; rfl
theorem rs_sorted {N : Nat} {L : List Eqn} (ha : Asc N L) : ∀ {k : Nat} {t : List Int}, t.length + k = N → (∀ c, 0 ≤ t.getD c 0) → (rs L k t).Pairwise (ltU false (List.range' t.length k))
  | 0, t, _, _ => by
    rw [rs]
    split
    · exact List.pairwise_singleton _ _
    · exact List.Pairwise.nil
  | k + 1, t, hN, h0 => by
    rw [rs]
    have hl1 : ∀ n : Nat, (t ++ [(n : Int)]).length = t.length + 1 := fun n => by simp
    have h0' : ∀ (n : Nat) c, 0 ≤ (t ++ [(n : Int)]).getD c 0 := fun n c => by
      rcases Nat.lt_trichotomy c t.length with h | h | h
      · rw [getD_app_lt h]; exact h0 c
      · subst h; rw [getD_app_at]; omega
      · rw [getD_ge (by rw [hl1]; omega)]; exact Int.le_refl _
    have hat : ∀ (n : Nat) s, s ∈ (if fitB L (t ++ [(n : Int)]) then rs L k (t ++ [(n : Int)]) else []) → s.getD t.length 0 = n := fun n s hs => by
      split at hs
      · have g := (mem_rs ha (by rw [hl1]; omega) (h0' n)).1 hs
        rw [pre_at g.pre (by rw [hl1]; omega), getD_app_at]
      · cases hs
    refine pairwise_flatMap (fun n _ => ?_) ?_
    · rw [List.range'_succ]
      split
      · have ih := rs_sorted ha (k := k) (t := t ++ [(n : Int)]) (by rw [hl1]; omega) (h0' n)
        rw [hl1] at ih
        rename_i hf
        refine List.Pairwise.imp_of_mem (fun {a b} hia hib hab => ?_) ih
        refine .inr ⟨?_, hab⟩
        rw [hat n a (by rw [if_pos hf]; exact hia), hat n b (by rw [if_pos hf]; exact hib)]
      · exact List.Pairwise.nil
    · refine List.Pairwise.imp (fun {x y} hxy a hia b hib => ?_) List.pairwise_lt_range
      rw [List.range'_succ]
      refine .inl ?_
      rw [if_neg (by decide), hat x a hia, hat y b hib]
      omega
/-- The product of the rooms of some cells. -/
def prodR (L : List Eqn) : List Nat → Int
  | [] => 1
  | c :: r => max 1 (roomR L c) * prodR L r
theorem prodR_pos (L : List Eqn) : ∀ cs, 1 ≤ prodR L cs
  | [] => Int.le_refl _
  | c :: r => by
    have h1 : (1 : Int) * 1 ≤ max 1 (roomR L c) * prodR L r := Int.mul_le_mul (by omega) (prodR_pos L r) (by omega) (by omega)
    rw [prodR]; omega
theorem flatMap_len_le {α β : Type} {f : α → List β} {m : Nat} : ∀ {l : List α}, (∀ x ∈ l, (f x).length ≤ m) → (l.flatMap f).length ≤ l.length * m
  | [], _ => by simp
  | x :: r, h => by
    rw [List.flatMap_cons, List.length_append, List.length_cons, Nat.succ_mul]
    have := flatMap_len_le (l := r) fun y hy => h y (by simp [hy])
    have := h x (by simp)
    omega
theorem rs_len {L : List Eqn} : ∀ (k : Nat) (t : List Int), ((rs L k t).length : Int) ≤ prodR L (List.range' t.length k)
  | 0, t => by
    rw [rs, List.range'_zero, prodR]
    split <;> simp
  | k + 1, t => by
    rw [rs, List.range'_succ, prodR]
    have hP := prodR_pos L (List.range' (t.length + 1) k)
    have h1 := flatMap_len_le (l := List.range (topF L t + 1).toNat) (f := fun (n : Nat) => if fitB L (t ++ [(n : Int)]) then rs L k (t ++ [(n : Int)]) else []) (m := (prodR L (List.range' (t.length + 1) k)).toNat) fun n _ => by
      split
      · have := rs_len (L := L) k (t ++ [(n : Int)])
        rw [show (t ++ [(n : Int)]).length = t.length + 1 by simp] at this
        omega
      · exact Nat.zero_le _
    rw [List.length_range] at h1
    have h2 : topF L t ≤ max 0 (roomR L t.length - 1) := by
      unfold topF
      exact ((le_gtF L).1 (Int.le_refl _)).1
    have h3 : ((topF L t + 1).toNat : Int) ≤ max 1 (roomR L t.length) := by omega
    have h4 : ((topF L t + 1).toNat : Int) * (prodR L (List.range' (t.length + 1) k)) ≤ max 1 (roomR L t.length) * prodR L (List.range' (t.length + 1) k) := Int.mul_le_mul_of_nonneg_right h3 (by omega)
    have h5 : (((topF L t + 1).toNat * (prodR L (List.range' (t.length + 1) k)).toNat : Nat) : Int) = ((topF L t + 1).toNat : Int) * (prodR L (List.range' (t.length + 1) k)) := by
      rw [Int.natCast_mul, Int.toNat_of_nonneg (a := prodR L _) (by omega)]
    omega
/-- Where two tables agree on the cells that are left out, their order is that of the others. -/
theorem ltU_filter {p : Nat → Bool} {a b : List Int} : ∀ {U : List Nat}, (∀ c ∈ U, p c = false → a.getD c 0 = b.getD c 0) → ltU false U a b → ltU false (U.filter p) a b
  | [], _, h => h
  | c :: U, hs, h => by
    cases hp : p c with
    | false =>
      rw [List.filter_cons_of_neg (by simp [hp])]
      have := hs c (by simp) hp
      rcases h with h | h
      · rw [if_neg (by decide)] at h; omega
      · exact ltU_filter (fun d hd => hs d (by simp [hd])) h.2
    | true =>
      rw [List.filter_cons_of_pos (by simp [hp])]
      rcases h with h | h
      · exact .inl h
      · exact .inr ⟨h.1, ltU_filter (fun d hd => hs d (by simp [hd])) h.2⟩
end Go.Sol
/- Contracts of functions of the given program, and lemmas about plain lists and numbers: what the laws of this seat lean on. -/
namespace Go.Proofs.Ythncphjakklnoaa
open Go.Eng Go.Sol
attribute [local irreducible] opK wpList Code.wp Exit.then Exit.inBlock fnPost bodyPost Nx Calls Oper.wp Rd Rds Wr Ent Stars Blk Again Vec FnSpec wpMix QRun Stop Upto wpAt
/-! The reference's test of equations -/
theorem all_dropQ {n : Int} {l : List EqR} {k : Nat} (hk : k < l.length) : (l.drop k).all (rightB n) = (rightB n (l.getD k default) && (l.drop (k + 1)).all (rightB n)) := by
  rw [List.drop_eq_getElem_cons hk, List.all_cons, List.getD_eq_getElem?_getD, List.getElem?_eq_getElem hk]; rfl
set_option maxRecDepth 10000 in
set_option maxHeartbeats 8000000 in
theorem RValid_spec (n : Int) (A : Option Addr) (c : Nat) (l : List EqR) (I : PH) (hl : Eqs I A c l) :
    FnSpec Try.prog 30 [.int .i64 n, .slice A l.length c] I [] (fun v R' => v = .bool (validB n l) ∧ R' = []) := by
  have hlen := hl.len
  unfold validB
  refine FnSpec.enterP Try.func30 rfl Try.ntmps30 rfl fun w F => ?_
  by_cases h1 : n < 1
  · rw [decide_eq_false (show ¬(1 ≤ n ∧ n ≤ 48) by omega), Bool.false_and, Bool.false_and]
    repeat' first
      | ((with_reducible refine Nx.is_wp ?_); first | refine Nx.wo ?_ | refine Nx.p_dec rfl rfl (fun hc => ?_) (fun hc => ?_) | refine Nx.p_bool rfl rfl (fun hc => ?_) (fun hc => ?_))
      | ((first | refine Nx.at_op rfl rfl ?_ | refine Nx.m_loud rfl rfl rfl ?_ | refine Nx.at_do rfl rfl rfl rfl ?_ | refine Nx.m_loud_do rfl rfl rfl rfl rfl ?_); first | refine Nx.opr rfl rfl ?_ | refine Nx.so ?_ | refine Nx.sb (fun bx => ?_) | refine Nx.sa (fun A2 c2 => ?_))
      | ((with_reducible refine Nx.is_at ?_); first | refine Nx.a ?_ | ((fail_if_success refine Nx.at_do rfl rfl rfl rfl ?_); first | refine Nx.at_dec_t rfl rfl rfl rfl (by first | assumption | omega) ?_ | refine Nx.at_dec_f rfl rfl rfl rfl (by first | assumption | omega) ?_ | refine Nx.at_split rfl rfl rfl rfl (fun hc => ?_) (fun hc => ?_) | refine Nx.at_splitb rfl rfl rfl rfl (fun hc => ?_) (fun hc => ?_)))
      | ((with_reducible refine Nx.is_mix ?_); first | refine Nx.m ?_ | ((fail_if_success refine Nx.m_quiet_do rfl rfl rfl rfl rfl rfl rfl ?_ ?_); (fail_if_success refine Nx.m_loud_do rfl rfl rfl rfl rfl ?_); first | refine Nx.m_dec_t rfl rfl rfl rfl (by first | assumption | omega) ?_ | refine Nx.m_dec_f rfl rfl rfl rfl (by first | assumption | omega) ?_ | refine Nx.m_split rfl rfl rfl rfl (fun hc => ?_) (fun hc => ?_) | refine Nx.m_splitb rfl rfl rfl rfl (fun hc => ?_) (fun hc => ?_)))
      | ((fail_if_success (with_reducible refine Nx.is_at ?_)); (fail_if_success (with_reducible refine Nx.is_wp ?_)); (fail_if_success (with_reducible refine Nx.is_mix ?_)); first | refine Nx.ex ?_)
    exact Nx.ret_fn rfl [] ⟨rfl, rfl⟩ (by (exact Ent.auto))
  by_cases h2 : 48 < n
  · rw [decide_eq_false (show ¬(1 ≤ n ∧ n ≤ 48) by omega), Bool.false_and, Bool.false_and]
    repeat' first
      | ((with_reducible refine Nx.is_wp ?_); first | refine Nx.wo ?_ | refine Nx.p_dec rfl rfl (fun hc => ?_) (fun hc => ?_) | refine Nx.p_bool rfl rfl (fun hc => ?_) (fun hc => ?_))
      | ((first | refine Nx.at_op rfl rfl ?_ | refine Nx.m_loud rfl rfl rfl ?_ | refine Nx.at_do rfl rfl rfl rfl ?_ | refine Nx.m_loud_do rfl rfl rfl rfl rfl ?_); first | refine Nx.opr rfl rfl ?_ | refine Nx.so ?_ | refine Nx.sb (fun bx => ?_) | refine Nx.sa (fun A2 c2 => ?_))
      | ((with_reducible refine Nx.is_at ?_); first | refine Nx.a ?_ | ((fail_if_success refine Nx.at_do rfl rfl rfl rfl ?_); first | refine Nx.at_dec_t rfl rfl rfl rfl (by first | assumption | omega) ?_ | refine Nx.at_dec_f rfl rfl rfl rfl (by first | assumption | omega) ?_ | refine Nx.at_split rfl rfl rfl rfl (fun hc => ?_) (fun hc => ?_) | refine Nx.at_splitb rfl rfl rfl rfl (fun hc => ?_) (fun hc => ?_)))
      | ((with_reducible refine Nx.is_mix ?_); first | refine Nx.m ?_ | ((fail_if_success refine Nx.m_quiet_do rfl rfl rfl rfl rfl rfl rfl ?_ ?_); (fail_if_success refine Nx.m_loud_do rfl rfl rfl rfl rfl ?_); first | refine Nx.m_dec_t rfl rfl rfl rfl (by first | assumption | omega) ?_ | refine Nx.m_dec_f rfl rfl rfl rfl (by first | assumption | omega) ?_ | refine Nx.m_split rfl rfl rfl rfl (fun hc => ?_) (fun hc => ?_) | refine Nx.m_splitb rfl rfl rfl rfl (fun hc => ?_) (fun hc => ?_)))
      | ((fail_if_success (with_reducible refine Nx.is_at ?_)); (fail_if_success (with_reducible refine Nx.is_wp ?_)); (fail_if_success (with_reducible refine Nx.is_mix ?_)); first | refine Nx.ex ?_)
    exact Nx.ret_fn rfl [] ⟨rfl, rfl⟩ (by (exact Ent.auto))
  rw [decide_eq_true (show 1 ≤ n ∧ n ≤ 48 by omega), Bool.true_and]
  by_cases h3 : l.length ≤ 1152
  case neg =>
    rw [decide_eq_false h3, Bool.false_and]
    repeat' first
      | ((with_reducible refine Nx.is_wp ?_); first | refine Nx.wo ?_ | refine Nx.p_dec rfl rfl (fun hc => ?_) (fun hc => ?_) | refine Nx.p_bool rfl rfl (fun hc => ?_) (fun hc => ?_))
      | ((first | refine Nx.at_op rfl rfl ?_ | refine Nx.m_loud rfl rfl rfl ?_ | refine Nx.at_do rfl rfl rfl rfl ?_ | refine Nx.m_loud_do rfl rfl rfl rfl rfl ?_); first | refine Nx.opr rfl rfl ?_ | refine Nx.so ?_ | refine Nx.sb (fun bx => ?_) | refine Nx.sa (fun A2 c2 => ?_))
      | ((with_reducible refine Nx.is_at ?_); first | refine Nx.a ?_ | ((fail_if_success refine Nx.at_do rfl rfl rfl rfl ?_); first | refine Nx.at_dec_t rfl rfl rfl rfl (by first | assumption | omega) ?_ | refine Nx.at_dec_f rfl rfl rfl rfl (by first | assumption | omega) ?_ | refine Nx.at_split rfl rfl rfl rfl (fun hc => ?_) (fun hc => ?_) | refine Nx.at_splitb rfl rfl rfl rfl (fun hc => ?_) (fun hc => ?_)))
      | ((with_reducible refine Nx.is_mix ?_); first | refine Nx.m ?_ | ((fail_if_success refine Nx.m_quiet_do rfl rfl rfl rfl rfl rfl rfl ?_ ?_); (fail_if_success refine Nx.m_loud_do rfl rfl rfl rfl rfl ?_); first | refine Nx.m_dec_t rfl rfl rfl rfl (by first | assumption | omega) ?_ | refine Nx.m_dec_f rfl rfl rfl rfl (by first | assumption | omega) ?_ | refine Nx.m_split rfl rfl rfl rfl (fun hc => ?_) (fun hc => ?_) | refine Nx.m_splitb rfl rfl rfl rfl (fun hc => ?_) (fun hc => ?_)))
      | ((fail_if_success (with_reducible refine Nx.is_at ?_)); (fail_if_success (with_reducible refine Nx.is_wp ?_)); (fail_if_success (with_reducible refine Nx.is_mix ?_)); first | refine Nx.ex ?_)
    exact Nx.ret_fn rfl [] ⟨rfl, rfl⟩ (by (exact Ent.auto))
  rw [decide_eq_true h3, Bool.true_and]
  repeat' first
    | ((with_reducible refine Nx.is_wp ?_); first | refine Nx.wo ?_ | refine Nx.p_dec rfl rfl (fun hc => ?_) (fun hc => ?_) | refine Nx.p_bool rfl rfl (fun hc => ?_) (fun hc => ?_))
    | ((first | refine Nx.at_op rfl rfl ?_ | refine Nx.m_loud rfl rfl rfl ?_ | refine Nx.at_do rfl rfl rfl rfl ?_ | refine Nx.m_loud_do rfl rfl rfl rfl rfl ?_); first | refine Nx.opr rfl rfl ?_ | refine Nx.so ?_ | refine Nx.sb (fun bx => ?_) | refine Nx.sa (fun A2 c2 => ?_))
    | ((with_reducible refine Nx.is_at ?_); first | refine Nx.a ?_ | ((fail_if_success refine Nx.at_do rfl rfl rfl rfl ?_); first | refine Nx.at_dec_t rfl rfl rfl rfl (by first | assumption | omega) ?_ | refine Nx.at_dec_f rfl rfl rfl rfl (by first | assumption | omega) ?_ | refine Nx.at_split rfl rfl rfl rfl (fun hc => ?_) (fun hc => ?_) | refine Nx.at_splitb rfl rfl rfl rfl (fun hc => ?_) (fun hc => ?_)))
    | ((with_reducible refine Nx.is_mix ?_); first | refine Nx.m ?_ | ((fail_if_success refine Nx.m_quiet_do rfl rfl rfl rfl rfl rfl rfl ?_ ?_); (fail_if_success refine Nx.m_loud_do rfl rfl rfl rfl rfl ?_); first | refine Nx.m_dec_t rfl rfl rfl rfl (by first | assumption | omega) ?_ | refine Nx.m_dec_f rfl rfl rfl rfl (by first | assumption | omega) ?_ | refine Nx.m_split rfl rfl rfl rfl (fun hc => ?_) (fun hc => ?_) | refine Nx.m_splitb rfl rfl rfl rfl (fun hc => ?_) (fun hc => ?_)))
    | ((fail_if_success (with_reducible refine Nx.is_at ?_)); (fail_if_success (with_reducible refine Nx.is_wp ?_)); (fail_if_success (with_reducible refine Nx.is_mix ?_)); first | refine Nx.ex ?_)
  refine Nx.p_loop (σ := Nat) (fun k => [(0, .int .i64 n), (21, .slice A l.length c), (22, .int .i64 l.length), (23, .int .i64 (k : Int))])
    (fun _ => [F]) (fun k => k ≤ l.length ∧ l.all (rightB n) = (l.drop k).all (rightB n)) (fun k => l.length - k) 0 rfl ⟨Nat.zero_le _, rfl⟩ ⟨rfl, rfl, rfl, rfl, trivial⟩ (by (exact Ent.auto)) ?_
  rintro k ⟨hk, he⟩
  by_cases hlt : k < l.length
  case neg =>
    obtain rfl : k = l.length := by omega
    rw [List.drop_length] at he
    rw [he]
    repeat' first
      | ((with_reducible refine Nx.is_wp ?_); first | refine Nx.wo ?_ | refine Nx.p_dec rfl rfl (fun hc => ?_) (fun hc => ?_) | refine Nx.p_bool rfl rfl (fun hc => ?_) (fun hc => ?_))
      | ((first | refine Nx.at_op rfl rfl ?_ | refine Nx.m_loud rfl rfl rfl ?_ | refine Nx.at_do rfl rfl rfl rfl ?_ | refine Nx.m_loud_do rfl rfl rfl rfl rfl ?_); first | refine Nx.opr rfl rfl ?_ | refine Nx.so ?_ | refine Nx.sb (fun bx => ?_) | refine Nx.sa (fun A2 c2 => ?_))
      | ((with_reducible refine Nx.is_at ?_); first | refine Nx.a ?_ | ((fail_if_success refine Nx.at_do rfl rfl rfl rfl ?_); first | refine Nx.at_dec_t rfl rfl rfl rfl (by first | assumption | omega) ?_ | refine Nx.at_dec_f rfl rfl rfl rfl (by first | assumption | omega) ?_ | refine Nx.at_split rfl rfl rfl rfl (fun hc => ?_) (fun hc => ?_) | refine Nx.at_splitb rfl rfl rfl rfl (fun hc => ?_) (fun hc => ?_)))
      | ((with_reducible refine Nx.is_mix ?_); first | refine Nx.m ?_ | ((fail_if_success refine Nx.m_quiet_do rfl rfl rfl rfl rfl rfl rfl ?_ ?_); (fail_if_success refine Nx.m_loud_do rfl rfl rfl rfl rfl ?_); first | refine Nx.m_dec_t rfl rfl rfl rfl (by first | assumption | omega) ?_ | refine Nx.m_dec_f rfl rfl rfl rfl (by first | assumption | omega) ?_ | refine Nx.m_split rfl rfl rfl rfl (fun hc => ?_) (fun hc => ?_) | refine Nx.m_splitb rfl rfl rfl rfl (fun hc => ?_) (fun hc => ?_)))
      | ((fail_if_success (with_reducible refine Nx.is_at ?_)); (fail_if_success (with_reducible refine Nx.is_wp ?_)); (fail_if_success (with_reducible refine Nx.is_mix ?_)); first | refine Nx.ex ?_)
    exact Nx.ret_fn rfl [] ⟨rfl, rfl⟩ (by (exact Ent.auto))
  rw [all_dropQ hlt] at he
  have hq := hl.inner _ (getD_memQ hlt)
  have hrds : ∀ (W : World) (R : List Res), Rds W I R ((ad A).add (k * 2)) (eqC (l.getD k default)) := fun W R => hl.outer.rds hlt
  generalize l.getD k default = q at he hq hrds
  obtain ⟨⟨Ax, cx, xs⟩, z⟩ := q
  dsimp only at hq
  replace hrds : ∀ (W : World) (R : List Res), Rds W I R ((ad A).add (k * 2)) [.slice Ax xs.length cx, .int .i64 z] := hrds
  have hxl := hq.len
  have hrt : rightB n ((Ax, cx, xs), z) = (decide (xs ≠ []) && decide (0 ≤ z ∧ z ≤ 1000000) && ascB n (-1) xs) := rfl
  rw [hrt] at he
  by_cases h0 : xs = []
  · subst h0
    rw [he]
    repeat' first
      | ((with_reducible refine Nx.is_wp ?_); first | refine Nx.wo ?_ | refine Nx.p_dec rfl rfl (fun hc => ?_) (fun hc => ?_) | refine Nx.p_bool rfl rfl (fun hc => ?_) (fun hc => ?_))
      | ((first | refine Nx.at_op rfl rfl ?_ | refine Nx.m_loud rfl rfl rfl ?_ | refine Nx.at_do rfl rfl rfl rfl ?_ | refine Nx.m_loud_do rfl rfl rfl rfl rfl ?_); first | refine Nx.opr rfl rfl ?_ | refine Nx.indexAddr_nat rfl rfl rfl rfl rfl (by omega) (hl.outer.isSome (by omega) (by omega)) ?_ | refine Nx.loads rfl rfl rfl rfl (hrds _ _) rfl ?_ | refine Nx.so ?_ | refine Nx.sb (fun bx => ?_) | refine Nx.sa (fun A2 c2 => ?_))
      | ((with_reducible refine Nx.is_at ?_); first | refine Nx.a ?_ | ((fail_if_success refine Nx.at_do rfl rfl rfl rfl ?_); first | refine Nx.at_dec_t rfl rfl rfl rfl (by first | assumption | omega) ?_ | refine Nx.at_dec_f rfl rfl rfl rfl (by first | assumption | omega) ?_ | refine Nx.at_split rfl rfl rfl rfl (fun hc => ?_) (fun hc => ?_) | refine Nx.at_splitb rfl rfl rfl rfl (fun hc => ?_) (fun hc => ?_)))
      | ((with_reducible refine Nx.is_mix ?_); first | refine Nx.m ?_ | ((fail_if_success refine Nx.m_quiet_do rfl rfl rfl rfl rfl rfl rfl ?_ ?_); (fail_if_success refine Nx.m_loud_do rfl rfl rfl rfl rfl ?_); first | refine Nx.m_dec_t rfl rfl rfl rfl (by first | assumption | omega) ?_ | refine Nx.m_dec_f rfl rfl rfl rfl (by first | assumption | omega) ?_ | refine Nx.m_split rfl rfl rfl rfl (fun hc => ?_) (fun hc => ?_) | refine Nx.m_splitb rfl rfl rfl rfl (fun hc => ?_) (fun hc => ?_)))
      | ((fail_if_success (with_reducible refine Nx.is_at ?_)); (fail_if_success (with_reducible refine Nx.is_wp ?_)); (fail_if_success (with_reducible refine Nx.is_mix ?_)); first | refine Nx.ex ?_)
    exact Nx.ret_fn rfl [] ⟨rfl, rfl⟩ (by (exact Ent.auto))
  have hpos : 0 < xs.length := List.length_pos_iff.2 h0
  rw [decide_eq_true h0, Bool.true_and] at he
  by_cases hz0 : z < 0
  · rw [decide_eq_false (show ¬(0 ≤ z ∧ z ≤ 1000000) by omega), Bool.false_and, Bool.false_and] at he
    rw [he]
    repeat' first
      | ((with_reducible refine Nx.is_wp ?_); first | refine Nx.wo ?_ | refine Nx.p_dec rfl rfl (fun hc => ?_) (fun hc => ?_) | refine Nx.p_bool rfl rfl (fun hc => ?_) (fun hc => ?_))
      | ((first | refine Nx.at_op rfl rfl ?_ | refine Nx.m_loud rfl rfl rfl ?_ | refine Nx.at_do rfl rfl rfl rfl ?_ | refine Nx.m_loud_do rfl rfl rfl rfl rfl ?_); first | refine Nx.opr rfl rfl ?_ | refine Nx.indexAddr_nat rfl rfl rfl rfl rfl (by omega) (hl.outer.isSome (by omega) (by omega)) ?_ | refine Nx.loads rfl rfl rfl rfl (hrds _ _) rfl ?_ | refine Nx.so ?_ | refine Nx.sb (fun bx => ?_) | refine Nx.sa (fun A2 c2 => ?_))
      | ((with_reducible refine Nx.is_at ?_); first | refine Nx.a ?_ | ((fail_if_success refine Nx.at_do rfl rfl rfl rfl ?_); first | refine Nx.at_dec_t rfl rfl rfl rfl (by first | assumption | omega) ?_ | refine Nx.at_dec_f rfl rfl rfl rfl (by first | assumption | omega) ?_ | refine Nx.at_split rfl rfl rfl rfl (fun hc => ?_) (fun hc => ?_) | refine Nx.at_splitb rfl rfl rfl rfl (fun hc => ?_) (fun hc => ?_)))
      | ((with_reducible refine Nx.is_mix ?_); first | refine Nx.m ?_ | ((fail_if_success refine Nx.m_quiet_do rfl rfl rfl rfl rfl rfl rfl ?_ ?_); (fail_if_success refine Nx.m_loud_do rfl rfl rfl rfl rfl ?_); first | refine Nx.m_dec_t rfl rfl rfl rfl (by first | assumption | omega) ?_ | refine Nx.m_dec_f rfl rfl rfl rfl (by first | assumption | omega) ?_ | refine Nx.m_split rfl rfl rfl rfl (fun hc => ?_) (fun hc => ?_) | refine Nx.m_splitb rfl rfl rfl rfl (fun hc => ?_) (fun hc => ?_)))
      | ((fail_if_success (with_reducible refine Nx.is_at ?_)); (fail_if_success (with_reducible refine Nx.is_wp ?_)); (fail_if_success (with_reducible refine Nx.is_mix ?_)); first | refine Nx.ex ?_)
    exact Nx.ret_fn rfl [] ⟨rfl, rfl⟩ (by (exact Ent.auto))
  by_cases hz1 : 1000000 < z
  · rw [decide_eq_false (show ¬(0 ≤ z ∧ z ≤ 1000000) by omega), Bool.false_and, Bool.false_and] at he
    rw [he]
    repeat' first
      | ((with_reducible refine Nx.is_wp ?_); first | refine Nx.wo ?_ | refine Nx.p_dec rfl rfl (fun hc => ?_) (fun hc => ?_) | refine Nx.p_bool rfl rfl (fun hc => ?_) (fun hc => ?_))
      | ((first | refine Nx.at_op rfl rfl ?_ | refine Nx.m_loud rfl rfl rfl ?_ | refine Nx.at_do rfl rfl rfl rfl ?_ | refine Nx.m_loud_do rfl rfl rfl rfl rfl ?_); first | refine Nx.opr rfl rfl ?_ | refine Nx.indexAddr_nat rfl rfl rfl rfl rfl (by omega) (hl.outer.isSome (by omega) (by omega)) ?_ | refine Nx.loads rfl rfl rfl rfl (hrds _ _) rfl ?_ | refine Nx.so ?_ | refine Nx.sb (fun bx => ?_) | refine Nx.sa (fun A2 c2 => ?_))
      | ((with_reducible refine Nx.is_at ?_); first | refine Nx.a ?_ | ((fail_if_success refine Nx.at_do rfl rfl rfl rfl ?_); first | refine Nx.at_dec_t rfl rfl rfl rfl (by first | assumption | omega) ?_ | refine Nx.at_dec_f rfl rfl rfl rfl (by first | assumption | omega) ?_ | refine Nx.at_split rfl rfl rfl rfl (fun hc => ?_) (fun hc => ?_) | refine Nx.at_splitb rfl rfl rfl rfl (fun hc => ?_) (fun hc => ?_)))
      | ((with_reducible refine Nx.is_mix ?_); first | refine Nx.m ?_ | ((fail_if_success refine Nx.m_quiet_do rfl rfl rfl rfl rfl rfl rfl ?_ ?_); (fail_if_success refine Nx.m_loud_do rfl rfl rfl rfl rfl ?_); first | refine Nx.m_dec_t rfl rfl rfl rfl (by first | assumption | omega) ?_ | refine Nx.m_dec_f rfl rfl rfl rfl (by first | assumption | omega) ?_ | refine Nx.m_split rfl rfl rfl rfl (fun hc => ?_) (fun hc => ?_) | refine Nx.m_splitb rfl rfl rfl rfl (fun hc => ?_) (fun hc => ?_)))
      | ((fail_if_success (with_reducible refine Nx.is_at ?_)); (fail_if_success (with_reducible refine Nx.is_wp ?_)); (fail_if_success (with_reducible refine Nx.is_mix ?_)); first | refine Nx.ex ?_)
    exact Nx.ret_fn rfl [] ⟨rfl, rfl⟩ (by (exact Ent.auto))
  rw [decide_eq_true (show 0 ≤ z ∧ z ≤ 1000000 by omega), Bool.true_and] at he
  repeat' first
    | ((with_reducible refine Nx.is_wp ?_); first | refine Nx.wo ?_ | refine Nx.p_dec rfl rfl (fun hc => ?_) (fun hc => ?_) | refine Nx.p_bool rfl rfl (fun hc => ?_) (fun hc => ?_))
    | ((first | refine Nx.at_op rfl rfl ?_ | refine Nx.m_loud rfl rfl rfl ?_ | refine Nx.at_do rfl rfl rfl rfl ?_ | refine Nx.m_loud_do rfl rfl rfl rfl rfl ?_); first | refine Nx.opr rfl rfl ?_ | refine Nx.indexAddr_nat rfl rfl rfl rfl rfl (by omega) (hl.outer.isSome (by omega) (by omega)) ?_ | refine Nx.loads rfl rfl rfl rfl (hrds _ _) rfl ?_ | refine Nx.so ?_ | refine Nx.sb (fun bx => ?_) | refine Nx.sa (fun A2 c2 => ?_))
    | ((with_reducible refine Nx.is_at ?_); first | refine Nx.a ?_ | ((fail_if_success refine Nx.at_do rfl rfl rfl rfl ?_); first | refine Nx.at_dec_t rfl rfl rfl rfl (by first | assumption | omega) ?_ | refine Nx.at_dec_f rfl rfl rfl rfl (by first | assumption | omega) ?_ | refine Nx.at_split rfl rfl rfl rfl (fun hc => ?_) (fun hc => ?_) | refine Nx.at_splitb rfl rfl rfl rfl (fun hc => ?_) (fun hc => ?_)))
    | ((with_reducible refine Nx.is_mix ?_); first | refine Nx.m ?_ | ((fail_if_success refine Nx.m_quiet_do rfl rfl rfl rfl rfl rfl rfl ?_ ?_); (fail_if_success refine Nx.m_loud_do rfl rfl rfl rfl rfl ?_); first | refine Nx.m_dec_t rfl rfl rfl rfl (by first | assumption | omega) ?_ | refine Nx.m_dec_f rfl rfl rfl rfl (by first | assumption | omega) ?_ | refine Nx.m_split rfl rfl rfl rfl (fun hc => ?_) (fun hc => ?_) | refine Nx.m_splitb rfl rfl rfl rfl (fun hc => ?_) (fun hc => ?_)))
    | ((fail_if_success (with_reducible refine Nx.is_at ?_)); (fail_if_success (with_reducible refine Nx.is_wp ?_)); (fail_if_success (with_reducible refine Nx.is_mix ?_)); first | refine Nx.ex ?_)
  revert bx; intro b6
  refine Nx.p_loop (σ := Nat) (fun j => [(0, .int .i64 n), (7, .int .i64 (lastOr (-1) xs j)), (21, .slice A l.length c), (22, .int .i64 l.length), (23, .int .i64 (k : Int)), (42, .slice Ax xs.length cx), (43, .int .i64 xs.length), (44, .int .i64 (j : Int))])
    (fun _ => [F]) (fun j => j ≤ xs.length ∧ ascB n (-1) xs = ascB n (lastOr (-1) xs j) (xs.drop j)) (fun j => xs.length - j) 0 rfl ⟨Nat.zero_le _, rfl⟩ ⟨rfl, rfl, rfl, rfl, rfl, rfl, rfl, rfl, trivial⟩ (by (exact Ent.auto)) ?_
  rintro j ⟨hj, hje⟩
  by_cases hjl : j < xs.length
  case neg =>
    obtain rfl : j = xs.length := by omega
    rw [List.drop_length] at hje
    rw [hje] at he
    repeat' first
      | ((with_reducible refine Nx.is_wp ?_); first | refine Nx.wo ?_ | refine Nx.p_dec rfl rfl (fun hc => ?_) (fun hc => ?_) | refine Nx.p_bool rfl rfl (fun hc => ?_) (fun hc => ?_))
      | ((first | refine Nx.at_op rfl rfl ?_ | refine Nx.m_loud rfl rfl rfl ?_ | refine Nx.at_do rfl rfl rfl rfl ?_ | refine Nx.m_loud_do rfl rfl rfl rfl rfl ?_); first | refine Nx.opr rfl rfl ?_ | refine Nx.so ?_ | refine Nx.sb (fun bx => ?_) | refine Nx.sa (fun A2 c2 => ?_))
      | ((with_reducible refine Nx.is_at ?_); first | refine Nx.a ?_ | ((fail_if_success refine Nx.at_do rfl rfl rfl rfl ?_); first | refine Nx.at_dec_t rfl rfl rfl rfl (by first | assumption | omega) ?_ | refine Nx.at_dec_f rfl rfl rfl rfl (by first | assumption | omega) ?_ | refine Nx.at_split rfl rfl rfl rfl (fun hc => ?_) (fun hc => ?_) | refine Nx.at_splitb rfl rfl rfl rfl (fun hc => ?_) (fun hc => ?_)))
      | ((with_reducible refine Nx.is_mix ?_); first | refine Nx.m ?_ | ((fail_if_success refine Nx.m_quiet_do rfl rfl rfl rfl rfl rfl rfl ?_ ?_); (fail_if_success refine Nx.m_loud_do rfl rfl rfl rfl rfl ?_); first | refine Nx.m_dec_t rfl rfl rfl rfl (by first | assumption | omega) ?_ | refine Nx.m_dec_f rfl rfl rfl rfl (by first | assumption | omega) ?_ | refine Nx.m_split rfl rfl rfl rfl (fun hc => ?_) (fun hc => ?_) | refine Nx.m_splitb rfl rfl rfl rfl (fun hc => ?_) (fun hc => ?_)))
      | ((fail_if_success (with_reducible refine Nx.is_at ?_)); (fail_if_success (with_reducible refine Nx.is_wp ?_)); (fail_if_success (with_reducible refine Nx.is_mix ?_)); first | refine Nx.ex ?_)
    exact Nx.again (k + 1) ⟨hlt, by rw [he, ascB, Bool.true_and]⟩ (by omega) ⟨rfl, rfl, rfl, rfl, trivial⟩ (by (exact Ent.auto))
  rw [ascB_at hjl] at hje
  by_cases h4 : lastOr (-1) xs j < xs.getD j default
  · by_cases h5 : xs.getD j default < n
    · rw [decide_eq_true ⟨h4, h5⟩, Bool.true_and] at hje
      repeat' first
        | ((with_reducible refine Nx.is_wp ?_); first | refine Nx.wo ?_ | refine Nx.p_dec rfl rfl (fun hc => ?_) (fun hc => ?_) | refine Nx.p_bool rfl rfl (fun hc => ?_) (fun hc => ?_))
        | ((first | refine Nx.at_op rfl rfl ?_ | refine Nx.m_loud rfl rfl rfl ?_ | refine Nx.at_do rfl rfl rfl rfl ?_ | refine Nx.m_loud_do rfl rfl rfl rfl rfl ?_); first | refine Nx.opr rfl rfl ?_ | refine Nx.indexAddr_nat rfl rfl rfl rfl rfl (by omega) (hq.isSome (by omega)) ?_ | refine Nx.load rfl rfl rfl (hq.rd (by omega)) ?_ | refine Nx.so ?_ | refine Nx.sb (fun bx => ?_) | refine Nx.sa (fun A2 c2 => ?_))
        | ((with_reducible refine Nx.is_at ?_); first | refine Nx.a ?_ | ((fail_if_success refine Nx.at_do rfl rfl rfl rfl ?_); first | refine Nx.at_dec_t rfl rfl rfl rfl (by first | assumption | omega) ?_ | refine Nx.at_dec_f rfl rfl rfl rfl (by first | assumption | omega) ?_ | refine Nx.at_split rfl rfl rfl rfl (fun hc => ?_) (fun hc => ?_) | refine Nx.at_splitb rfl rfl rfl rfl (fun hc => ?_) (fun hc => ?_)))
        | ((with_reducible refine Nx.is_mix ?_); first | refine Nx.m ?_ | ((fail_if_success refine Nx.m_quiet_do rfl rfl rfl rfl rfl rfl rfl ?_ ?_); (fail_if_success refine Nx.m_loud_do rfl rfl rfl rfl rfl ?_); first | refine Nx.m_dec_t rfl rfl rfl rfl (by first | assumption | omega) ?_ | refine Nx.m_dec_f rfl rfl rfl rfl (by first | assumption | omega) ?_ | refine Nx.m_split rfl rfl rfl rfl (fun hc => ?_) (fun hc => ?_) | refine Nx.m_splitb rfl rfl rfl rfl (fun hc => ?_) (fun hc => ?_)))
        | ((fail_if_success (with_reducible refine Nx.is_at ?_)); (fail_if_success (with_reducible refine Nx.is_wp ?_)); (fail_if_success (with_reducible refine Nx.is_mix ?_)); first | refine Nx.ex ?_)
      exact Nx.again (j + 1) ⟨hjl, hje⟩ (by omega) ⟨rfl, by unfold lastOr; rw [if_neg (Nat.succ_ne_zero j), Nat.add_sub_cancel]; rfl, rfl, rfl, rfl, rfl, rfl, rfl, trivial⟩ (by (exact Ent.auto))
    · rw [decide_eq_false (by rintro ⟨_, h⟩; exact h5 h), Bool.false_and] at hje
      rw [hje] at he
      rw [he]
      repeat' first
        | ((with_reducible refine Nx.is_wp ?_); first | refine Nx.wo ?_ | refine Nx.p_dec rfl rfl (fun hc => ?_) (fun hc => ?_) | refine Nx.p_bool rfl rfl (fun hc => ?_) (fun hc => ?_))
        | ((first | refine Nx.at_op rfl rfl ?_ | refine Nx.m_loud rfl rfl rfl ?_ | refine Nx.at_do rfl rfl rfl rfl ?_ | refine Nx.m_loud_do rfl rfl rfl rfl rfl ?_); first | refine Nx.opr rfl rfl ?_ | refine Nx.indexAddr_nat rfl rfl rfl rfl rfl (by omega) (hq.isSome (by omega)) ?_ | refine Nx.load rfl rfl rfl (hq.rd (by omega)) ?_ | refine Nx.so ?_ | refine Nx.sb (fun bx => ?_) | refine Nx.sa (fun A2 c2 => ?_))
        | ((with_reducible refine Nx.is_at ?_); first | refine Nx.a ?_ | ((fail_if_success refine Nx.at_do rfl rfl rfl rfl ?_); first | refine Nx.at_dec_t rfl rfl rfl rfl (by first | assumption | omega) ?_ | refine Nx.at_dec_f rfl rfl rfl rfl (by first | assumption | omega) ?_ | refine Nx.at_split rfl rfl rfl rfl (fun hc => ?_) (fun hc => ?_) | refine Nx.at_splitb rfl rfl rfl rfl (fun hc => ?_) (fun hc => ?_)))
        | ((with_reducible refine Nx.is_mix ?_); first | refine Nx.m ?_ | ((fail_if_success refine Nx.m_quiet_do rfl rfl rfl rfl rfl rfl rfl ?_ ?_); (fail_if_success refine Nx.m_loud_do rfl rfl rfl rfl rfl ?_); first | refine Nx.m_dec_t rfl rfl rfl rfl (by first | assumption | omega) ?_ | refine Nx.m_dec_f rfl rfl rfl rfl (by first | assumption | omega) ?_ | refine Nx.m_split rfl rfl rfl rfl (fun hc => ?_) (fun hc => ?_) | refine Nx.m_splitb rfl rfl rfl rfl (fun hc => ?_) (fun hc => ?_)))
        | ((fail_if_success (with_reducible refine Nx.is_at ?_)); (fail_if_success (with_reducible refine Nx.is_wp ?_)); (fail_if_success (with_reducible refine Nx.is_mix ?_)); first | refine Nx.ex ?_)
      exact Nx.ret_fn rfl [] ⟨rfl, rfl⟩ (by (exact Ent.auto))
  · rw [decide_eq_false (by rintro ⟨h, _⟩; exact h4 h), Bool.false_and] at hje
    rw [hje] at he
    rw [he]
    repeat' first
      | ((with_reducible refine Nx.is_wp ?_); first | refine Nx.wo ?_ | refine Nx.p_dec rfl rfl (fun hc => ?_) (fun hc => ?_) | refine Nx.p_bool rfl rfl (fun hc => ?_) (fun hc => ?_))
      | ((first | refine Nx.at_op rfl rfl ?_ | refine Nx.m_loud rfl rfl rfl ?_ | refine Nx.at_do rfl rfl rfl rfl ?_ | refine Nx.m_loud_do rfl rfl rfl rfl rfl ?_); first | refine Nx.opr rfl rfl ?_ | refine Nx.indexAddr_nat rfl rfl rfl rfl rfl (by omega) (hq.isSome (by omega)) ?_ | refine Nx.load rfl rfl rfl (hq.rd (by omega)) ?_ | refine Nx.so ?_ | refine Nx.sb (fun bx => ?_) | refine Nx.sa (fun A2 c2 => ?_))
      | ((with_reducible refine Nx.is_at ?_); first | refine Nx.a ?_ | ((fail_if_success refine Nx.at_do rfl rfl rfl rfl ?_); first | refine Nx.at_dec_t rfl rfl rfl rfl (by first | assumption | omega) ?_ | refine Nx.at_dec_f rfl rfl rfl rfl (by first | assumption | omega) ?_ | refine Nx.at_split rfl rfl rfl rfl (fun hc => ?_) (fun hc => ?_) | refine Nx.at_splitb rfl rfl rfl rfl (fun hc => ?_) (fun hc => ?_)))
      | ((with_reducible refine Nx.is_mix ?_); first | refine Nx.m ?_ | ((fail_if_success refine Nx.m_quiet_do rfl rfl rfl rfl rfl rfl rfl ?_ ?_); (fail_if_success refine Nx.m_loud_do rfl rfl rfl rfl rfl ?_); first | refine Nx.m_dec_t rfl rfl rfl rfl (by first | assumption | omega) ?_ | refine Nx.m_dec_f rfl rfl rfl rfl (by first | assumption | omega) ?_ | refine Nx.m_split rfl rfl rfl rfl (fun hc => ?_) (fun hc => ?_) | refine Nx.m_splitb rfl rfl rfl rfl (fun hc => ?_) (fun hc => ?_)))
      | ((fail_if_success (with_reducible refine Nx.is_at ?_)); (fail_if_success (with_reducible refine Nx.is_wp ?_)); (fail_if_success (with_reducible refine Nx.is_mix ?_)); first | refine Nx.ex ?_)
    exact Nx.ret_fn rfl [] ⟨rfl, rfl⟩ (by (exact Ent.auto))
/-! Rooms -/
theorem cells_bd {n : Nat} {l : List EqR} (hg : ∀ q ∈ l, GoodE n q) : ∀ q ∈ eqns l, 0 ≤ q.2 ∧ q.2 ≤ 1000000 := fun q hq => by
  obtain ⟨x, hx, rfl⟩ := List.mem_map.1 hq
  exact (hg x hx).val
theorem not_mem_take {xs : List Int} (h : xs.Pairwise (· < ·)) {j : Nat} (hj : j < xs.length) {y : Int} (hy : xs.getD j default = y) : y ∉ xs.take j := fun hm => by
  obtain ⟨a, ha, he⟩ := List.mem_iff_getElem.1 hm
  rw [List.length_take] at ha
  rw [List.getElem_take] at he
  have hlt2 := (List.pairwise_iff_getElem.1 h) a j (by omega) hj (by omega)
  rw [List.getD_eq_getElem?_getD, List.getElem?_eq_getElem hj] at hy
  have hy : xs[j] = y := hy
  omega
def roomS (r z : Int) : Int := if r = 0 ∨ z + 1 < r then z + 1 else r
theorem roomR_bd {n : Nat} {l : List EqR} (hg : ∀ q ∈ l, GoodE n q) (x k : Nat) : 0 ≤ roomR (eqns (l.take k)) x ∧ roomR (eqns (l.take k)) x ≤ 1000001 := by
  have h1 := roomR_facts (c := x) (eqns (l.take k)) fun q hq => (cells_bd (fun q hq => hg q (List.mem_of_mem_take hq)) q hq).1
  refine ⟨h1.1, ?_⟩
  by_cases h0 : roomR (eqns (l.take k)) x = 0
  · omega
  · have hne : ∃ q ∈ eqns (l.take k), x ∈ q.1 := Classical.byContradiction fun hno => h0 (h1.2.1.2 fun q hq hx => hno ⟨q, hq, hx⟩)
    obtain ⟨q, hq, hx⟩ := hne
    have := (h1.2.2 h0 (roomR (eqns (l.take k)) x - 1)).1 (Int.le_refl _) q hq hx
    have := (cells_bd (fun q hq => hg q (List.mem_of_mem_take hq)) q hq).2
    omega
set_option maxRecDepth 10000 in
set_option maxHeartbeats 8000000 in
theorem room_spec (A : Option Addr) (c : Nat) (l : List EqR) (n x : Nat) (I : PH) (hl : Eqs I A c l) (hg : ∀ q ∈ l, GoodE n q) :
    FnSpec Try.prog 38 [.slice A l.length c, .int .i64 (x : Int)] I [] (fun v R' => v = .int .i64 (roomR (eqns l) x) ∧ R' = []) := by
  have hlen := hl.len
  refine FnSpec.enterP Try.func38 rfl Try.ntmps38 rfl fun w F => ?_
  repeat' first
    | ((with_reducible refine Nx.is_wp ?_); first | refine Nx.wo ?_ | refine Nx.p_dec rfl rfl (fun hc => ?_) (fun hc => ?_) | refine Nx.p_bool rfl rfl (fun hc => ?_) (fun hc => ?_))
    | ((first | refine Nx.at_op rfl rfl ?_ | refine Nx.m_loud rfl rfl rfl ?_ | refine Nx.at_do rfl rfl rfl rfl ?_ | refine Nx.m_loud_do rfl rfl rfl rfl rfl ?_); first | refine Nx.opr rfl rfl ?_ | refine Nx.so ?_ | refine Nx.sb (fun bx => ?_) | refine Nx.sa (fun A2 c2 => ?_))
    | ((with_reducible refine Nx.is_at ?_); first | refine Nx.a ?_ | ((fail_if_success refine Nx.at_do rfl rfl rfl rfl ?_); first | refine Nx.at_dec_t rfl rfl rfl rfl (by first | assumption | omega) ?_ | refine Nx.at_dec_f rfl rfl rfl rfl (by first | assumption | omega) ?_ | refine Nx.at_split rfl rfl rfl rfl (fun hc => ?_) (fun hc => ?_) | refine Nx.at_splitb rfl rfl rfl rfl (fun hc => ?_) (fun hc => ?_)))
    | ((with_reducible refine Nx.is_mix ?_); first | refine Nx.m ?_ | ((fail_if_success refine Nx.m_quiet_do rfl rfl rfl rfl rfl rfl rfl ?_ ?_); (fail_if_success refine Nx.m_loud_do rfl rfl rfl rfl rfl ?_); first | refine Nx.m_dec_t rfl rfl rfl rfl (by first | assumption | omega) ?_ | refine Nx.m_dec_f rfl rfl rfl rfl (by first | assumption | omega) ?_ | refine Nx.m_split rfl rfl rfl rfl (fun hc => ?_) (fun hc => ?_) | refine Nx.m_splitb rfl rfl rfl rfl (fun hc => ?_) (fun hc => ?_)))
    | ((fail_if_success (with_reducible refine Nx.is_at ?_)); (fail_if_success (with_reducible refine Nx.is_wp ?_)); (fail_if_success (with_reducible refine Nx.is_mix ?_)); first | refine Nx.ex ?_)
  refine Nx.p_loop (σ := Nat) (fun k => [(1, .int .i64 (x : Int)), (5, .int .i64 (roomR (eqns (l.take k)) x)), (10, .slice A l.length c), (11, .int .i64 l.length), (12, .int .i64 (k : Int))])
    (fun _ => [F]) (fun k => k ≤ l.length) (fun k => l.length - k) 0 rfl (Nat.zero_le _) ⟨rfl, rfl, rfl, rfl, rfl, trivial⟩ (by (exact Ent.auto)) ?_
  intro k hk
  by_cases hlt : k < l.length
  case neg =>
    obtain rfl : k = l.length := by omega
    rw [List.take_length]
    repeat' first
      | ((with_reducible refine Nx.is_wp ?_); first | refine Nx.wo ?_ | refine Nx.p_dec rfl rfl (fun hc => ?_) (fun hc => ?_) | refine Nx.p_bool rfl rfl (fun hc => ?_) (fun hc => ?_))
      | ((first | refine Nx.at_op rfl rfl ?_ | refine Nx.m_loud rfl rfl rfl ?_ | refine Nx.at_do rfl rfl rfl rfl ?_ | refine Nx.m_loud_do rfl rfl rfl rfl rfl ?_); first | refine Nx.opr rfl rfl ?_ | refine Nx.so ?_ | refine Nx.sb (fun bx => ?_) | refine Nx.sa (fun A2 c2 => ?_))
      | ((with_reducible refine Nx.is_at ?_); first | refine Nx.a ?_ | ((fail_if_success refine Nx.at_do rfl rfl rfl rfl ?_); first | refine Nx.at_dec_t rfl rfl rfl rfl (by first | assumption | omega) ?_ | refine Nx.at_dec_f rfl rfl rfl rfl (by first | assumption | omega) ?_ | refine Nx.at_split rfl rfl rfl rfl (fun hc => ?_) (fun hc => ?_) | refine Nx.at_splitb rfl rfl rfl rfl (fun hc => ?_) (fun hc => ?_)))
      | ((with_reducible refine Nx.is_mix ?_); first | refine Nx.m ?_ | ((fail_if_success refine Nx.m_quiet_do rfl rfl rfl rfl rfl rfl rfl ?_ ?_); (fail_if_success refine Nx.m_loud_do rfl rfl rfl rfl rfl ?_); first | refine Nx.m_dec_t rfl rfl rfl rfl (by first | assumption | omega) ?_ | refine Nx.m_dec_f rfl rfl rfl rfl (by first | assumption | omega) ?_ | refine Nx.m_split rfl rfl rfl rfl (fun hc => ?_) (fun hc => ?_) | refine Nx.m_splitb rfl rfl rfl rfl (fun hc => ?_) (fun hc => ?_)))
      | ((fail_if_success (with_reducible refine Nx.is_at ?_)); (fail_if_success (with_reducible refine Nx.is_wp ?_)); (fail_if_success (with_reducible refine Nx.is_mix ?_)); first | refine Nx.ex ?_)
    exact Nx.ret_fn rfl [] ⟨rfl, rfl⟩ (by (exact Ent.auto))
  have hin := hl.inner _ (getD_memQ hlt)
  have hgk := hg _ (getD_memQ hlt)
  have hes := eqns_snoc hlt
  have hrb := roomR_bd hg x k
  have hrds : ∀ (W : World) (R : List Res), Rds W I R ((ad A).add (k * 2)) (eqC (l.getD k default)) := fun W R => hl.outer.rds hlt
  generalize l.getD k default = q at hin hgk hes hrds
  obtain ⟨⟨Ax, cx, ix⟩, z⟩ := q
  dsimp only at hin
  replace hrds : ∀ (W : World) (R : List Res), Rds W I R ((ad A).add (k * 2)) [.slice Ax ix.length cx, .int .i64 z] := hrds
  have hixl := hin.len
  have hz := hgk.val
  dsimp only at hz
  generalize hr0 : roomR (eqns (l.take k)) x = r0 at hrb ⊢
  have hend : roomR (eqns (l.take (k + 1))) x = if (x : Int) ∈ ix then roomS r0 z else r0 := by
    rw [hes, roomR_snoc, hr0]
    by_cases hm : (x : Int) ∈ ix
    · rw [if_pos hm, if_pos ((mem_eqn hgk).2 hm)]; rfl
    · rw [if_neg hm, if_neg fun h => hm ((mem_eqn hgk).1 h)]
  repeat' first
    | ((with_reducible refine Nx.is_wp ?_); first | refine Nx.wo ?_ | refine Nx.p_dec rfl rfl (fun hc => ?_) (fun hc => ?_) | refine Nx.p_bool rfl rfl (fun hc => ?_) (fun hc => ?_))
    | ((first | refine Nx.at_op rfl rfl ?_ | refine Nx.m_loud rfl rfl rfl ?_ | refine Nx.at_do rfl rfl rfl rfl ?_ | refine Nx.m_loud_do rfl rfl rfl rfl rfl ?_); first | refine Nx.opr rfl rfl ?_ | refine Nx.indexAddr_nat rfl rfl rfl rfl rfl (by omega) (hl.outer.isSome (by omega) (by omega)) ?_ | refine Nx.loads rfl rfl rfl rfl (hrds _ _) rfl ?_ | refine Nx.so ?_ | refine Nx.sb (fun bx => ?_) | refine Nx.sa (fun A2 c2 => ?_))
    | ((with_reducible refine Nx.is_at ?_); first | refine Nx.a ?_ | ((fail_if_success refine Nx.at_do rfl rfl rfl rfl ?_); first | refine Nx.at_dec_t rfl rfl rfl rfl (by first | assumption | omega) ?_ | refine Nx.at_dec_f rfl rfl rfl rfl (by first | assumption | omega) ?_ | refine Nx.at_split rfl rfl rfl rfl (fun hc => ?_) (fun hc => ?_) | refine Nx.at_splitb rfl rfl rfl rfl (fun hc => ?_) (fun hc => ?_)))
    | ((with_reducible refine Nx.is_mix ?_); first | refine Nx.m ?_ | ((fail_if_success refine Nx.m_quiet_do rfl rfl rfl rfl rfl rfl rfl ?_ ?_); (fail_if_success refine Nx.m_loud_do rfl rfl rfl rfl rfl ?_); first | refine Nx.m_dec_t rfl rfl rfl rfl (by first | assumption | omega) ?_ | refine Nx.m_dec_f rfl rfl rfl rfl (by first | assumption | omega) ?_ | refine Nx.m_split rfl rfl rfl rfl (fun hc => ?_) (fun hc => ?_) | refine Nx.m_splitb rfl rfl rfl rfl (fun hc => ?_) (fun hc => ?_)))
    | ((fail_if_success (with_reducible refine Nx.is_at ?_)); (fail_if_success (with_reducible refine Nx.is_wp ?_)); (fail_if_success (with_reducible refine Nx.is_mix ?_)); first | refine Nx.ex ?_)
  revert bx; intro b7
  refine Nx.p_loop (σ := Nat) (fun j => [(1, .int .i64 (x : Int)), (5, .int .i64 (if (x : Int) ∈ ix.take j then roomS r0 z else r0)), (7, .pointer (some ⟨b7, 0, none⟩)), (10, .slice A l.length c), (11, .int .i64 l.length), (12, .int .i64 (k : Int)), (17, .slice Ax ix.length cx), (18, .int .i64 ix.length), (19, .int .i64 (j : Int))])
    (fun _ => [Blk b7 45 [.slice Ax ix.length cx, .int .i64 z], F]) (fun j => j ≤ ix.length) (fun j => ix.length - j) 0 rfl (Nat.zero_le _) ⟨rfl, by rw [List.take_zero, if_neg List.not_mem_nil]; rfl, rfl, rfl, rfl, rfl, rfl, rfl, rfl, trivial⟩ (by (exact Ent.auto)) ?_
  intro j hj
  by_cases hjl : j < ix.length
  case neg =>
    obtain rfl : j = ix.length := by omega
    rw [List.take_length, ← hend]
    repeat' first
      | ((with_reducible refine Nx.is_wp ?_); first | refine Nx.wo ?_ | refine Nx.p_dec rfl rfl (fun hc => ?_) (fun hc => ?_) | refine Nx.p_bool rfl rfl (fun hc => ?_) (fun hc => ?_))
      | ((first | refine Nx.at_op rfl rfl ?_ | refine Nx.m_loud rfl rfl rfl ?_ | refine Nx.at_do rfl rfl rfl rfl ?_ | refine Nx.m_loud_do rfl rfl rfl rfl rfl ?_); first | refine Nx.opr rfl rfl ?_ | refine Nx.so ?_ | refine Nx.sb (fun bx => ?_) | refine Nx.sa (fun A2 c2 => ?_))
      | ((with_reducible refine Nx.is_at ?_); first | refine Nx.a ?_ | ((fail_if_success refine Nx.at_do rfl rfl rfl rfl ?_); first | refine Nx.at_dec_t rfl rfl rfl rfl (by first | assumption | omega) ?_ | refine Nx.at_dec_f rfl rfl rfl rfl (by first | assumption | omega) ?_ | refine Nx.at_split rfl rfl rfl rfl (fun hc => ?_) (fun hc => ?_) | refine Nx.at_splitb rfl rfl rfl rfl (fun hc => ?_) (fun hc => ?_)))
      | ((with_reducible refine Nx.is_mix ?_); first | refine Nx.m ?_ | ((fail_if_success refine Nx.m_quiet_do rfl rfl rfl rfl rfl rfl rfl ?_ ?_); (fail_if_success refine Nx.m_loud_do rfl rfl rfl rfl rfl ?_); first | refine Nx.m_dec_t rfl rfl rfl rfl (by first | assumption | omega) ?_ | refine Nx.m_dec_f rfl rfl rfl rfl (by first | assumption | omega) ?_ | refine Nx.m_split rfl rfl rfl rfl (fun hc => ?_) (fun hc => ?_) | refine Nx.m_splitb rfl rfl rfl rfl (fun hc => ?_) (fun hc => ?_)))
      | ((fail_if_success (with_reducible refine Nx.is_at ?_)); (fail_if_success (with_reducible refine Nx.is_wp ?_)); (fail_if_success (with_reducible refine Nx.is_mix ?_)); first | refine Nx.ex ?_)
    exact Nx.again (k + 1) hlt (by omega) ⟨rfl, rfl, rfl, rfl, rfl, trivial⟩ (by (exact Ent.auto))
  have hsn := take_snocJ hjl
  by_cases hyx : ix.getD j default = (x : Int)
  · have hno := not_mem_take hgk.asc hjl hyx
    rw [if_neg hno]
    have hyes : (if (x : Int) ∈ ix.take (j + 1) then roomS r0 z else r0) = roomS r0 z := if_pos (by rw [hsn, hyx]; simp)
    by_cases h0 : r0 = 0
    · have hS : roomS r0 z = z + 1 := if_pos (.inl h0)
      rw [hS] at hyes
      repeat' first
        | ((with_reducible refine Nx.is_wp ?_); first | refine Nx.wo ?_ | refine Nx.p_dec rfl rfl (fun hc => ?_) (fun hc => ?_) | refine Nx.p_bool rfl rfl (fun hc => ?_) (fun hc => ?_))
        | ((first | refine Nx.at_op rfl rfl ?_ | refine Nx.m_loud rfl rfl rfl ?_ | refine Nx.at_do rfl rfl rfl rfl ?_ | refine Nx.m_loud_do rfl rfl rfl rfl rfl ?_); first | refine Nx.opr rfl rfl ?_ | refine Nx.indexAddr_nat rfl rfl rfl rfl rfl (by omega) (hin.isSome (by omega)) ?_ | refine Nx.load rfl rfl rfl (hin.rd (by omega)) ?_ | refine Nx.so ?_ | refine Nx.sb (fun bx => ?_) | refine Nx.sa (fun A2 c2 => ?_))
        | ((with_reducible refine Nx.is_at ?_); first | refine Nx.a ?_ | ((fail_if_success refine Nx.at_do rfl rfl rfl rfl ?_); first | refine Nx.at_dec_t rfl rfl rfl rfl (by first | assumption | omega) ?_ | refine Nx.at_dec_f rfl rfl rfl rfl (by first | assumption | omega) ?_ | refine Nx.at_split rfl rfl rfl rfl (fun hc => ?_) (fun hc => ?_) | refine Nx.at_splitb rfl rfl rfl rfl (fun hc => ?_) (fun hc => ?_)))
        | ((with_reducible refine Nx.is_mix ?_); first | refine Nx.m ?_ | ((fail_if_success refine Nx.m_quiet_do rfl rfl rfl rfl rfl rfl rfl ?_ ?_); (fail_if_success refine Nx.m_loud_do rfl rfl rfl rfl rfl ?_); first | refine Nx.m_dec_t rfl rfl rfl rfl (by first | assumption | omega) ?_ | refine Nx.m_dec_f rfl rfl rfl rfl (by first | assumption | omega) ?_ | refine Nx.m_split rfl rfl rfl rfl (fun hc => ?_) (fun hc => ?_) | refine Nx.m_splitb rfl rfl rfl rfl (fun hc => ?_) (fun hc => ?_)))
        | ((fail_if_success (with_reducible refine Nx.is_at ?_)); (fail_if_success (with_reducible refine Nx.is_wp ?_)); (fail_if_success (with_reducible refine Nx.is_mix ?_)); first | refine Nx.ex ?_)
      exact Nx.again (j + 1) hjl (by omega) ⟨rfl, by rw [hS, hyes]; rfl, rfl, rfl, rfl, rfl, rfl, rfl, rfl, trivial⟩ (by (exact Ent.auto))
    · by_cases h1 : z + 1 < r0
      · have hS : roomS r0 z = z + 1 := if_pos (.inr h1)
        rw [hS] at hyes
        repeat' first
          | ((with_reducible refine Nx.is_wp ?_); first | refine Nx.wo ?_ | refine Nx.p_dec rfl rfl (fun hc => ?_) (fun hc => ?_) | refine Nx.p_bool rfl rfl (fun hc => ?_) (fun hc => ?_))
          | ((first | refine Nx.at_op rfl rfl ?_ | refine Nx.m_loud rfl rfl rfl ?_ | refine Nx.at_do rfl rfl rfl rfl ?_ | refine Nx.m_loud_do rfl rfl rfl rfl rfl ?_); first | refine Nx.opr rfl rfl ?_ | refine Nx.indexAddr_nat rfl rfl rfl rfl rfl (by omega) (hin.isSome (by omega)) ?_ | refine Nx.load rfl rfl rfl (hin.rd (by omega)) ?_ | refine Nx.so ?_ | refine Nx.sb (fun bx => ?_) | refine Nx.sa (fun A2 c2 => ?_))
          | ((with_reducible refine Nx.is_at ?_); first | refine Nx.a ?_ | ((fail_if_success refine Nx.at_do rfl rfl rfl rfl ?_); first | refine Nx.at_dec_t rfl rfl rfl rfl (by first | assumption | omega) ?_ | refine Nx.at_dec_f rfl rfl rfl rfl (by first | assumption | omega) ?_ | refine Nx.at_split rfl rfl rfl rfl (fun hc => ?_) (fun hc => ?_) | refine Nx.at_splitb rfl rfl rfl rfl (fun hc => ?_) (fun hc => ?_)))
          | ((with_reducible refine Nx.is_mix ?_); first | refine Nx.m ?_ | ((fail_if_success refine Nx.m_quiet_do rfl rfl rfl rfl rfl rfl rfl ?_ ?_); (fail_if_success refine Nx.m_loud_do rfl rfl rfl rfl rfl ?_); first | refine Nx.m_dec_t rfl rfl rfl rfl (by first | assumption | omega) ?_ | refine Nx.m_dec_f rfl rfl rfl rfl (by first | assumption | omega) ?_ | refine Nx.m_split rfl rfl rfl rfl (fun hc => ?_) (fun hc => ?_) | refine Nx.m_splitb rfl rfl rfl rfl (fun hc => ?_) (fun hc => ?_)))
          | ((fail_if_success (with_reducible refine Nx.is_at ?_)); (fail_if_success (with_reducible refine Nx.is_wp ?_)); (fail_if_success (with_reducible refine Nx.is_mix ?_)); first | refine Nx.ex ?_)
        exact Nx.again (j + 1) hjl (by omega) ⟨rfl, by rw [hS, hyes]; rfl, rfl, rfl, rfl, rfl, rfl, rfl, rfl, trivial⟩ (by (exact Ent.auto))
      · have hS : roomS r0 z = r0 := if_neg (by omega)
        rw [hS] at hyes
        repeat' first
          | ((with_reducible refine Nx.is_wp ?_); first | refine Nx.wo ?_ | refine Nx.p_dec rfl rfl (fun hc => ?_) (fun hc => ?_) | refine Nx.p_bool rfl rfl (fun hc => ?_) (fun hc => ?_))
          | ((first | refine Nx.at_op rfl rfl ?_ | refine Nx.m_loud rfl rfl rfl ?_ | refine Nx.at_do rfl rfl rfl rfl ?_ | refine Nx.m_loud_do rfl rfl rfl rfl rfl ?_); first | refine Nx.opr rfl rfl ?_ | refine Nx.indexAddr_nat rfl rfl rfl rfl rfl (by omega) (hin.isSome (by omega)) ?_ | refine Nx.load rfl rfl rfl (hin.rd (by omega)) ?_ | refine Nx.so ?_ | refine Nx.sb (fun bx => ?_) | refine Nx.sa (fun A2 c2 => ?_))
          | ((with_reducible refine Nx.is_at ?_); first | refine Nx.a ?_ | ((fail_if_success refine Nx.at_do rfl rfl rfl rfl ?_); first | refine Nx.at_dec_t rfl rfl rfl rfl (by first | assumption | omega) ?_ | refine Nx.at_dec_f rfl rfl rfl rfl (by first | assumption | omega) ?_ | refine Nx.at_split rfl rfl rfl rfl (fun hc => ?_) (fun hc => ?_) | refine Nx.at_splitb rfl rfl rfl rfl (fun hc => ?_) (fun hc => ?_)))
          | ((with_reducible refine Nx.is_mix ?_); first | refine Nx.m ?_ | ((fail_if_success refine Nx.m_quiet_do rfl rfl rfl rfl rfl rfl rfl ?_ ?_); (fail_if_success refine Nx.m_loud_do rfl rfl rfl rfl rfl ?_); first | refine Nx.m_dec_t rfl rfl rfl rfl (by first | assumption | omega) ?_ | refine Nx.m_dec_f rfl rfl rfl rfl (by first | assumption | omega) ?_ | refine Nx.m_split rfl rfl rfl rfl (fun hc => ?_) (fun hc => ?_) | refine Nx.m_splitb rfl rfl rfl rfl (fun hc => ?_) (fun hc => ?_)))
          | ((fail_if_success (with_reducible refine Nx.is_at ?_)); (fail_if_success (with_reducible refine Nx.is_wp ?_)); (fail_if_success (with_reducible refine Nx.is_mix ?_)); first | refine Nx.ex ?_)
        exact Nx.again (j + 1) hjl (by omega) ⟨rfl, by rw [hS, hyes]; rfl, rfl, rfl, rfl, rfl, rfl, rfl, rfl, trivial⟩ (by (exact Ent.auto))
  · have hno : (if (x : Int) ∈ ix.take (j + 1) then roomS r0 z else r0) = if (x : Int) ∈ ix.take j then roomS r0 z else r0 := by
      have e : ((x : Int) ∈ ix.take j ++ [ix.getD j default]) ↔ (x : Int) ∈ ix.take j := by
        rw [List.mem_append, List.mem_singleton]
        exact ⟨fun h => h.resolve_right fun h => hyx h.symm, .inl⟩
      rw [hsn]
      by_cases hm : (x : Int) ∈ ix.take j
      · rw [if_pos hm, if_pos (e.2 hm)]
      · rw [if_neg hm, if_neg fun h => hm (e.1 h)]
    generalize hcur : (if (x : Int) ∈ ix.take j then roomS r0 z else r0) = cur at hno ⊢
    repeat' first
      | ((with_reducible refine Nx.is_wp ?_); first | refine Nx.wo ?_ | refine Nx.p_dec rfl rfl (fun hc => ?_) (fun hc => ?_) | refine Nx.p_bool rfl rfl (fun hc => ?_) (fun hc => ?_))
      | ((first | refine Nx.at_op rfl rfl ?_ | refine Nx.m_loud rfl rfl rfl ?_ | refine Nx.at_do rfl rfl rfl rfl ?_ | refine Nx.m_loud_do rfl rfl rfl rfl rfl ?_); first | refine Nx.opr rfl rfl ?_ | refine Nx.indexAddr_nat rfl rfl rfl rfl rfl (by omega) (hin.isSome (by omega)) ?_ | refine Nx.load rfl rfl rfl (hin.rd (by omega)) ?_ | refine Nx.so ?_ | refine Nx.sb (fun bx => ?_) | refine Nx.sa (fun A2 c2 => ?_))
      | ((with_reducible refine Nx.is_at ?_); first | refine Nx.a ?_ | ((fail_if_success refine Nx.at_do rfl rfl rfl rfl ?_); first | refine Nx.at_dec_t rfl rfl rfl rfl (by first | assumption | omega) ?_ | refine Nx.at_dec_f rfl rfl rfl rfl (by first | assumption | omega) ?_ | refine Nx.at_split rfl rfl rfl rfl (fun hc => ?_) (fun hc => ?_) | refine Nx.at_splitb rfl rfl rfl rfl (fun hc => ?_) (fun hc => ?_)))
      | ((with_reducible refine Nx.is_mix ?_); first | refine Nx.m ?_ | ((fail_if_success refine Nx.m_quiet_do rfl rfl rfl rfl rfl rfl rfl ?_ ?_); (fail_if_success refine Nx.m_loud_do rfl rfl rfl rfl rfl ?_); first | refine Nx.m_dec_t rfl rfl rfl rfl (by first | assumption | omega) ?_ | refine Nx.m_dec_f rfl rfl rfl rfl (by first | assumption | omega) ?_ | refine Nx.m_split rfl rfl rfl rfl (fun hc => ?_) (fun hc => ?_) | refine Nx.m_splitb rfl rfl rfl rfl (fun hc => ?_) (fun hc => ?_)))
      | ((fail_if_success (with_reducible refine Nx.is_at ?_)); (fail_if_success (with_reducible refine Nx.is_wp ?_)); (fail_if_success (with_reducible refine Nx.is_mix ?_)); first | refine Nx.ex ?_)
    exact Nx.again (j + 1) hjl (by omega) ⟨rfl, by rw [hno]; rfl, rfl, rfl, rfl, rfl, rfl, rfl, rfl, trivial⟩ (by (exact Ent.auto))
end Go.Proofs.Ythncphjakklnoaa
/- Contracts of functions of the given program, and lemmas about plain lists and numbers: what the laws of this seat lean on. -/
namespace Go.Proofs.Ythncphjakklnoaa
open Go.Eng Go.Sol
attribute [local irreducible] opK wpList Code.wp Exit.then Exit.inBlock fnPost bodyPost Nx Calls Oper.wp Rd Rds Wr Ent Stars Blk Again Vec FnSpec wpMix QRun Stop Upto wpAt
/-! The reference's search -/
theorem sumC_app {t : List Int} {v : Int} : ∀ {cs : List Nat}, cs.Nodup → sumC (t ++ [v]) cs = sumC t cs + if t.length ∈ cs then v else 0
  | [], _ => rfl
  | c :: r, h => by
    rw [List.nodup_cons] at h
    rw [sumC, sumC, sumC_app h.2]
    rcases Nat.lt_trichotomy c t.length with hc | hc | hc
    · rw [getD_app_lt hc]
      by_cases hm : t.length ∈ r
      · rw [if_pos hm, if_pos (by simp [hm])]; omega
      · rw [if_neg hm, if_neg (fun h' => (List.mem_cons.1 h').elim (fun h' => by omega) hm)]; omega
    · subst hc
      rw [getD_app_at, if_neg h.1, if_pos (by simp), getD_ge (Nat.le_refl _)]; omega
    · rw [getD_ge (by simp; omega), getD_ge (t := t) (by omega)]
      by_cases hm : t.length ∈ r
      · rw [if_pos hm, if_pos (by simp [hm])]; omega
      · rw [if_neg hm, if_neg (fun h' => (List.mem_cons.1 h').elim (fun h' => by omega) hm)]; omega
theorem restQ_app {t : List Int} {v : Int} {q : Eqn} (h : q.1.Nodup) : restQ (t ++ [v]) q = restQ t q - if t.length ∈ q.1 then v else 0 := by
  unfold restQ; rw [sumC_app h]; omega
theorem eqns_at {l : List EqR} {i : Nat} (hi : i < l.length) : (eqns l).getD i default = eqn (l.getD i default) := by
  unfold eqns
  rw [List.getD_eq_getElem?_getD, List.getElem?_map, List.getD_eq_getElem?_getD, List.getElem?_eq_getElem hi]; rfl
theorem restE_at {l : List EqR} {t : List Int} {i : Nat} (hi : i < l.length) : (restL (eqns l) t).getD i default = restQ t (eqn (l.getD i default)) := by
  rw [restL_at (by rw [eqns_len]; exact hi), eqns_at hi]
def fitQ (t : List Int) (q : Eqn) : Bool := !decide (q.1.getLast? = some (t.length - 1)) || decide (restQ t q = 0)
theorem fitB_eq (L : List Eqn) (t : List Int) : fitB L t = L.all (fitQ t) := rfl
theorem take_most {α : Type} (x y : List α) (m : Nat) : (x.take m ++ y).take m = (x ++ y).take m := by
  rcases Nat.lt_or_ge x.length m with h | h
  · rw [List.take_of_length_le (l := x) (by omega)]
  · rw [List.take_append_of_le_length (by rw [List.length_take]; omega), List.take_take, Nat.min_self, List.take_append_of_le_length h]
def stepF (L : List Eqn) (k : Nat) (t : List Int) (n : Nat) : List (List Int) := if fitB L (t ++ [(n : Int)]) then rs L k (t ++ [(n : Int)]) else []
theorem rs_succ (L : List Eqn) (k : Nat) (t : List Int) : rs L (k + 1) t = (List.range (topF L t + 1).toNat).flatMap (stepF L k t) := rfl
/-- What the search hands back. -/
def SrPost (most : Nat) (o : List Row) (r : List (List Int)) (v : Value) (R' : List Res) : Prop :=
  ∃ (A' : Option Addr) (c' : Nat) (o' : List Row), v = .slice A' o'.length c' ∧ o'.map (·.2.2) = (o.map (·.2.2) ++ r).take most ∧ R' = [Vec 23 1 A' o'.length c' (o'.map rowV), Stars (o'.map rwR)]
theorem rest_drop {L : List Eqn} {t : List Int} {k : Nat} (hk : k < L.length) : (L.drop k).all (fun q => decide (restQ t q = 0)) = (decide ((restL L t).getD k default = 0) && (L.drop (k + 1)).all fun q => decide (restQ t q = 0)) := by
  rw [List.drop_eq_getElem_cons hk, List.all_cons, restL_at hk, List.getD_eq_getElem?_getD, List.getElem?_eq_getElem hk]; rfl
set_option maxRecDepth 10000 in
set_option maxHeartbeats 8000000 in
theorem search_end (A : Option Addr) (c : Nat) (l : List EqR) (n most : Nat) (hm9 : most ≤ 1000000) (I : PH) (t : List Int) (hn : t.length = n) (hn9 : n ≤ 4096) (At : Option Addr) (ct : Nat) (ht : Ints I At ct t) (Ar : Option Addr) (cr : Nat) (hr : Ints I Ar cr (restL (eqns l) t)) (Ao : Option Addr) (co : Nat) (o : List Row) (ho : o.length ≤ most) :
    FnSpec Try.prog 55 [.slice A l.length c, .int .i64 (n : Int), .int .i64 (t.length : Int), .slice At t.length ct, .slice Ar l.length cr, .slice Ao o.length co, .int .i64 (most : Int)] I
      [Vec 23 1 Ao o.length co (o.map rowV), Stars (o.map rwR)] (SrPost most o (rs (eqns l) 0 t)) := by
  have htl := ht.len
  have hrl := hr.len
  rw [restL_len, eqns_len] at hrl
  unfold SrPost
  refine FnSpec.enterP Try.func55 rfl Try.ntmps55 rfl fun w F => ?_
  by_cases hfull : o.length = most
  · repeat' first
      | ((with_reducible refine Nx.is_wp ?_); first | refine Nx.wo ?_ | refine Nx.p_dec rfl rfl (fun hc => ?_) (fun hc => ?_) | refine Nx.p_bool rfl rfl (fun hc => ?_) (fun hc => ?_))
      | ((first | refine Nx.at_op rfl rfl ?_ | refine Nx.m_loud rfl rfl rfl ?_ | refine Nx.at_do rfl rfl rfl rfl ?_ | refine Nx.m_loud_do rfl rfl rfl rfl rfl ?_); first | refine Nx.opr rfl rfl ?_ | refine Nx.so ?_ | refine Nx.sb (fun bx => ?_) | refine Nx.sa (fun A2 c2 => ?_))
      | ((with_reducible refine Nx.is_at ?_); first | refine Nx.a ?_ | ((fail_if_success refine Nx.at_do rfl rfl rfl rfl ?_); first | refine Nx.at_dec_t rfl rfl rfl rfl (by first | assumption | omega) ?_ | refine Nx.at_dec_f rfl rfl rfl rfl (by first | assumption | omega) ?_ | refine Nx.at_split rfl rfl rfl rfl (fun hc => ?_) (fun hc => ?_) | refine Nx.at_splitb rfl rfl rfl rfl (fun hc => ?_) (fun hc => ?_)))
      | ((with_reducible refine Nx.is_mix ?_); first | refine Nx.m ?_ | ((fail_if_success refine Nx.m_quiet_do rfl rfl rfl rfl rfl rfl rfl ?_ ?_); (fail_if_success refine Nx.m_loud_do rfl rfl rfl rfl rfl ?_); first | refine Nx.m_dec_t rfl rfl rfl rfl (by first | assumption | omega) ?_ | refine Nx.m_dec_f rfl rfl rfl rfl (by first | assumption | omega) ?_ | refine Nx.m_split rfl rfl rfl rfl (fun hc => ?_) (fun hc => ?_) | refine Nx.m_splitb rfl rfl rfl rfl (fun hc => ?_) (fun hc => ?_)))
      | ((fail_if_success (with_reducible refine Nx.is_at ?_)); (fail_if_success (with_reducible refine Nx.is_wp ?_)); (fail_if_success (with_reducible refine Nx.is_mix ?_)); first | refine Nx.ex ?_)
    exact Nx.ret_fn rfl [_, _] ⟨Ao, co, o, rfl, by rw [List.take_append_of_le_length (by rw [List.length_map]; omega), List.take_of_length_le (by rw [List.length_map]; omega)], rfl⟩ (by (exact Ent.auto))
  have hlt9 : o.length < most := by omega
  rw [rs]
  repeat' first
    | ((with_reducible refine Nx.is_wp ?_); first | refine Nx.wo ?_ | refine Nx.p_dec rfl rfl (fun hc => ?_) (fun hc => ?_) | refine Nx.p_bool rfl rfl (fun hc => ?_) (fun hc => ?_))
    | ((first | refine Nx.at_op rfl rfl ?_ | refine Nx.m_loud rfl rfl rfl ?_ | refine Nx.at_do rfl rfl rfl rfl ?_ | refine Nx.m_loud_do rfl rfl rfl rfl rfl ?_); first | refine Nx.opr rfl rfl ?_ | refine Nx.so ?_ | refine Nx.sb (fun bx => ?_) | refine Nx.sa (fun A2 c2 => ?_))
    | ((with_reducible refine Nx.is_at ?_); first | refine Nx.a ?_ | ((fail_if_success refine Nx.at_do rfl rfl rfl rfl ?_); first | refine Nx.at_dec_t rfl rfl rfl rfl (by first | assumption | omega) ?_ | refine Nx.at_dec_f rfl rfl rfl rfl (by first | assumption | omega) ?_ | refine Nx.at_split rfl rfl rfl rfl (fun hc => ?_) (fun hc => ?_) | refine Nx.at_splitb rfl rfl rfl rfl (fun hc => ?_) (fun hc => ?_)))
    | ((with_reducible refine Nx.is_mix ?_); first | refine Nx.m ?_ | ((fail_if_success refine Nx.m_quiet_do rfl rfl rfl rfl rfl rfl rfl ?_ ?_); (fail_if_success refine Nx.m_loud_do rfl rfl rfl rfl rfl ?_); first | refine Nx.m_dec_t rfl rfl rfl rfl (by first | assumption | omega) ?_ | refine Nx.m_dec_f rfl rfl rfl rfl (by first | assumption | omega) ?_ | refine Nx.m_split rfl rfl rfl rfl (fun hc => ?_) (fun hc => ?_) | refine Nx.m_splitb rfl rfl rfl rfl (fun hc => ?_) (fun hc => ?_)))
    | ((fail_if_success (with_reducible refine Nx.is_at ?_)); (fail_if_success (with_reducible refine Nx.is_wp ?_)); (fail_if_success (with_reducible refine Nx.is_mix ?_)); first | refine Nx.ex ?_)
  refine Nx.p_loop (σ := Nat) (fun k => [(3, .slice At t.length ct), (5, .slice Ao o.length co), (37, .slice Ar l.length cr), (38, .int .i64 l.length), (39, .int .i64 (k : Int))])
    (fun _ => [Vec 23 1 Ao o.length co (o.map rowV), Stars (o.map rwR), F]) (fun k => k ≤ l.length ∧ (eqns l).all (fun q => decide (restQ t q = 0)) = ((eqns l).drop k).all fun q => decide (restQ t q = 0)) (fun k => l.length - k) 0 rfl ⟨Nat.zero_le _, rfl⟩ ⟨rfl, rfl, rfl, rfl, rfl, trivial⟩ (by (exact Ent.auto)) ?_
  rintro k ⟨hk, he⟩
  by_cases hlt : k < l.length
  · have hrd : ∀ (W : World) (R : List Res), Rd W I R ((ad Ar).add (k * 1)) (.int .i64 ((restL (eqns l) t).getD k default)) := fun W R => hr.rd (by rw [restL_len, eqns_len]; exact hlt)
    rw [rest_drop (by rw [eqns_len]; exact hlt)] at he
    generalize (restL (eqns l) t).getD k default = z at he hrd
    by_cases hz : z = 0
    · rw [decide_eq_true hz, Bool.true_and] at he
      repeat' first
        | ((with_reducible refine Nx.is_wp ?_); first | refine Nx.wo ?_ | refine Nx.p_dec rfl rfl (fun hc => ?_) (fun hc => ?_) | refine Nx.p_bool rfl rfl (fun hc => ?_) (fun hc => ?_))
        | ((first | refine Nx.at_op rfl rfl ?_ | refine Nx.m_loud rfl rfl rfl ?_ | refine Nx.at_do rfl rfl rfl rfl ?_ | refine Nx.m_loud_do rfl rfl rfl rfl rfl ?_); first | refine Nx.opr rfl rfl ?_ | refine Nx.indexAddr_nat rfl rfl rfl rfl rfl (by omega) (hr.isSome (by rw [restL_len, eqns_len]; omega)) ?_ | refine Nx.load rfl rfl rfl (hrd _ _) ?_ | refine Nx.so ?_ | refine Nx.sb (fun bx => ?_) | refine Nx.sa (fun A2 c2 => ?_))
        | ((with_reducible refine Nx.is_at ?_); first | refine Nx.a ?_ | ((fail_if_success refine Nx.at_do rfl rfl rfl rfl ?_); first | refine Nx.at_dec_t rfl rfl rfl rfl (by first | assumption | omega) ?_ | refine Nx.at_dec_f rfl rfl rfl rfl (by first | assumption | omega) ?_ | refine Nx.at_split rfl rfl rfl rfl (fun hc => ?_) (fun hc => ?_) | refine Nx.at_splitb rfl rfl rfl rfl (fun hc => ?_) (fun hc => ?_)))
        | ((with_reducible refine Nx.is_mix ?_); first | refine Nx.m ?_ | ((fail_if_success refine Nx.m_quiet_do rfl rfl rfl rfl rfl rfl rfl ?_ ?_); (fail_if_success refine Nx.m_loud_do rfl rfl rfl rfl rfl ?_); first | refine Nx.m_dec_t rfl rfl rfl rfl (by first | assumption | omega) ?_ | refine Nx.m_dec_f rfl rfl rfl rfl (by first | assumption | omega) ?_ | refine Nx.m_split rfl rfl rfl rfl (fun hc => ?_) (fun hc => ?_) | refine Nx.m_splitb rfl rfl rfl rfl (fun hc => ?_) (fun hc => ?_)))
        | ((fail_if_success (with_reducible refine Nx.is_at ?_)); (fail_if_success (with_reducible refine Nx.is_wp ?_)); (fail_if_success (with_reducible refine Nx.is_mix ?_)); first | refine Nx.ex ?_)
      exact Nx.again (k + 1) ⟨hlt, he⟩ (by omega) ⟨rfl, rfl, rfl, rfl, rfl, trivial⟩ (by (exact Ent.auto))
    · rw [decide_eq_false hz, Bool.false_and] at he
      rw [he, if_neg (by decide)]
      repeat' first
        | ((with_reducible refine Nx.is_wp ?_); first | refine Nx.wo ?_ | refine Nx.p_dec rfl rfl (fun hc => ?_) (fun hc => ?_) | refine Nx.p_bool rfl rfl (fun hc => ?_) (fun hc => ?_))
        | ((first | refine Nx.at_op rfl rfl ?_ | refine Nx.m_loud rfl rfl rfl ?_ | refine Nx.at_do rfl rfl rfl rfl ?_ | refine Nx.m_loud_do rfl rfl rfl rfl rfl ?_); first | refine Nx.opr rfl rfl ?_ | refine Nx.indexAddr_nat rfl rfl rfl rfl rfl (by omega) (hr.isSome (by rw [restL_len, eqns_len]; omega)) ?_ | refine Nx.load rfl rfl rfl (hrd _ _) ?_ | refine Nx.so ?_ | refine Nx.sb (fun bx => ?_) | refine Nx.sa (fun A2 c2 => ?_))
        | ((with_reducible refine Nx.is_at ?_); first | refine Nx.a ?_ | ((fail_if_success refine Nx.at_do rfl rfl rfl rfl ?_); first | refine Nx.at_dec_t rfl rfl rfl rfl (by first | assumption | omega) ?_ | refine Nx.at_dec_f rfl rfl rfl rfl (by first | assumption | omega) ?_ | refine Nx.at_split rfl rfl rfl rfl (fun hc => ?_) (fun hc => ?_) | refine Nx.at_splitb rfl rfl rfl rfl (fun hc => ?_) (fun hc => ?_)))
        | ((with_reducible refine Nx.is_mix ?_); first | refine Nx.m ?_ | ((fail_if_success refine Nx.m_quiet_do rfl rfl rfl rfl rfl rfl rfl ?_ ?_); (fail_if_success refine Nx.m_loud_do rfl rfl rfl rfl rfl ?_); first | refine Nx.m_dec_t rfl rfl rfl rfl (by first | assumption | omega) ?_ | refine Nx.m_dec_f rfl rfl rfl rfl (by first | assumption | omega) ?_ | refine Nx.m_split rfl rfl rfl rfl (fun hc => ?_) (fun hc => ?_) | refine Nx.m_splitb rfl rfl rfl rfl (fun hc => ?_) (fun hc => ?_)))
        | ((fail_if_success (with_reducible refine Nx.is_at ?_)); (fail_if_success (with_reducible refine Nx.is_wp ?_)); (fail_if_success (with_reducible refine Nx.is_mix ?_)); first | refine Nx.ex ?_)
      exact Nx.ret_fn rfl [_, _] ⟨Ao, co, o, rfl, by rw [List.append_nil, List.take_of_length_le (by rw [List.length_map]; omega)], rfl⟩ (by (exact Ent.auto))
  · obtain rfl : k = l.length := by omega
    rw [List.drop_eq_nil_of_le (by rw [eqns_len]; exact Nat.le_refl _)] at he
    rw [he, List.all_nil, if_pos rfl]
    repeat' first
      | ((with_reducible refine Nx.is_wp ?_); first | refine Nx.wo ?_ | refine Nx.p_dec rfl rfl (fun hc => ?_) (fun hc => ?_) | refine Nx.p_bool rfl rfl (fun hc => ?_) (fun hc => ?_))
      | ((first | refine Nx.at_op rfl rfl ?_ | refine Nx.m_loud rfl rfl rfl ?_ | refine Nx.at_do rfl rfl rfl rfl ?_ | refine Nx.m_loud_do rfl rfl rfl rfl rfl ?_); first | refine Nx.opr rfl rfl ?_ | refine Nx.so ?_ | refine Nx.sb (fun bx => ?_) | refine Nx.sa (fun A2 c2 => ?_))
      | ((with_reducible refine Nx.is_at ?_); first | refine Nx.a ?_ | ((fail_if_success refine Nx.at_do rfl rfl rfl rfl ?_); first | refine Nx.at_dec_t rfl rfl rfl rfl (by first | assumption | omega) ?_ | refine Nx.at_dec_f rfl rfl rfl rfl (by first | assumption | omega) ?_ | refine Nx.at_split rfl rfl rfl rfl (fun hc => ?_) (fun hc => ?_) | refine Nx.at_splitb rfl rfl rfl rfl (fun hc => ?_) (fun hc => ?_)))
      | ((with_reducible refine Nx.is_mix ?_); first | refine Nx.m ?_ | ((fail_if_success refine Nx.m_quiet_do rfl rfl rfl rfl rfl rfl rfl ?_ ?_); (fail_if_success refine Nx.m_loud_do rfl rfl rfl rfl rfl ?_); first | refine Nx.m_dec_t rfl rfl rfl rfl (by first | assumption | omega) ?_ | refine Nx.m_dec_f rfl rfl rfl rfl (by first | assumption | omega) ?_ | refine Nx.m_split rfl rfl rfl rfl (fun hc => ?_) (fun hc => ?_) | refine Nx.m_splitb rfl rfl rfl rfl (fun hc => ?_) (fun hc => ?_)))
      | ((fail_if_success (with_reducible refine Nx.is_at ?_)); (fail_if_success (with_reducible refine Nx.is_wp ?_)); (fail_if_success (with_reducible refine Nx.is_mix ?_)); first | refine Nx.ex ?_)
    refine Nx.blk_vec 0 0 1 rfl rfl (by omega) ?_
    refine Nx.at_op rfl rfl ?_
    refine Nx.append rfl rfl rfl rfl (by kernel_rfl) rfl (Src.arr ht.arr (by simp) (by omega) (fun u hu => by obtain ⟨z, _, rfl⟩ := List.mem_map.1 hu; rfl)) (by omega) fun A' c' => ?_
    rw [Nat.zero_add, List.nil_append]
    repeat' first
      | ((with_reducible refine Nx.is_wp ?_); first | refine Nx.wo ?_ | refine Nx.p_dec rfl rfl (fun hc => ?_) (fun hc => ?_) | refine Nx.p_bool rfl rfl (fun hc => ?_) (fun hc => ?_))
      | ((first | refine Nx.at_op rfl rfl ?_ | refine Nx.m_loud rfl rfl rfl ?_ | refine Nx.at_do rfl rfl rfl rfl ?_ | refine Nx.m_loud_do rfl rfl rfl rfl rfl ?_); first | refine Nx.opr rfl rfl ?_ | refine Nx.so ?_ | refine Nx.sb (fun bx => ?_) | refine Nx.sa (fun A2 c2 => ?_))
      | ((with_reducible refine Nx.is_at ?_); first | refine Nx.a ?_ | ((fail_if_success refine Nx.at_do rfl rfl rfl rfl ?_); first | refine Nx.at_dec_t rfl rfl rfl rfl (by first | assumption | omega) ?_ | refine Nx.at_dec_f rfl rfl rfl rfl (by first | assumption | omega) ?_ | refine Nx.at_split rfl rfl rfl rfl (fun hc => ?_) (fun hc => ?_) | refine Nx.at_splitb rfl rfl rfl rfl (fun hc => ?_) (fun hc => ?_)))
      | ((with_reducible refine Nx.is_mix ?_); first | refine Nx.m ?_ | ((fail_if_success refine Nx.m_quiet_do rfl rfl rfl rfl rfl rfl rfl ?_ ?_); (fail_if_success refine Nx.m_loud_do rfl rfl rfl rfl rfl ?_); first | refine Nx.m_dec_t rfl rfl rfl rfl (by first | assumption | omega) ?_ | refine Nx.m_dec_f rfl rfl rfl rfl (by first | assumption | omega) ?_ | refine Nx.m_split rfl rfl rfl rfl (fun hc => ?_) (fun hc => ?_) | refine Nx.m_splitb rfl rfl rfl rfl (fun hc => ?_) (fun hc => ?_)))
      | ((fail_if_success (with_reducible refine Nx.is_at ?_)); (fail_if_success (with_reducible refine Nx.is_wp ?_)); (fail_if_success (with_reducible refine Nx.is_mix ?_)); first | refine Nx.ex ?_)
    refine Nx.ent (R' := [rwR (A', c', t), Stars (o.map rwR), Vec 23 1 A2 (o.length + 1) c2 (o.map rowV ++ [rowV (A', c', t)]), F]) (by unfold rwR iR; (exact Ent.auto)) (Nx.ent Ent.bundle ?_)
    exact Nx.ret_fn rfl [Vec 23 1 A2 (o.length + 1) c2 (o.map rowV ++ [rowV (A', c', t)]), Stars (o.map rwR ++ [rwR (A', c', t)])]
      ⟨A2, c2, o ++ [(A', c', t)], by rw [List.length_append]; rfl, by rw [List.map_append, List.take_of_length_le (by simp; omega)]; rfl, by rw [List.length_append, List.map_append, List.map_append]; rfl⟩ (by (exact Ent.auto))
theorem topF_le {L : List Eqn} {t : List Int} (hv : ∀ q ∈ L, 0 ≤ q.2 ∧ q.2 ≤ 1000000) : topF L t ≤ 1000000 := by
  have h1 : topF L t ≤ max 0 (roomR L t.length - 1) := ((le_gtF L).1 (Int.le_refl _)).1
  have h2 := roomR_facts (c := t.length) L fun q hq => (hv q hq).1
  by_cases h0 : roomR L t.length = 0
  · omega
  · obtain ⟨q, hq, hx⟩ : ∃ q ∈ L, t.length ∈ q.1 := Classical.byContradiction fun hno => h0 (h2.2.1.2 fun q hq hx => hno ⟨q, hq, hx⟩)
    have := (h2.2.2 h0 (roomR L t.length - 1)).1 (Int.le_refl _) q hq hx
    have := (hv q hq).2
    omega
/-- What is left of the equations behind the first i of them, when a cell has got a number. -/
def mixR (L : List Eqn) (t : List Int) (v : Int) (i : Nat) : List Int := (restL L (t ++ [v])).take i ++ (restL L t).drop i
theorem mixR_len {L : List Eqn} {t : List Int} {v : Int} {i : Nat} (hi : i ≤ L.length) : (mixR L t v i).length = L.length := by
  unfold mixR; rw [List.length_append, List.length_take, List.length_drop, restL_len, restL_len]; omega
theorem mixR_at {L : List Eqn} {t : List Int} {v : Int} {i : Nat} (hi : i < L.length) : (mixR L t v i).getD i default = restQ t (L.getD i default) := by
  have hl : ((restL L (t ++ [v])).take i).length = i := by rw [List.length_take, restL_len]; omega
  unfold mixR
  rw [List.getD_eq_getElem?_getD, List.getElem?_append_right (by omega), hl, Nat.sub_self, List.getElem?_drop, Nat.add_zero, ← List.getD_eq_getElem?_getD, restL_at hi]
theorem mixR_set {L : List Eqn} {t : List Int} {v : Int} {i : Nat} (hi : i < L.length) : (mixR L t v i).set i (restQ (t ++ [v]) (L.getD i default)) = mixR L t v (i + 1) := by
  have hl : ((restL L (t ++ [v])).take i).length = i := by rw [List.length_take, restL_len]; omega
  unfold mixR
  rw [List.set_append_right _ _ (by omega), hl, Nat.sub_self, List.drop_eq_getElem_cons (by rw [restL_len]; exact hi), List.set_cons_zero, List.take_succ_eq_append_getElem (by rw [restL_len]; exact hi), List.append_assoc]
  congr 1
  rw [List.singleton_append]
  congr 1
  unfold restL
  rw [List.getElem_map, List.getD_eq_getElem?_getD, List.getElem?_eq_getElem hi]; rfl
theorem mixR_zero (L : List Eqn) (t : List Int) (v : Int) : mixR L t v 0 = restL L t := by unfold mixR; simp
theorem mixR_all (L : List Eqn) (t : List Int) (v : Int) : mixR L t v L.length = restL L (t ++ [v]) := by
  unfold mixR
  rw [List.take_of_length_le (by rw [restL_len]; exact Nat.le_refl _), List.drop_eq_nil_of_le (by rw [restL_len]; exact Nat.le_refl _), List.append_nil]
end Go.Proofs.Ythncphjakklnoaa
