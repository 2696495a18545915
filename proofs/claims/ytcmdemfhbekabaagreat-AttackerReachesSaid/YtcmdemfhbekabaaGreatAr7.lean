/-
  Plain: the solutions of equations found cell by cell in the order of the cells, with what is left of each equation.
-/
import Derived.Test.YtcmdemfhbekabaaGreatAr6
namespace Go.Sol
/-- The least value of the equations in which a cell is, plus 1; 0 if it is in none. -/
def roomR (L : List Eqn) (c : Nat) : Int := L.foldl (fun a q => if c ∈ q.1 then (if a = 0 ∨ q.2 + 1 < a then q.2 + 1 else a) else a) 0
theorem roomR_snoc (L : List Eqn) (q : Eqn) (c : Nat) : roomR (L ++ [q]) c = if c ∈ q.1 then (if roomR L c = 0 ∨ q.2 + 1 < roomR L c then q.2 + 1 else roomR L c) else roomR L c := by
  unfold roomR; rw [List.foldl_append]; rfl
theorem snoc_ind {α : Type} {p : List α → Prop} (h0 : p []) (h1 : ∀ l x, p l → p (l ++ [x])) : ∀ l, p l := fun l => by
  rw [← List.reverse_reverse l]
  induction l.reverse with
  | nil => exact h0
  | cons x r ih => rw [List.reverse_cons]; exact h1 _ _ ih
theorem roomR_facts {c : Nat} : ∀ (L : List Eqn), (∀ q ∈ L, 0 ≤ q.2) → 0 ≤ roomR L c ∧ (roomR L c = 0 ↔ ∀ q ∈ L, c ∉ q.1) ∧ (roomR L c ≠ 0 → ∀ v, v ≤ roomR L c - 1 ↔ ∀ q ∈ L, c ∈ q.1 → v ≤ q.2) := by
  refine snoc_ind ?_ ?_
  · intro _
    exact ⟨Int.le_refl _, ⟨fun _ q hq => (nomatch hq), fun _ => rfl⟩, fun h => absurd rfl h⟩
  · intro L q ih hv
    obtain ⟨h1, h2, h3⟩ := ih fun p hp => hv p (by simp [hp])
    have hq := hv q (by simp)
    rw [roomR_snoc]
    by_cases hc : c ∈ q.1
    · rw [if_pos hc]
      by_cases h0 : roomR L c = 0
      · rw [if_pos (.inl h0)]
        refine ⟨by omega, ⟨fun h => by omega, fun h => absurd hc (h q (by simp))⟩, fun _ v => ⟨fun h p hp hcp => ?_, fun h => by have := h q (by simp) hc; omega⟩⟩
        rcases List.mem_append.1 hp with hp | hp
        · exact absurd hcp ((h2.1 h0) p hp)
        · rw [List.mem_singleton] at hp; subst hp; omega
      · have h3 := h3 h0
        by_cases hlt : q.2 + 1 < roomR L c
        · rw [if_pos (.inr hlt)]
          refine ⟨by omega, ⟨fun h => by omega, fun h => absurd hc (h q (by simp))⟩, fun _ v => ⟨fun h p hp hcp => ?_, fun h => by have := h q (by simp) hc; omega⟩⟩
          rcases List.mem_append.1 hp with hp | hp
          · exact (h3 v).1 (by omega) p hp hcp
          · rw [List.mem_singleton] at hp; subst hp; omega
        · rw [if_neg (by omega)]
          refine ⟨h1, ⟨fun h => absurd h h0, fun h => absurd hc (h q (by simp))⟩, fun _ v => ⟨fun h p hp hcp => ?_, fun h => (h3 v).2 fun p hp hcp => h p (by simp [hp]) hcp⟩⟩
          rcases List.mem_append.1 hp with hp | hp
          · exact (h3 v).1 h p hp hcp
          · rw [List.mem_singleton] at hp; subst hp; omega
    · rw [if_neg hc]
      refine ⟨h1, ⟨fun h p hp => ?_, fun h => h2.2 fun p hp => h p (by simp [hp])⟩, fun h0 v => ⟨fun h p hp hcp => ?_, fun h => (h3 h0 v).2 fun p hp hcp => h p (by simp [hp]) hcp⟩⟩
      · rcases List.mem_append.1 hp with hp | hp
        · exact h2.1 h p hp
        · rw [List.mem_singleton] at hp; subst hp; exact hc
      · rcases List.mem_append.1 hp with hp | hp
        · exact (h3 h0 v).1 h p hp hcp
        · rw [List.mem_singleton] at hp; subst hp; exact absurd hcp hc
/-- How far a cell can go, where so much is left of each equation. -/
def gtF (t : List Int) (c : Nat) (a : Int) (L : List Eqn) : Int := L.foldl (fun a q => if c ∈ q.1 then min a (restQ t q) else a) a
theorem gtF_snoc (t : List Int) (c : Nat) (a : Int) (L : List Eqn) (q : Eqn) : gtF t c a (L ++ [q]) = if c ∈ q.1 then min (gtF t c a L) (restQ t q) else gtF t c a L := by
  unfold gtF; rw [List.foldl_append]; rfl
theorem le_gtF {t : List Int} {c : Nat} {a v : Int} : ∀ (L : List Eqn), v ≤ gtF t c a L ↔ v ≤ a ∧ ∀ q ∈ L, c ∈ q.1 → v ≤ restQ t q := by
  refine snoc_ind ?_ ?_
  · exact ⟨fun h => ⟨h, fun q hq => (nomatch hq)⟩, fun h => h.1⟩
  · intro L q ih
    rw [gtF_snoc]
    by_cases hc : c ∈ q.1
    · rw [if_pos hc, Int.le_min, ih]
      refine ⟨fun h => ⟨h.1.1, fun p hp hcp => ?_⟩, fun h => ⟨⟨h.1, fun p hp => h.2 p (by simp [hp])⟩, h.2 q (by simp) hc⟩⟩
      rcases List.mem_append.1 hp with hp | hp
      · exact h.1.2 p hp hcp
      · rw [List.mem_singleton] at hp; subst hp; exact h.2
    · rw [if_neg hc, ih]
      refine ⟨fun h => ⟨h.1, fun p hp hcp => ?_⟩, fun h => ⟨h.1, fun p hp => h.2 p (by simp [hp])⟩⟩
      rcases List.mem_append.1 hp with hp | hp
      · exact h.2 p hp hcp
      · rw [List.mem_singleton] at hp; subst hp; exact absurd hcp hc
def topF (L : List Eqn) (t : List Int) : Int := gtF t t.length (max 0 (roomR L t.length - 1)) L
/-- Whether the equations whose last cell has just got its number are right. -/
def fitB (L : List Eqn) (t : List Int) : Bool := L.all fun q => !decide (q.1.getLast? = some (t.length - 1)) || decide (restQ t q = 0)
def rs (L : List Eqn) : Nat → List Int → List (List Int)
  | 0, t => if L.all (fun q => decide (restQ t q = 0)) then [t] else []
  | k + 1, t => (List.range (topF L t + 1).toNat).flatMap fun (n : Nat) => if fitB L (t ++ [(n : Int)]) then rs L k (t ++ [(n : Int)]) else []
/-- Equations over cells below N, ascending. -/
structure Asc (N : Nat) (L : List Eqn) : Prop where
  asc : ∀ q ∈ L, q.1.Pairwise (· < ·)
  lt : ∀ q ∈ L, ∀ c ∈ q.1, c < N
  val : ∀ q ∈ L, 0 ≤ q.2
theorem Asc.once {N : Nat} {L : List Eqn} (h : Asc N L) : Once L := fun q hq => (h.asc q hq).imp fun h => Nat.ne_of_lt h
theorem getD_app_lt {t r : List Int} {c : Nat} (h : c < t.length) : (t ++ r).getD c 0 = t.getD c 0 := by
  rw [List.getD_eq_getElem?_getD, List.getD_eq_getElem?_getD, List.getElem?_append_left h]
theorem getD_ge {t : List Int} {c : Nat} (h : t.length ≤ c) : t.getD c 0 = 0 := by
  rw [List.getD_eq_getElem?_getD, List.getElem?_eq_none h]; rfl
theorem getD_app_at {t : List Int} {v : Int} : (t ++ [v]).getD t.length 0 = v := by
  rw [List.getD_eq_getElem?_getD, List.getElem?_append_right (Nat.le_refl _), Nat.sub_self]; rfl
theorem last_le : ∀ {cs : List Nat} {m : Nat}, cs.Pairwise (· < ·) → cs.getLast? = some m → ∀ c ∈ cs, c ≤ m
  | [], _, _, h => by cases h
  | [x], m, _, h => by
    have h : some x = some m := h
    injection h with h
    intro c hc; rw [List.mem_singleton] at hc; omega
  | x :: y :: r, m, hp, h => by
    rw [List.getLast?_cons_cons] at h
    rw [List.pairwise_cons] at hp
    have ih := last_le hp.2 h
    intro c hc
    rcases List.mem_cons.1 hc with rfl | hc
    · have := hp.1 y (by simp); have := ih y (by simp); omega
    · exact ih c hc
/-- A table that goes on from a shorter one. -/
structure From (L : List Eqn) (k : Nat) (t s : List Int) : Prop where
  len : s.length = t.length + k
  pre : s.take t.length = t
  pos : ∀ c, t.length ≤ c → 0 ≤ s.getD c 0 ∧ ((∀ q ∈ L, c ∉ q.1) → s.getD c 0 = 0)
  sum : ∀ q ∈ L, sumC s q.1 = q.2
theorem pre_at {s t : List Int} (h : s.take t.length = t) {c : Nat} (hc : c < t.length) : s.getD c 0 = t.getD c 0 := by
  rw [← h, List.length_take] at hc
  rw [← h, List.getD_eq_getElem?_getD, List.getD_eq_getElem?_getD, List.getElem?_take, if_pos (by omega)]
theorem pre_snoc {s t : List Int} (h : s.take t.length = t) (hl : t.length < s.length) : s.take (t.length + 1) = t ++ [s.getD t.length 0] := by
  rw [List.take_succ_eq_append_getElem hl, h, List.getD_eq_getElem?_getD, List.getElem?_eq_getElem hl]; rfl
theorem mem_rs {N : Nat} {L : List Eqn} (ha : Asc N L) : ∀ {k : Nat} {t s : List Int}, t.length + k = N → (∀ c, 0 ≤ t.getD c 0) → (s ∈ rs L k t ↔ From L k t s)
  | 0, t, s, hN, h0 => by
    rw [rs]
    constructor
    · intro h
      by_cases hall : L.all (fun q => decide (restQ t q = 0)) = true
      · rw [if_pos hall, List.mem_singleton] at h
        subst h
        refine ⟨rfl, List.take_length, fun c hc => by rw [getD_ge hc]; exact ⟨Int.le_refl _, fun _ => rfl⟩, fun q hq => ?_⟩
        have := of_decide_eq_true (List.all_eq_true.1 hall q hq)
        unfold restQ at this
        omega
      · rw [if_neg hall] at h; cases h
    · intro h
      have hst : s = t := by
        have := h.pre
        rwa [← Nat.add_zero t.length, ← h.len, List.take_length] at this
      subst hst
      rw [if_pos (List.all_eq_true.2 fun q hq => decide_eq_true (by have := h.sum q hq; unfold restQ; omega))]
      exact List.mem_singleton.2 rfl
  | k + 1, t, s, hN, h0 => by
    rw [rs, List.mem_flatMap]
    constructor
    · rintro ⟨n, hn, hs⟩
      rw [List.mem_range] at hn
      by_cases hf : fitB L (t ++ [(n : Int)]) = true
      · rw [if_pos hf] at hs
        have hl1 : (t ++ [(n : Int)]).length = t.length + 1 := by simp
        have h0' : ∀ c, 0 ≤ (t ++ [(n : Int)]).getD c 0 := fun c => by
          rcases Nat.lt_trichotomy c t.length with h | h | h
          · rw [getD_app_lt h]; exact h0 c
          · subst h; rw [getD_app_at]; omega
          · rw [getD_ge (by rw [hl1]; omega)]; exact Int.le_refl _
        have g := (mem_rs ha (by rw [hl1]; omega) h0').1 hs
        have hat : s.getD t.length 0 = n := by
          rw [pre_at g.pre (by rw [hl1]; omega), getD_app_at]
        refine ⟨by rw [g.len, hl1]; omega, ?_, fun c hc => ?_, g.sum⟩
        · have := congrArg (List.take t.length) g.pre
          rwa [List.take_take, hl1, Nat.min_eq_left (by omega), List.take_left' rfl] at this
        · rcases Nat.lt_or_ge t.length c with h | h
          · exact g.pos c (by rw [hl1]; omega)
          · obtain rfl : c = t.length := by omega
            rw [hat]
            refine ⟨by omega, fun hno => ?_⟩
            have hle := (le_gtF L).1 (show (n : Int) ≤ gtF t t.length (max 0 (roomR L t.length - 1)) L by unfold topF at hn; omega)
            have hr := (roomR_facts (c := t.length) L ha.val).2.1.2 hno
            have := hle.1
            omega
      · rw [if_neg hf] at hs; cases hs
    · intro g
      have hlt : t.length < s.length := by rw [g.len]; omega
      have hp := g.pos t.length (Nat.le_refl _)
      have hnn : ∀ c, 0 ≤ s.getD c 0 := fun c => by
        rcases Nat.lt_or_ge c t.length with h | h
        · rw [pre_at g.pre h]; exact h0 c
        · exact (g.pos c h).1
      have htn : ((s.getD t.length 0).toNat : Int) = s.getD t.length 0 := by omega
      refine ⟨(s.getD t.length 0).toNat, List.mem_range.2 ?_, ?_⟩
      · have : s.getD t.length 0 ≤ topF L t := by
          unfold topF
          refine (le_gtF L).2 ⟨?_, fun q hq hc => ?_⟩
          · obtain ⟨r1, r2, r3⟩ := roomR_facts (c := t.length) L ha.val
            by_cases hr : roomR L t.length = 0
            · have := hp.2 (r2.1 hr); omega
            · have := (r3 hr (s.getD t.length 0)).2 fun q hq hc => by
                have := le_sumC (s := s) (c := t.length) (cs := q.1) (fun d _ => hnn d) hc
                have := g.sum q hq
                omega
              omega
          · have h1 : sumC s q.1 = sumC t q.1 + sumC s (q.1.filter fun c => decide (t.length ≤ c)) := by
              have : ∀ cs : List Nat, sumC s cs = sumC t cs + sumC s (cs.filter fun c => decide (t.length ≤ c)) := by
                intro cs
                induction cs with
                | nil => rfl
                | cons d r ih =>
                  rw [sumC, sumC, ih]
                  rcases Nat.lt_or_ge d t.length with h | h
                  · rw [List.filter_cons_of_neg (by simpa using h), pre_at g.pre h]; omega
                  · rw [List.filter_cons_of_pos (by simpa using h), sumC, getD_ge h]; omega
              exact this _
            have h2 := le_sumC (s := s) (c := t.length) (cs := q.1.filter fun c => decide (t.length ≤ c)) (fun d _ => hnn d) (List.mem_filter.2 ⟨hc, by simp⟩)
            have h3 := g.sum q hq
            unfold restQ
            omega
        omega
      · rw [htn]
        have hl1 : (t ++ [s.getD t.length 0]).length = t.length + 1 := by simp
        have hpre := pre_snoc g.pre hlt
        rw [if_pos]
        · refine (mem_rs ha (by rw [hl1]; omega) (fun c => ?_)).2 ⟨by rw [g.len, hl1]; omega, by rw [hl1]; exact hpre, fun c hc => g.pos c (by rw [hl1] at hc; omega), g.sum⟩
          rcases Nat.lt_or_ge c (t.length + 1) with h | h
          · rw [← pre_at (s := s) (by rw [hl1]; exact hpre) (by rw [hl1]; exact h)]; exact hnn c
          · rw [getD_ge (by rw [hl1]; exact h)]; exact Int.le_refl _
        · refine List.all_eq_true.2 fun q hq => ?_
          rw [hl1, Nat.add_sub_cancel]
          by_cases hla : q.1.getLast? = some t.length
          · have hle := last_le (ha.asc q hq) hla
            have : sumC (t ++ [s.getD t.length 0]) q.1 = sumC s q.1 := sumC_congr fun c hc => (pre_at (s := s) (by rw [hl1]; exact hpre) (by rw [hl1]; have := hle c hc; omega)).symm
            rw [decide_eq_true hla, decide_eq_true (show restQ (t ++ [s.getD t.length 0]) q = 0 by unfold restQ; rw [this, g.sum q hq]; omega)]
            rfl
          · rw [decide_eq_false hla]; rfl
theorem rs_sorted {N : Nat} {L : List Eqn} (ha : Asc N L) : ∀ {k : Nat} {t : List Int}, t.length + k = N → (∀ c, 0 ≤ t.getD c 0) → (rs L k t).Pairwise (ltU false (List.range' t.length k))
  | 0, t, _, _ => by
    rw [rs]
    split
    · exact List.pairwise_singleton _ _
    · exact List.Pairwise.nil
  | k + 1, t, hN, h0 => by
    rw [rs]
    have hl1 : ∀ n : Nat, (t ++ [(n : Int)]).length = t.length + 1 := fun n => by simp
    have h0' : ∀ (n : Nat) c, 0 ≤ (t ++ [(n : Int)]).getD c 0 := fun n c => by
      rcases Nat.lt_trichotomy c t.length with h | h | h
      · rw [getD_app_lt h]; exact h0 c
      · subst h; rw [getD_app_at]; omega
      · rw [getD_ge (by rw [hl1]; omega)]; exact Int.le_refl _
    have hat : ∀ (n : Nat) s, s ∈ (if fitB L (t ++ [(n : Int)]) then rs L k (t ++ [(n : Int)]) else []) → s.getD t.length 0 = n := fun n s hs => by
      split at hs
      · have g := (mem_rs ha (by rw [hl1]; omega) (h0' n)).1 hs
        rw [pre_at g.pre (by rw [hl1]; omega), getD_app_at]
      · cases hs
    refine pairwise_flatMap (fun n _ => ?_) ?_
    · rw [List.range'_succ]
      split
      · have ih := rs_sorted ha (k := k) (t := t ++ [(n : Int)]) (by rw [hl1]; omega) (h0' n)
        rw [hl1] at ih
        rename_i hf
        refine List.Pairwise.imp_of_mem (fun {a b} hia hib hab => ?_) ih
        refine .inr ⟨?_, hab⟩
        rw [hat n a (by rw [if_pos hf]; exact hia), hat n b (by rw [if_pos hf]; exact hib)]
      · exact List.Pairwise.nil
    · refine List.Pairwise.imp (fun {x y} hxy a hia b hib => ?_) List.pairwise_lt_range
      rw [List.range'_succ]
      refine .inl ?_
      rw [if_neg (by decide), hat x a hia, hat y b hib]
      omega
/-- The product of the rooms of some cells. -/
def prodR (L : List Eqn) : List Nat → Int
  | [] => 1
  | c :: r => max 1 (roomR L c) * prodR L r
theorem prodR_pos (L : List Eqn) : ∀ cs, 1 ≤ prodR L cs
  | [] => Int.le_refl _
  | c :: r => by
    have h1 : (1 : Int) * 1 ≤ max 1 (roomR L c) * prodR L r := Int.mul_le_mul (by omega) (prodR_pos L r) (by omega) (by omega)
    rw [prodR]; omega
theorem flatMap_len_le {α β : Type} {f : α → List β} {m : Nat} : ∀ {l : List α}, (∀ x ∈ l, (f x).length ≤ m) → (l.flatMap f).length ≤ l.length * m
  | [], _ => by simp
  | x :: r, h => by
    rw [List.flatMap_cons, List.length_append, List.length_cons, Nat.succ_mul]
    have := flatMap_len_le (l := r) fun y hy => h y (by simp [hy])
    have := h x (by simp)
    omega
theorem rs_len {L : List Eqn} : ∀ (k : Nat) (t : List Int), ((rs L k t).length : Int) ≤ prodR L (List.range' t.length k)
  | 0, t => by
    rw [rs, List.range'_zero, prodR]
    split <;> simp
  | k + 1, t => by
    rw [rs, List.range'_succ, prodR]
    have hP := prodR_pos L (List.range' (t.length + 1) k)
    have h1 := flatMap_len_le (l := List.range (topF L t + 1).toNat) (f := fun (n : Nat) => if fitB L (t ++ [(n : Int)]) then rs L k (t ++ [(n : Int)]) else []) (m := (prodR L (List.range' (t.length + 1) k)).toNat) fun n _ => by
      split
      · have := rs_len (L := L) k (t ++ [(n : Int)])
        rw [show (t ++ [(n : Int)]).length = t.length + 1 by simp] at this
        omega
      · exact Nat.zero_le _
    rw [List.length_range] at h1
    have h2 : topF L t ≤ max 0 (roomR L t.length - 1) := by
      unfold topF
      exact ((le_gtF L).1 (Int.le_refl _)).1
    have h3 : ((topF L t + 1).toNat : Int) ≤ max 1 (roomR L t.length) := by omega
    have h4 : ((topF L t + 1).toNat : Int) * (prodR L (List.range' (t.length + 1) k)) ≤ max 1 (roomR L t.length) * prodR L (List.range' (t.length + 1) k) := Int.mul_le_mul_of_nonneg_right h3 (by omega)
    have h5 : (((topF L t + 1).toNat * (prodR L (List.range' (t.length + 1) k)).toNat : Nat) : Int) = ((topF L t + 1).toNat : Int) * (prodR L (List.range' (t.length + 1) k)) := by
      rw [Int.natCast_mul, Int.toNat_of_nonneg (a := prodR L _) (by omega)]
    omega
/-- Where two tables agree on the cells that are left out, their order is that of the others. -/
theorem ltU_filter {p : Nat → Bool} {a b : List Int} : ∀ {U : List Nat}, (∀ c ∈ U, p c = false → a.getD c 0 = b.getD c 0) → ltU false U a b → ltU false (U.filter p) a b
  | [], _, h => h
  | c :: U, hs, h => by
    cases hp : p c with
    | false =>
      rw [List.filter_cons_of_neg (by simp [hp])]
      have := hs c (by simp) hp
      rcases h with h | h
      · rw [if_neg (by decide)] at h; omega
      · exact ltU_filter (fun d hd => hs d (by simp [hd])) h.2
    | true =>
      rw [List.filter_cons_of_pos (by simp [hp])]
      rcases h with h | h
      · exact .inl h
      · exact .inr ⟨h.1, ltU_filter (fun d hd => hs d (by simp [hd])) h.2⟩
end Go.Sol
/- Contracts of functions of the given program, and lemmas about plain lists and numbers: what the laws of this seat lean on. -/
namespace Go.Proofs.YtcmdemfhbekabaaGreat
open Go.Eng Go.Sol
attribute [local irreducible] opK wpList Code.wp Exit.then Exit.inBlock fnPost bodyPost Nx Calls Oper.wp Rd Rds Wr Ent Stars Blk Again Vec FnSpec wpMix QRun Stop Upto wpAt
/-! The reference's test of equations -/
theorem all_dropQ {n : Int} {l : List EqR} {k : Nat} (hk : k < l.length) : (l.drop k).all (rightB n) = (rightB n (l.getD k default) && (l.drop (k + 1)).all (rightB n)) := by
  rw [List.drop_eq_getElem_cons hk, List.all_cons, List.getD_eq_getElem?_getD, List.getElem?_eq_getElem hk]; rfl
set_option maxRecDepth 10000 in
set_option maxHeartbeats 8000000 in
theorem RValid_spec (n : Int) (A : Option Addr) (c : Nat) (l : List EqR) (I : PH) (hl : Eqs I A c l) :
    FnSpec Tryz.prog 105 [.int .i64 n, .slice A l.length c] I [] (fun v R' => v = .bool (validB n l) ∧ R' = []) := by
  have hlen := hl.len
  unfold validB
  refine FnSpec.enterP Tryz.func105 rfl Tryz.ntmps105 rfl fun w F => ?_
  by_cases h1 : n < 1
  · rw [decide_eq_false (show ¬(1 ≤ n ∧ n ≤ 48) by omega), Bool.false_and, Bool.false_and]
    repeat' first
      | ((with_reducible refine Nx.is_wp ?_); first | refine Nx.wo ?_ | refine Nx.zp (fun hc => ?_) (fun hc => ?_))
      | (refine Nx.zo ?_; first | refine Nx.opr rfl rfl ?_ | refine Nx.so ?_ | refine Nx.sb (fun bx => ?_) | refine Nx.sa (fun A2 c2 => ?_))
      | ((with_reducible refine Nx.is_at ?_); first | refine Nx.a ?_ | refine Nx.zd ?_ | refine Nx.zs (fun hc => ?_) (fun hc => ?_))
      | ((with_reducible refine Nx.is_mix ?_); first | refine Nx.m ?_ | refine Nx.zm ?_ | refine Nx.zt (fun hc => ?_) (fun hc => ?_))
      | refine Nx.zx ?_ | fail
    exact Nx.ret_fn rfl [] ⟨rfl, rfl⟩ (by (exact Ent.auto))
  by_cases h2 : 48 < n
  · rw [decide_eq_false (show ¬(1 ≤ n ∧ n ≤ 48) by omega), Bool.false_and, Bool.false_and]
    repeat' first
      | ((with_reducible refine Nx.is_wp ?_); first | refine Nx.wo ?_ | refine Nx.zp (fun hc => ?_) (fun hc => ?_))
      | (refine Nx.zo ?_; first | refine Nx.opr rfl rfl ?_ | refine Nx.so ?_ | refine Nx.sb (fun bx => ?_) | refine Nx.sa (fun A2 c2 => ?_))
      | ((with_reducible refine Nx.is_at ?_); first | refine Nx.a ?_ | refine Nx.zd ?_ | refine Nx.zs (fun hc => ?_) (fun hc => ?_))
      | ((with_reducible refine Nx.is_mix ?_); first | refine Nx.m ?_ | refine Nx.zm ?_ | refine Nx.zt (fun hc => ?_) (fun hc => ?_))
      | refine Nx.zx ?_ | fail
    exact Nx.ret_fn rfl [] ⟨rfl, rfl⟩ (by (exact Ent.auto))
  rw [decide_eq_true (show 1 ≤ n ∧ n ≤ 48 by omega), Bool.true_and]
  by_cases h3 : l.length ≤ 1152
  case neg =>
    rw [decide_eq_false h3, Bool.false_and]
    repeat' first
      | ((with_reducible refine Nx.is_wp ?_); first | refine Nx.wo ?_ | refine Nx.zp (fun hc => ?_) (fun hc => ?_))
      | (refine Nx.zo ?_; first | refine Nx.opr rfl rfl ?_ | refine Nx.so ?_ | refine Nx.sb (fun bx => ?_) | refine Nx.sa (fun A2 c2 => ?_))
      | ((with_reducible refine Nx.is_at ?_); first | refine Nx.a ?_ | refine Nx.zd ?_ | refine Nx.zs (fun hc => ?_) (fun hc => ?_))
      | ((with_reducible refine Nx.is_mix ?_); first | refine Nx.m ?_ | refine Nx.zm ?_ | refine Nx.zt (fun hc => ?_) (fun hc => ?_))
      | refine Nx.zx ?_ | fail
    exact Nx.ret_fn rfl [] ⟨rfl, rfl⟩ (by (exact Ent.auto))
  rw [decide_eq_true h3, Bool.true_and]
  repeat' first
    | ((with_reducible refine Nx.is_wp ?_); first | refine Nx.wo ?_ | refine Nx.zp (fun hc => ?_) (fun hc => ?_))
    | (refine Nx.zo ?_; first | refine Nx.opr rfl rfl ?_ | refine Nx.so ?_ | refine Nx.sb (fun bx => ?_) | refine Nx.sa (fun A2 c2 => ?_))
    | ((with_reducible refine Nx.is_at ?_); first | refine Nx.a ?_ | refine Nx.zd ?_ | refine Nx.zs (fun hc => ?_) (fun hc => ?_))
    | ((with_reducible refine Nx.is_mix ?_); first | refine Nx.m ?_ | refine Nx.zm ?_ | refine Nx.zt (fun hc => ?_) (fun hc => ?_))
    | refine Nx.zx ?_ | fail
  refine Nx.p_loop (σ := Nat) (fun k => [(0, .int .i64 n), (21, .slice A l.length c), (22, .int .i64 l.length), (23, .int .i64 (k : Int))])
    (fun _ => [F]) (fun k => k ≤ l.length ∧ l.all (rightB n) = (l.drop k).all (rightB n)) (fun k => l.length - k) 0 rfl ⟨Nat.zero_le _, rfl⟩ ⟨rfl, rfl, rfl, rfl, trivial⟩ (by (exact Ent.auto)) ?_
  rintro k ⟨hk, he⟩
  by_cases hlt : k < l.length
  case neg =>
    obtain rfl : k = l.length := by omega
    rw [List.drop_length] at he
    rw [he]
    repeat' first
      | ((with_reducible refine Nx.is_wp ?_); first | refine Nx.wo ?_ | refine Nx.zp (fun hc => ?_) (fun hc => ?_))
      | (refine Nx.zo ?_; first | refine Nx.opr rfl rfl ?_ | refine Nx.so ?_ | refine Nx.sb (fun bx => ?_) | refine Nx.sa (fun A2 c2 => ?_))
      | ((with_reducible refine Nx.is_at ?_); first | refine Nx.a ?_ | refine Nx.zd ?_ | refine Nx.zs (fun hc => ?_) (fun hc => ?_))
      | ((with_reducible refine Nx.is_mix ?_); first | refine Nx.m ?_ | refine Nx.zm ?_ | refine Nx.zt (fun hc => ?_) (fun hc => ?_))
      | refine Nx.zx ?_ | fail
    exact Nx.ret_fn rfl [] ⟨rfl, rfl⟩ (by (exact Ent.auto))
  rw [all_dropQ hlt] at he
  have hq := hl.inner _ (getD_memQ hlt)
  have hrds : ∀ (W : World) (R : List Res), Rds W I R ((ad A).add (k * 2)) (eqC (l.getD k default)) := fun W R => hl.outer.rds hlt
  generalize l.getD k default = q at he hq hrds
  obtain ⟨⟨Ax, cx, xs⟩, z⟩ := q
  dsimp only at hq
  replace hrds : ∀ (W : World) (R : List Res), Rds W I R ((ad A).add (k * 2)) [.slice Ax xs.length cx, .int .i64 z] := hrds
  have hxl := hq.len
  have hrt : rightB n ((Ax, cx, xs), z) = (decide (xs ≠ []) && decide (0 ≤ z ∧ z ≤ 1000000) && ascB n (-1) xs) := rfl
  rw [hrt] at he
  by_cases h0 : xs = []
  · subst h0
    rw [he]
    repeat' first
      | ((with_reducible refine Nx.is_wp ?_); first | refine Nx.wo ?_ | refine Nx.zp (fun hc => ?_) (fun hc => ?_))
      | (refine Nx.zo ?_; first | refine Nx.opr rfl rfl ?_ | refine Nx.indexAddr_nat rfl rfl rfl rfl rfl (by omega) (hl.outer.isSome (by omega) (by omega)) ?_ | refine Nx.loads rfl rfl rfl rfl (hrds _ _) rfl ?_ | refine Nx.so ?_ | refine Nx.sb (fun bx => ?_) | refine Nx.sa (fun A2 c2 => ?_))
      | ((with_reducible refine Nx.is_at ?_); first | refine Nx.a ?_ | refine Nx.zd ?_ | refine Nx.zs (fun hc => ?_) (fun hc => ?_))
      | ((with_reducible refine Nx.is_mix ?_); first | refine Nx.m ?_ | refine Nx.zm ?_ | refine Nx.zt (fun hc => ?_) (fun hc => ?_))
      | refine Nx.zx ?_ | fail
    exact Nx.ret_fn rfl [] ⟨rfl, rfl⟩ (by (exact Ent.auto))
  have hpos : 0 < xs.length := List.length_pos_iff.2 h0
  rw [decide_eq_true h0, Bool.true_and] at he
  by_cases hz0 : z < 0
  · rw [decide_eq_false (show ¬(0 ≤ z ∧ z ≤ 1000000) by omega), Bool.false_and, Bool.false_and] at he
    rw [he]
    repeat' first
      | ((with_reducible refine Nx.is_wp ?_); first | refine Nx.wo ?_ | refine Nx.zp (fun hc => ?_) (fun hc => ?_))
      | (refine Nx.zo ?_; first | refine Nx.opr rfl rfl ?_ | refine Nx.indexAddr_nat rfl rfl rfl rfl rfl (by omega) (hl.outer.isSome (by omega) (by omega)) ?_ | refine Nx.loads rfl rfl rfl rfl (hrds _ _) rfl ?_ | refine Nx.so ?_ | refine Nx.sb (fun bx => ?_) | refine Nx.sa (fun A2 c2 => ?_))
      | ((with_reducible refine Nx.is_at ?_); first | refine Nx.a ?_ | refine Nx.zd ?_ | refine Nx.zs (fun hc => ?_) (fun hc => ?_))
      | ((with_reducible refine Nx.is_mix ?_); first | refine Nx.m ?_ | refine Nx.zm ?_ | refine Nx.zt (fun hc => ?_) (fun hc => ?_))
      | refine Nx.zx ?_ | fail
    exact Nx.ret_fn rfl [] ⟨rfl, rfl⟩ (by (exact Ent.auto))
  by_cases hz1 : 1000000 < z
  · rw [decide_eq_false (show ¬(0 ≤ z ∧ z ≤ 1000000) by omega), Bool.false_and, Bool.false_and] at he
    rw [he]
    repeat' first
      | ((with_reducible refine Nx.is_wp ?_); first | refine Nx.wo ?_ | refine Nx.zp (fun hc => ?_) (fun hc => ?_))
      | (refine Nx.zo ?_; first | refine Nx.opr rfl rfl ?_ | refine Nx.indexAddr_nat rfl rfl rfl rfl rfl (by omega) (hl.outer.isSome (by omega) (by omega)) ?_ | refine Nx.loads rfl rfl rfl rfl (hrds _ _) rfl ?_ | refine Nx.so ?_ | refine Nx.sb (fun bx => ?_) | refine Nx.sa (fun A2 c2 => ?_))
      | ((with_reducible refine Nx.is_at ?_); first | refine Nx.a ?_ | refine Nx.zd ?_ | refine Nx.zs (fun hc => ?_) (fun hc => ?_))
      | ((with_reducible refine Nx.is_mix ?_); first | refine Nx.m ?_ | refine Nx.zm ?_ | refine Nx.zt (fun hc => ?_) (fun hc => ?_))
      | refine Nx.zx ?_ | fail
    exact Nx.ret_fn rfl [] ⟨rfl, rfl⟩ (by (exact Ent.auto))
  rw [decide_eq_true (show 0 ≤ z ∧ z ≤ 1000000 by omega), Bool.true_and] at he
  repeat' first
    | ((with_reducible refine Nx.is_wp ?_); first | refine Nx.wo ?_ | refine Nx.zp (fun hc => ?_) (fun hc => ?_))
    | (refine Nx.zo ?_; first | refine Nx.opr rfl rfl ?_ | refine Nx.indexAddr_nat rfl rfl rfl rfl rfl (by omega) (hl.outer.isSome (by omega) (by omega)) ?_ | refine Nx.loads rfl rfl rfl rfl (hrds _ _) rfl ?_ | refine Nx.so ?_ | refine Nx.sb (fun bx => ?_) | refine Nx.sa (fun A2 c2 => ?_))
    | ((with_reducible refine Nx.is_at ?_); first | refine Nx.a ?_ | refine Nx.zd ?_ | refine Nx.zs (fun hc => ?_) (fun hc => ?_))
    | ((with_reducible refine Nx.is_mix ?_); first | refine Nx.m ?_ | refine Nx.zm ?_ | refine Nx.zt (fun hc => ?_) (fun hc => ?_))
    | refine Nx.zx ?_ | fail
  revert bx; intro b6
  refine Nx.p_loop (σ := Nat) (fun j => [(0, .int .i64 n), (7, .int .i64 (lastOr (-1) xs j)), (21, .slice A l.length c), (22, .int .i64 l.length), (23, .int .i64 (k : Int)), (42, .slice Ax xs.length cx), (43, .int .i64 xs.length), (44, .int .i64 (j : Int))])
    (fun _ => [F]) (fun j => j ≤ xs.length ∧ ascB n (-1) xs = ascB n (lastOr (-1) xs j) (xs.drop j)) (fun j => xs.length - j) 0 rfl ⟨Nat.zero_le _, rfl⟩ ⟨rfl, rfl, rfl, rfl, rfl, rfl, rfl, rfl, trivial⟩ (by (exact Ent.auto)) ?_
  rintro j ⟨hj, hje⟩
  by_cases hjl : j < xs.length
  case neg =>
    obtain rfl : j = xs.length := by omega
    rw [List.drop_length] at hje
    rw [hje] at he
    repeat' first
      | ((with_reducible refine Nx.is_wp ?_); first | refine Nx.wo ?_ | refine Nx.zp (fun hc => ?_) (fun hc => ?_))
      | (refine Nx.zo ?_; first | refine Nx.opr rfl rfl ?_ | refine Nx.so ?_ | refine Nx.sb (fun bx => ?_) | refine Nx.sa (fun A2 c2 => ?_))
      | ((with_reducible refine Nx.is_at ?_); first | refine Nx.a ?_ | refine Nx.zd ?_ | refine Nx.zs (fun hc => ?_) (fun hc => ?_))
      | ((with_reducible refine Nx.is_mix ?_); first | refine Nx.m ?_ | refine Nx.zm ?_ | refine Nx.zt (fun hc => ?_) (fun hc => ?_))
      | refine Nx.zx ?_ | fail
    exact Nx.again (k + 1) ⟨hlt, by rw [he, ascB, Bool.true_and]⟩ (by omega) ⟨rfl, rfl, rfl, rfl, trivial⟩ (by (exact Ent.auto))
  rw [ascB_at hjl] at hje
  by_cases h4 : lastOr (-1) xs j < xs.getD j default
  · by_cases h5 : xs.getD j default < n
    · rw [decide_eq_true ⟨h4, h5⟩, Bool.true_and] at hje
      repeat' first
        | ((with_reducible refine Nx.is_wp ?_); first | refine Nx.wo ?_ | refine Nx.zp (fun hc => ?_) (fun hc => ?_))
        | (refine Nx.zo ?_; first | refine Nx.opr rfl rfl ?_ | refine Nx.indexAddr_nat rfl rfl rfl rfl rfl (by omega) (hq.isSome (by omega)) ?_ | refine Nx.load rfl rfl rfl (hq.rd (by omega)) ?_ | refine Nx.so ?_ | refine Nx.sb (fun bx => ?_) | refine Nx.sa (fun A2 c2 => ?_))
        | ((with_reducible refine Nx.is_at ?_); first | refine Nx.a ?_ | refine Nx.zd ?_ | refine Nx.zs (fun hc => ?_) (fun hc => ?_))
        | ((with_reducible refine Nx.is_mix ?_); first | refine Nx.m ?_ | refine Nx.zm ?_ | refine Nx.zt (fun hc => ?_) (fun hc => ?_))
        | refine Nx.zx ?_ | fail
      exact Nx.again (j + 1) ⟨hjl, hje⟩ (by omega) ⟨rfl, by unfold lastOr; rw [if_neg (Nat.succ_ne_zero j), Nat.add_sub_cancel]; rfl, rfl, rfl, rfl, rfl, rfl, rfl, trivial⟩ (by (exact Ent.auto))
    · rw [decide_eq_false (by rintro ⟨_, h⟩; exact h5 h), Bool.false_and] at hje
      rw [hje] at he
      rw [he]
      repeat' first
        | ((with_reducible refine Nx.is_wp ?_); first | refine Nx.wo ?_ | refine Nx.zp (fun hc => ?_) (fun hc => ?_))
        | (refine Nx.zo ?_; first | refine Nx.opr rfl rfl ?_ | refine Nx.indexAddr_nat rfl rfl rfl rfl rfl (by omega) (hq.isSome (by omega)) ?_ | refine Nx.load rfl rfl rfl (hq.rd (by omega)) ?_ | refine Nx.so ?_ | refine Nx.sb (fun bx => ?_) | refine Nx.sa (fun A2 c2 => ?_))
        | ((with_reducible refine Nx.is_at ?_); first | refine Nx.a ?_ | refine Nx.zd ?_ | refine Nx.zs (fun hc => ?_) (fun hc => ?_))
        | ((with_reducible refine Nx.is_mix ?_); first | refine Nx.m ?_ | refine Nx.zm ?_ | refine Nx.zt (fun hc => ?_) (fun hc => ?_))
        | refine Nx.zx ?_ | fail
      exact Nx.ret_fn rfl [] ⟨rfl, rfl⟩ (by (exact Ent.auto))
  · rw [decide_eq_false (by rintro ⟨h, _⟩; exact h4 h), Bool.false_and] at hje
    rw [hje] at he
    rw [he]
    repeat' first
      | ((with_reducible refine Nx.is_wp ?_); first | refine Nx.wo ?_ | refine Nx.zp (fun hc => ?_) (fun hc => ?_))
      | (refine Nx.zo ?_; first | refine Nx.opr rfl rfl ?_ | refine Nx.indexAddr_nat rfl rfl rfl rfl rfl (by omega) (hq.isSome (by omega)) ?_ | refine Nx.load rfl rfl rfl (hq.rd (by omega)) ?_ | refine Nx.so ?_ | refine Nx.sb (fun bx => ?_) | refine Nx.sa (fun A2 c2 => ?_))
      | ((with_reducible refine Nx.is_at ?_); first | refine Nx.a ?_ | refine Nx.zd ?_ | refine Nx.zs (fun hc => ?_) (fun hc => ?_))
      | ((with_reducible refine Nx.is_mix ?_); first | refine Nx.m ?_ | refine Nx.zm ?_ | refine Nx.zt (fun hc => ?_) (fun hc => ?_))
      | refine Nx.zx ?_ | fail
    exact Nx.ret_fn rfl [] ⟨rfl, rfl⟩ (by (exact Ent.auto))
/-! Rooms -/
theorem cells_bd {n : Nat} {l : List EqR} (hg : ∀ q ∈ l, GoodE n q) : ∀ q ∈ eqns l, 0 ≤ q.2 ∧ q.2 ≤ 1000000 := fun q hq => by
  obtain ⟨x, hx, rfl⟩ := List.mem_map.1 hq
  exact (hg x hx).val
theorem not_mem_take {xs : List Int} (h : xs.Pairwise (· < ·)) {j : Nat} (hj : j < xs.length) {y : Int} (hy : xs.getD j default = y) : y ∉ xs.take j := fun hm => by
  obtain ⟨a, ha, he⟩ := List.mem_iff_getElem.1 hm
  rw [List.length_take] at ha
  rw [List.getElem_take] at he
  have hlt2 := (List.pairwise_iff_getElem.1 h) a j (by omega) hj (by omega)
  rw [List.getD_eq_getElem?_getD, List.getElem?_eq_getElem hj] at hy
  have hy : xs[j] = y := hy
  omega
def roomS (r z : Int) : Int := if r = 0 ∨ z + 1 < r then z + 1 else r
theorem roomR_bd {n : Nat} {l : List EqR} (hg : ∀ q ∈ l, GoodE n q) (x k : Nat) : 0 ≤ roomR (eqns (l.take k)) x ∧ roomR (eqns (l.take k)) x ≤ 1000001 := by
  have h1 := roomR_facts (c := x) (eqns (l.take k)) fun q hq => (cells_bd (fun q hq => hg q (List.mem_of_mem_take hq)) q hq).1
  refine ⟨h1.1, ?_⟩
  by_cases h0 : roomR (eqns (l.take k)) x = 0
  · omega
  · have hne : ∃ q ∈ eqns (l.take k), x ∈ q.1 := Classical.byContradiction fun hno => h0 (h1.2.1.2 fun q hq hx => hno ⟨q, hq, hx⟩)
    obtain ⟨q, hq, hx⟩ := hne
    have := (h1.2.2 h0 (roomR (eqns (l.take k)) x - 1)).1 (Int.le_refl _) q hq hx
    have := (cells_bd (fun q hq => hg q (List.mem_of_mem_take hq)) q hq).2
    omega
set_option maxRecDepth 10000 in
set_option maxHeartbeats 8000000 in
theorem room_spec (A : Option Addr) (c : Nat) (l : List EqR) (n x : Nat) (I : PH) (hl : Eqs I A c l) (hg : ∀ q ∈ l, GoodE n q) :
    FnSpec Tryz.prog 62 [.slice A l.length c, .int .i64 (x : Int)] I [] (fun v R' => v = .int .i64 (roomR (eqns l) x) ∧ R' = []) := by
  have hlen := hl.len
  refine FnSpec.enterP Tryz.func62 rfl Tryz.ntmps62 rfl fun w F => ?_
  repeat' first
    | ((with_reducible refine Nx.is_wp ?_); first | refine Nx.wo ?_ | refine Nx.zp (fun hc => ?_) (fun hc => ?_))
    | (refine Nx.zo ?_; first | refine Nx.opr rfl rfl ?_ | refine Nx.so ?_ | refine Nx.sb (fun bx => ?_) | refine Nx.sa (fun A2 c2 => ?_))
    | ((with_reducible refine Nx.is_at ?_); first | refine Nx.a ?_ | refine Nx.zd ?_ | refine Nx.zs (fun hc => ?_) (fun hc => ?_))
    | ((with_reducible refine Nx.is_mix ?_); first | refine Nx.m ?_ | refine Nx.zm ?_ | refine Nx.zt (fun hc => ?_) (fun hc => ?_))
    | refine Nx.zx ?_ | fail
  refine Nx.p_loop (σ := Nat) (fun k => [(1, .int .i64 (x : Int)), (5, .int .i64 (roomR (eqns (l.take k)) x)), (10, .slice A l.length c), (11, .int .i64 l.length), (12, .int .i64 (k : Int))])
    (fun _ => [F]) (fun k => k ≤ l.length) (fun k => l.length - k) 0 rfl (Nat.zero_le _) ⟨rfl, rfl, rfl, rfl, rfl, trivial⟩ (by (exact Ent.auto)) ?_
  intro k hk
  by_cases hlt : k < l.length
  case neg =>
    obtain rfl : k = l.length := by omega
    rw [List.take_length]
    repeat' first
      | ((with_reducible refine Nx.is_wp ?_); first | refine Nx.wo ?_ | refine Nx.zp (fun hc => ?_) (fun hc => ?_))
      | (refine Nx.zo ?_; first | refine Nx.opr rfl rfl ?_ | refine Nx.so ?_ | refine Nx.sb (fun bx => ?_) | refine Nx.sa (fun A2 c2 => ?_))
      | ((with_reducible refine Nx.is_at ?_); first | refine Nx.a ?_ | refine Nx.zd ?_ | refine Nx.zs (fun hc => ?_) (fun hc => ?_))
      | ((with_reducible refine Nx.is_mix ?_); first | refine Nx.m ?_ | refine Nx.zm ?_ | refine Nx.zt (fun hc => ?_) (fun hc => ?_))
      | refine Nx.zx ?_ | fail
    exact Nx.ret_fn rfl [] ⟨rfl, rfl⟩ (by (exact Ent.auto))
  have hin := hl.inner _ (getD_memQ hlt)
  have hgk := hg _ (getD_memQ hlt)
  have hes := eqns_snoc hlt
  have hrb := roomR_bd hg x k
  have hrds : ∀ (W : World) (R : List Res), Rds W I R ((ad A).add (k * 2)) (eqC (l.getD k default)) := fun W R => hl.outer.rds hlt
  generalize l.getD k default = q at hin hgk hes hrds
  obtain ⟨⟨Ax, cx, ix⟩, z⟩ := q
  dsimp only at hin
  replace hrds : ∀ (W : World) (R : List Res), Rds W I R ((ad A).add (k * 2)) [.slice Ax ix.length cx, .int .i64 z] := hrds
  have hixl := hin.len
  have hz := hgk.val
  dsimp only at hz
  generalize hr0 : roomR (eqns (l.take k)) x = r0 at hrb ⊢
  have hend : roomR (eqns (l.take (k + 1))) x = if (x : Int) ∈ ix then roomS r0 z else r0 := by
    rw [hes, roomR_snoc, hr0]
    by_cases hm : (x : Int) ∈ ix
    · rw [if_pos hm, if_pos ((mem_eqn hgk).2 hm)]; rfl
    · rw [if_neg hm, if_neg fun h => hm ((mem_eqn hgk).1 h)]
  repeat' first
    | ((with_reducible refine Nx.is_wp ?_); first | refine Nx.wo ?_ | refine Nx.zp (fun hc => ?_) (fun hc => ?_))
    | (refine Nx.zo ?_; first | refine Nx.opr rfl rfl ?_ | refine Nx.indexAddr_nat rfl rfl rfl rfl rfl (by omega) (hl.outer.isSome (by omega) (by omega)) ?_ | refine Nx.loads rfl rfl rfl rfl (hrds _ _) rfl ?_ | refine Nx.so ?_ | refine Nx.sb (fun bx => ?_) | refine Nx.sa (fun A2 c2 => ?_))
    | ((with_reducible refine Nx.is_at ?_); first | refine Nx.a ?_ | refine Nx.zd ?_ | refine Nx.zs (fun hc => ?_) (fun hc => ?_))
    | ((with_reducible refine Nx.is_mix ?_); first | refine Nx.m ?_ | refine Nx.zm ?_ | refine Nx.zt (fun hc => ?_) (fun hc => ?_))
    | refine Nx.zx ?_ | fail
  revert bx; intro b7
  refine Nx.p_loop (σ := Nat) (fun j => [(1, .int .i64 (x : Int)), (5, .int .i64 (if (x : Int) ∈ ix.take j then roomS r0 z else r0)), (7, .pointer (some ⟨b7, 0, none⟩)), (10, .slice A l.length c), (11, .int .i64 l.length), (12, .int .i64 (k : Int)), (17, .slice Ax ix.length cx), (18, .int .i64 ix.length), (19, .int .i64 (j : Int))])
    (fun _ => [Blk b7 93 [.slice Ax ix.length cx, .int .i64 z], F]) (fun j => j ≤ ix.length) (fun j => ix.length - j) 0 rfl (Nat.zero_le _) ⟨rfl, by rw [List.take_zero, if_neg List.not_mem_nil]; rfl, rfl, rfl, rfl, rfl, rfl, rfl, rfl, trivial⟩ (by (exact Ent.auto)) ?_
  intro j hj
  by_cases hjl : j < ix.length
  case neg =>
    obtain rfl : j = ix.length := by omega
    rw [List.take_length, ← hend]
    repeat' first
      | ((with_reducible refine Nx.is_wp ?_); first | refine Nx.wo ?_ | refine Nx.zp (fun hc => ?_) (fun hc => ?_))
      | (refine Nx.zo ?_; first | refine Nx.opr rfl rfl ?_ | refine Nx.so ?_ | refine Nx.sb (fun bx => ?_) | refine Nx.sa (fun A2 c2 => ?_))
      | ((with_reducible refine Nx.is_at ?_); first | refine Nx.a ?_ | refine Nx.zd ?_ | refine Nx.zs (fun hc => ?_) (fun hc => ?_))
      | ((with_reducible refine Nx.is_mix ?_); first | refine Nx.m ?_ | refine Nx.zm ?_ | refine Nx.zt (fun hc => ?_) (fun hc => ?_))
      | refine Nx.zx ?_ | fail
    exact Nx.again (k + 1) hlt (by omega) ⟨rfl, rfl, rfl, rfl, rfl, trivial⟩ (by (exact Ent.auto))
  have hsn := take_snocJ hjl
  by_cases hyx : ix.getD j default = (x : Int)
  · have hno := not_mem_take hgk.asc hjl hyx
    rw [if_neg hno]
    have hyes : (if (x : Int) ∈ ix.take (j + 1) then roomS r0 z else r0) = roomS r0 z := if_pos (by rw [hsn, hyx]; simp)
    by_cases h0 : r0 = 0
    · have hS : roomS r0 z = z + 1 := if_pos (.inl h0)
      rw [hS] at hyes
      repeat' first
        | ((with_reducible refine Nx.is_wp ?_); first | refine Nx.wo ?_ | refine Nx.zp (fun hc => ?_) (fun hc => ?_))
        | (refine Nx.zo ?_; first | refine Nx.opr rfl rfl ?_ | refine Nx.indexAddr_nat rfl rfl rfl rfl rfl (by omega) (hin.isSome (by omega)) ?_ | refine Nx.load rfl rfl rfl (hin.rd (by omega)) ?_ | refine Nx.so ?_ | refine Nx.sb (fun bx => ?_) | refine Nx.sa (fun A2 c2 => ?_))
        | ((with_reducible refine Nx.is_at ?_); first | refine Nx.a ?_ | refine Nx.zd ?_ | refine Nx.zs (fun hc => ?_) (fun hc => ?_))
        | ((with_reducible refine Nx.is_mix ?_); first | refine Nx.m ?_ | refine Nx.zm ?_ | refine Nx.zt (fun hc => ?_) (fun hc => ?_))
        | refine Nx.zx ?_ | fail
      exact Nx.again (j + 1) hjl (by omega) ⟨rfl, by rw [hS, hyes]; rfl, rfl, rfl, rfl, rfl, rfl, rfl, rfl, trivial⟩ (by (exact Ent.auto))
    · by_cases h1 : z + 1 < r0
      · have hS : roomS r0 z = z + 1 := if_pos (.inr h1)
        rw [hS] at hyes
        repeat' first
          | ((with_reducible refine Nx.is_wp ?_); first | refine Nx.wo ?_ | refine Nx.zp (fun hc => ?_) (fun hc => ?_))
          | (refine Nx.zo ?_; first | refine Nx.opr rfl rfl ?_ | refine Nx.indexAddr_nat rfl rfl rfl rfl rfl (by omega) (hin.isSome (by omega)) ?_ | refine Nx.load rfl rfl rfl (hin.rd (by omega)) ?_ | refine Nx.so ?_ | refine Nx.sb (fun bx => ?_) | refine Nx.sa (fun A2 c2 => ?_))
          | ((with_reducible refine Nx.is_at ?_); first | refine Nx.a ?_ | refine Nx.zd ?_ | refine Nx.zs (fun hc => ?_) (fun hc => ?_))
          | ((with_reducible refine Nx.is_mix ?_); first | refine Nx.m ?_ | refine Nx.zm ?_ | refine Nx.zt (fun hc => ?_) (fun hc => ?_))
          | refine Nx.zx ?_ | fail
        exact Nx.again (j + 1) hjl (by omega) ⟨rfl, by rw [hS, hyes]; rfl, rfl, rfl, rfl, rfl, rfl, rfl, rfl, trivial⟩ (by (exact Ent.auto))
      · have hS : roomS r0 z = r0 := if_neg (by omega)
        rw [hS] at hyes
        repeat' first
          | ((with_reducible refine Nx.is_wp ?_); first | refine Nx.wo ?_ | refine Nx.zp (fun hc => ?_) (fun hc => ?_))
          | (refine Nx.zo ?_; first | refine Nx.opr rfl rfl ?_ | refine Nx.indexAddr_nat rfl rfl rfl rfl rfl (by omega) (hin.isSome (by omega)) ?_ | refine Nx.load rfl rfl rfl (hin.rd (by omega)) ?_ | refine Nx.so ?_ | refine Nx.sb (fun bx => ?_) | refine Nx.sa (fun A2 c2 => ?_))
          | ((with_reducible refine Nx.is_at ?_); first | refine Nx.a ?_ | refine Nx.zd ?_ | refine Nx.zs (fun hc => ?_) (fun hc => ?_))
          | ((with_reducible refine Nx.is_mix ?_); first | refine Nx.m ?_ | refine Nx.zm ?_ | refine Nx.zt (fun hc => ?_) (fun hc => ?_))
          | refine Nx.zx ?_ | fail
        exact Nx.again (j + 1) hjl (by omega) ⟨rfl, by rw [hS, hyes]; rfl, rfl, rfl, rfl, rfl, rfl, rfl, rfl, trivial⟩ (by (exact Ent.auto))
  · have hno : (if (x : Int) ∈ ix.take (j + 1) then roomS r0 z else r0) = if (x : Int) ∈ ix.take j then roomS r0 z else r0 := by
      have e : ((x : Int) ∈ ix.take j ++ [ix.getD j default]) ↔ (x : Int) ∈ ix.take j := by
        rw [List.mem_append, List.mem_singleton]
        exact ⟨fun h => h.resolve_right fun h => hyx h.symm, .inl⟩
      rw [hsn]
      by_cases hm : (x : Int) ∈ ix.take j
      · rw [if_pos hm, if_pos (e.2 hm)]
      · rw [if_neg hm, if_neg fun h => hm (e.1 h)]
    generalize hcur : (if (x : Int) ∈ ix.take j then roomS r0 z else r0) = cur at hno ⊢
    repeat' first
      | ((with_reducible refine Nx.is_wp ?_); first | refine Nx.wo ?_ | refine Nx.zp (fun hc => ?_) (fun hc => ?_))
      | (refine Nx.zo ?_; first | refine Nx.opr rfl rfl ?_ | refine Nx.indexAddr_nat rfl rfl rfl rfl rfl (by omega) (hin.isSome (by omega)) ?_ | refine Nx.load rfl rfl rfl (hin.rd (by omega)) ?_ | refine Nx.so ?_ | refine Nx.sb (fun bx => ?_) | refine Nx.sa (fun A2 c2 => ?_))
      | ((with_reducible refine Nx.is_at ?_); first | refine Nx.a ?_ | refine Nx.zd ?_ | refine Nx.zs (fun hc => ?_) (fun hc => ?_))
      | ((with_reducible refine Nx.is_mix ?_); first | refine Nx.m ?_ | refine Nx.zm ?_ | refine Nx.zt (fun hc => ?_) (fun hc => ?_))
      | refine Nx.zx ?_ | fail
    exact Nx.again (j + 1) hjl (by omega) ⟨rfl, by rw [hno]; rfl, rfl, rfl, rfl, rfl, rfl, rfl, rfl, trivial⟩ (by (exact Ent.auto))
end Go.Proofs.YtcmdemfhbekabaaGreat
/- Contracts of functions of the given program, and lemmas about plain lists and numbers: what the laws of this seat lean on. -/
namespace Go.Proofs.YtcmdemfhbekabaaGreat
open Go.Eng Go.Sol
attribute [local irreducible] opK wpList Code.wp Exit.then Exit.inBlock fnPost bodyPost Nx Calls Oper.wp Rd Rds Wr Ent Stars Blk Again Vec FnSpec wpMix QRun Stop Upto wpAt
/-! The reference's search -/
theorem sumC_app {t : List Int} {v : Int} : ∀ {cs : List Nat}, cs.Nodup → sumC (t ++ [v]) cs = sumC t cs + if t.length ∈ cs then v else 0
  | [], _ => rfl
  | c :: r, h => by
    rw [List.nodup_cons] at h
    rw [sumC, sumC, sumC_app h.2]
    rcases Nat.lt_trichotomy c t.length with hc | hc | hc
    · rw [getD_app_lt hc]
      by_cases hm : t.length ∈ r
      · rw [if_pos hm, if_pos (by simp [hm])]; omega
      · rw [if_neg hm, if_neg (fun h' => (List.mem_cons.1 h').elim (fun h' => by omega) hm)]; omega
    · subst hc
      rw [getD_app_at, if_neg h.1, if_pos (by simp), getD_ge (Nat.le_refl _)]; omega
    · rw [getD_ge (by simp; omega), getD_ge (t := t) (by omega)]
      by_cases hm : t.length ∈ r
      · rw [if_pos hm, if_pos (by simp [hm])]; omega
      · rw [if_neg hm, if_neg (fun h' => (List.mem_cons.1 h').elim (fun h' => by omega) hm)]; omega
theorem restQ_app {t : List Int} {v : Int} {q : Eqn} (h : q.1.Nodup) : restQ (t ++ [v]) q = restQ t q - if t.length ∈ q.1 then v else 0 := by
  unfold restQ; rw [sumC_app h]; omega
theorem eqns_at {l : List EqR} {i : Nat} (hi : i < l.length) : (eqns l).getD i default = eqn (l.getD i default) := by
  unfold eqns
  rw [List.getD_eq_getElem?_getD, List.getElem?_map, List.getD_eq_getElem?_getD, List.getElem?_eq_getElem hi]; rfl
theorem restE_at {l : List EqR} {t : List Int} {i : Nat} (hi : i < l.length) : (restL (eqns l) t).getD i default = restQ t (eqn (l.getD i default)) := by
  rw [restL_at (by rw [eqns_len]; exact hi), eqns_at hi]
def fitQ (t : List Int) (q : Eqn) : Bool := !decide (q.1.getLast? = some (t.length - 1)) || decide (restQ t q = 0)
theorem fitB_eq (L : List Eqn) (t : List Int) : fitB L t = L.all (fitQ t) := rfl
theorem take_most {α : Type} (x y : List α) (m : Nat) : (x.take m ++ y).take m = (x ++ y).take m := by
  rcases Nat.lt_or_ge x.length m with h | h
  · rw [List.take_of_length_le (l := x) (by omega)]
  · rw [List.take_append_of_le_length (by rw [List.length_take]; omega), List.take_take, Nat.min_self, List.take_append_of_le_length h]
def stepF (L : List Eqn) (k : Nat) (t : List Int) (n : Nat) : List (List Int) := if fitB L (t ++ [(n : Int)]) then rs L k (t ++ [(n : Int)]) else []
theorem rs_succ (L : List Eqn) (k : Nat) (t : List Int) : rs L (k + 1) t = (List.range (topF L t + 1).toNat).flatMap (stepF L k t) := rfl
/-- What the search hands back. -/
def SrPost (most : Nat) (o : List Row) (r : List (List Int)) (v : Value) (R' : List Res) : Prop :=
  ∃ (A' : Option Addr) (c' : Nat) (o' : List Row), v = .slice A' o'.length c' ∧ o'.map (·.2.2) = (o.map (·.2.2) ++ r).take most ∧ R' = [Vec 25 1 A' o'.length c' (o'.map rowV), Stars (o'.map rwR)]
theorem rest_drop {L : List Eqn} {t : List Int} {k : Nat} (hk : k < L.length) : (L.drop k).all (fun q => decide (restQ t q = 0)) = (decide ((restL L t).getD k default = 0) && (L.drop (k + 1)).all fun q => decide (restQ t q = 0)) := by
  rw [List.drop_eq_getElem_cons hk, List.all_cons, restL_at hk, List.getD_eq_getElem?_getD, List.getElem?_eq_getElem hk]; rfl
set_option maxRecDepth 10000 in
set_option maxHeartbeats 8000000 in
theorem search_end (A : Option Addr) (c : Nat) (l : List EqR) (n most : Nat) (hm9 : most ≤ 1000000) (I : PH) (t : List Int) (hn : t.length = n) (hn9 : n ≤ 4096) (At : Option Addr) (ct : Nat) (ht : Ints I At ct t) (Ar : Option Addr) (cr : Nat) (hr : Ints I Ar cr (restL (eqns l) t)) (Ao : Option Addr) (co : Nat) (o : List Row) (ho : o.length ≤ most) :
    FnSpec Tryz.prog 106 [.slice A l.length c, .int .i64 (n : Int), .int .i64 (t.length : Int), .slice At t.length ct, .slice Ar l.length cr, .slice Ao o.length co, .int .i64 (most : Int)] I
      [Vec 25 1 Ao o.length co (o.map rowV), Stars (o.map rwR)] (SrPost most o (rs (eqns l) 0 t)) := by
  have htl := ht.len
  have hrl := hr.len
  rw [restL_len, eqns_len] at hrl
  unfold SrPost
  refine FnSpec.enterP Tryz.func106 rfl Tryz.ntmps106 rfl fun w F => ?_
  by_cases hfull : o.length = most
  · repeat' first
      | ((with_reducible refine Nx.is_wp ?_); first | refine Nx.wo ?_ | refine Nx.zp (fun hc => ?_) (fun hc => ?_))
      | (refine Nx.zo ?_; first | refine Nx.opr rfl rfl ?_ | refine Nx.so ?_ | refine Nx.sb (fun bx => ?_) | refine Nx.sa (fun A2 c2 => ?_))
      | ((with_reducible refine Nx.is_at ?_); first | refine Nx.a ?_ | refine Nx.zd ?_ | refine Nx.zs (fun hc => ?_) (fun hc => ?_))
      | ((with_reducible refine Nx.is_mix ?_); first | refine Nx.m ?_ | refine Nx.zm ?_ | refine Nx.zt (fun hc => ?_) (fun hc => ?_))
      | refine Nx.zx ?_ | fail
    exact Nx.ret_fn rfl [_, _] ⟨Ao, co, o, rfl, by rw [List.take_append_of_le_length (by rw [List.length_map]; omega), List.take_of_length_le (by rw [List.length_map]; omega)], rfl⟩ (by (exact Ent.auto))
  have hlt9 : o.length < most := by omega
  rw [rs]
  repeat' first
    | ((with_reducible refine Nx.is_wp ?_); first | refine Nx.wo ?_ | refine Nx.zp (fun hc => ?_) (fun hc => ?_))
    | (refine Nx.zo ?_; first | refine Nx.opr rfl rfl ?_ | refine Nx.so ?_ | refine Nx.sb (fun bx => ?_) | refine Nx.sa (fun A2 c2 => ?_))
    | ((with_reducible refine Nx.is_at ?_); first | refine Nx.a ?_ | refine Nx.zd ?_ | refine Nx.zs (fun hc => ?_) (fun hc => ?_))
    | ((with_reducible refine Nx.is_mix ?_); first | refine Nx.m ?_ | refine Nx.zm ?_ | refine Nx.zt (fun hc => ?_) (fun hc => ?_))
    | refine Nx.zx ?_ | fail
  refine Nx.p_loop (σ := Nat) (fun k => [(3, .slice At t.length ct), (5, .slice Ao o.length co), (37, .slice Ar l.length cr), (38, .int .i64 l.length), (39, .int .i64 (k : Int))])
    (fun _ => [Vec 25 1 Ao o.length co (o.map rowV), Stars (o.map rwR), F]) (fun k => k ≤ l.length ∧ (eqns l).all (fun q => decide (restQ t q = 0)) = ((eqns l).drop k).all fun q => decide (restQ t q = 0)) (fun k => l.length - k) 0 rfl ⟨Nat.zero_le _, rfl⟩ ⟨rfl, rfl, rfl, rfl, rfl, trivial⟩ (by (exact Ent.auto)) ?_
  rintro k ⟨hk, he⟩
  by_cases hlt : k < l.length
  · have hrd : ∀ (W : World) (R : List Res), Rd W I R ((ad Ar).add (k * 1)) (.int .i64 ((restL (eqns l) t).getD k default)) := fun W R => hr.rd (by rw [restL_len, eqns_len]; exact hlt)
    rw [rest_drop (by rw [eqns_len]; exact hlt)] at he
    generalize (restL (eqns l) t).getD k default = z at he hrd
    by_cases hz : z = 0
    · rw [decide_eq_true hz, Bool.true_and] at he
      repeat' first
        | ((with_reducible refine Nx.is_wp ?_); first | refine Nx.wo ?_ | refine Nx.zp (fun hc => ?_) (fun hc => ?_))
        | (refine Nx.zo ?_; first | refine Nx.opr rfl rfl ?_ | refine Nx.indexAddr_nat rfl rfl rfl rfl rfl (by omega) (hr.isSome (by rw [restL_len, eqns_len]; omega)) ?_ | refine Nx.load rfl rfl rfl (hrd _ _) ?_ | refine Nx.so ?_ | refine Nx.sb (fun bx => ?_) | refine Nx.sa (fun A2 c2 => ?_))
        | ((with_reducible refine Nx.is_at ?_); first | refine Nx.a ?_ | refine Nx.zd ?_ | refine Nx.zs (fun hc => ?_) (fun hc => ?_))
        | ((with_reducible refine Nx.is_mix ?_); first | refine Nx.m ?_ | refine Nx.zm ?_ | refine Nx.zt (fun hc => ?_) (fun hc => ?_))
        | refine Nx.zx ?_ | fail
      exact Nx.again (k + 1) ⟨hlt, he⟩ (by omega) ⟨rfl, rfl, rfl, rfl, rfl, trivial⟩ (by (exact Ent.auto))
    · rw [decide_eq_false hz, Bool.false_and] at he
      rw [he, if_neg (by decide)]
      repeat' first
        | ((with_reducible refine Nx.is_wp ?_); first | refine Nx.wo ?_ | refine Nx.zp (fun hc => ?_) (fun hc => ?_))
        | (refine Nx.zo ?_; first | refine Nx.opr rfl rfl ?_ | refine Nx.indexAddr_nat rfl rfl rfl rfl rfl (by omega) (hr.isSome (by rw [restL_len, eqns_len]; omega)) ?_ | refine Nx.load rfl rfl rfl (hrd _ _) ?_ | refine Nx.so ?_ | refine Nx.sb (fun bx => ?_) | refine Nx.sa (fun A2 c2 => ?_))
        | ((with_reducible refine Nx.is_at ?_); first | refine Nx.a ?_ | refine Nx.zd ?_ | refine Nx.zs (fun hc => ?_) (fun hc => ?_))
        | ((with_reducible refine Nx.is_mix ?_); first | refine Nx.m ?_ | refine Nx.zm ?_ | refine Nx.zt (fun hc => ?_) (fun hc => ?_))
        | refine Nx.zx ?_ | fail
      exact Nx.ret_fn rfl [_, _] ⟨Ao, co, o, rfl, by rw [List.append_nil, List.take_of_length_le (by rw [List.length_map]; omega)], rfl⟩ (by (exact Ent.auto))
  · obtain rfl : k = l.length := by omega
    rw [List.drop_eq_nil_of_le (by rw [eqns_len]; exact Nat.le_refl _)] at he
    rw [he, List.all_nil, if_pos rfl]
    repeat' first
      | ((with_reducible refine Nx.is_wp ?_); first | refine Nx.wo ?_ | refine Nx.zp (fun hc => ?_) (fun hc => ?_))
      | (refine Nx.zo ?_; first | refine Nx.opr rfl rfl ?_ | refine Nx.so ?_ | refine Nx.sb (fun bx => ?_) | refine Nx.sa (fun A2 c2 => ?_))
      | ((with_reducible refine Nx.is_at ?_); first | refine Nx.a ?_ | refine Nx.zd ?_ | refine Nx.zs (fun hc => ?_) (fun hc => ?_))
      | ((with_reducible refine Nx.is_mix ?_); first | refine Nx.m ?_ | refine Nx.zm ?_ | refine Nx.zt (fun hc => ?_) (fun hc => ?_))
      | refine Nx.zx ?_ | fail
    refine Nx.blk_vec 0 0 1 rfl rfl (by omega) ?_
    refine Nx.at_op rfl rfl ?_
    refine Nx.append rfl rfl rfl rfl (by kernel_rfl) rfl (Src.arr ht.arr (by simp) (by omega) (fun u hu => by obtain ⟨z, _, rfl⟩ := List.mem_map.1 hu; rfl)) (by omega) fun A' c' => ?_
    rw [Nat.zero_add, List.nil_append]
    repeat' first
      | ((with_reducible refine Nx.is_wp ?_); first | refine Nx.wo ?_ | refine Nx.zp (fun hc => ?_) (fun hc => ?_))
      | (refine Nx.zo ?_; first | refine Nx.opr rfl rfl ?_ | refine Nx.so ?_ | refine Nx.sb (fun bx => ?_) | refine Nx.sa (fun A2 c2 => ?_))
      | ((with_reducible refine Nx.is_at ?_); first | refine Nx.a ?_ | refine Nx.zd ?_ | refine Nx.zs (fun hc => ?_) (fun hc => ?_))
      | ((with_reducible refine Nx.is_mix ?_); first | refine Nx.m ?_ | refine Nx.zm ?_ | refine Nx.zt (fun hc => ?_) (fun hc => ?_))
      | refine Nx.zx ?_ | fail
    refine Nx.ent (R' := [rwR (A', c', t), Stars (o.map rwR), Vec 25 1 A2 (o.length + 1) c2 (o.map rowV ++ [rowV (A', c', t)]), F]) (by unfold rwR iR; (exact Ent.auto)) (Nx.ent Ent.bundle ?_)
    exact Nx.ret_fn rfl [Vec 25 1 A2 (o.length + 1) c2 (o.map rowV ++ [rowV (A', c', t)]), Stars (o.map rwR ++ [rwR (A', c', t)])]
      ⟨A2, c2, o ++ [(A', c', t)], by rw [List.length_append]; rfl, by rw [List.map_append, List.take_of_length_le (by simp; omega)]; rfl, by rw [List.length_append, List.map_append, List.map_append]; rfl⟩ (by (exact Ent.auto))
theorem topF_le {L : List Eqn} {t : List Int} (hv : ∀ q ∈ L, 0 ≤ q.2 ∧ q.2 ≤ 1000000) : topF L t ≤ 1000000 := by
  have h1 : topF L t ≤ max 0 (roomR L t.length - 1) := ((le_gtF L).1 (Int.le_refl _)).1
  have h2 := roomR_facts (c := t.length) L fun q hq => (hv q hq).1
  by_cases h0 : roomR L t.length = 0
  · omega
  · obtain ⟨q, hq, hx⟩ : ∃ q ∈ L, t.length ∈ q.1 := Classical.byContradiction fun hno => h0 (h2.2.1.2 fun q hq hx => hno ⟨q, hq, hx⟩)
    have := (h2.2.2 h0 (roomR L t.length - 1)).1 (Int.le_refl _) q hq hx
    have := (hv q hq).2
    omega
/-- What is left of the equations behind the first i of them, when a cell has got a number. -/
def mixR (L : List Eqn) (t : List Int) (v : Int) (i : Nat) : List Int := (restL L (t ++ [v])).take i ++ (restL L t).drop i
theorem mixR_len {L : List Eqn} {t : List Int} {v : Int} {i : Nat} (hi : i ≤ L.length) : (mixR L t v i).length = L.length := by
  unfold mixR; rw [List.length_append, List.length_take, List.length_drop, restL_len, restL_len]; omega
theorem mixR_at {L : List Eqn} {t : List Int} {v : Int} {i : Nat} (hi : i < L.length) : (mixR L t v i).getD i default = restQ t (L.getD i default) := by
  have hl : ((restL L (t ++ [v])).take i).length = i := by rw [List.length_take, restL_len]; omega
  unfold mixR
  rw [List.getD_eq_getElem?_getD, List.getElem?_append_right (by omega), hl, Nat.sub_self, List.getElem?_drop, Nat.add_zero, ← List.getD_eq_getElem?_getD, restL_at hi]
theorem mixR_set {L : List Eqn} {t : List Int} {v : Int} {i : Nat} (hi : i < L.length) : (mixR L t v i).set i (restQ (t ++ [v]) (L.getD i default)) = mixR L t v (i + 1) := by
  have hl : ((restL L (t ++ [v])).take i).length = i := by rw [List.length_take, restL_len]; omega
  unfold mixR
  rw [List.set_append_right _ _ (by omega), hl, Nat.sub_self, List.drop_eq_getElem_cons (by rw [restL_len]; exact hi), List.set_cons_zero, List.take_succ_eq_append_getElem (by rw [restL_len]; exact hi), List.append_assoc]
  congr 1
  rw [List.singleton_append]
  congr 1
  unfold restL
  rw [List.getElem_map, List.getD_eq_getElem?_getD, List.getElem?_eq_getElem hi]; rfl
theorem mixR_zero (L : List Eqn) (t : List Int) (v : Int) : mixR L t v 0 = restL L t := by unfold mixR; simp
theorem mixR_all (L : List Eqn) (t : List Int) (v : Int) : mixR L t v L.length = restL L (t ++ [v]) := by
  unfold mixR
  rw [List.take_of_length_le (by rw [restL_len]; exact Nat.le_refl _), List.drop_eq_nil_of_le (by rw [restL_len]; exact Nat.le_refl _), List.append_nil]
end Go.Proofs.YtcmdemfhbekabaaGreat
/- Contracts of functions of the given program, and lemmas about plain lists and numbers: what the laws of this seat lean on. -/
namespace Go.Proofs.YtcmdemfhbekabaaGreat
open Go.Eng Go.Sol
attribute [local irreducible] opK wpList Code.wp Exit.then Exit.inBlock fnPost bodyPost Nx Calls Oper.wp Rd Rds Wr Ent Stars Blk Again Vec FnSpec wpMix QRun Stop Upto wpAt
theorem last_eqn {n : Nat} {q : EqR} (hg : GoodE n q) (x : Nat) : (eqn q).1.getLast? = some x ↔ q.1.2.2.getD (q.1.2.2.length - 1) default = (x : Int) := by
  have hne := hg.ne
  have hpos : 0 < q.1.2.2.length := List.length_pos_iff.2 hne
  have hl : q.1.2.2.getD (q.1.2.2.length - 1) default = q.1.2.2.getLast hne := by
    rw [List.getD_eq_getElem?_getD, List.getElem?_eq_getElem (by omega), List.getLast_eq_getElem]; rfl
  have h0 := (hg.lt _ (List.getLast_mem hne)).1
  rw [hl]
  unfold eqn
  rw [List.getLast?_map, List.getLast?_eq_some_getLast hne]
  simp only [Option.map_some, Option.some.injEq]
  omega
theorem set_same {l : List Int} {i : Nat} {v : Int} (h : l.getD i default = v) (hi : i < l.length) : l.set i v = l := by
  rw [List.getD_eq_getElem?_getD, List.getElem?_eq_getElem hi] at h
  have h : l[i] = v := h
  rw [← h, List.set_getElem_self]
theorem in_snoc {ix : List Int} {j : Nat} (hjl : j < ix.length) {x : Int} (hne : ix.getD j default ≠ x) : x ∈ ix.take (j + 1) ↔ x ∈ ix.take j := by
  rw [take_snocJ hjl, List.mem_append, List.mem_singleton]
  exact ⟨fun h => h.resolve_right fun h => hne h.symm, fun h => .inl h⟩
theorem ite_congr_b {α : Type} {p q : Prop} [Decidable p] [Decidable q] (h : p ↔ q) (a b : α) : (if p then a else b) = if q then a else b := by
  by_cases hp : p
  · rw [if_pos hp, if_pos (h.1 hp)]
  · rw [if_neg hp, if_neg fun hq => hp (h.2 hq)]
set_option maxRecDepth 10000 in
set_option maxHeartbeats 16000000 in
theorem rsearch_spec (A : Option Addr) (c : Nat) (l : List EqR) (n most : Nat) (hg : ∀ q ∈ l, GoodE n q) (hn9 : n ≤ 4096) (hm9 : most ≤ 1000000) (hll : l.length ≤ 100000) :
    ∀ (k : Nat) (I : PH), Eqs I A c l → ∀ (t : List Int), t.length + k = n → (∀ q ∈ eqns l, 0 ≤ restQ t q ∧ restQ t q ≤ 1000000) → ∀ (At : Option Addr) (ct : Nat), Ints I At ct t → ∀ (Ar : Option Addr) (cr : Nat), Ints I Ar cr (restL (eqns l) t) →
      ∀ (Ao : Option Addr) (co : Nat) (o : List Row), o.length ≤ most →
    FnSpec Tryz.prog 106 [.slice A l.length c, .int .i64 (n : Int), .int .i64 (t.length : Int), .slice At t.length ct, .slice Ar l.length cr, .slice Ao o.length co, .int .i64 (most : Int)] I
      [Vec 25 1 Ao o.length co (o.map rowV), Stars (o.map rwR)] (SrPost most o (rs (eqns l) k t))
  | 0, I, hl, t, hk, hb, At, ct, ht, Ar, cr, hr, Ao, co, o, ho => search_end A c l n most hm9 I t (by omega) hn9 At ct ht Ar cr hr Ao co o ho
  | k + 1, I, hl, t, hk, hb, At, ct, ht, Ar, cr, hr, Ao, co, o, ho => by
    have hR := room_spec A c l n t.length I hl hg
    have hlen := hl.len
    have htl := ht.len
    have hrbd := roomR_bd hg t.length l.length
    rw [List.take_length] at hrbd
    have hval := cells_bd hg
    have htop := topF_le (t := t) hval
    rw [rs_succ]
    unfold SrPost
    refine FnSpec.enterP Tryz.func106 rfl Tryz.ntmps106 rfl fun w F => ?_
    by_cases hfull : o.length = most
    · repeat' first
        | ((with_reducible refine Nx.is_wp ?_); first | refine Nx.wo ?_ | refine Nx.zp (fun hc => ?_) (fun hc => ?_))
        | (refine Nx.zo ?_; first | refine Nx.opr rfl rfl ?_ | refine Nx.so ?_ | refine Nx.sb (fun bx => ?_) | refine Nx.sa (fun A2 c2 => ?_))
        | ((with_reducible refine Nx.is_at ?_); first | refine Nx.a ?_ | refine Nx.zd ?_ | refine Nx.zs (fun hc => ?_) (fun hc => ?_))
        | ((with_reducible refine Nx.is_mix ?_); first | refine Nx.m ?_ | refine Nx.zm ?_ | refine Nx.zt (fun hc => ?_) (fun hc => ?_))
        | refine Nx.zx ?_ | fail
      exact Nx.ret_fn rfl [_, _] ⟨Ao, co, o, rfl, by rw [List.take_append_of_le_length (by rw [List.length_map]; omega), List.take_of_length_le (by rw [List.length_map]; omega)], rfl⟩ (by (exact Ent.auto))
    have hlt9 : o.length < most := by omega
    generalize ha0 : max 0 (roomR (eqns l) t.length - 1) = a0
    repeat' first
      | ((with_reducible refine Nx.is_wp ?_); first | refine Nx.wo ?_ | refine Nx.zp (fun hc => ?_) (fun hc => ?_))
      | (refine Nx.zo ?_; first | refine Nx.opr rfl rfl ?_ | refine Nx.callv rfl rfl rfl (by kernel_rfl) rfl hR ?_ | refine Nx.so ?_ | refine Nx.sb (fun bx => ?_) | refine Nx.sa (fun A2 c2 => ?_))
      | ((with_reducible refine Nx.is_at ?_); first | refine Nx.a ?_ | refine Nx.zd ?_ | refine Nx.zs (fun hc => ?_) (fun hc => ?_))
      | ((with_reducible refine Nx.is_mix ?_); first | refine Nx.m ?_ | refine Nx.zm ?_ | refine Nx.zt (fun hc => ?_) (fun hc => ?_))
      | refine Nx.zx ?_ | fail
    refine Nx.p_loop (σ := Nat) (fun i => [(0, .slice A l.length c), (1, .int .i64 (n : Int)), (2, .int .i64 (t.length : Int)), (3, .slice At t.length ct), (4, .slice Ar l.length cr), (5, .slice Ao o.length co), (6, .int .i64 (most : Int)), (17, .int .i64 (gtF t t.length a0 (eqns (l.take i)))), (58, .slice A l.length c), (59, .int .i64 l.length), (60, .int .i64 (i : Int))])
      (fun _ => [Vec 25 1 Ao o.length co (o.map rowV), Stars (o.map rwR), F]) (fun i => i ≤ l.length) (fun i => l.length - i) 0 rfl (Nat.zero_le _) ⟨rfl, rfl, rfl, rfl, rfl, rfl, rfl, by rw [← ha0]; rfl, rfl, rfl, rfl, trivial⟩ (by (exact Ent.auto)) ?_
    intro i hi
    by_cases hil : i < l.length
    · have hin := hl.inner _ (getD_memQ hil)
      have hgk := hg _ (getD_memQ hil)
      have hes := eqns_snoc hil
      have hrds : ∀ (W : World) (R : List Res), Rds W I R ((ad A).add (i * 2)) (eqC (l.getD i default)) := fun W R => hl.outer.rds hil
      have hrd : ∀ (W : World) (R : List Res), Rd W I R ((ad Ar).add (i * 1)) (.int .i64 (restQ t (eqn (l.getD i default)))) := fun W R => by rw [← restE_at hil]; exact hr.rd (by rw [restL_len, eqns_len]; exact hil)
      generalize l.getD i default = q at hin hgk hes hrds hrd
      obtain ⟨⟨Ax, cx, ix⟩, z⟩ := q
      dsimp only at hin
      replace hrds : ∀ (W : World) (R : List Res), Rds W I R ((ad A).add (i * 2)) [.slice Ax ix.length cx, .int .i64 z] := hrds
      have hixl := hin.len
      have hend : gtF t t.length a0 (eqns (l.take (i + 1))) = if (t.length : Int) ∈ ix then min (gtF t t.length a0 (eqns (l.take i))) (restQ t (eqn ((Ax, cx, ix), z))) else gtF t t.length a0 (eqns (l.take i)) := by
        rw [hes, gtF_snoc]
        exact ite_congr_b (mem_eqn hgk) _ _
      generalize restQ t (eqn ((Ax, cx, ix), z)) = rq at hend hrd
      generalize gtF t t.length a0 (eqns (l.take i)) = g at hend ⊢
      repeat' first
        | ((with_reducible refine Nx.is_wp ?_); first | refine Nx.wo ?_ | refine Nx.zp (fun hc => ?_) (fun hc => ?_))
        | (refine Nx.zo ?_; first | refine Nx.opr rfl rfl ?_ | refine Nx.indexAddr_nat rfl rfl rfl rfl rfl (by omega) (hl.outer.isSome (by omega) (by omega)) ?_ | refine Nx.loads rfl rfl rfl rfl (hrds _ _) rfl ?_ | refine Nx.so ?_ | refine Nx.sb (fun bx => ?_) | refine Nx.sa (fun A2 c2 => ?_))
        | ((with_reducible refine Nx.is_at ?_); first | refine Nx.a ?_ | refine Nx.zd ?_ | refine Nx.zs (fun hc => ?_) (fun hc => ?_))
        | ((with_reducible refine Nx.is_mix ?_); first | refine Nx.m ?_ | refine Nx.zm ?_ | refine Nx.zt (fun hc => ?_) (fun hc => ?_))
        | refine Nx.zx ?_ | fail
      revert bx; intro b19
      refine Nx.p_loop (σ := Nat) (fun j => [(0, .slice A l.length c), (1, .int .i64 (n : Int)), (2, .int .i64 (t.length : Int)), (3, .slice At t.length ct), (4, .slice Ar l.length cr), (5, .slice Ao o.length co), (6, .int .i64 (most : Int)), (17, .int .i64 (if (t.length : Int) ∈ ix.take j then min g rq else g)), (18, .int .i64 (i : Int)), (58, .slice A l.length c), (59, .int .i64 l.length), (60, .int .i64 (i : Int)), (66, .slice Ax ix.length cx), (67, .int .i64 ix.length), (68, .int .i64 (j : Int))])
        (fun _ => [Vec 25 1 Ao o.length co (o.map rowV), Stars (o.map rwR), F]) (fun j => j ≤ ix.length) (fun j => ix.length - j) 0 rfl (Nat.zero_le _) ⟨rfl, rfl, rfl, rfl, rfl, rfl, rfl, by rw [List.take_zero, if_neg List.not_mem_nil]; rfl, rfl, rfl, rfl, rfl, rfl, rfl, rfl, trivial⟩ (by (exact Ent.auto)) ?_
      intro j hj
      by_cases hjl : j < ix.length
      case neg =>
        obtain rfl : j = ix.length := by omega
        rw [List.take_length, ← hend]
        repeat' first
          | ((with_reducible refine Nx.is_wp ?_); first | refine Nx.wo ?_ | refine Nx.zp (fun hc => ?_) (fun hc => ?_))
          | (refine Nx.zo ?_; first | refine Nx.opr rfl rfl ?_ | refine Nx.so ?_ | refine Nx.sb (fun bx => ?_) | refine Nx.sa (fun A2 c2 => ?_))
          | ((with_reducible refine Nx.is_at ?_); first | refine Nx.a ?_ | refine Nx.zd ?_ | refine Nx.zs (fun hc => ?_) (fun hc => ?_))
          | ((with_reducible refine Nx.is_mix ?_); first | refine Nx.m ?_ | refine Nx.zm ?_ | refine Nx.zt (fun hc => ?_) (fun hc => ?_))
          | refine Nx.zx ?_ | fail
        exact Nx.again (i + 1) hil (by omega) ⟨rfl, rfl, rfl, rfl, rfl, rfl, rfl, rfl, rfl, rfl, rfl, trivial⟩ (by (exact Ent.auto))
      by_cases hyx : ix.getD j default = (t.length : Int)
      · rw [if_neg (not_mem_take hgk.asc hjl hyx)]
        have hyes : (if (t.length : Int) ∈ ix.take (j + 1) then min g rq else g) = min g rq := if_pos (by rw [take_snocJ hjl, hyx]; simp)
        repeat' first
          | ((with_reducible refine Nx.is_wp ?_); first | refine Nx.wo ?_ | refine Nx.zp (fun hc => ?_) (fun hc => ?_))
          | (refine Nx.zo ?_; first | refine Nx.opr rfl rfl ?_ | refine Nx.indexAddr_nat rfl rfl rfl rfl rfl (by omega) (hin.isSome (by omega)) ?_ | refine Nx.load rfl rfl rfl (hin.rd (by omega)) ?_ | refine Nx.indexAddr_nat rfl rfl rfl rfl rfl (by omega) (hr.isSome (by rw [restL_len, eqns_len]; omega)) ?_ | refine Nx.load rfl rfl rfl (hrd _ _) ?_ | refine Nx.so ?_ | refine Nx.sb (fun bx => ?_) | refine Nx.sa (fun A2 c2 => ?_))
          | ((with_reducible refine Nx.is_at ?_); first | refine Nx.a ?_ | refine Nx.zd ?_ | refine Nx.zs (fun hc => ?_) (fun hc => ?_))
          | ((with_reducible refine Nx.is_mix ?_); first | refine Nx.m ?_ | refine Nx.zm ?_ | refine Nx.zt (fun hc => ?_) (fun hc => ?_))
          | refine Nx.zx ?_ | fail
        exact Nx.again (j + 1) hjl (by omega) ⟨rfl, rfl, rfl, rfl, rfl, rfl, rfl, by rw [hyes]; rfl, rfl, rfl, rfl, rfl, rfl, rfl, rfl, trivial⟩ (by (exact Ent.auto))
      · have hno := ite_congr_b (in_snoc hjl hyx) (min g rq) g
        generalize (if (t.length : Int) ∈ ix.take j then min g rq else g) = cur at hno ⊢
        repeat' first
          | ((with_reducible refine Nx.is_wp ?_); first | refine Nx.wo ?_ | refine Nx.zp (fun hc => ?_) (fun hc => ?_))
          | (refine Nx.zo ?_; first | refine Nx.opr rfl rfl ?_ | refine Nx.indexAddr_nat rfl rfl rfl rfl rfl (by omega) (hin.isSome (by omega)) ?_ | refine Nx.load rfl rfl rfl (hin.rd (by omega)) ?_ | refine Nx.so ?_ | refine Nx.sb (fun bx => ?_) | refine Nx.sa (fun A2 c2 => ?_))
          | ((with_reducible refine Nx.is_at ?_); first | refine Nx.a ?_ | refine Nx.zd ?_ | refine Nx.zs (fun hc => ?_) (fun hc => ?_))
          | ((with_reducible refine Nx.is_mix ?_); first | refine Nx.m ?_ | refine Nx.zm ?_ | refine Nx.zt (fun hc => ?_) (fun hc => ?_))
          | refine Nx.zx ?_ | fail
        exact Nx.again (j + 1) hjl (by omega) ⟨rfl, rfl, rfl, rfl, rfl, rfl, rfl, by rw [hno]; rfl, rfl, rfl, rfl, rfl, rfl, rfl, rfl, trivial⟩ (by (exact Ent.auto))
    obtain rfl : i = l.length := by omega
    rw [List.take_length, show gtF t t.length a0 (eqns l) = topF (eqns l) t by rw [← ha0]; rfl]
    generalize hN : (topF (eqns l) t + 1).toNat = N
    repeat' first
      | ((with_reducible refine Nx.is_wp ?_); first | refine Nx.wo ?_ | refine Nx.zp (fun hc => ?_) (fun hc => ?_))
      | (refine Nx.zo ?_; first | refine Nx.opr rfl rfl ?_ | refine Nx.so ?_ | refine Nx.sb (fun bx => ?_) | refine Nx.sa (fun A2 c2 => ?_))
      | ((with_reducible refine Nx.is_at ?_); first | refine Nx.a ?_ | refine Nx.zd ?_ | refine Nx.zs (fun hc => ?_) (fun hc => ?_))
      | ((with_reducible refine Nx.is_mix ?_); first | refine Nx.m ?_ | refine Nx.zm ?_ | refine Nx.zt (fun hc => ?_) (fun hc => ?_))
      | refine Nx.zx ?_ | fail
    refine Nx.p_loop (σ := Nat × Option Addr × Nat × List Row) (fun s => [(0, .slice A l.length c), (1, .int .i64 (n : Int)), (2, .int .i64 (t.length : Int)), (3, .slice At t.length ct), (4, .slice Ar l.length cr), (5, .slice s.2.1 s.2.2.2.length s.2.2.1), (6, .int .i64 (most : Int)), (17, .int .i64 (topF (eqns l) t)), (22, .int .i64 (s.1 : Int))])
      (fun s => [Vec 25 1 s.2.1 s.2.2.2.length s.2.2.1 (s.2.2.2.map rowV), Stars (s.2.2.2.map rwR), F]) (fun s => s.1 ≤ N ∧ s.2.2.2.map (·.2.2) = (o.map (·.2.2) ++ (List.range s.1).flatMap (stepF (eqns l) k t)).take most) (fun s => N - s.1) (0, Ao, co, o) rfl ⟨Nat.zero_le _, by rw [List.range_zero, List.flatMap_nil, List.append_nil, List.take_of_length_le (by rw [List.length_map]; omega)]⟩ ⟨rfl, rfl, rfl, rfl, rfl, rfl, rfl, rfl, rfl, trivial⟩ (by (exact Ent.auto)) ?_
    rintro ⟨v, A4, c4, o4⟩ ⟨hv, ho4⟩
    dsimp only at hv ho4 ⊢
    have ho4l : o4.length ≤ most := by
      have := congrArg List.length ho4
      rw [List.length_map, List.length_take] at this
      omega
    by_cases hvN : v < N
    case neg =>
      obtain rfl : v = N := by omega
      repeat' first
        | ((with_reducible refine Nx.is_wp ?_); first | refine Nx.wo ?_ | refine Nx.zp (fun hc => ?_) (fun hc => ?_))
        | (refine Nx.zo ?_; first | refine Nx.opr rfl rfl ?_ | refine Nx.so ?_ | refine Nx.sb (fun bx => ?_) | refine Nx.sa (fun A2 c2 => ?_))
        | ((with_reducible refine Nx.is_at ?_); first | refine Nx.a ?_ | refine Nx.zd ?_ | refine Nx.zs (fun hc => ?_) (fun hc => ?_))
        | ((with_reducible refine Nx.is_mix ?_); first | refine Nx.m ?_ | refine Nx.zm ?_ | refine Nx.zt (fun hc => ?_) (fun hc => ?_))
        | refine Nx.zx ?_ | fail
      exact Nx.ret_fn rfl [_, _] ⟨A4, c4, o4, rfl, ho4, rfl⟩ (by (exact Ent.auto))
    have hvt : (v : Int) ≤ topF (eqns l) t := by omega
    repeat' first
      | ((with_reducible refine Nx.is_wp ?_); first | refine Nx.wo ?_ | refine Nx.zp (fun hc => ?_) (fun hc => ?_))
      | (refine Nx.zo ?_; first | refine Nx.opr rfl rfl ?_ | refine Nx.so ?_ | refine Nx.sb (fun bx => ?_) | refine Nx.sa (fun A2 c2 => ?_))
      | ((with_reducible refine Nx.is_at ?_); first | refine Nx.a ?_ | refine Nx.zd ?_ | refine Nx.zs (fun hc => ?_) (fun hc => ?_))
      | ((with_reducible refine Nx.is_mix ?_); first | refine Nx.m ?_ | refine Nx.zm ?_ | refine Nx.zt (fun hc => ?_) (fun hc => ?_))
      | refine Nx.zx ?_ | fail
    refine Nx.blk_vec 0 0 1 rfl rfl (by omega) ?_
    refine Nx.at_op rfl rfl ?_
    refine Nx.append rfl rfl rfl rfl (by kernel_rfl) rfl (Src.arr hr.arr (by simp [restL_len, eqns_len]) (by omega) (fun u hu => by obtain ⟨z, _, rfl⟩ := List.mem_map.1 hu; rfl)) (by omega) fun A' c' => ?_
    rw [Nat.zero_add, List.nil_append]
    repeat' first
      | ((with_reducible refine Nx.is_wp ?_); first | refine Nx.wo ?_ | refine Nx.zp (fun hc => ?_) (fun hc => ?_))
      | (refine Nx.zo ?_; first | refine Nx.opr rfl rfl ?_ | refine Nx.so ?_ | refine Nx.sb (fun bx => ?_) | refine Nx.sa (fun A2 c2 => ?_))
      | ((with_reducible refine Nx.is_at ?_); first | refine Nx.a ?_ | refine Nx.zd ?_ | refine Nx.zs (fun hc => ?_) (fun hc => ?_))
      | ((with_reducible refine Nx.is_mix ?_); first | refine Nx.m ?_ | refine Nx.zm ?_ | refine Nx.zt (fun hc => ?_) (fun hc => ?_))
      | refine Nx.zx ?_ | fail
    have hm0 : restL (eqns l) t = mixR (eqns l) t (v : Int) 0 := (mixR_zero _ _ _).symm
    refine Nx.p_loop (σ := Nat × Bool) (fun s => [(0, .slice A l.length c), (1, .int .i64 (n : Int)), (2, .int .i64 (t.length : Int)), (3, .slice At t.length ct), (4, .slice Ar l.length cr), (5, .slice A4 o4.length c4), (6, .int .i64 (most : Int)), (17, .int .i64 (topF (eqns l) t)), (22, .int .i64 (v : Int)), (23, .slice A' l.length c'), (24, .bool s.2), (91, .slice A l.length c), (92, .int .i64 l.length), (93, .int .i64 (s.1 : Int))])
      (fun s => [Vec 3 1 A' l.length c' ((mixR (eqns l) t (v : Int) s.1).map (Value.int .i64)), Vec 25 1 A4 o4.length c4 (o4.map rowV), Stars (o4.map rwR), F]) (fun s => s.1 ≤ l.length ∧ s.2 = (eqns (l.take s.1)).all (fitQ (t ++ [(v : Int)]))) (fun s => l.length - s.1) (0, true) rfl ⟨Nat.zero_le _, rfl⟩ ⟨rfl, rfl, rfl, rfl, rfl, rfl, rfl, rfl, rfl, rfl, rfl, rfl, rfl, rfl, trivial⟩ (by dsimp only; rw [← hm0]; (exact Ent.auto)) ?_
    rintro ⟨i, f⟩ ⟨hi, hf⟩
    dsimp only at hi hf ⊢
    have hil9 : i ≤ (eqns l).length := by rw [eqns_len]; exact hi
    have hml := mixR_len (t := t) (v := (v : Int)) hil9
    rw [eqns_len] at hml
    by_cases hil : i < l.length
    · have hgk := hg _ (getD_memQ hil)
      have hin := hl.inner _ (getD_memQ hil)
      have hes := eqns_snoc hil
      have hrds : ∀ (W : World) (R : List Res), Rds W I R ((ad A).add (i * 2)) (eqC (l.getD i default)) := fun W R => hl.outer.rds hil
      have hbq := hb (eqn (l.getD i default)) (by rw [← eqns_at hil]; exact getD_memE (by rw [eqns_len]; exact hil))
      have hma := mixR_at (t := t) (v := (v : Int)) (L := eqns l) (i := i) (by rw [eqns_len]; exact hil)
      have hms := mixR_set (t := t) (v := (v : Int)) (L := eqns l) (i := i) (by rw [eqns_len]; exact hil)
      rw [eqns_at hil] at hma hms
      rw [restQ_app (eqn_nd hgk)] at hms
      have hlq := last_eqn hgk t.length
      have hfq : fitQ (t ++ [(v : Int)]) (eqn (l.getD i default)) = (!decide ((l.getD i default).1.2.2.getD ((l.getD i default).1.2.2.length - 1) default = (t.length : Int)) || decide (restQ t (eqn (l.getD i default)) - (if t.length ∈ (eqn (l.getD i default)).1 then (v : Int) else 0) = 0)) := by
        unfold fitQ
        rw [restQ_app (eqn_nd hgk), show (t ++ [(v : Int)]).length - 1 = t.length by simp, decide_eq_decide.2 hlq]
      have hmq := mem_eqn hgk (c := t.length)
      generalize l.getD i default = q at hin hgk hes hrds hbq hma hms hfq hmq
      obtain ⟨⟨Ax, cx, ix⟩, z⟩ := q
      dsimp only at hin hfq hmq
      replace hrds : ∀ (W : World) (R : List Res), Rds W I R ((ad A).add (i * 2)) [.slice Ax ix.length cx, .int .i64 z] := hrds
      have hixl := hin.len
      have hipos : 0 < ix.length := List.length_pos_iff.2 hgk.ne
      rw [ite_congr_b hmq] at hms hfq
      generalize restQ t (eqn ((Ax, cx, ix), z)) = rq at hbq hma hms hfq
      generalize hM : mixR (eqns l) t (v : Int) i = M at hma hms hml ⊢
      repeat' first
        | ((with_reducible refine Nx.is_wp ?_); first | refine Nx.wo ?_ | refine Nx.zp (fun hc => ?_) (fun hc => ?_))
        | (refine Nx.zo ?_; first | refine Nx.opr rfl rfl ?_ | refine Nx.indexAddr_nat rfl rfl rfl rfl rfl (by omega) (hl.outer.isSome (by omega) (by omega)) ?_ | refine Nx.loads rfl rfl rfl rfl (hrds _ _) rfl ?_ | refine Nx.so ?_ | refine Nx.sb (fun bx => ?_) | refine Nx.sa (fun A2 c2 => ?_))
        | ((with_reducible refine Nx.is_at ?_); first | refine Nx.a ?_ | refine Nx.zd ?_ | refine Nx.zs (fun hc => ?_) (fun hc => ?_))
        | ((with_reducible refine Nx.is_mix ?_); first | refine Nx.m ?_ | refine Nx.zm ?_ | refine Nx.zt (fun hc => ?_) (fun hc => ?_))
        | refine Nx.zx ?_ | fail
      revert bx; intro b26
      refine Nx.p_loop (σ := Nat) (fun j => [(0, .slice A l.length c), (1, .int .i64 (n : Int)), (2, .int .i64 (t.length : Int)), (3, .slice At t.length ct), (4, .slice Ar l.length cr), (5, .slice A4 o4.length c4), (6, .int .i64 (most : Int)), (17, .int .i64 (topF (eqns l) t)), (22, .int .i64 (v : Int)), (23, .slice A' l.length c'), (24, .bool f), (25, .int .i64 (i : Int)), (26, .pointer (some ⟨b26, 0, none⟩)), (91, .slice A l.length c), (92, .int .i64 l.length), (93, .int .i64 (i : Int)), (99, .slice Ax ix.length cx), (100, .int .i64 ix.length), (101, .int .i64 (j : Int))])
        (fun j => [Vec 3 1 A' l.length c' ((if (t.length : Int) ∈ ix.take j then M.set i (rq - (v : Int)) else M).map (Value.int .i64)), Blk b26 93 [.slice Ax ix.length cx, .int .i64 z], Vec 25 1 A4 o4.length c4 (o4.map rowV), Stars (o4.map rwR), F]) (fun j => j ≤ ix.length) (fun j => ix.length - j) 0 rfl (Nat.zero_le _) ⟨rfl, rfl, rfl, rfl, rfl, rfl, rfl, rfl, rfl, rfl, rfl, rfl, rfl, rfl, rfl, rfl, rfl, rfl, rfl, trivial⟩ (by rw [List.take_zero, if_neg List.not_mem_nil]; (exact Ent.auto)) ?_
      intro j hj
      by_cases hjl : j < ix.length
      · by_cases hyx : ix.getD j default = (t.length : Int)
        · rw [if_neg (not_mem_take hgk.asc hjl hyx)]
          have hyes : (if (t.length : Int) ∈ ix.take (j + 1) then M.set i (rq - (v : Int)) else M) = M.set i (rq - (v : Int)) := if_pos (by rw [take_snocJ hjl, hyx]; simp)
          have hrv : ∀ (W : World) (R : List Res), Rd W I (Vec 3 1 A' l.length c' (M.map (Value.int .i64)) :: R) ((ad A').add (i * 1)) (.int .i64 rq) := fun W R => by rw [← hma]; exact Rd.vecEl 0 (f := Value.int .i64) (l := M) (i := i) rfl (by omega)
          refine Nx.vec_fact fun _ _ _ hA' => ?_
          repeat' first
            | ((with_reducible refine Nx.is_wp ?_); first | refine Nx.wo ?_ | refine Nx.zp (fun hc => ?_) (fun hc => ?_))
            | (refine Nx.zo ?_; first | refine Nx.opr rfl rfl ?_ | refine Nx.indexAddr_nat rfl rfl rfl rfl rfl (by omega) (hin.isSome (by omega)) ?_ | refine Nx.load rfl rfl rfl (hin.rd (by omega)) ?_ | refine Nx.indexAddr_nat rfl rfl rfl rfl rfl (by omega) (hA' (by omega)) ?_ | refine Nx.load rfl rfl rfl (hrv _ _) ?_ | refine Nx.store_of 0 (Value.int .i64) rfl rfl rfl rfl rfl rfl (by omega) ?_ | refine Nx.so ?_ | refine Nx.sb (fun bx => ?_) | refine Nx.sa (fun A2 c2 => ?_))
            | ((with_reducible refine Nx.is_at ?_); first | refine Nx.a ?_ | refine Nx.zd ?_ | refine Nx.zs (fun hc => ?_) (fun hc => ?_))
            | ((with_reducible refine Nx.is_mix ?_); first | refine Nx.m ?_ | refine Nx.zm ?_ | refine Nx.zt (fun hc => ?_) (fun hc => ?_))
            | refine Nx.zx ?_ | fail
          exact Nx.again (j + 1) hjl (by omega) ⟨rfl, rfl, rfl, rfl, rfl, rfl, rfl, rfl, rfl, rfl, rfl, rfl, rfl, rfl, rfl, rfl, rfl, rfl, rfl, trivial⟩ (by rw [hyes]; (exact Ent.auto))
        · have hno := ite_congr_b (in_snoc hjl hyx) (M.set i (rq - (v : Int))) M
          generalize (if (t.length : Int) ∈ ix.take j then M.set i (rq - (v : Int)) else M) = cur at hno ⊢
          repeat' first
            | ((with_reducible refine Nx.is_wp ?_); first | refine Nx.wo ?_ | refine Nx.zp (fun hc => ?_) (fun hc => ?_))
            | (refine Nx.zo ?_; first | refine Nx.opr rfl rfl ?_ | refine Nx.indexAddr_nat rfl rfl rfl rfl rfl (by omega) (hin.isSome (by omega)) ?_ | refine Nx.load rfl rfl rfl (hin.rd (by omega)) ?_ | refine Nx.so ?_ | refine Nx.sb (fun bx => ?_) | refine Nx.sa (fun A2 c2 => ?_))
            | ((with_reducible refine Nx.is_at ?_); first | refine Nx.a ?_ | refine Nx.zd ?_ | refine Nx.zs (fun hc => ?_) (fun hc => ?_))
            | ((with_reducible refine Nx.is_mix ?_); first | refine Nx.m ?_ | refine Nx.zm ?_ | refine Nx.zt (fun hc => ?_) (fun hc => ?_))
            | refine Nx.zx ?_ | fail
          exact Nx.again (j + 1) hjl (by omega) ⟨rfl, rfl, rfl, rfl, rfl, rfl, rfl, rfl, rfl, rfl, rfl, rfl, rfl, rfl, rfl, rfl, rfl, rfl, rfl, trivial⟩ (by rw [hno]; (exact Ent.auto))
      obtain rfl : j = ix.length := by omega
      rw [List.take_length]
      have hnew : (if (t.length : Int) ∈ ix then M.set i (rq - (v : Int)) else M) = mixR (eqns l) t (v : Int) (i + 1) := by
        rw [← hms]
        by_cases hm : (t.length : Int) ∈ ix
        · rw [if_pos hm, if_pos hm]
        · rw [if_neg hm, if_neg hm, Int.sub_zero, set_same hma (by omega)]
      have hnat : (mixR (eqns l) t (v : Int) (i + 1)).getD i default = rq - if (t.length : Int) ∈ ix then (v : Int) else 0 := by
        rw [← hms, List.getD_eq_getElem?_getD, List.getElem?_set_self (by omega)]; rfl
      have hnl : (mixR (eqns l) t (v : Int) (i + 1)).length = l.length := by rw [← hms, List.length_set]; exact hml
      rw [hnew]
      have hall : (eqns (l.take (i + 1))).all (fitQ (t ++ [(v : Int)])) = (f && fitQ (t ++ [(v : Int)]) (eqn ((Ax, cx, ix), z))) := by
        rw [hes, List.all_append, ← hf, List.all_cons, List.all_nil, Bool.and_true]
      generalize hM2 : mixR (eqns l) t (v : Int) (i + 1) = M2 at hnat hnl ⊢
      generalize (rq - if (t.length : Int) ∈ ix then (v : Int) else 0) = r2 at hnat hfq
      have hidx : (((ix.length : Int) - 1).toNat * 1) = (ix.length - 1) * 1 := by omega
      have hlr : ∀ (W : World) (R : List Res), Rd W I R ((ad Ax).add ((((ix.length : Int) - 1).toNat) * 1)) (.int .i64 (ix.getD (ix.length - 1) default)) := fun W R => by rw [hidx]; exact hin.rd (by omega)
      have hrv : ∀ (W : World) (R : List Res), Rd W I (Vec 3 1 A' l.length c' (M2.map (Value.int .i64)) :: R) ((ad A').add (i * 1)) (.int .i64 r2) := fun W R => by rw [← hnat]; exact Rd.vecEl 0 (f := Value.int .i64) (l := M2) (i := i) rfl (by omega)
      refine Nx.vec_fact fun _ _ _ hA' => ?_
      generalize ix.getD (ix.length - 1) default = lst at hlr hfq
      have hdone : fitQ (t ++ [(v : Int)]) (eqn ((Ax, cx, ix), z)) = true → (eqns (l.take (i + 1))).all (fitQ (t ++ [(v : Int)])) = f := fun h => by rw [hall, h, Bool.and_true]
      by_cases hlst : lst = (t.length : Int)
      · by_cases hr2 : r2 = 0
        · rw [decide_eq_true hr2, Bool.or_true] at hfq
          repeat' first
            | ((with_reducible refine Nx.is_wp ?_); first | refine Nx.wo ?_ | refine Nx.zp (fun hc => ?_) (fun hc => ?_))
            | (refine Nx.zo ?_; first | refine Nx.opr rfl rfl ?_ | refine Nx.indexAddr (sz := 1) rfl rfl rfl rfl rfl (by omega) (by omega) (hin.isSome (by omega)) ?_ | refine Nx.load rfl rfl rfl (hlr _ _) ?_ | refine Nx.indexAddr_nat rfl rfl rfl rfl rfl (by omega) (hA' (by omega)) ?_ | refine Nx.load rfl rfl rfl (hrv _ _) ?_ | refine Nx.so ?_ | refine Nx.sb (fun bx => ?_) | refine Nx.sa (fun A2 c2 => ?_))
            | ((with_reducible refine Nx.is_at ?_); first | refine Nx.a ?_ | refine Nx.zd ?_ | refine Nx.zs (fun hc => ?_) (fun hc => ?_))
            | ((with_reducible refine Nx.is_mix ?_); first | refine Nx.m ?_ | refine Nx.zm ?_ | refine Nx.zt (fun hc => ?_) (fun hc => ?_))
            | refine Nx.zx ?_ | fail
          exact Nx.again (i + 1, f) ⟨hil, (hdone hfq).symm⟩ (by dsimp only; omega) ⟨rfl, rfl, rfl, rfl, rfl, rfl, rfl, rfl, rfl, rfl, rfl, rfl, rfl, rfl, trivial⟩ (by dsimp only; rw [hM2]; (exact Ent.auto))
        · rw [decide_eq_false hr2, decide_eq_true hlst] at hfq
          repeat' first
            | ((with_reducible refine Nx.is_wp ?_); first | refine Nx.wo ?_ | refine Nx.zp (fun hc => ?_) (fun hc => ?_))
            | (refine Nx.zo ?_; first | refine Nx.opr rfl rfl ?_ | refine Nx.indexAddr (sz := 1) rfl rfl rfl rfl rfl (by omega) (by omega) (hin.isSome (by omega)) ?_ | refine Nx.load rfl rfl rfl (hlr _ _) ?_ | refine Nx.indexAddr_nat rfl rfl rfl rfl rfl (by omega) (hA' (by omega)) ?_ | refine Nx.load rfl rfl rfl (hrv _ _) ?_ | refine Nx.so ?_ | refine Nx.sb (fun bx => ?_) | refine Nx.sa (fun A2 c2 => ?_))
            | ((with_reducible refine Nx.is_at ?_); first | refine Nx.a ?_ | refine Nx.zd ?_ | refine Nx.zs (fun hc => ?_) (fun hc => ?_))
            | ((with_reducible refine Nx.is_mix ?_); first | refine Nx.m ?_ | refine Nx.zm ?_ | refine Nx.zt (fun hc => ?_) (fun hc => ?_))
            | refine Nx.zx ?_ | fail
          exact Nx.again (i + 1, false) ⟨hil, by dsimp only; rw [hall, hfq]; cases f <;> rfl⟩ (by dsimp only; omega) ⟨rfl, rfl, rfl, rfl, rfl, rfl, rfl, rfl, rfl, rfl, rfl, rfl, rfl, rfl, trivial⟩ (by dsimp only; rw [hM2]; (exact Ent.auto))
      · rw [decide_eq_false hlst, Bool.not_false, Bool.true_or] at hfq
        repeat' first
          | ((with_reducible refine Nx.is_wp ?_); first | refine Nx.wo ?_ | refine Nx.zp (fun hc => ?_) (fun hc => ?_))
          | (refine Nx.zo ?_; first | refine Nx.opr rfl rfl ?_ | refine Nx.indexAddr (sz := 1) rfl rfl rfl rfl rfl (by omega) (by omega) (hin.isSome (by omega)) ?_ | refine Nx.load rfl rfl rfl (hlr _ _) ?_ | refine Nx.so ?_ | refine Nx.sb (fun bx => ?_) | refine Nx.sa (fun A2 c2 => ?_))
          | ((with_reducible refine Nx.is_at ?_); first | refine Nx.a ?_ | refine Nx.zd ?_ | refine Nx.zs (fun hc => ?_) (fun hc => ?_))
          | ((with_reducible refine Nx.is_mix ?_); first | refine Nx.m ?_ | refine Nx.zm ?_ | refine Nx.zt (fun hc => ?_) (fun hc => ?_))
          | refine Nx.zx ?_ | fail
        exact Nx.again (i + 1, f) ⟨hil, (hdone hfq).symm⟩ (by dsimp only; omega) ⟨rfl, rfl, rfl, rfl, rfl, rfl, rfl, rfl, rfl, rfl, rfl, rfl, rfl, rfl, trivial⟩ (by dsimp only; rw [hM2]; (exact Ent.auto))
    obtain rfl : i = l.length := by omega
    rw [List.take_length, ← fitB_eq] at hf
    have hmall := mixR_all (eqns l) t (v : Int)
    rw [eqns_len] at hmall
    rw [hmall]
    have hnext : (o4.map (·.2.2) ++ stepF (eqns l) k t v).take most = (o.map (·.2.2) ++ (List.range (v + 1)).flatMap (stepF (eqns l) k t)).take most := by
      rw [ho4, take_most, List.append_assoc, List.range_succ, List.flatMap_append, List.flatMap_cons, List.flatMap_nil, List.append_nil]
    cases f with
    | false =>
      have hst : stepF (eqns l) k t v = [] := by unfold stepF; rw [← hf]; rfl
      rw [hst, List.append_nil, List.take_of_length_le (by rw [List.length_map]; exact ho4l)] at hnext
      repeat' first
        | ((with_reducible refine Nx.is_wp ?_); first | refine Nx.wo ?_ | refine Nx.zp (fun hc => ?_) (fun hc => ?_))
        | (refine Nx.zo ?_; first | refine Nx.opr rfl rfl ?_ | refine Nx.so ?_ | refine Nx.sb (fun bx => ?_) | refine Nx.sa (fun A2 c2 => ?_))
        | ((with_reducible refine Nx.is_at ?_); first | refine Nx.a ?_ | refine Nx.zd ?_ | refine Nx.zs (fun hc => ?_) (fun hc => ?_))
        | ((with_reducible refine Nx.is_mix ?_); first | refine Nx.m ?_ | refine Nx.zm ?_ | refine Nx.zt (fun hc => ?_) (fun hc => ?_))
        | refine Nx.zx ?_ | fail
      exact Nx.again (v + 1, A4, c4, o4) ⟨hvN, hnext⟩ (by dsimp only; omega) ⟨rfl, rfl, rfl, rfl, rfl, rfl, rfl, rfl, rfl, trivial⟩ (by (exact Ent.auto))
    | true =>
      have hst : stepF (eqns l) k t v = rs (eqns l) k (t ++ [(v : Int)]) := by unfold stepF; rw [← hf]; rfl
      rw [hst] at hnext
      have hb2 : ∀ q ∈ eqns l, 0 ≤ restQ (t ++ [(v : Int)]) q ∧ restQ (t ++ [(v : Int)]) q ≤ 1000000 := fun q hq => by
        have h1 := hb q hq
        have hnd : q.1.Nodup := by
          obtain ⟨x, hx, rfl⟩ := List.mem_map.1 hq
          exact eqn_nd (hg x hx)
        rw [restQ_app hnd]
        by_cases hm : t.length ∈ q.1
        · rw [if_pos hm]
          have := ((le_gtF (eqns l)).1 (show (v : Int) ≤ gtF t t.length (max 0 (roomR (eqns l) t.length - 1)) (eqns l) from hvt)).2 q hq hm
          omega
        · rw [if_neg hm]; omega
      have htl1 : (t ++ [(v : Int)]).length = t.length + 1 := by simp
      repeat' first
        | ((with_reducible refine Nx.is_wp ?_); first | refine Nx.wo ?_ | refine Nx.zp (fun hc => ?_) (fun hc => ?_))
        | (refine Nx.zo ?_; first | refine Nx.opr rfl rfl ?_ | refine Nx.so ?_ | refine Nx.sb (fun bx => ?_) | refine Nx.sa (fun A2 c2 => ?_))
        | ((with_reducible refine Nx.is_at ?_); first | refine Nx.a ?_ | refine Nx.zd ?_ | refine Nx.zs (fun hc => ?_) (fun hc => ?_))
        | ((with_reducible refine Nx.is_mix ?_); first | refine Nx.m ?_ | refine Nx.zm ?_ | refine Nx.zt (fun hc => ?_) (fun hc => ?_))
        | refine Nx.zx ?_ | fail
      refine Nx.blk_vec 0 0 1 rfl rfl (by omega) ?_
      refine Nx.at_op rfl rfl ?_
      refine Nx.append rfl rfl rfl rfl (by kernel_rfl) rfl (Src.arr ht.arr (by simp) (by omega) (fun u hu => by obtain ⟨z, _, rfl⟩ := List.mem_map.1 hu; rfl)) (by omega) fun A6 c6 => ?_
      rw [Nat.zero_add, List.nil_append]
      repeat' first
        | ((with_reducible refine Nx.is_wp ?_); first | refine Nx.wo ?_ | refine Nx.zp (fun hc => ?_) (fun hc => ?_))
        | (refine Nx.zo ?_; first | refine Nx.opr rfl rfl ?_ | refine Nx.so ?_ | refine Nx.sb (fun bx => ?_) | refine Nx.sa (fun A2 c2 => ?_))
        | ((with_reducible refine Nx.is_at ?_); first | refine Nx.a ?_ | refine Nx.zd ?_ | refine Nx.zs (fun hc => ?_) (fun hc => ?_))
        | ((with_reducible refine Nx.is_mix ?_); first | refine Nx.m ?_ | refine Nx.zm ?_ | refine Nx.zt (fun hc => ?_) (fun hc => ?_))
        | refine Nx.zx ?_ | fail
      refine Nx.ent (R' := [iR A2 c2 (t ++ [(v : Int)]), iR A' c' (restL (eqns l) (t ++ [(v : Int)])), Vec 25 1 A4 o4.length c4 (o4.map rowV), Stars (o4.map rwR), F]) (by unfold iR; rw [htl1, restL_len, eqns_len, List.map_append]; (exact Ent.auto)) ?_
      refine Nx.freezeAt 0 rfl fun I2 m2 hI2 hm2 h2 => ?_
      refine Nx.freezeAt 0 rfl fun I3 m3 hI3 hm3 h3 => ?_
      have ih := rsearch_spec A c l n most hg hn9 hm9 hll k I3 (hl.mono (hI2.trans hI3)) (t ++ [(v : Int)]) (by rw [htl1]; omega) hb2 A2 c2 ((show Ints I2 A2 c2 (t ++ [(v : Int)]) from Vec.sliceOf (t := 3) hm2 h2).mono hI3) A' c' (Vec.sliceOf (t := 3) hm3 h3) A4 c4 o4 ho4l
      rw [htl1, Int.natCast_add] at ih
      unfold SrPost at ih
      rw [hnext] at ih
      repeat' first
        | ((with_reducible refine Nx.is_wp ?_); first | refine Nx.wo ?_ | refine Nx.zp (fun hc => ?_) (fun hc => ?_))
        | (refine Nx.zo ?_; first | refine Nx.opr rfl rfl ?_ | (refine Nx.call rfl rfl rfl (by kernel_rfl) rfl ih (by (exact Ent.auto)) ?_; rintro _ _ ⟨A5, c5, o5, rfl, ho5, rfl⟩) | refine Nx.so ?_ | refine Nx.sb (fun bx => ?_) | refine Nx.sa (fun A2 c2 => ?_))
        | ((with_reducible refine Nx.is_at ?_); first | refine Nx.a ?_ | refine Nx.zd ?_ | refine Nx.zs (fun hc => ?_) (fun hc => ?_))
        | ((with_reducible refine Nx.is_mix ?_); first | refine Nx.m ?_ | refine Nx.zm ?_ | refine Nx.zt (fun hc => ?_) (fun hc => ?_))
        | refine Nx.zx ?_ | fail
      exact Nx.imm_le (hI2.trans hI3) (Nx.again (v + 1, A5, c5, o5) ⟨hvN, ho5⟩ (by dsimp only; omega) ⟨rfl, rfl, rfl, rfl, rfl, rfl, rfl, rfl, rfl, trivial⟩ (by (exact Ent.auto)))
end Go.Proofs.YtcmdemfhbekabaaGreat
/- Contracts of functions of the given program, and lemmas about plain lists and numbers: what the laws of this seat lean on. -/
namespace Go.Proofs.YtcmdemfhbekabaaGreat
open Go.Eng Go.Sol
attribute [local irreducible] opK wpList Code.wp Exit.then Exit.inBlock fnPost bodyPost Nx Calls Oper.wp Rd Rds Wr Ent Stars Blk Again Vec FnSpec wpMix QRun Stop Upto wpAt
/-! Plain: the reference's search finds the same, in the same order -/
theorem asc_eqns {n : Nat} {l : List EqR} (hg : ∀ q ∈ l, GoodE n q) : Asc n (eqns l) := by
  refine ⟨fun q hq => ?_, fun q hq c hc => ?_, fun q hq => (cells_bd hg q hq).1⟩
  · obtain ⟨x, hx, rfl⟩ := List.mem_map.1 hq
    exact toNat_asc (hg x hx).asc fun y hy => ((hg x hx).lt y hy).1
  · obtain ⟨x, hx, rfl⟩ := List.mem_map.1 hq
    have := (hg x hx).lt _ ((mem_eqn (hg x hx)).1 hc)
    omega
theorem nil_at (c : Nat) : (0 : Int) ≤ ([] : List Int).getD c 0 := by rw [getD_ge (Nat.zero_le _)]; exact Int.le_refl _
theorem from_goes {n : Nat} {l : List EqR} (hg : ∀ q ∈ l, GoodE n q) {s : List Int} : From (eqns l) n [] s ↔ Goes n 1000000 (eqns l) (touch n (eqns l)) (List.replicate n 0) s := by
  have ha := asc_eqns hg
  constructor
  · intro h
    have hlen : s.length = n := by have := h.len; rwa [List.length_nil, Nat.zero_add] at this
    have hnn : ∀ c, 0 ≤ s.getD c 0 := fun c => (h.pos c (Nat.zero_le _)).1
    refine ⟨hlen, fun c hc => ?_, fun c hc => ⟨hnn c, ?_⟩, h.sum⟩
    · rw [zeros_at]
      rcases Nat.lt_or_ge c n with hcn | hcn
      · exact (h.pos c (Nat.zero_le _)).2 fun q hq hx => hc (mem_touch.2 ⟨hcn, q, hq, hx⟩)
      · exact getD_ge (by omega)
    · obtain ⟨_, q, hq, hx⟩ := mem_touch.1 hc
      have h1 := le_sumC (s := s) (c := c) (cs := q.1) (fun d _ => hnn d) hx
      rw [h.sum q hq] at h1
      have := (cells_bd hg q hq).2
      omega
  · intro h
    refine ⟨by rw [h.len, List.length_nil, Nat.zero_add], rfl, fun c _ => ?_, h.sum⟩
    by_cases hc : c ∈ touch n (eqns l)
    · refine ⟨(h.pos c hc).1, fun hno => ?_⟩
      obtain ⟨_, q, hq, hx⟩ := mem_touch.1 hc
      exact absurd hx (hno q hq)
    · have := h.same c hc
      rw [zeros_at] at this
      rw [this]; exact ⟨Int.le_refl _, fun _ => rfl⟩
theorem mem_rsols {n : Nat} {l : List EqR} (hg : ∀ q ∈ l, GoodE n q) {s : List Int} : s ∈ rs (eqns l) n [] ↔ s ∈ solsOf n (eqns l) := by
  rw [mem_sols hg, ← from_goes hg]
  exact mem_rs (asc_eqns hg) (by simp) nil_at
theorem once_eqns {n : Nat} {l : List EqR} (hg : ∀ q ∈ l, GoodE n q) : Once (eqns l) := (asc_eqns hg).once
theorem sols_sorted {n : Nat} {l : List EqR} (hg : ∀ q ∈ l, GoodE n q) : (solsOf n (eqns l)).Pairwise (ltU false (touch n (eqns l))) :=
  enum_sorted (once_eqns hg) (inv_start hg (touch_nd _ _) fun _ => Iff.rfl)
theorem ext_sorted {n x : Nat} {down : Bool} {l : List EqR} (hg : ∀ q ∈ l, GoodE n q) (hx : x ∈ touch n (eqns l)) : (extOf n (eqns l) x down).Pairwise (ltU down (ordOf n (eqns l) x)) :=
  enum_sorted (once_eqns hg) (inv_start hg (ord_nd n (eqns l) x) (ord_mem hx))
theorem rs_sols {n : Nat} {l : List EqR} (hg : ∀ q ∈ l, GoodE n q) : rs (eqns l) n [] = solsOf n (eqns l) := by
  refine sorted_same (fun _ => ltU_irrefl) (fun _ _ => ltU_asymm) ?_ (sols_sorted hg) fun s => mem_rsols hg
  refine List.Pairwise.imp_of_mem (fun {a b} hia hib hab => ?_) (rs_sorted (asc_eqns hg) (k := n) (t := []) (by simp) nil_at)
  have ga := (mem_sols hg).1 ((mem_rsols hg).1 hia)
  have gb := (mem_sols hg).1 ((mem_rsols hg).1 hib)
  rw [List.length_nil, ← List.range_eq_range'] at hab
  unfold touch
  refine ltU_filter (fun c hc hp => ?_) hab
  have hno : c ∉ touch n (eqns l) := fun h => by
    have := (List.mem_filter.1 h).2
    rw [hp] at this; cases this
  rw [ga.same c hno, gb.same c hno]
/-! Products -/
def prodF (L : List Eqn) : Nat → Int
  | 0 => 1
  | k + 1 => prodF L k * max 1 (roomR L k)
theorem prodF_pos (L : List Eqn) : ∀ k, 1 ≤ prodF L k
  | 0 => Int.le_refl _
  | k + 1 => by
    have h1 : (1 : Int) * 1 ≤ prodF L k * max 1 (roomR L k) := Int.mul_le_mul (prodF_pos L k) (by omega) (by omega) (by have := prodF_pos L k; omega)
    rw [prodF]; omega
theorem prodF_step (L : List Eqn) (k : Nat) : prodF L k ≤ prodF L (k + 1) := by
  have h0 := prodF_pos L k
  have h1 : prodF L k * 1 ≤ prodF L k * max 1 (roomR L k) := Int.mul_le_mul_of_nonneg_left (by omega) (by omega)
  rw [prodF]; omega
theorem prodF_mono (L : List Eqn) {k : Nat} : ∀ {n : Nat}, k ≤ n → prodF L k ≤ prodF L n
  | 0, h => by rw [show k = 0 by omega]; exact Int.le_refl _
  | n + 1, h => by
    rcases Nat.lt_or_ge n k with h' | h'
    · rw [show k = n + 1 by omega]; exact Int.le_refl _
    · exact Int.le_trans (prodF_mono L h') (prodF_step L n)
theorem prodR_prodF (L : List Eqn) : ∀ (k a : Nat), prodF L a * prodR L (List.range' a k) = prodF L (a + k)
  | 0, a => by rw [List.range'_zero, prodR, Int.mul_one]; rfl
  | k + 1, a => by
    rw [List.range'_succ, prodR, ← Int.mul_assoc, show prodF L a * max 1 (roomR L a) = prodF L (a + 1) from rfl, prodR_prodF L k (a + 1), show a + 1 + k = a + (k + 1) by omega]
theorem rs_count {n : Nat} (L : List Eqn) : ((rs L n []).length : Int) ≤ prodF L n := by
  have h1 := rs_len (L := L) n []
  have h2 := prodR_prodF L n 0
  rw [show prodF L 0 = 1 from rfl, Int.one_mul, Nat.zero_add] at h2
  rw [List.length_nil, h2] at h1
  exact h1
def prodX : List Int → Int
  | [] => 1
  | x :: r => x * prodX r
theorem prodX_app (a b : List Int) : prodX (a ++ b) = prodX a * prodX b := by
  induction a with
  | nil => rw [List.nil_append, prodX, Int.one_mul]
  | cons x r ih => rw [List.cons_append, prodX, prodX, ih, Int.mul_assoc]
theorem prodX_pos : ∀ {xs : List Int}, (∀ x ∈ xs, 1 ≤ x) → 1 ≤ prodX xs
  | [], _ => Int.le_refl _
  | x :: r, h => by
    have h1 : (1 : Int) * 1 ≤ x * prodX r := Int.mul_le_mul (h x (by simp)) (prodX_pos fun y hy => h y (by simp [hy])) (by omega) (by have := h x (by simp); omega)
    rw [prodX]; omega
theorem sizeB_iff : ∀ {xs : List Int} {a : Int}, (∀ x ∈ xs, 1 ≤ x) → 1 ≤ a → a ≤ 65536 → (sizeB a xs = true ↔ a * prodX xs ≤ 65536)
  | [], a, _, _, h9 => by rw [sizeB, prodX, Int.mul_one]; exact ⟨fun _ => h9, fun _ => rfl⟩
  | x :: r, a, hx, h1, h9 => by
    have hx1 := hx x (by simp)
    have hp := prodX_pos (xs := r) fun y hy => hx y (by simp [hy])
    have hax : (1 : Int) * 1 ≤ a * x := Int.mul_le_mul h1 hx1 (by omega) (by omega)
    rw [sizeB, prodX, ← Int.mul_assoc]
    by_cases h : a * x ≤ 65536
    · rw [decide_eq_true h, Bool.true_and]
      exact sizeB_iff (fun y hy => hx y (by simp [hy])) (by omega) h
    · rw [decide_eq_false h, Bool.false_and]
      have h2 : a * x * 1 ≤ a * x * prodX r := Int.mul_le_mul_of_nonneg_left hp (by omega)
      exact ⟨fun h' => (by cases h'), fun h' => by omega⟩
theorem le_roomOf {c : Nat} {v : Int} : ∀ (L : List Eqn), v ≤ roomOf L c ↔ v ≤ 1000001 ∧ ∀ q ∈ L, c ∈ q.1 → v ≤ q.2 + 1 := by
  refine snoc_ind ?_ ?_
  · exact ⟨fun h => ⟨h, fun q hq => (nomatch hq)⟩, fun h => h.1⟩
  · intro L q ih
    rw [room_snoc]
    by_cases hc : c ∈ q.1
    · rw [if_pos hc, Int.le_min, ih]
      refine ⟨fun h => ⟨h.1.1, fun p hp hcp => ?_⟩, fun h => ⟨⟨h.1, fun p hp => h.2 p (by simp [hp])⟩, h.2 q (by simp) hc⟩⟩
      rcases List.mem_append.1 hp with hp | hp
      · exact h.1.2 p hp hcp
      · rw [List.mem_singleton] at hp; subst hp; exact h.2
    · rw [if_neg hc, ih]
      refine ⟨fun h => ⟨h.1, fun p hp hcp => ?_⟩, fun h => ⟨h.1, fun p hp => h.2 p (by simp [hp])⟩⟩
      rcases List.mem_append.1 hp with hp | hp
      · exact h.2 p hp hcp
      · rw [List.mem_singleton] at hp; subst hp; exact absurd hcp hc
theorem room_same {L : List Eqn} {c : Nat} (hv : ∀ q ∈ L, 0 ≤ q.2 ∧ q.2 ≤ 1000000) (hc : ∃ q ∈ L, c ∈ q.1) : roomR L c = roomOf L c ∧ 1 ≤ roomR L c := by
  obtain ⟨h1, h2, h3⟩ := roomR_facts (c := c) L fun q hq => (hv q hq).1
  obtain ⟨q0, hq0, hc0⟩ := hc
  have hne : roomR L c ≠ 0 := fun h => h2.1 h q0 hq0 hc0
  have h3 := h3 hne
  refine ⟨?_, by omega⟩
  have ha : roomR L c ≤ roomOf L c := (le_roomOf L).2 ⟨by have := (h3 (roomR L c - 1)).1 (Int.le_refl _) q0 hq0 hc0; have := (hv q0 hq0).2; omega, fun q hq hx => by have := (h3 (roomR L c - 1)).1 (Int.le_refl _) q hq hx; omega⟩
  have hb := (h3 (roomOf L c - 1)).2 fun q hq hx => by have := ((le_roomOf L).1 (Int.le_refl (roomOf L c))).2 q hq hx; omega
  omega
theorem touch_succ (n : Nat) (L : List Eqn) : touch (n + 1) L = touch n L ++ if L.any fun q => decide (n ∈ q.1) then [n] else [] := by
  unfold touch
  rw [List.range_succ, List.filter_append]
  congr 1
  rw [List.filter_cons, List.filter_nil]
theorem prod_same {L : List Eqn} (hv : ∀ q ∈ L, 0 ≤ q.2 ∧ q.2 ≤ 1000000) : ∀ n, prodX (roomsOf n L) = prodF L n
  | 0 => rfl
  | n + 1 => by
    unfold roomsOf
    rw [touch_succ, List.map_append, prodX_app, prodF]
    have ih := prod_same hv n
    unfold roomsOf at ih
    rw [ih]
    congr 1
    by_cases h : (L.any fun q => decide (n ∈ q.1)) = true
    · rw [if_pos h]
      obtain ⟨q, hq, hn⟩ := List.any_eq_true.1 h
      have hr := room_same (c := n) hv ⟨q, hq, of_decide_eq_true hn⟩
      show roomOf L n * 1 = _
      rw [← hr.1]; omega
    · rw [if_neg h]
      have := (roomR_facts (c := n) L fun q hq => (hv q hq).1).2.1.2 fun q hq hx => h (List.any_eq_true.2 ⟨q, hq, decide_eq_true hx⟩)
      rw [this]; rfl
theorem small_iff {n : Nat} {l : List EqR} (hg : ∀ q ∈ l, GoodE n q) : smallB n (eqns l) = true ↔ prodF (eqns l) n ≤ 65536 := by
  have hv := cells_bd hg
  unfold smallB
  rw [sizeB_iff (fun x hx => ?_) (Int.le_refl _) (by decide), Int.one_mul, prod_same hv]
  obtain ⟨c, _, rfl⟩ := List.mem_map.1 hx
  exact (room_bd fun q hq => (hv q hq).1).1
/-! The first table with the least, or the greatest, number at a cell -/
/-- The first in such an order has the least, or the greatest, number. -/
theorem ext_head {n x : Nat} {down : Bool} {l : List EqR} (hg : ∀ q ∈ l, GoodE n q) (hx : x ∈ touch n (eqns l)) {h : List Int} {r : List (List Int)} (he : extOf n (eqns l) x down = h :: r) : h ∈ solsOf n (eqns l) ∧ ∀ s ∈ solsOf n (eqns l), if down then s.getD x 0 ≤ h.getD x 0 else h.getD x 0 ≤ s.getD x 0 := by
  have hm := fun s => mem_ext (down := down) (s := s) hg hx
  have hs := ext_sorted (down := down) hg hx
  rw [he] at hs
  refine ⟨(hm _).1 (by rw [he]; exact List.mem_cons_self ..), fun s h' => ?_⟩
  have h' := (hm _).2 h'
  rw [he] at h'
  rcases List.mem_cons.1 h' with rfl | h'
  · cases down <;> exact Int.le_refl _
  · rcases (List.pairwise_cons.1 hs).1 s h' with h1 | h1
    · cases down with
      | true => rw [if_pos rfl] at h1 ⊢; omega
      | false => rw [if_neg (by decide)] at h1 ⊢; omega
    · cases down with
      | true => rw [if_pos rfl]; omega
      | false => rw [if_neg (by decide)]; omega
end Go.Proofs.YtcmdemfhbekabaaGreat
/- Contracts of functions of the given program, and lemmas about plain lists and numbers: what the laws of this seat lean on. -/
namespace Go.Proofs.YtcmdemfhbekabaaGreat
open Go.Eng Go.Sol
attribute [local irreducible] opK wpList Code.wp Exit.then Exit.inBlock fnPost bodyPost Nx Calls Oper.wp Rd Rds Wr Ent Stars Blk Again Vec FnSpec wpMix QRun Stop Upto wpAt
/-! The reference's functions -/
theorem rest_nil (l : List EqR) : restL (eqns l) [] = valsL l := rest_start 0 l
set_option maxRecDepth 10000 in
set_option maxHeartbeats 8000000 in
theorem all_spec (A : Option Addr) (c : Nat) (l : List EqR) (n most : Nat) (I : PH) (hl : Eqs I A c l) (hg : ∀ q ∈ l, GoodE n q) (hn9 : n ≤ 4096) (hll : l.length ≤ 100000) (hm9 : most ≤ 1000000) :
    FnSpec Tryz.prog 61 [.int .i64 (n : Int), .slice A l.length c, .int .i64 (most : Int)] I []
      (fun v R' => ∃ (A' : Option Addr) (c' : Nat) (o : List Row), v = .slice A' o.length c' ∧ o.map (·.2.2) = (solsOf n (eqns l)).take most ∧ R' = rowsR A' c' o) := by
  have hlen := hl.len
  refine FnSpec.enterP Tryz.func61 rfl Tryz.ntmps61 rfl fun w F => ?_
  repeat' first
    | ((with_reducible refine Nx.is_wp ?_); first | refine Nx.wo ?_ | refine Nx.zp (fun hc => ?_) (fun hc => ?_))
    | (refine Nx.zo ?_; first | refine Nx.opr rfl rfl ?_ | refine Nx.so ?_ | refine Nx.sb (fun bx => ?_) | refine Nx.sa (fun A2 c2 => ?_))
    | ((with_reducible refine Nx.is_at ?_); first | refine Nx.a ?_ | refine Nx.zd ?_ | refine Nx.zs (fun hc => ?_) (fun hc => ?_))
    | ((with_reducible refine Nx.is_mix ?_); first | refine Nx.m ?_ | refine Nx.zm ?_ | refine Nx.zt (fun hc => ?_) (fun hc => ?_))
    | refine Nx.zx ?_ | fail
  refine Nx.p_loop (σ := Nat × Option Addr × Nat) (fun s => [(0, .int .i64 (n : Int)), (1, .slice A l.length c), (2, .int .i64 (most : Int)), (7, .slice s.2.1 (valsL (l.take s.1)).length s.2.2), (10, .slice A l.length c), (11, .int .i64 l.length), (12, .int .i64 (s.1 : Int))])
    (fun s => [iR s.2.1 s.2.2 (valsL (l.take s.1)), F]) (fun s => s.1 ≤ l.length) (fun s => l.length - s.1) (0, none, 0) rfl (Nat.zero_le _) ⟨rfl, rfl, rfl, rfl, rfl, rfl, rfl, trivial⟩ ((Ent.vec_nil 3 1 _).trans (by unfold iR; (exact Ent.auto))) ?_
  rintro ⟨k, A1, c1⟩ hk
  dsimp only at hk ⊢
  have hvl : (valsL (l.take k)).length ≤ 1000000 := by rw [vals_len, List.length_take]; omega
  by_cases hlt : k < l.length
  · have hvs := vals_snoc hlt
    have hrds : ∀ (W : World) (R : List Res), Rds W I R ((ad A).add (k * 2)) (eqC (l.getD k default)) := fun W R => hl.outer.rds hlt
    generalize l.getD k default = q at hvs hrds
    obtain ⟨⟨Ax, cx, ix⟩, z⟩ := q
    dsimp only at hvs
    replace hrds : ∀ (W : World) (R : List Res), Rds W I R ((ad A).add (k * 2)) [.slice Ax ix.length cx, .int .i64 z] := hrds
    generalize valsL (l.take k) = vs at hvs hvl ⊢
    repeat' first
      | ((with_reducible refine Nx.is_wp ?_); first | refine Nx.wo ?_ | refine Nx.zp (fun hc => ?_) (fun hc => ?_))
      | (refine Nx.zo ?_; first | refine Nx.opr rfl rfl ?_ | refine Nx.indexAddr_nat rfl rfl rfl rfl rfl (by omega) (hl.outer.isSome (by omega) (by omega)) ?_ | refine Nx.loads rfl rfl rfl rfl (hrds _ _) rfl ?_ | refine Nx.so ?_ | refine Nx.sb (fun bx => ?_) | refine Nx.sa (fun A2 c2 => ?_))
      | ((with_reducible refine Nx.is_at ?_); first | refine Nx.a ?_ | refine Nx.zd ?_ | refine Nx.zs (fun hc => ?_) (fun hc => ?_))
      | ((with_reducible refine Nx.is_mix ?_); first | refine Nx.m ?_ | refine Nx.zm ?_ | refine Nx.zt (fun hc => ?_) (fun hc => ?_))
      | refine Nx.zx ?_ | fail
    exact Nx.again (k + 1, A2, c2) hlt (by dsimp only; omega) ⟨rfl, rfl, rfl, by dsimp only; rw [hvs, List.length_append]; rfl, rfl, rfl, rfl, trivial⟩ (by dsimp only; rw [hvs]; unfold iR; rw [List.length_append, List.map_append]; (exact Ent.auto))
  obtain rfl : k = l.length := by omega
  rw [List.take_length]
  have hvl2 := vals_len l
  refine Nx.freezeAt 0 rfl fun I2 m2 hI2 hm2 h2 => ?_
  have hS : FnSpec Tryz.prog 106 [.slice A l.length c, .int .i64 (n : Int), .int .i64 0, .slice none 0 0, .slice A1 l.length c1, .slice none 0 0, .int .i64 (most : Int)] I2 [Vec 25 1 none 0 0 [], Stars []] (SrPost most [] (rs (eqns l) n [])) :=
    rsearch_spec A c l n most hg hn9 hm9 hll n I2 (hl.mono hI2) [] (by simp) (fun q hq => by
      have h := cells_bd hg q hq
      have : restQ [] q = q.2 := by
        have := sumC_zero 0 q.1
        unfold restQ; rw [show ([] : List Int) = List.replicate 0 0 from rfl, this]; omega
      rw [this]; exact h) none 0 SliceOf.nil A1 c1 (by rw [rest_nil]; exact Vec.sliceOf (t := 3) hm2 h2) none 0 [] (Nat.zero_le _)
  unfold SrPost at hS
  rw [rs_sols hg] at hS
  rw [hvl2]
  refine Nx.ent (R' := [Vec 25 1 none 0 0 [], Stars [], F]) ((Ent.stars_nil _).trans ((Ent.vec_nil 25 1 _).trans (by (exact Ent.auto)))) ?_
  repeat' first
    | ((with_reducible refine Nx.is_wp ?_); first | refine Nx.wo ?_ | refine Nx.zp (fun hc => ?_) (fun hc => ?_))
    | (refine Nx.zo ?_; first | refine Nx.opr rfl rfl ?_ | (refine Nx.call rfl rfl rfl (by kernel_rfl) rfl hS (by (exact Ent.auto)) ?_; rintro _ _ ⟨A5, c5, o5, rfl, ho5, rfl⟩) | refine Nx.so ?_ | refine Nx.sb (fun bx => ?_) | refine Nx.sa (fun A2 c2 => ?_))
    | ((with_reducible refine Nx.is_at ?_); first | refine Nx.a ?_ | refine Nx.zd ?_ | refine Nx.zs (fun hc => ?_) (fun hc => ?_))
    | ((with_reducible refine Nx.is_mix ?_); first | refine Nx.m ?_ | refine Nx.zm ?_ | refine Nx.zt (fun hc => ?_) (fun hc => ?_))
    | refine Nx.zx ?_ | fail
  exact Nx.imm_le hI2 (Nx.ret_fn rfl [_, _] ⟨A5, c5, o5, rfl, ho5, rfl⟩ (by (exact Ent.auto)))
set_option maxRecDepth 10000 in
set_option maxHeartbeats 8000000 in
theorem rcheck_spec (n : Int) (A : Option Addr) (c : Nat) (l : List EqR) (I : PH) (hl : Eqs I A c l) :
    FnSpec Tryz.prog 60 [.int .i64 n, .slice A l.length c] I [] (fun v R' => v = .int .i64 (chkQ n l) ∧ R' = []) := by
  have hV := RValid_spec n A c l I hl
  unfold chkQ
  refine FnSpec.enterP Tryz.func60 rfl Tryz.ntmps60 rfl fun w F => ?_
  cases hv : validB n l with
  | false =>
    rw [hv] at hV
    repeat' first
      | ((with_reducible refine Nx.is_wp ?_); first | refine Nx.wo ?_ | refine Nx.zp (fun hc => ?_) (fun hc => ?_))
      | (refine Nx.zo ?_; first | refine Nx.opr rfl rfl ?_ | refine Nx.callv rfl rfl rfl (by kernel_rfl) rfl hV ?_ | refine Nx.so ?_ | refine Nx.sb (fun bx => ?_) | refine Nx.sa (fun A2 c2 => ?_))
      | ((with_reducible refine Nx.is_at ?_); first | refine Nx.a ?_ | refine Nx.zd ?_ | refine Nx.zs (fun hc => ?_) (fun hc => ?_))
      | ((with_reducible refine Nx.is_mix ?_); first | refine Nx.m ?_ | refine Nx.zm ?_ | refine Nx.zt (fun hc => ?_) (fun hc => ?_))
      | refine Nx.zx ?_ | fail
    exact Nx.ret_fn rfl [] ⟨rfl, rfl⟩ (by (exact Ent.auto))
  | true =>
    rw [hv] at hV
    obtain ⟨h1, h2, h3⟩ := valid_good hv
    obtain ⟨m, rfl⟩ : ∃ m : Nat, n = m := ⟨n.toNat, by omega⟩
    rw [Int.toNat_natCast] at h3 ⊢
    rw [if_neg (by decide)]
    have hR := fun x => room_spec A c l m x I hl h3
    repeat' first
      | ((with_reducible refine Nx.is_wp ?_); first | refine Nx.wo ?_ | refine Nx.zp (fun hc => ?_) (fun hc => ?_))
      | (refine Nx.zo ?_; first | refine Nx.opr rfl rfl ?_ | refine Nx.callv rfl rfl rfl (by kernel_rfl) rfl hV ?_ | refine Nx.so ?_ | refine Nx.sb (fun bx => ?_) | refine Nx.sa (fun A2 c2 => ?_))
      | ((with_reducible refine Nx.is_at ?_); first | refine Nx.a ?_ | refine Nx.zd ?_ | refine Nx.zs (fun hc => ?_) (fun hc => ?_))
      | ((with_reducible refine Nx.is_mix ?_); first | refine Nx.m ?_ | refine Nx.zm ?_ | refine Nx.zt (fun hc => ?_) (fun hc => ?_))
      | refine Nx.zx ?_ | fail
    refine Nx.p_loop (σ := Nat) (fun k => [(0, .int .i64 (m : Int)), (1, .slice A l.length c), (5, .int .i64 (prodF (eqns l) k)), (6, .int .i64 (k : Int))])
      (fun _ => [F]) (fun k => k ≤ m ∧ prodF (eqns l) k ≤ 65536) (fun k => m - k) 0 rfl ⟨Nat.zero_le _, by rw [prodF]; decide⟩ ⟨rfl, rfl, rfl, rfl, trivial⟩ (by (exact Ent.auto)) ?_
    rintro k ⟨hk, hp⟩
    by_cases hlt : k < m
    · have hrb := roomR_bd h3 k l.length
      rw [List.take_length] at hrb
      have hp1 := prodF_pos (eqns l) k
      have hps : prodF (eqns l) (k + 1) = prodF (eqns l) k * max 1 (roomR (eqns l) k) := rfl
      have hmono := prodF_mono (eqns l) (show k + 1 ≤ m from hlt)
      have hsi := small_iff h3
      have hbig : prodF (eqns l) k * max 1 (roomR (eqns l) k) ≤ 65536 * 1000001 := Int.mul_le_mul hp (by omega) (by omega) (by omega)
      have hsm : 0 ≤ prodF (eqns l) k * max 1 (roomR (eqns l) k) := Int.mul_nonneg (by omega) (by omega)
      by_cases hle : prodF (eqns l) (k + 1) ≤ 65536
      · rw [hps] at hle
        repeat' first
          | ((with_reducible refine Nx.is_wp ?_); first | refine Nx.wo ?_ | refine Nx.zp (fun hc => ?_) (fun hc => ?_))
          | (refine Nx.zo ?_; first | refine Nx.opr rfl rfl ?_ | refine Nx.callv rfl rfl rfl (by kernel_rfl) rfl (hR _) ?_ | refine Nx.so ?_ | refine Nx.sb (fun bx => ?_) | refine Nx.sa (fun A2 c2 => ?_))
          | ((with_reducible refine Nx.is_at ?_); first | refine Nx.a ?_ | refine Nx.zd ?_ | refine Nx.zs (fun hc => ?_) (fun hc => ?_))
          | ((with_reducible refine Nx.is_mix ?_); first | refine Nx.m ?_ | refine Nx.zm ?_ | refine Nx.zt (fun hc => ?_) (fun hc => ?_))
          | refine Nx.zx ?_ | fail
        exact Nx.again (k + 1) ⟨hlt, hle⟩ (by omega) ⟨rfl, rfl, rfl, rfl, trivial⟩ (by (exact Ent.auto))
      · have hno : smallB m (eqns l) = false := by
          cases hs : smallB m (eqns l) with
          | false => rfl
          | true => have := hsi.1 hs; omega
        rw [if_pos hno]
        rw [hps] at hle
        repeat' first
          | ((with_reducible refine Nx.is_wp ?_); first | refine Nx.wo ?_ | refine Nx.zp (fun hc => ?_) (fun hc => ?_))
          | (refine Nx.zo ?_; first | refine Nx.opr rfl rfl ?_ | refine Nx.callv rfl rfl rfl (by kernel_rfl) rfl (hR _) ?_ | refine Nx.so ?_ | refine Nx.sb (fun bx => ?_) | refine Nx.sa (fun A2 c2 => ?_))
          | ((with_reducible refine Nx.is_at ?_); first | refine Nx.a ?_ | refine Nx.zd ?_ | refine Nx.zs (fun hc => ?_) (fun hc => ?_))
          | ((with_reducible refine Nx.is_mix ?_); first | refine Nx.m ?_ | refine Nx.zm ?_ | refine Nx.zt (fun hc => ?_) (fun hc => ?_))
          | refine Nx.zx ?_ | fail
        exact Nx.ret_fn rfl [] ⟨rfl, rfl⟩ (by (exact Ent.auto))
    · obtain rfl : k = m := by omega
      have hyes := (small_iff h3).2 hp
      rw [hyes, if_neg (by decide)]
      repeat' first
        | ((with_reducible refine Nx.is_wp ?_); first | refine Nx.wo ?_ | refine Nx.zp (fun hc => ?_) (fun hc => ?_))
        | (refine Nx.zo ?_; first | refine Nx.opr rfl rfl ?_ | refine Nx.so ?_ | refine Nx.sb (fun bx => ?_) | refine Nx.sa (fun A2 c2 => ?_))
        | ((with_reducible refine Nx.is_at ?_); first | refine Nx.a ?_ | refine Nx.zd ?_ | refine Nx.zs (fun hc => ?_) (fun hc => ?_))
        | ((with_reducible refine Nx.is_mix ?_); first | refine Nx.m ?_ | refine Nx.zm ?_ | refine Nx.zt (fun hc => ?_) (fun hc => ?_))
        | refine Nx.zx ?_ | fail
      exact Nx.ret_fn rfl [] ⟨rfl, rfl⟩ (by (exact Ent.auto))
/-- All solutions are among the first 65536. -/
theorem sols_few {n : Nat} {l : List EqR} (hg : ∀ q ∈ l, GoodE n q) (hs : smallB n (eqns l) = true) : (solsOf n (eqns l)).take 65536 = solsOf n (eqns l) := by
  have h1 := rs_count (n := n) (eqns l)
  have h2 := (small_iff hg).1 hs
  rw [rs_sols hg] at h1
  exact List.take_of_length_le (by omega)
end Go.Proofs.YtcmdemfhbekabaaGreat
/-
  The proof engine, part AO: a statement of open order with several stores at its end, where some operations that only read temporaries are not waited for by the first of them.
-/
namespace Go.Eng
def noFin (fin : List Nat) (listed : Array Bool) : Bool := fin.all fun j => !(listed.getD j false)
/-- In whatever order the operations come up, S holds as long as none of the last ones has come up. -/
def wpAnyE (P : Program) (md : Region.Mode) (ops : Array Oper) (Q : Exit → Act → World → Prop) (S : World → Prop) (fin : List Nat) : Nat → Array Bool → Act → World → Prop
  | 0, listed, a, w => Region.ready md ops listed = [] ∧ Q .normal a w
  | n + 1, listed, a, w => (Region.ready md ops listed = [] → Q .normal a w) ∧
    ∀ i ∈ Region.ready md ops listed, wpOp P ops Q i (fun a' w' => (noFin fin (listed.setIfInBounds i true) = true → S w') ∧ wpAnyE P md ops Q S fin n (listed.setIfInBounds i true) a' w') a w
section
variable {P : Program} {ops : Array Oper} {Q : Exit → Act → World → Prop} {md : Region.Mode} {S : World → Prop} {fin loud : List Nat}
theorem wpAny_of_E : ∀ (n : Nat) (listed : Array Bool) (a : Act) (w : World), wpAnyE P md ops Q S fin n listed a w → wpAny P md ops Q n listed a w
  | 0, _, _, _, h => h
  | n + 1, _, _, _, h => ⟨h.1, fun i hi => wpOp_mono (fun a' w' h' => wpAny_of_E n _ a' w' h'.2) (h.2 i hi)⟩
theorem noFin_of {listed : Array Bool} (h : ∀ j ∈ fin, listed.getD j false = false) : noFin fin listed = true := List.all_eq_true.2 fun j hj => by rw [h j hj]; rfl
theorem noFin_at {listed : Array Bool} (h : noFin fin listed = true) {j : Nat} (hj : j ∈ fin) : listed.getD j false = false := by
  have := List.all_eq_true.1 h j hj
  cases hb : listed.getD j false with
  | false => rfl
  | true => rw [hb] at this; cases this
theorem noFin_set {listed : Array Bool} {i : Nat} (hi : fin.contains i = false) (h : noFin fin listed = true) : noFin fin (listed.setIfInBounds i true) = true := noFin_of fun j hj => by
  rw [getD_set_ne false (by rintro rfl; rw [List.contains_iff_mem.2 hj] at hi; cases hi)]
  exact noFin_at h hj
theorem noFin_less {listed : Array Bool} {i : Nat} (h : noFin fin (listed.setIfInBounds i true) = true) : noFin fin listed = true := noFin_of fun j hj => by
  have := noFin_at h hj
  cases hb : listed.getD j false with
  | false => rfl
  | true => rw [getD_set_true hb] at this; cases this
/-- While a number for which the last ones wait is still to come, none of these has come. -/
theorem noFin_waits {i : Nat} {listed : Array Bool} (hc : Closed md ops listed) (h : finWaits md ops fin i = true) (hi : i ∈ Region.ready md ops listed) (hsz : ∀ j ∈ fin, ∃ o, ops[j]? = some o) : noFin fin listed = true := noFin_of fun j hj => by
  cases hb : listed.getD j false with
  | false => rfl
  | true =>
    exfalso
    have h1 := List.all_eq_true.1 h j hj
    obtain ⟨oj, hoj⟩ := hsz j hj
    have hj' : ∀ o, ops[j]? = some o → ∀ e ∈ o.after, Region.binds md e = true → listed.getD e.on false = true := fun o ho => hc j o ho hb
    have h2 : listed.getD i false = true := by
      simp only [Bool.or_eq_true] at h1
      rcases h1 with (h1 | h1) | h1 <;> exact waitsOn_listed hc _ j h1 hj'
    have h0 := (mem_ready.1 hi).1
    rcases Nat.lt_or_ge i listed.size with h' | h'
    · simp [h'] at h0 h2
      rw [h0] at h2; cases h2
    · simp [Array.getElem?_eq_none h'] at h2
/-- An operation that reads, and that may come now; nothing of the last ones has come. -/
theorem wpAnyE_first {T : World → Prop} {i : Nat} {oi : Oper} {v : Value} (hi : ops[i]? = some oi) (hs : Region.noSelect ops = true) (hQ : PanicOk Q) (hif : fin.contains i = false) (hsz : ∀ j ∈ fin, ∃ o, ops[j]? = some o)
    (hT : ∀ (listed : Array Bool) (w : World), Closed md ops listed → i ∈ Region.ready md ops listed → (noFin fin listed = true → S w) → T w) :
    ∀ (n : Nat) (listed : Array Bool) (a : Act) (w : World), Closed md ops listed →
      (∀ j oj, ops[j]? = some oj → j ≠ i → listed.getD j true = false → (∀ e ∈ oj.after, Region.binds md e = true → e.on ≠ i) → oi.apart ops oj = true) →
      i ∈ Region.ready md ops listed → YieldsIf P ops T oi v a → (noFin fin listed = true → S w) →
      wpAnyE P md ops Q S fin n (listed.setIfInBounds i true) (a.put oi.dst v) w → wpAnyE P md ops Q S fin (n + 1) listed a w
  | n, listed, a, w, hcl, hap, hr, hy, hS, H => by
    have hTw := hT listed w hcl hr hS
    refine ⟨fun h0 => (by rw [h0] at hr; cases hr), fun j hj => ?_⟩
    by_cases hji : j = i
    · subst hji; exact hy.wpOp hi hTw ⟨fun h => hS (noFin_less h), H⟩
    · have hj2 := ready_mono hj hji
      obtain ⟨hjun, oj, hoj, _⟩ := mem_ready.1 hj
      have hno := ready_waits hr hj hoj
      match n, H with
      | 0, H => rw [H.1] at hj2; cases hj2
      | n + 1, H =>
        have h1 := H.2 j hj2
        have hyc : YieldsIf P ops (fun u => u = w) oi v a := by
          unfold YieldsIf at hy ⊢
          rcases hy with ⟨hw, hy⟩ | hy
          · exact .inl ⟨hw, fun u hu => hy u (hu ▸ hTw)⟩
          · exact .inr hy
        have h2 := wpOp_putIf hoj (hap j oj hoj hji hjun hno) (fun cs b => Region.noSelect_spec hs i oi cs b hi) (fun cs b => Region.noSelect_spec hs j oj cs b hoj) (fun c a w => hQ c oi.dst v a w) hy h1
        refine wpOp_mono (fun a' w' h3 => ?_) h2
        obtain ⟨hy', hS', H'⟩ := h3
        have hS2 : noFin fin (listed.setIfInBounds j true) = true → S w' := fun h => hS' (by rw [Array.setIfInBounds_comm _ _ (Ne.symm hji)]; exact noFin_set hif h)
        refine ⟨hS2, wpAnyE_first hi hs hQ hif hsz hT n (listed.setIfInBounds j true) a' w' (hcl.set hj) (fun k ok hk hki hun hnk => ?_) (ready_mono hr (Ne.symm hji)) hy' hS2 ?_⟩
        · refine hap k ok hk hki ?_ hnk
          by_cases hjk : j = k
          · subst hjk; exact hjun
          · rwa [getD_set_ne true hjk] at hun
        · rw [Array.setIfInBounds_comm _ _ hji]
          exact H'
/-- The operations in parts: in those that are marked, more than temporaries may be read. -/
def wpParts (P : Program) (ops : Array Oper) (Q : Exit → Act → World → Prop) (S : World → Prop) (loud fin : List Nat) : List (Bool × List Nat) → Act → World → Prop
  | [], a, w => wpMix P ops Q AnyW fin fin a w
  | (true, g) :: r, a, w => wpMix P ops (Exit.then (wpParts P ops Q S loud fin r) Q) S loud g a w
  | (false, g) :: r, a, w => wpMix P ops (Exit.then (wpParts P ops Q S loud fin r) Q) AnyW [] g a w
def flatP (l : List (Bool × List Nat)) : List (Bool × Nat) := l.flatMap fun p => p.2.map fun k => (p.1, k)
def partsOk (ops : Array Oper) (loud fin : List Nat) : List (Bool × Nat) → Array Bool → Bool
  | [], listed => mixOk ops fin fin listed
  | (b, k) :: r, listed => !(fin.contains k) && (match b && loud.contains k with | true => Region.ready .any ops listed == [k] | false => Region.free .any ops listed k && (Region.ready .any ops listed).contains k && (!b || finWaits .any ops fin k)) && partsOk ops loud fin r (listed.setIfInBounds k true)
theorem wpMix_finE (hall : ∀ k ∈ fin, fin.contains k = true) : ∀ (r : List Nat) (n : Nat) (listed : Array Bool) (a : Act) (w : World), (∀ k ∈ r, k ∈ fin) → (∀ k ∈ r, ∃ o, ops[k]? = some o) → (∀ k ∈ r, k < listed.size) →
    mixOk ops fin r listed = true → r.length ≤ n → wpMix P ops Q AnyW fin r a w → wpAnyE P .any ops Q S fin n listed a w
  | [], n, listed, a, w, _, _, _, hok, _, h => by
    have hr : Region.ready .any ops listed = [] := by simpa [mixOk] using hok
    cases n with
    | zero => exact ⟨hr, h⟩
    | succ n => exact ⟨fun _ => h, by rw [hr]; simp⟩
  | k :: r, 0, listed, a, w, _, _, _, _, hl, _ => by simp at hl
  | k :: r, n + 1, listed, a, w, hk, hsz, hls, hok, hl, h => by
    obtain ⟨o, ho, h⟩ := h
    have hkf := hall k (hk k (by simp))
    unfold mixOk at hok
    rw [if_pos hkf] at h hok
    simp only [Bool.and_eq_true, beq_iff_eq] at hok
    refine ⟨fun h0 => (by rw [hok.1] at h0; cases h0), fun i hi => ?_⟩
    rw [hok.1] at hi
    obtain rfl : i = k := by simpa using hi
    refine wpOp_mono (fun a' w' h3 => ⟨fun hf => ?_, wpMix_finE hall r n _ a' w' (fun j hj => hk j (by simp [hj])) (fun j hj => hsz j (by simp [hj])) (fun j hj => by rw [Array.size_setIfInBounds]; exact hls j (by simp [hj])) hok.2 (by simpa using hl) h3.2⟩) h
    exfalso
    have := noFin_at hf (hk i (by simp))
    have hlt := hls i (by simp)
    simp [hlt] at this
theorem wpParts_any (hs : Region.noSelect ops = true) (hQ : PanicOk Q) (hsz : ∀ j ∈ fin, ∃ o, ops[j]? = some o) : ∀ (ps : List (Bool × List Nat)) (n : Nat) (listed : Array Bool) (a : Act) (w : World), Closed .any ops listed → (∀ k ∈ fin, k < listed.size) →
    partsOk ops loud fin (flatP ps) listed = true → (flatP ps).length + fin.length ≤ n → S w → wpParts P ops Q S loud fin ps a w → wpAnyE P .any ops Q S fin n listed a w
  | [], n, listed, a, w, _, hls, hok, hl, _, h => wpMix_finE (fun k hk => by simpa using hk) fin n listed a w (fun k hk => hk) hsz hls hok (by simpa [flatP] using hl) h
  | (b, g) :: ps, n, listed, a, w, hcl, hls, hok, hl, hS, h => by
    have hfl : flatP ((b, g) :: ps) = g.map (fun k => (b, k)) ++ flatP ps := rfl
    rw [hfl] at hok hl
    replace h : wpMix P ops (Exit.then (wpParts P ops Q S loud fin ps) Q) (if b then S else AnyW) (if b then loud else []) g a w := by
      cases b <;> exact h
    clear hfl
    induction g generalizing n listed a w with
    | nil => exact wpParts_any hs hQ hsz ps n listed a w hcl hls hok hl hS h
    | cons k r ih =>
      obtain ⟨o, ho, h⟩ := h
      rw [List.map_cons, List.cons_append] at hok hl
      unfold partsOk at hok
      simp only [Bool.and_eq_true, Bool.not_eq_true'] at hok
      obtain ⟨⟨hkf, hk⟩, hr⟩ := hok
      cases n with
      | zero => simp at hl
      | succ n =>
        have hl' : (r.map (fun k => (b, k)) ++ flatP ps).length + fin.length ≤ n := by simp only [List.length_cons] at hl; omega
        have hls' : ∀ j ∈ fin, j < (listed.setIfInBounds k true).size := fun j hj => by rw [Array.size_setIfInBounds]; exact hls j hj
        by_cases hc : (b && loud.contains k) = true
        · have hc2 : (if b then loud else []).contains k = true := by
            rw [Bool.and_eq_true] at hc
            rw [hc.1]; exact hc.2
          rw [if_pos hc2] at h
          rw [hc] at hk
          simp only [beq_iff_eq] at hk
          have hb : b = true := by rw [Bool.and_eq_true] at hc; exact hc.1
          subst hb
          refine ⟨fun h0 => (by rw [hk] at h0; cases h0), fun i hi => ?_⟩
          rw [hk] at hi
          obtain rfl : i = k := by simpa using hi
          refine wpOp_then (T := wpParts P ops Q S loud fin ps) ?_
          exact wpOp_mono (fun a' w' h3 => ⟨fun _ => h3.1, ih n (listed.setIfInBounds i true) a' w' (hcl.set (by rw [hk]; simp)) hls' hr hl' h3.1 h3.2⟩) h
        · have hc' : (b && loud.contains k) = false := by simpa using hc
          have hc2 : (if b then loud else []).contains k = false := by
            cases b
            · rfl
            · simpa using hc'
          rw [if_neg (by rw [hc2]; decide)] at h
          rw [hc'] at hk
          simp only [Bool.and_eq_true, Bool.or_eq_true, Bool.not_eq_true'] at hk
          obtain ⟨v, hy, h⟩ := h
          have hrd : k ∈ Region.ready .any ops listed := by simpa using hk.1.2
          refine wpAnyE_first (T := if b then S else AnyW) ho hs hQ hkf hsz ?_ n listed a w hcl (Region.free_spec ho hk.1.1) hrd hy (fun _ => hS) (ih n _ _ w (hcl.set hrd) hls' hr hl' hS h)
          intro listed' w' hcl' hr' hS'
          cases b with
          | false => trivial
          | true => exact hS' (noFin_waits hcl' (by simpa using hk.2) hr' hsz)
end
section
variable {C : Cx} {e e' : Env} {I I' : PH} {R R' R0 R1 : List Res} {K K' : Act → World → Prop} {Q : Exit → Act → World → Prop} {c : Code} {ops : Array Oper} {S : World → Prop} {loud fin : List Nat}
theorem Nx.p_parts {id : Nat} (hid : cid c = id) (ps : List (Bool × List Nat)) (loud fin : List Nat) (R0 : List Res) (hk : ck c = 2) (hm : C.P.follows .mixedOrders = true) (hs : Region.noSelect (cops c) = true) (hok : partsOk (cops c) loud fin (flatP ps) (Array.replicate (cops c).size false) = true) (hlen : Nat.ble ((flatP ps).length + fin.length) (cops c).size = true)
    (hfin : fin.all (fun j => Nat.blt j (cops c).size) = true) (hQ : PanicOk Q) (hR : Ent R R0) (h : Nx C e I R (wpParts C.P (cops c) Q (St C.W I R0) loud fin ps)) : Nx C e I R (c.wp C.P Q) := by
  have hc : c = .region (cid c) (cops c) true := by
    cases c <;> first | (simp [ck] at hk; done) | skip
    rename_i b
    cases b with
    | false => simp [ck] at hk
    | true => rfl
  clear hid
  have hlt : ∀ j ∈ fin, j < (cops c).size := fun j hj => by
    have := List.all_eq_true.1 hfin j hj
    simpa [Nat.blt_eq] using this
  rw [hc]
  intro a w ha hw
  refine wp_region_any hm (wpAny_of_E _ _ _ _ (wpParts_any (S := St C.W I R0) hs hQ (fun j hj => ⟨_, Array.getElem?_eq_getElem (hlt j hj)⟩) ps _ _ a _ (Closed.start _) (fun j hj => by rw [Array.size_replicate]; exact hlt j hj) hok (Nat.le_of_ble_eq_true hlen) (hw.drew.ent hR) (h a _ ha hw.drew)))
theorem Nx.parts_s {g : List Nat} {r : List (Bool × List Nat)} (h : Nx C e I R (wpMix C.P ops (Exit.then (wpParts C.P ops Q S loud fin r) Q) S loud g)) : Nx C e I R (wpParts C.P ops Q S loud fin ((true, g) :: r)) := h
theorem Nx.parts_a {g : List Nat} {r : List (Bool × List Nat)} (h : Nx C e I R (wpMix C.P ops (Exit.then (wpParts C.P ops Q S loud fin r) Q) AnyW [] g)) : Nx C e I R (wpParts C.P ops Q S loud fin ((false, g) :: r)) := h
theorem Nx.parts_end (h : Nx C e I R (wpMix C.P ops Q AnyW fin fin)) : Nx C e I R (wpParts C.P ops Q S loud fin []) := h
end
end Go.Eng
