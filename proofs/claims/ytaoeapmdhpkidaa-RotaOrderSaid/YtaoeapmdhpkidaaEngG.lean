/-
  The proof engine, part G: a statement whose order is open, with allocations that may come at any time between calls.
-/
import Derived.Test.YtaoeapmdhpkidaaEngF
namespace Go.Eng
/-- An allocation without a guard: its number, its temporary, its type and its cells. -/
structure PoolOp where
  k : Nat
  d : Nat
  t : TypeId
  cs : List Value
def pe : List PoolOp → List (Option Nat) → Env
  | p :: ps, some b :: bs => (p.d, .pointer (some ⟨b, 0, none⟩)) :: pe ps bs
  | _ :: ps, none :: bs => pe ps bs
  | _, _ => []
def pr : List PoolOp → List (Option Nat) → List Res
  | p :: ps, some b :: bs => Blk b p.t p.cs :: pr ps bs
  | _ :: ps, none :: bs => pr ps bs
  | _, _ => []
def keysFree (pool : List PoolOp) : Env → Bool
  | [] => true
  | (t, _) :: e => pool.all (fun p => !Nat.beq p.d t) && keysFree pool e
theorem keysFree_lk {pool : List PoolOp} : ∀ {e : Env} {p : PoolOp}, keysFree pool e = true → p ∈ pool → lk e p.d = none
  | [], _, _, _ => rfl
  | (t, v) :: e, p, h, hp => by
    simp only [keysFree, Bool.and_eq_true, List.all_eq_true] at h
    have h1 := h.1 p hp
    unfold lk
    have hne : Nat.beq t p.d = false := by
      cases hb : Nat.beq t p.d with
      | false => rfl
      | true => have := Nat.eq_of_beq_eq_true hb; subst this; simp at h1
    rw [hne]
    exact keysFree_lk h.2 hp
theorem lk_cons (k : Nat) (u : Value) (r : Env) (t : Nat) : lk ((k, u) :: r) t = match Nat.beq k t with | true => some u | false => lk r t := rfl
theorem Stars.up : ∀ {R : List Res} {m m' : PH}, Stars R m' → PH.le m' m → Stars R m
  | [], _, _, _, _ => trivial
  | r :: rs, m, _, ⟨m1, m2, hd, rfl, hr, h2⟩, hle => by
    refine ⟨m1, fun i => match m1 i with | some _ => none | none => m i, fun i => ?_, ?_, hr, Stars.up h2 fun i o hi => ?_⟩
    · cases h : m1 i with
      | none => exact .inl rfl
      | some o => exact .inr (by show (match m1 i with | some _ => none | none => m i) = none; rw [h])
    · funext i
      show m i = (match m1 i with | some o => some o | none => (match m1 i with | some _ => none | none => m i))
      cases h : m1 i with
      | none => simp only
      | some o => exact hle i o (PH.le_or_left m1 m2 i o h)
    · have h1 : m1 i = none := by
        rcases hd i with h | h
        · exact h
        · rw [h] at hi; cases hi
      show (match m1 i with | some _ => none | none => m i) = some o
      rw [h1]
      exact hle i o (PH.le_or_right hd i o hi)
theorem lk_app {a b : Env} {t : Nat} {v : Value} (h : lk (a ++ b) t = some v) : lk a t = some v ∨ (lk a t = none ∧ lk b t = some v) := by
  induction a with
  | nil => exact .inr ⟨rfl, h⟩
  | cons x r ih =>
    obtain ⟨k, u⟩ := x
    simp only [List.cons_append] at h
    rw [lk_cons] at h ⊢
    cases hb : Nat.beq k t with
    | true => rw [hb] at h; exact .inl h
    | false => rw [hb] at h; exact ih h
theorem lk_app_l {a b : Env} {t : Nat} {v : Value} (h : lk a t = some v) : lk (a ++ b) t = some v := by
  induction a with
  | nil => simp [lk] at h
  | cons x r ih =>
    obtain ⟨k, u⟩ := x
    simp only [List.cons_append]
    rw [lk_cons] at h ⊢
    cases hb : Nat.beq k t with
    | true => rw [hb] at h; exact h
    | false => rw [hb] at h; exact ih h
theorem lk_app_r {a b : Env} {t : Nat} (h : lk a t = none) : lk (a ++ b) t = lk b t := by
  induction a with
  | nil => rfl
  | cons x r ih =>
    obtain ⟨k, u⟩ := x
    simp only [List.cons_append]
    rw [lk_cons] at h ⊢
    cases hb : Nat.beq k t with
    | true => rw [hb] at h; cases h
    | false => rw [hb] at h; exact ih h
/-- One more has come up. -/
theorem pe_set : ∀ {pool : List PoolOp} {bs : List (Option Nat)} {j : Nat} {p : PoolOp} {b t : Nat} {v : Value}, pool[j]? = some p → lk (pe pool (bs.set j (some b))) t = some v → (t = p.d ∧ v = .pointer (some ⟨b, 0, none⟩)) ∨ lk (pe pool bs) t = some v ∨ bs[j]? ≠ some none
  | [], _, j, p, _, _, _, hj, _ => by simp at hj
  | q :: ps, [], j, p, _, _, _, _, h => by simp [pe, lk] at h
  | q :: ps, o :: bs, 0, p, b, t, v, hj, h => by
    simp at hj
    subst hj
    cases o with
    | some b0 => exact .inr (.inr (by simp))
    | none =>
      simp only [List.set_cons_zero, pe] at h ⊢
      unfold lk at h
      cases hb : Nat.beq q.d t with
      | true => rw [hb] at h; have := Nat.eq_of_beq_eq_true hb; subst this; exact .inl ⟨rfl, (Option.some.inj h).symm⟩
      | false => rw [hb] at h; exact .inr (.inl h)
  | q :: ps, o :: bs, j + 1, p, b, t, v, hj, h => by
    simp only [List.set_cons_succ] at h
    have hj' : ps[j]? = some p := by simpa using hj
    cases o with
    | none =>
      simp only [pe] at h ⊢
      rcases pe_set hj' h with h1 | h1 | h1
      · exact .inl h1
      · exact .inr (.inl h1)
      · exact .inr (.inr (by simpa using h1))
    | some b0 =>
      simp only [pe] at h ⊢
      unfold lk at h ⊢
      cases hb : Nat.beq q.d t with
      | true => rw [hb] at h; exact .inr (.inl h)
      | false =>
        rw [hb] at h
        rcases pe_set hj' h with h1 | h1 | h1
        · exact .inl h1
        · exact .inr (.inl h1)
        · exact .inr (.inr (by simpa using h1))
theorem pr_set : ∀ {pool : List PoolOp} {bs : List (Option Nat)} {j : Nat} {p : PoolOp} {b : Nat}, pool[j]? = some p → bs[j]? = some none → Ent (Blk b p.t p.cs :: pr pool bs) (pr pool (bs.set j (some b)))
  | [], _, j, p, _, hj, _ => by simp at hj
  | q :: ps, [], j, p, _, _, h => by simp at h
  | q :: ps, o :: bs, 0, p, b, hj, h => by
    simp at hj h
    subst hj; subst h
    simp only [List.set_cons_zero, pr]
    exact Ent.refl _
  | q :: ps, o :: bs, j + 1, p, b, hj, h => by
    simp only [List.set_cons_succ]
    have hj' : ps[j]? = some p := by simpa using hj
    have h' : bs[j]? = some none := by simpa using h
    cases o with
    | none => simp only [pr]; exact pr_set hj' h'
    | some b0 => simp only [pr]; exact (Ent.swap _ _ _).trans (Ent.cons (pr_set hj' h'))
/-- The dst of one that has not come up yet is not among those that have. -/
theorem pe_none : ∀ {pool : List PoolOp} {bs : List (Option Nat)} {j : Nat} {p : PoolOp}, (pool.map (·.d)).Pairwise (· ≠ ·) → pool[j]? = some p → bs[j]? = some none → lk (pe pool bs) p.d = none
  | [], _, j, p, _, hj, _ => by simp at hj
  | q :: ps, [], j, p, _, _, h => by simp at h
  | q :: ps, o :: bs, 0, p, hd, hj, h => by
    simp at hj h
    subst hj; subst h
    simp only [pe]
    simp only [List.map_cons, List.pairwise_cons] at hd
    have key : ∀ (ps : List PoolOp) (bs : List (Option Nat)), (∀ a ∈ ps.map (·.d), q.d ≠ a) → lk (pe ps bs) q.d = none := by
      intro ps
      induction ps with
      | nil => intro bs _; simp [pe, lk]
      | cons r ps ih =>
        intro bs hh
        cases bs with
        | nil => simp [pe, lk]
        | cons o bs =>
          cases o with
          | none => simp only [pe]; exact ih bs fun a ha => hh a (by simp at ha ⊢; exact .inr ha)
          | some b0 =>
            simp only [pe]
            unfold lk
            have hne : Nat.beq r.d q.d = false := by
              cases hb : Nat.beq r.d q.d with
              | false => rfl
              | true => exact absurd (Nat.eq_of_beq_eq_true hb).symm (hh r.d (by simp))
            rw [hne]
            exact ih bs fun a ha => hh a (by simp at ha ⊢; exact .inr ha)
    exact key ps bs hd.1
  | q :: ps, o :: bs, j + 1, p, hd, hj, h => by
    have hj' : ps[j]? = some p := by simpa using hj
    have h' : bs[j]? = some none := by simpa using h
    simp only [List.map_cons, List.pairwise_cons] at hd
    cases o with
    | none => simp only [pe]; exact pe_none hd.2 hj' h'
    | some b0 =>
      simp only [pe]
      unfold lk
      have hne : Nat.beq q.d p.d = false := by
        cases hb : Nat.beq q.d p.d with
        | false => rfl
        | true => exact absurd (Nat.eq_of_beq_eq_true hb) (hd.1 p.d (List.mem_map.2 ⟨p, List.mem_of_getElem? hj', rfl⟩))
      rw [hne]
      exact pe_none hd.2 hj' h'

def Good (C : Cx) (ops : Array Oper) (Q : Exit → Act → World → Prop) (S : World → Prop) (I : PH) (pool : List PoolOp) (loud rest : List Nat) : List Nat → Env → List Res → Prop
  | [], e, R => keysFree pool e = true ∧ ∀ bs : List Nat, bs.length = pool.length → Nx C (e ++ pe pool (bs.map some)) I (Stars (pr pool (bs.map some)) :: R) (wpMix C.P ops Q S loud rest)
  | k :: ch, e, R => keysFree pool e = true ∧ ∀ (ex : Env) (X : Res), Nx C (e ++ ex) I (X :: R) (wpOp C.P ops Q k (fun a w => S w ∧ ∃ e' R', Mod C.n (e' ++ ex) a ∧ St C.W I (X :: R') w ∧ Good C ops Q S I pool loud rest ch e' R'))
theorem Good.free {C : Cx} {ops : Array Oper} {Q : Exit → Act → World → Prop} {S : World → Prop} {I : PH} {pool : List PoolOp} {loud rest ch : List Nat} {e : Env} {R : List Res} (h : Good C ops Q S I pool loud rest ch e R) : keysFree pool e = true := by
  cases ch <;> exact h.1
def PoolS (C : Cx) (ops : Array Oper) (Q : Exit → Act → World → Prop) (S : World → Prop) (I : PH) (pool : List PoolOp) (loud rest ch : List Nat) (ex : Env) (X : Res) : Act → World → Prop :=
  fun a w => S w ∧ ∃ e' R', Mod C.n (e' ++ ex) a ∧ St C.W I (X :: R') w ∧ Good C ops Q S I pool loud rest ch e' R'
def PoolK (C : Cx) (ops : Array Oper) (Q : Exit → Act → World → Prop) (S : World → Prop) (I : PH) (pool : List PoolOp) (loud rest ch : List Nat) : Act → World → Prop :=
  fun a w => ∃ e R, Mod C.n e a ∧ St C.W I R w ∧ Good C ops Q S I pool loud rest ch e R

def findP : List PoolOp → List Bool → Nat → Nat → Option Nat
  | p :: ps, f :: fl, i, j => if Nat.beq p.k i && !f then some j else findP ps fl i (j + 1)
  | _, _, _, _ => none
theorem findP_ok : ∀ {pool : List PoolOp} {fl : List Bool} {i j j0 : Nat}, findP pool fl i j0 = some j → ∃ m p, j = j0 + m ∧ pool[m]? = some p ∧ fl[m]? = some false ∧ p.k = i
  | [], _, _, _, _, h => by simp [findP] at h
  | _ :: _, [], _, _, _, h => by simp [findP] at h
  | p :: ps, f :: fl, i, j, j0, h => by
    unfold findP at h
    split at h
    · rename_i hc
      simp only [Bool.and_eq_true, Bool.not_eq_true'] at hc
      exact ⟨0, p, by simpa using h.symm, rfl, by simp [hc.2], Nat.eq_of_beq_eq_true hc.1⟩
    · obtain ⟨m, q, h1, h2, h3, h4⟩ := findP_ok h
      exact ⟨m + 1, q, by omega, by simpa using h2, by simpa using h3, h4⟩
def poolOk (ops : Array Oper) (loud rest : List Nat) (pool : List PoolOp) : Nat → List Nat → List Bool → Array Bool → Bool
  | fuel, [], fl, listed =>
    if fl.all id then mixOk ops loud rest listed && Nat.ble rest.length fuel
    else match fuel with
      | 0 => false
      | f + 1 => !(Region.ready .any ops listed).isEmpty && (Region.ready .any ops listed).all fun i => match findP pool fl i 0 with
        | some j => poolOk ops loud rest pool f [] (fl.set j true) (listed.setIfInBounds i true)
        | none => false
  | 0, _ :: _, _, _ => false
  | f + 1, k :: ch, fl, listed => !(Region.ready .any ops listed).isEmpty && (Region.ready .any ops listed).all fun i =>
      if Nat.beq i k then poolOk ops loud rest pool f ch fl (listed.setIfInBounds i true)
      else match findP pool fl i 0 with
        | some j => poolOk ops loud rest pool f (k :: ch) (fl.set j true) (listed.setIfInBounds i true)
        | none => false

structure PoolFit (C : Cx) (ops : Array Oper) (p : PoolOp) : Prop where
  op : ∃ ty pos after, ops[p.k]? = some ⟨some p.d, .alloc p.t, ty, pos, after, none⟩
  zero : zeroOf C.P p.t = some p.cs
  lt : Nat.blt p.d C.n = true

section
variable {C : Cx} {e e' : Env} {I : PH} {R R' R0 : List Res} {K K' : Act → World → Prop} {Q : Exit → Act → World → Prop} {W : World}
variable {ops : Array Oper} {S : World → Prop} {loud rest ch : List Nat} {pool : List PoolOp}
theorem map_isSome {bs : List (Option Nat)} (h : (bs.map Option.isSome).all id = true) : ∃ l : List Nat, bs = l.map some := by
  induction bs with
  | nil => exact ⟨[], rfl⟩
  | cons o r ih =>
    simp only [List.map_cons, List.all_cons, Bool.and_eq_true, id_eq] at h
    obtain ⟨l, rfl⟩ := ih h.2
    cases o with
    | none => cases h.1
    | some b => exact ⟨b :: l, rfl⟩
theorem Mod.poolPut {n : Nat} {a : Act} {p : PoolOp} {bs : List (Option Nat)} {j b : Nat} (h : Mod n (e ++ pe pool bs) a) (hf : keysFree pool e = true) (hd : (pool.map (·.d)).Pairwise (· ≠ ·)) (hj : pool[j]? = some p) (hb : bs[j]? = some none) (hlt : Nat.blt p.d n = true) :
    Mod n (e ++ pe pool (bs.set j (some b))) (a.put (some p.d) (.pointer (some ⟨b, 0, none⟩))) := by
  have h1 := h.put hlt (.pointer (some ⟨b, 0, none⟩))
  refine ⟨h1.size, h1.defers, fun t v hv => ?_⟩
  have hpe := keysFree_lk hf (List.mem_of_getElem? hj)
  have hpn := pe_none hd hj hb
  have key : ∀ {t v}, lk (e ++ pe pool bs) t = some v → (a.put (some p.d) (.pointer (some ⟨b, 0, none⟩))).tmps[t]? = some v := fun {t v} hv => by
    refine h1.get t v ?_
    unfold lk
    have hne : Nat.beq p.d t = false := by
      cases hb : Nat.beq p.d t with
      | false => rfl
      | true =>
        have := Nat.eq_of_beq_eq_true hb
        subst this
        rcases lk_app hv with h2 | ⟨_, h2⟩
        · rw [hpe] at h2; cases h2
        · rw [hpn] at h2; cases h2
    rw [hne]; exact hv
  rcases lk_app hv with h2 | ⟨h2, h3⟩
  · exact key (lk_app_l h2)
  · rcases pe_set hj h3 with ⟨rfl, rfl⟩ | h4 | h4
    · exact h1.get _ _ (by unfold lk; rw [Nat.beq_refl])
    · exact key (by rw [lk_app_r h2]; exact h4)
    · exact absurd hb h4
theorem pool_any (hs : Region.noSelect ops = true) (hQ : PanicOk Q) (hd : (pool.map (·.d)).Pairwise (· ≠ ·)) (hfit : ∀ p ∈ pool, PoolFit C ops p) (hS : ∀ w o, S w → S (w.alloc o)) :
    ∀ (fuel : Nat) (ch : List Nat) (bs : List (Option Nat)) (listed : Array Bool) (e : Env) (R : List Res) (a : Act) (w : World), poolOk ops loud rest pool fuel ch (bs.map Option.isSome) listed = true → bs.length = pool.length →
      Mod C.n (e ++ pe pool bs) a → St C.W I (Stars (pr pool bs) :: R) w → S w → Good C ops Q S I pool loud rest ch e R → wpAnyH C.P .any ops Q S fuel listed a w := by
  intro fuel
  induction fuel with
  | zero =>
    intro ch bs listed e R a w hok hbl ha hw hSw hg
    cases ch with
    | cons k ch => simp [poolOk] at hok
    | nil =>
      unfold poolOk at hok
      split at hok
      · rename_i hall
        obtain ⟨l, rfl⟩ := map_isSome hall
        rw [Bool.and_eq_true] at hok
        exact wpMix_any hs hQ rest 0 listed a w hok.1 (Nat.le_of_ble_eq_true hok.2) hSw (hg.2 l (by simpa using hbl) a w ha hw)
      · cases hok
  | succ f ih =>
    intro ch bs listed e R a w hok hbl ha hw hSw hg
    have poolStep : ∀ i j, findP pool (bs.map Option.isSome) i 0 = some j → poolOk ops loud rest pool f ch ((bs.map Option.isSome).set j true) (listed.setIfInBounds i true) = true →
        wpOp C.P ops Q i (fun a' w' => S w' ∧ wpAnyH C.P .any ops Q S f (listed.setIfInBounds i true) a' w') a w := by
      intro i j hfj hokj
      obtain ⟨m, p, hm, hpm, hfm, hpk⟩ := findP_ok hfj
      obtain rfl : j = m := by omega
      subst hpk
      have hbj : bs[j]? = some none := by
        rw [List.getElem?_map] at hfm
        cases hbj : bs[j]? with
        | none => rw [hbj] at hfm; cases hfm
        | some o => cases o with
          | none => rfl
          | some b => rw [hbj] at hfm; cases hfm
      obtain ⟨⟨ty, pos, after, hop⟩, hz, hlt⟩ := hfit p (List.mem_of_getElem? hpm)
      unfold wpOp
      simp only [hop]
      rw [if_pos (by simp [Region.wanted])]
      refine .inl ?_
      obtain ⟨z, hzc, hrun⟩ := zeroOf_run hz w
      have hrun' : (execOp a.eval ⟨some p.d, .alloc p.t, ty, pos, after, none⟩).run C.P w = .ok (.value (.pointer (some ⟨w.heap.size, 0, none⟩))) (w.alloc (.cells p.cs.toArray p.t)) := by
        refine run_v ?_
        unfold Instr.alloc
        rw [Sem.run_bind, hrun, Result.andThen_ok]
        simp only [newVar, hzc]
        rfl
      unfold Oper.wp
      rw [hrun']
      refine ⟨hS w _ hSw, ?_⟩
      refine ih ch (bs.set j (some w.heap.size)) (listed.setIfInBounds p.k true) e R _ _ ?_ (by rw [List.length_set]; exact hbl) (ha.poolPut hg.free hd hpm hbj hlt) ?_ (hS w _ hSw) hg
      · rw [List.map_set]; exact hokj
      · refine (hw.alloc (.cells p.cs.toArray p.t)).ent ?_
        refine (Ent.bundle (B := pr pool bs) (r := Blk w.heap.size p.t p.cs)).trans ?_
        refine Ent.head fun m hm => ?_
        obtain ⟨m1, m2, hd', rfl, h1, h2⟩ := Stars.append hm
        obtain ⟨n1, n2, hd2, rfl, h3, _⟩ := h2
        obtain ⟨m', hle, h'⟩ := pr_set (b := w.heap.size) hpm hbj (n1.or m1) ⟨n1, m1, (PH.dis_or.1 hd').1.symm, rfl, h3, h1⟩
        exact Stars.up h' (hle.trans (PH.or_le ((PH.le_or_left n1 n2).trans (PH.le_or_right hd')) (PH.le_or_left _ _)))
    cases ch with
    | nil =>
      unfold poolOk at hok
      split at hok
      · rename_i hall
        obtain ⟨l, rfl⟩ := map_isSome hall
        rw [Bool.and_eq_true] at hok
        exact wpMix_any hs hQ rest (f + 1) listed a w hok.1 (Nat.le_of_ble_eq_true hok.2) hSw (hg.2 l (by simpa using hbl) a w ha hw)
      · simp only [Bool.and_eq_true, Bool.not_eq_true', List.all_eq_true] at hok
        refine ⟨fun h0 => by rw [h0] at hok; simp at hok, fun i hi => ?_⟩
        have := hok.2 i hi
        split at this
        · rename_i j hj; exact poolStep i j hj this
        · cases this
    | cons k ch =>
      unfold poolOk at hok
      simp only [Bool.and_eq_true, Bool.not_eq_true', List.all_eq_true] at hok
      refine ⟨fun h0 => by rw [h0] at hok; simp at hok, fun i hi => ?_⟩
      have := hok.2 i hi
      split at this
      · rename_i hik
        obtain rfl := Nat.eq_of_beq_eq_true hik
        refine wpOp_mono (fun a' w' => ?_) (hg.2 (pe pool bs) (Stars (pr pool bs)) a w ha hw)
        rintro ⟨hS', e', R', ha', hw', hg'⟩
        exact ⟨hS', ih ch bs _ e' R' a' w' this hbl ha' hw' hS' hg'⟩
      · split at this
        · rename_i j hj; exact poolStep i j hj this
        · cases this
/-! The rules for a walk -/
def preOk (ops : Array Oper) (k : Array Bool → Bool) : List Nat → Array Bool → Bool
  | [], listed => k listed
  | q :: r, listed => Region.free .any ops listed q && (Region.ready .any ops listed).contains q && preOk ops k r (listed.setIfInBounds q true)
theorem wpMix_pre {P : Program} {T : Act → World → Prop} (hs : Region.noSelect ops = true) (hQ : PanicOk Q) {k : Array Bool → Bool} {fuel : Nat} (hT : ∀ listed a w, k listed = true → S w → T a w → wpAnyH P .any ops Q S fuel listed a w) : ∀ (q : List Nat) (listed : Array Bool) (a : Act) (w : World),
    preOk ops k q listed = true → S w → wpMix P ops (Exit.then T Q) S [] q a w → wpAnyH P .any ops Q S (fuel + q.length) listed a w
  | [], listed, a, w, hok, hSw, h => hT listed a w hok hSw h
  | i :: r, listed, a, w, hok, hSw, h => by
    obtain ⟨o, ho, h⟩ := h
    simp only [preOk, Bool.and_eq_true] at hok
    rw [if_neg (by simp)] at h
    obtain ⟨v, hy, h⟩ := h
    exact wpAnyH_take ho hs hok.1.1 hok.1.2 (fun c a w => hQ c o.dst v a w) hy hSw (wpMix_pre hs hQ hT r _ _ w hok.2 hSw h)
theorem pe_nones : ∀ (pool : List PoolOp), pe pool (pool.map fun _ => none) = [] ∧ pr pool (pool.map fun _ => none) = [] ∧ ((pool.map fun _ => (none : Option Nat)).map Option.isSome) = pool.map fun _ => false
  | [] => ⟨rfl, rfl, rfl⟩
  | p :: ps => by
    obtain ⟨h1, h2, h3⟩ := pe_nones ps
    exact ⟨by simp only [List.map_cons, pe]; exact h1, by simp only [List.map_cons, pr]; exact h2, by simp [h3]⟩
variable {c : Code}
/-- 'q': what only reads; 'ch': the calls, one behind the other; 'pool': the allocations; 'rest': what comes when all of these have come up. -/
theorem Nx.p_pool {id : Nat} (hid : cid c = id) (q ch rest loud : List Nat) (pool : List PoolOp) (R0 : List Res) (fuel : Nat) (hk : ck c = 2) (hm : C.P.follows .mixedOrders = true) (hs : Region.noSelect (cops c) = true)
    (hok : preOk (cops c) (poolOk (cops c) loud rest pool fuel ch (pool.map fun _ => false)) q (Array.replicate (cops c).size false) = true) (hlen : fuel + q.length = (cops c).size)
    (hd : (pool.map (·.d)).Pairwise (· ≠ ·)) (hfit : ∀ p ∈ pool, PoolFit C (cops c) p) (hQ : PanicOk Q) (hR : Ent R R0)
    (h : Nx C e I R (wpMix C.P (cops c) (Exit.then (PoolK C (cops c) Q (St C.W I R0) I pool loud rest ch) Q) (St C.W I R0) [] q)) : Nx C e I R (c.wp C.P Q) := by
  have hc : c = .region (cid c) (cops c) true := by
    cases c <;> first | (simp [ck] at hk; done) | skip
    rename_i b
    cases b with
    | false => simp [ck] at hk
    | true => rfl
  clear hid
  rw [hc]
  have hS : ∀ w o, St C.W I R0 w → St C.W I R0 (w.alloc o) := fun w o h => (h.alloc o).ent (Ent.drop (Ent.refl _))
  intro a w ha hw
  obtain ⟨h1, h2, h3⟩ := pe_nones pool
  refine wp_region_held (S := St C.W I R0) hm ?_
  have key := fun hT => wpMix_pre (fuel := fuel) (S := St C.W I R0) (Q := Q) hs hQ hT q _ a _ hok (hw.drew.ent hR) (h a _ ha hw.drew)
  rw [hlen] at key
  refine key (fun listed a w hpo hSw hT => ?_)
  obtain ⟨e1, R1, ha1, hw1, hg⟩ := hT
  refine pool_any hs hQ hd hfit hS fuel ch (pool.map fun _ => none) listed e1 R1 a w (by rw [h3]; exact hpo) (by simp) (by rw [h1, List.append_nil]; exact ha1) (hw1.ent ?_) hSw hg
  rw [h2]
  exact Ent.stars_nil _
theorem Nx.pool_in (h : Good C ops Q S I pool loud rest ch e R) : Nx C e I R (PoolK C ops Q S I pool loud rest ch) := fun _ _ ha hw => ⟨e, R, ha, hw, h⟩
/-- One call. -/
theorem Good.call {k : Nat} {o : Oper} (hf : keysFree pool e = true) (ho : opAt ops.toList k = some o) (hg : o.guard = none) (h : ∀ (ex : Env) (X : Res), Nx C (e ++ ex) I (X :: R) (opK C.P o (PoolS C ops Q S I pool loud rest ch ex X) Q)) : Good C ops Q S I pool loud rest (k :: ch) e R :=
  ⟨hf, fun ex X a w ha hw => by
    unfold wpOp
    simp only [opAt_arr ho]
    rw [if_pos (by simp [Region.wanted, hg])]
    exact .inl (h ex X a w ha hw)⟩
theorem Nx.pool_next {ex : Env} {X : Res} {R1 : List Res} {t : Nat} {v : Value} (hR : Ent R (X :: R1)) (hS : ∀ w, St C.W I R w → S w) (h : Good C ops Q S I pool loud rest ch ((t, v) :: e) R1) : Nx C ((t, v) :: (e ++ ex)) I R (PoolS C ops Q S I pool loud rest ch ex X) :=
  fun _ w ha hw => ⟨hS w hw, (t, v) :: e, R1, ha, hw.ent hR, h⟩
theorem Good.done (hf : keysFree pool e = true) (h : ∀ bs : List Nat, bs.length = pool.length → Nx C (e ++ pe pool (bs.map some)) I (Stars (pr pool (bs.map some)) :: R) (wpMix C.P ops Q S loud rest)) : Good C ops Q S I pool loud rest [] e R := ⟨hf, h⟩
end
end Go.Eng
