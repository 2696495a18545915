/-
  The proof engine, part A: heaps in part, separated resources, one judgement 'Nx' for every point of a walk, and the rules for control.
-/
import Derived.OrdersHeld
import Derived.Below
import Derived.KernelRfl
import Derived.Laws.AppendOwn
import Derived.Laws.MakeOwn
import Derived.Laws.OwnMore
import Derived.Laws.Rows
import Derived.Tactics
namespace Go.Eng

/-! ## Partial heaps -/
abbrev PH := Nat → Option Obj
def PH.or (a b : PH) : PH := fun i => match a i with | some o => some o | none => b i
def PH.single (g : Nat) (o : Obj) : PH := fun i => if i = g then some o else none
def PH.le (a b : PH) : Prop := ∀ i o, a i = some o → b i = some o
def PH.dis (a b : PH) : Prop := ∀ i, a i = none ∨ b i = none
theorem PH.le_refl (a : PH) : PH.le a a := fun _ _ h => h
theorem PH.le.trans {a b c : PH} (h : PH.le a b) (k : PH.le b c) : PH.le a c := fun i o e => k i o (h i o e)
theorem PH.le_or_left (a b : PH) : PH.le a (a.or b) := fun i o h => by simp [PH.or, h]
theorem PH.le_or_right {a b : PH} (hd : PH.dis a b) : PH.le b (a.or b) := fun i o h => by
  rcases hd i with h' | h'
  · simp [PH.or, h', h]
  · rw [h'] at h; cases h
theorem PH.or_eq_some {a b : PH} {i : Nat} {o : Obj} (h : (a.or b) i = some o) : a i = some o ∨ (a i = none ∧ b i = some o) := by
  unfold PH.or at h
  split at h
  · rename_i o' ho; exact .inl (ho.trans h)
  · rename_i ho; exact .inr ⟨ho, h⟩
theorem PH.or_eq_none {a b : PH} {i : Nat} : (a.or b) i = none ↔ a i = none ∧ b i = none := by
  unfold PH.or
  split
  · rename_i o ho; simp [ho]
  · rename_i ho; simp [ho]
theorem PH.or_le {a b c : PH} (h : PH.le a c) (k : PH.le b c) : PH.le (a.or b) c := fun i o e => by
  rcases PH.or_eq_some e with e | ⟨_, e⟩
  · exact h i o e
  · exact k i o e
theorem PH.dis.symm {a b : PH} (h : PH.dis a b) : PH.dis b a := fun i => (h i).symm
theorem PH.dis_or {a b c : PH} : PH.dis a (b.or c) ↔ PH.dis a b ∧ PH.dis a c := by
  constructor
  · intro h
    refine ⟨fun i => ?_, fun i => ?_⟩
    · rcases h i with h | h
      · exact .inl h
      · exact .inr (PH.or_eq_none.1 h).1
    · rcases h i with h | h
      · exact .inl h
      · exact .inr (PH.or_eq_none.1 h).2
  · rintro ⟨h, k⟩ i
    rcases h i with h | h
    · exact .inl h
    · rcases k i with k | k
      · exact .inl k
      · exact .inr (PH.or_eq_none.2 ⟨h, k⟩)
theorem PH.or_comm {a b : PH} (h : PH.dis a b) : a.or b = b.or a := by
  funext i
  unfold PH.or
  rcases h i with h | h <;> rw [h] <;> cases a i <;> cases b i <;> simp_all
theorem PH.or_assoc (a b c : PH) : (a.or b).or c = a.or (b.or c) := by
  funext i
  unfold PH.or
  cases a i <;> rfl

/-! ## A world holds two heaps apart: what nobody writes any more, and what is owned -/
structure Sat (w : World) (I m : PH) : Prop where
  imm : ∀ i o, I i = some o → w.heap[i]? = some o
  own : ∀ i o, m i = some o → w.heap[i]? = some o
  dis : PH.dis I m

theorem Sat.sub {w : World} {I m m' : PH} (h : Sat w I m) (hm : PH.le m' m) : Sat w I m' :=
  ⟨h.imm, fun i o e => h.own i o (hm i o e), fun i => by
    rcases h.dis i with e | e
    · exact .inl e
    · right
      cases hi : m' i with
      | none => rfl
      | some o => rw [hm i o hi] at e; cases e⟩

abbrev Res := PH → Prop
def Stars : List Res → PH → Prop
  | [], _ => True
  | r :: rs, m => ∃ m1 m2, PH.dis m1 m2 ∧ m = m1.or m2 ∧ r m1 ∧ Stars rs m2

theorem Stars.append {a b : List Res} : ∀ {m : PH}, Stars (a ++ b) m → ∃ m1 m2, PH.dis m1 m2 ∧ m = m1.or m2 ∧ Stars a m1 ∧ Stars b m2 := by
  induction a with
  | nil => exact fun {m} h => ⟨fun _ => none, m, fun _ => .inl rfl, by funext i; rfl, trivial, h⟩
  | cons r rs ih =>
    rintro m ⟨m1, m2, hd, rfl, hr, hs⟩
    obtain ⟨n1, n2, hd', rfl, h1, h2⟩ := ih hs
    obtain ⟨d1, d2⟩ := PH.dis_or.1 hd
    exact ⟨m1.or n1, n2, PH.dis.symm (PH.dis_or.2 ⟨d2.symm, hd'.symm⟩), (PH.or_assoc _ _ _).symm, ⟨m1, n1, d1, rfl, hr, h1⟩, h2⟩
theorem Stars.join {a b : List Res} : ∀ {m1 m2 : PH}, PH.dis m1 m2 → Stars a m1 → Stars b m2 → ∃ m, PH.le m (m1.or m2) ∧ Stars (a ++ b) m := by
  induction a with
  | nil => exact fun {m1 m2} hd _ h => ⟨m2, PH.le_or_right hd, h⟩
  | cons r rs ih =>
    rintro m1 m2 hd ⟨n1, n2, hd', rfl, hr, hs⟩ hb
    obtain ⟨d1, d2⟩ := PH.dis_or.1 hd.symm
    obtain ⟨k, hk, hkS⟩ := ih d2.symm hs hb
    refine ⟨n1.or k, ?_, n1, k, ?_, rfl, hr, hkS⟩
    · rw [PH.or_assoc]
      exact PH.or_le (PH.le_or_left _ _) (hk.trans (PH.le_or_right (PH.dis_or.2 ⟨hd', d1.symm⟩)))
    · intro i
      rcases hd' i with e | e
      · exact .inl e
      · rcases d1 i with e' | e'
        · right
          cases hki : k i with
          | none => rfl
          | some o => have := hk i o hki; simp [PH.or, e, e'] at this
        · exact .inl e'

/-- From these resources come those (some of them may be dropped). -/
def Ent (R R' : List Res) : Prop := ∀ m, Stars R m → ∃ m', PH.le m' m ∧ Stars R' m'
theorem Ent.refl (R : List Res) : Ent R R := fun m h => ⟨m, PH.le_refl m, h⟩
theorem Ent.trans {R R' R'' : List Res} (h : Ent R R') (k : Ent R' R'') : Ent R R'' := fun m hm => by
  obtain ⟨m', hle, h'⟩ := h m hm
  obtain ⟨m'', hle', h''⟩ := k m' h'
  exact ⟨m'', hle'.trans hle, h''⟩
theorem dis_sub {a b a' b' : PH} (h : PH.dis a b) (ha : PH.le a' a) (hb : PH.le b' b) : PH.dis a' b' := fun i => by
  cases ha' : a' i with
  | none => exact .inl rfl
  | some o =>
    right
    cases hb' : b' i with
    | none => rfl
    | some o' =>
      rcases h i with e | e
      · rw [ha i o ha'] at e; cases e
      · rw [hb i o' hb'] at e; cases e
theorem Ent.cons {r : Res} {R R' : List Res} (h : Ent R R') : Ent (r :: R) (r :: R') := by
  rintro m ⟨m1, m2, hd, rfl, hr, hs⟩
  obtain ⟨m2', hle, h'⟩ := h m2 hs
  exact ⟨m1.or m2', PH.or_le (PH.le_or_left _ _) (hle.trans (PH.le_or_right hd)), m1, m2', dis_sub hd (PH.le_refl _) hle, rfl, hr, h'⟩
theorem Ent.head {r r' : Res} {R : List Res} (h : ∀ m, r m → r' m) : Ent (r :: R) (r' :: R) := by
  rintro m ⟨m1, m2, hd, rfl, hr, hs⟩
  exact ⟨_, PH.le_refl _, m1, m2, hd, rfl, h _ hr, hs⟩
theorem Ent.drop {r : Res} {R R' : List Res} (h : Ent R R') : Ent (r :: R) R' := by
  rintro m ⟨m1, m2, hd, rfl, hr, hs⟩
  obtain ⟨m2', hle, h'⟩ := h m2 hs
  exact ⟨m2', hle.trans (PH.le_or_right hd), h'⟩
theorem Ent.nil (R : List Res) : Ent R [] := fun m _ => ⟨m, PH.le_refl m, trivial⟩
theorem Ent.swap (r s : Res) (R : List Res) : Ent (r :: s :: R) (s :: r :: R) := by
  rintro m ⟨m1, m2, hd, rfl, hr, n1, n2, hd', rfl, hs, h⟩
  obtain ⟨d1, d2⟩ := PH.dis_or.1 hd
  refine ⟨_, PH.le_refl _, n1, m1.or n2, PH.dis_or.2 ⟨d1.symm, hd'⟩, ?_, hs, m1, n2, d2, rfl, hr, h⟩
  rw [← PH.or_assoc, PH.or_comm d1, PH.or_assoc]
/-- Resource number k comes first. -/
theorem Ent.pull : ∀ (k : Nat) (R : List Res) (r : Res), R[k]? = some r → Ent R (r :: R.eraseIdx k)
  | 0, r' :: R, r, h => by simp at h; subst h; exact Ent.refl _
  | k + 1, r' :: R, r, h => by
    have := Ent.pull k R r (by simpa using h)
    exact (Ent.cons this).trans (Ent.swap _ _ _)
theorem Ent.pick (k : Nat) {r : Res} {R R' : List Res} (hk : R[k]? = some r) (h : Ent (R.eraseIdx k) R') : Ent R (r :: R') := (Ent.pull k R r hk).trans (Ent.cons h)
theorem Ent.pickE (k : Nat) {r r' : Res} {R R' : List Res} (hk : R[k]? = some r') (e : r' = r) (h : Ent (R.eraseIdx k) R') : Ent R (r :: R') := by subst e; exact Ent.pick k hk h
theorem Ent.fold (R : List Res) : Ent R [Stars R] := fun m h => ⟨m, PH.le_refl m, m, fun _ => none, fun _ => .inr rfl, by funext i; unfold PH.or; cases m i <;> rfl, h, trivial⟩
theorem Ent.foldAt (A R : List Res) : Ent (A ++ R) (A ++ [Stars R]) := by
  induction A with
  | nil => exact Ent.fold R
  | cons r A ih => exact Ent.cons ih
theorem Ent.unfoldAt (A R : List Res) : Ent (A ++ [Stars R]) (A ++ R) := by
  induction A with
  | nil =>
    rintro m ⟨m1, m2, hd, rfl, h, _⟩
    exact ⟨m1, PH.le_or_left _ _, h⟩
  | cons r A ih => exact Ent.cons ih

/-! ## No run takes a draw back -/
theorem ask_drawn {α : Type} : ∀ (q : Ask α) (w : World), w.drawn ≤ (w.ask q).2.drawn
  | .done a, w => Nat.le_refl _
  | .ask what range k, w => by
    unfold World.ask
    dsimp only
    split
    · exact ask_drawn (k 0) w
    · exact Nat.le_trans (Nat.le_succ _) (ask_drawn _ { w with drawn := w.drawn + 1 })
theorem sys_drawn (c : Sys) (w : World) : w.drawn ≤ (w.sys c).2.drawn := by
  unfold World.sys
  have h := ask_drawn (Kernel.perform c w.os) w
  split
  · exact Nat.le_refl _
  · rename_i r os w1 heq
    rw [heq] at h
    exact h
theorem view_drawn {P : Program} {w w' : World} {a : Addr} {u : TypeId} {k : Addr} {v : Value} {at_ : Bool} {l : List Addr} (h : w.viewStore P a u k v at_ = .ok (w', l)) : w'.drawn = w.drawn := by
  unfold World.viewStore at h
  simp only [bind, Except.bind, pure, Except.pure, MonadExcept.throw, _root_.throwThe, MonadExceptOf.throw] at h
  (repeat' split at h) <;> first | (cases h; done) | (cases h; rfl)
theorem far_drawn {P : Program} {w w' : World} {a : Addr} {v : Value} {at_ : Bool} {l : List Addr} (h : w.farStore P a v at_ = .ok (w', l)) : w.drawn ≤ w'.drawn := by
  unfold World.farStore at h
  split at h
  · split at h
    · rename_i heq
      cases h
      exact Nat.le_of_eq (view_drawn heq).symm
    · cases h
  · cases h
theorem run_drawn {P : Program} {α : Type} (s : Sem α) : ∀ (w : World) {v : α} {w' : World}, s.run P w = .ok v w' → w.drawn ≤ w'.drawn := by
  induction s with
  | pure a => intro w v w' h; cases h; exact Nat.le_refl _
  | load m a k ih =>
    intro w v w' h
    simp only [Sem.run] at h
    (repeat' split at h) <;> first | exact ih _ _ h | cases h
  | store m a v0 k ih =>
    intro w v w' h
    cases v0 <;> simp only [Sem.run] at h <;> first
      | cases h
      | (split at h
         · split at h
           · cases h
           · exact ih (w.setCell a _) h
         · split at h
           · rename_i hf
             exact Nat.le_trans (far_drawn hf) (ih _ h)
           · cases h)
  | new o k ih => intro w v w' h; exact ih w.heap.size { w with heap := w.heap.push o } h
  | shape r k ih => intro w v w' h; exact ih _ _ h
  | freeze a n k ih =>
    intro w v w' h
    have h2 := ih (w.freeze a n) h
    have h3 : (w.freeze a n).drawn = w.drawn := by unfold World.freeze; split <;> rfl
    omega
  | frozen a k ih => intro w v w' h; exact ih _ _ h
  | getObj r k ih =>
    intro w v w' h
    simp only [Sem.run] at h
    (repeat' split at h) <;> first | exact ih _ _ h | cases h
  | setObj r o k ih =>
    intro w v w' h
    simp only [Sem.run] at h
    split at h
    · cases h
    · exact ih { w with heap := w.heap.setIfInBounds r o } h
    · cases h
  | choose q k ih =>
    intro w v w' h
    simp only [Sem.run] at h
    split at h
    · exact ih _ _ h
    · exact Nat.le_trans (Nat.le_succ _) (ih _ _ h)
  | sys c k ih => intro w v w' h; exact Nat.le_trans (sys_drawn c w) (ih _ _ h)
  | program k ih => intro w v w' h; exact ih _ _ h
  | mark m k ih => intro w v w' h; exact ih _ h
  | halt h0 => intro w v w' h; cases h

/-! ## The outside stays as it is -/
structure Still (w0 w : World) : Prop where
  os : w.os = w0.os
  tape : w.tape = w0.tape
  output : w.output = w0.output
  size : w0.heap.size ≤ w.heap.size
  drawn : w0.drawn ≤ w.drawn
theorem Still.refl (w : World) : Still w w := ⟨rfl, rfl, rfl, Nat.le_refl _, Nat.le_refl _⟩
theorem Still.trans {a b c : World} (h : Still a b) (k : Still b c) : Still a c := ⟨k.os.trans h.os, k.tape.trans h.tape, k.output.trans h.output, Nat.le_trans h.size k.size, Nat.le_trans h.drawn k.drawn⟩

structure Cx where
  P : Program
  n : Nat
  W : World

/-- The state of memory: 'I': nobody writes it; 'R': owned. -/
structure St (W : World) (I : PH) (R : List Res) (w : World) : Prop where
  mem : ∃ m, Stars R m ∧ Sat w I m
  still : Still W w
theorem St.ent {W : World} {I : PH} {R R' : List Res} {w : World} (h : St W I R w) (k : Ent R R') : St W I R' w := by
  obtain ⟨⟨m, hm, hs⟩, hst⟩ := h
  obtain ⟨m', hle, hm'⟩ := k m hm
  exact ⟨⟨m', hm', hs.sub hle⟩, hst⟩

/-! ## What is known of the temporaries -/
abbrev Env := List (Nat × Value)
def lk : Env → Nat → Option Value
  | [], _ => none
  | (k, v) :: r, t => match Nat.beq k t with | true => some v | false => lk r t
structure Mod (n : Nat) (e : Env) (a : Act) : Prop where
  size : a.tmps.size = n
  defers : a.defers = []
  get : ∀ t v, lk e t = some v → a.tmps[t]? = some v
/-- The value of an operand, where it is known. -/
def evo (e : Env) : Operand → Option Value
  | .tmp t => lk e t
  | .const v => some v
  | .global g => some (.pointer (some ⟨g, 0, none⟩))
  | .func f => some (.func (.func f) #[] #[])
def evs (e : Env) : List Operand → Option (List Value)
  | [] => some []
  | x :: xs => match evo e x with
    | none => none
    | some v => match evs e xs with
      | none => none
      | some vs => some (v :: vs)
theorem Mod.eval {n : Nat} {e : Env} {a : Act} (h : Mod n e a) {x : Operand} {v : Value} (hx : evo e x = some v) : a.eval x = v := by
  cases x with
  | tmp t => have := h.get t v hx; simp [Act.eval, this]
  | const v => simp [evo] at hx; simp [Act.eval, hx]
  | global g => simp [evo] at hx; simp [Act.eval, hx]
  | func f => simp [evo] at hx; simp [Act.eval, hx]
theorem Mod.evals {n : Nat} {e : Env} {a : Act} (h : Mod n e a) : ∀ {xs : List Operand} {vs : List Value}, evs e xs = some vs → xs.map a.eval = vs
  | [], vs, hx => by simp [evs] at hx; simp [hx]
  | x :: xs, vs, hx => by
    unfold evs at hx
    split at hx
    · cases hx
    · rename_i v hv
      split at hx
      · cases hx
      · rename_i vs' hvs
        simp at hx
        subst hx
        simp [h.eval hv, h.evals hvs]
theorem Mod.put {n : Nat} {e : Env} {a : Act} (h : Mod n e a) {d : Nat} (hd : Nat.blt d n = true) (v : Value) : Mod n ((d, v) :: e) (a.put (some d) v) := by
  have hd' : d < n := by simpa [Nat.blt_eq] using hd
  refine ⟨by simp [Act.put, h.size], h.defers, fun t u hu => ?_⟩
  unfold lk at hu
  split at hu
  · rename_i he
    have he : d = t := Nat.eq_of_beq_eq_true he
    simp at hu
    subst he; subst hu
    simp [Act.put, h.size, hd']
  · rename_i he
    have he : d ≠ t := Nat.ne_of_beq_eq_false he
    simp only [Act.put]
    rw [Array.getElem?_setIfInBounds_ne he]
    exact h.get t u hu
theorem Mod.put_none {n : Nat} {e : Env} {a : Act} (h : Mod n e a) (v : Value) : Mod n e (a.put none v) := h
/-- The part of 'e' that is wanted further on. -/
def EnvSub : Env → Env → Prop
  | [], _ => True
  | (t, v) :: r, e => lk e t = some v ∧ EnvSub r e
theorem EnvSub.lk {e' e : Env} (h : EnvSub e' e) {t : Nat} {v : Value} (hl : lk e' t = some v) : lk e t = some v := by
  induction e' with
  | nil => simp [Eng.lk] at hl
  | cons p r ih =>
    obtain ⟨k, u⟩ := p
    unfold Eng.lk at hl
    split at hl
    · rename_i he
      have he : k = t := Nat.eq_of_beq_eq_true he
      simp at hl
      subst he; subst hl
      exact h.1
    · exact ih h.2 hl
theorem Mod.sub {n : Nat} {e e' : Env} {a : Act} (h : Mod n e a) (hs : EnvSub e' e) : Mod n e' a := ⟨h.size, h.defers, fun t v ht => h.get t v (hs.lk ht)⟩

/-! ## The judgement: K holds in every state of this description -/
def Nx (C : Cx) (e : Env) (I : PH) (R : List Res) (K : Act → World → Prop) : Prop := ∀ a w, Mod C.n e a → St C.W I R w → K a w

section
variable {C : Cx} {e e' : Env} {I : PH} {R R' : List Res} {K K' : Act → World → Prop} {Q : Exit → Act → World → Prop}
theorem Nx.weak (he : EnvSub e' e) (hR : Ent R R') (h : Nx C e' I R' K) : Nx C e I R K := fun a w ha hw => h a w (ha.sub he) (hw.ent hR)
theorem Nx.ent (hR : Ent R R') (h : Nx C e I R' K) : Nx C e I R K := fun a w ha hw => h a w ha (hw.ent hR)
theorem Nx.env (he : EnvSub e' e) (h : Nx C e' I R K) : Nx C e I R K := fun a w ha hw => h a w (ha.sub he) hw
theorem Nx.pull (k : Nat) {r : Res} (hk : R[k]? = some r) (h : Nx C e I (r :: R.eraseIdx k) K) : Nx C e I R K := h.ent (Ent.pull k R r hk)
theorem Nx.seq {x y : Code} (h : Nx C e I R (x.wp C.P (Exit.then (y.wp C.P Q) Q))) : Nx C e I R ((Code.seq x y).wp C.P Q) := fun a w ha hw => wp_seq (h a w ha hw)
theorem Nx.skip (h : Nx C e I R (Q .normal)) : Nx C e I R (Code.skip.wp C.P Q) := fun a w ha hw => wp_skip (h a w ha hw)
theorem Nx.ret (h : Nx C e I R (Q .ret)) : Nx C e I R (Code.ret.wp C.P Q) := fun a w ha hw => wp_ret (h a w ha hw)
theorem Nx.exit {id : Nat} (h : Nx C e I R (Q (.exit id))) : Nx C e I R ((Code.exit id).wp C.P Q) := fun a w ha hw => wp_exit (h a w ha hw)
theorem Nx.block {id : Nat} {c : Code} (h : Nx C e I R (c.wp C.P (Exit.inBlock id Q))) : Nx C e I R ((Code.block id c).wp C.P Q) := fun a w ha hw => wp_block (h a w ha hw)
theorem Nx.label {l : Nat} (h : Nx C e I R (Q .normal)) : Nx C e I R ((Code.label l).wp C.P Q) := fun a w ha hw => wp_label (h a w ha hw)
theorem Nx.region {id : Nat} {l : List Oper} (h : Nx C e I R (wpList C.P l.toArray Q l)) : Nx C e I R ((Code.region id l.toArray false).wp C.P Q) := fun a w ha hw => wp_region_lit (h a w ha hw)
theorem Nx.nil {ops : Array Oper} (h : Nx C e I R (Q .normal)) : Nx C e I R (wpList C.P ops Q []) := fun a w ha hw => wpList_nil (h a w ha hw)
theorem Nx.cond_true {c : Operand} {x y : Code} (hc : evo e c = some (.bool true)) (h : Nx C e I R (x.wp C.P Q)) : Nx C e I R ((Code.cond c x y).wp C.P Q) :=
  fun a w ha hw => wp_cond_true (ha.eval hc) (h a w ha hw)
theorem Nx.cond_false {c : Operand} {x y : Code} (hc : evo e c = some (.bool false)) (h : Nx C e I R (y.wp C.P Q)) : Nx C e I R ((Code.cond c x y).wp C.P Q) :=
  fun a w ha hw => wp_cond_false (ha.eval hc) (h a w ha hw)
theorem Nx.cond_dec {c : Operand} {x y : Code} {p : Prop} [Decidable p] (hc : evo e c = some (.bool (decide p))) (ht : p → Nx C e I R (x.wp C.P Q)) (hf : ¬p → Nx C e I R (y.wp C.P Q)) :
    Nx C e I R ((Code.cond c x y).wp C.P Q) :=
  fun a w ha hw => wp_cond_split (ha.eval hc) (fun h => ht (of_decide_eq_true h) a w ha hw) (fun h => hf (of_decide_eq_false h) a w ha hw)
theorem Nx.cond_bool {c : Operand} {x y : Code} {b : Bool} (hc : evo e c = some (.bool b)) (ht : b = true → Nx C e I R (x.wp C.P Q)) (hf : b = false → Nx C e I R (y.wp C.P Q)) :
    Nx C e I R ((Code.cond c x y).wp C.P Q) :=
  fun a w ha hw => wp_cond_split (ha.eval hc) (fun h => ht h a w ha hw) (fun h => hf h a w ha hw)
/-- A test's outcome is decided. -/
theorem Nx.force (t : Nat) {p : Prop} [Decidable p] (hc : lk e t = some (.bool (decide p))) (ht : p → Nx C ((t, .bool true) :: e) I R K) (hf : ¬p → Nx C ((t, .bool false) :: e) I R K) : Nx C e I R K := by
  intro a w ha hw
  have key : ∀ b, decide p = b → Mod C.n ((t, .bool b) :: e) a := fun b hb => ⟨ha.size, ha.defers, fun u v hu => by
    unfold lk at hu
    split at hu
    · rename_i he
      have he : t = u := Nat.eq_of_beq_eq_true he
      simp at hu
      subst he; subst hu
      rw [← hb]; exact ha.get _ _ hc
    · exact ha.get _ _ hu⟩
  by_cases h : p
  · exact ht h a w (key true (by simp [h])) hw
  · exact hf h a w (key false (by simp [h])) hw
theorem Nx.force_bool (t : Nat) {b : Bool} (hc : lk e t = some (.bool b)) (ht : b = true → Nx C ((t, .bool true) :: e) I R K) (hf : b = false → Nx C ((t, .bool false) :: e) I R K) : Nx C e I R K := by
  refine Nx.force t (p := b = true) ?_ ht (fun h => hf (by simpa using h))
  rw [hc]; cases b <;> rfl

/-! ### Where a way ends -/
theorem Nx.then_normal (h : Nx C e I R K) : Nx C e I R (Exit.then K Q .normal) := h
theorem Nx.nil_then {ops : Array Oper} (h : Nx C e I R K) : Nx C e I R (wpList C.P ops (Exit.then K Q) []) := fun a w ha hw => wpList_nil (h a w ha hw)
theorem Nx.then_exit {id : Nat} (h : Nx C e I R (Q (.exit id))) : Nx C e I R (Exit.then K Q (.exit id)) := h
theorem Nx.then_ret (h : Nx C e I R (Q .ret)) : Nx C e I R (Exit.then K Q .ret) := h
theorem Nx.in_normal {id : Nat} (h : Nx C e I R (Q .normal)) : Nx C e I R (Exit.inBlock id Q .normal) := h
theorem Nx.in_ret {id : Nat} (h : Nx C e I R (Q .ret)) : Nx C e I R (Exit.inBlock id Q .ret) := h
theorem Nx.in_exit {id : Nat} (h : Nx C e I R (Q .normal)) : Nx C e I R (Exit.inBlock id Q (.exit id)) := fun a w ha hw => by
  show (if id = id then Q .normal a w else Q (.exit id) a w)
  rw [if_pos rfl]; exact h a w ha hw
theorem Nx.in_other {id id' : Nat} (hne : Nat.beq id' id = false) (h : Nx C e I R (Q (.exit id'))) : Nx C e I R (Exit.inBlock id Q (.exit id')) := fun a w ha hw => by
  show (if id' = id then Q .normal a w else Q (.exit id') a w)
  rw [if_neg (Nat.ne_of_beq_eq_false hne)]; exact h a w ha hw

/-! ### A loop: what holds at each round's head, told by a parameter 's' -/
def Again (C : Cx) {σ : Type} (E : σ → Env) (H : PH) (T : σ → List Res) (ok : σ → Prop) (μ : σ → Nat) (s : σ) : Act → World → Prop :=
  fun a w => ∃ s', ok s' ∧ μ s' < μ s ∧ Mod C.n (E s') a ∧ St C.W H (T s') w
theorem Nx.loop {σ : Type} (E : σ → Env) (T : σ → List Res) (ok : σ → Prop) (μ : σ → Nat) (s0 : σ) {c : Code} (h0 : ok s0) (he : EnvSub (E s0) e) (hR : Ent R (T s0))
    (round : ∀ s, ok s → Nx C (E s) I (T s) (c.wp C.P (Exit.then (Again C E I T ok μ s) Q))) : Nx C e I R ((Code.loop c).wp C.P Q) := by
  have key : ∀ n s, μ s = n → ok s → ∀ a w, Mod C.n (E s) a → St C.W I (T s) w → ∀ (b : Frame) (k : List Item) (cs : List Frame),
      ∃ ex a' w', Q ex a' w' ∧ Arrives C.P (lone (b.at a (.code c :: .inLoop c :: k)) cs w) b k cs ex a' w' := by
    intro n
    induction n using Nat.strongRecOn with
    | _ n ih =>
      intro s hn hok a w ha hw b k cs
      obtain ⟨ex, a₁, w₁, hq, harr⟩ := round s hok a w ha hw b (.inLoop c :: k) cs
      cases ex with
      | normal =>
        obtain ⟨s', hok', hlt, ha', hw'⟩ := hq
        obtain ⟨e₂, a₂, w₂, hq₂, harr₂⟩ := ih (μ s') (hn ▸ hlt) s' rfl hok' a₁ w₁ ha' hw' b k cs
        exact ⟨e₂, a₂, w₂, hq₂, .of_steps (Steps.trans harr (.one step_inLoop)) harr₂⟩
      | exit id => exact ⟨_, a₁, w₁, hq, .pass (x := .inLoop c) rfl (fun _ _ => .inl (by simp)) harr⟩
      | goto l => exact ⟨_, a₁, w₁, hq, .pass (x := .inLoop c) rfl (fun _ _ => .inl (by simp)) harr⟩
      | ret => exact ⟨_, a₁, w₁, hq, .pass (x := .inLoop c) rfl (fun _ _ => .inl (by simp)) harr⟩
      | panic ch => exact ⟨_, a₁, w₁, hq, .pass (x := .inLoop c) rfl (fun _ _ => .inl (by simp)) harr⟩
      | outgrown => exact ⟨_, a₁, w₁, hq, .pass (x := .inLoop c) rfl (fun _ _ => .inl (by simp)) harr⟩
  intro a w ha hw b k cs
  obtain ⟨ex, a', w', hq, harr⟩ := key _ s0 rfl h0 a w (ha.sub he) (hw.ent hR) b k cs
  exact ⟨ex, a', w', hq, .of_steps (.one step_loop) harr⟩
theorem Nx.again {σ : Type} {E : σ → Env} {T : σ → List Res} {ok : σ → Prop} {μ : σ → Nat} {s : σ} (s' : σ) (hok : ok s') (hμ : μ s' < μ s) (he : EnvSub (E s') e) (hR : Ent R (T s')) :
    Nx C e I R (Again C E I T ok μ s) := fun _ _ ha hw => ⟨s', hok, hμ, ha.sub he, hw.ent hR⟩

/-! ### Ways that meet again -/
def Stop (K : Act → World → Prop) : Act → World → Prop := K
theorem Nx.stop_if (id : Nat) {ops : Array Oper} {dr : Bool} {c : Operand} {A B y : Code} (h : Nx C e I R (Stop ((Code.seq (Code.seq (Code.region id ops dr) (Code.cond c A B)) y).wp C.P Q))) :
    Nx C e I R ((Code.seq (Code.seq (Code.region id ops dr) (Code.cond c A B)) y).wp C.P Q) := h
theorem Nx.stop_block (id : Nat) {b y : Code} (h : Nx C e I R (Stop ((Code.seq (Code.block id b) y).wp C.P Q))) : Nx C e I R ((Code.seq (Code.block id b) y).wp C.P Q) := h
theorem Nx.stop_region (id : Nat) {ops : Array Oper} {dr : Bool} {y : Code} (h : Nx C e I R (Stop ((Code.seq (Code.region id ops dr) y).wp C.P Q))) : Nx C e I R ((Code.seq (Code.region id ops dr) y).wp C.P Q) := h
theorem Nx.go_on {x y : Code} (h : Nx C e I R (x.wp C.P (Exit.then (y.wp C.P Q) Q))) : Nx C e I R (Stop ((Code.seq x y).wp C.P Q)) := Nx.seq h
/-- Some state of this description. -/
def Upto (C : Cx) {σ : Type} (E : σ → Env) (H : PH) (T : σ → List Res) (ok : σ → Prop) : Act → World → Prop := fun a w => ∃ s, ok s ∧ Mod C.n (E s) a ∧ St C.W H (T s) w
theorem Nx.merge {σ : Type} (E : σ → Env) (T : σ → List Res) (ok : σ → Prop) {x y : Code} (h1 : Nx C e I R (x.wp C.P (Exit.then (Upto C E I T ok) Q))) (h2 : ∀ s, ok s → Nx C (E s) I (T s) (y.wp C.P Q)) : Nx C e I R (Stop ((Code.seq x y).wp C.P Q)) :=
  fun a w ha hw => wp_seq (wp_mono (h1 a w ha hw) fun ex a w hq => by
    cases ex with
    | normal => obtain ⟨s, hok, ha', hw'⟩ := hq; exact h2 s hok a w ha' hw'
    | _ => exact hq)
theorem Nx.upto {σ : Type} {E : σ → Env} {T : σ → List Res} {ok : σ → Prop} (s : σ) (hok : ok s) (he : EnvSub (E s) e) (hR : Ent R (T s)) : Nx C e I R (Upto C E I T ok) := fun _ _ ha hw => ⟨s, hok, ha.sub he, hw.ent hR⟩
end
end Go.Eng
