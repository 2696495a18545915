/- Contracts of functions of the given program, and lemmas. -/
import Derived.OrdersHeld
import Derived.Below
import Derived.KernelRfl
import Derived.Laws.AppendOwn
import Derived.Laws.MakeOwn
import Derived.Laws.OwnMore
import Derived.Laws.Rows
import Derived.Tactics
import Derived.Maps.AppendAt
import Derived.IntWalk
import Derived.Laws.Slices
set_option maxHeartbeats 32000000
namespace Go
theorem gEl {α : Type _} {l : List α} {i : Nat} {a : α} : l.getD i a = l[i]?.getD a:=List.getD_eq_getElem?_getD
theorem gEq {α : Type _} {l : List α} {i : Nat} (h : i < l.length) : l[i]? = some l[i]:=List.getElem?_eq_getElem h
theorem lAp {α : Type _} {as bs : List α} : (as ++ bs).length = as.length + bs.length:=List.length_append
theorem lMp {α β : Type _} {as : List α} (f : α → β) : (List.map f as).length = as.length:=List.length_map f
theorem mAp {α β : Type _} {f : α → β} {as bs : List α} : List.map f (as ++ bs) = List.map f as ++ List.map f bs:=List.map_append
theorem gMp {α β : Type _} {f : α → β} {l : List α} {i : Nat} : (List.map f l)[i]? = Option.map f l[i]?:=List.getElem?_map
theorem tLn {α : Type _} {l : List α} : List.take l.length l = l:=List.take_length
theorem lTk {α : Type _} {i : Nat} {l : List α} : (List.take i l).length = min i l.length:=List.length_take
theorem tSu {α : Type _} {i : Nat} {l : List α} (h : i < l.length) : List.take (i + 1) l = List.take i l ++ [l[i]]:=List.take_succ_eq_append_getElem h
theorem nCt (n : Nat) : (n : Int).toNat = n:=Int.toNat_natCast n
theorem nZl (n : Nat) : 0 ≤ n:=Nat.zero_le n
theorem nLr (n : Nat) : n ≤ n:=Nat.le_refl n
end Go
namespace Go.Eng
abbrev PH:=Nat → Option Obj
def PH.or (a b : PH) : PH:=fun i => match a i with | some o => some o | none => b i
def PH.single (g : Nat) (o : Obj) : PH:=fun i => if i = g then some o else none
def PH.le (a b : PH) : Prop:=∀ i o,a i = some o → b i = some o
def PH.dis (a b : PH) : Prop:=∀ i,a i = none ∨ b i = none
theorem PH.le_refl (a : PH) : PH.le a a:=fun _ _ h => h
theorem PH.le.trans {a b c : PH} (h : PH.le a b) (k : PH.le b c) : PH.le a c:=fun i o e => k i o (h i o e)
theorem PH.le_or_left (a b : PH) : PH.le a (a.or b):=fun i o h => by simp [PH.or,h]
theorem PH.le_or_right {a b : PH} (hd : PH.dis a b) : PH.le b (a.or b):=fun i o h => by
 rcases hd i with h' | h'
 ·simp [PH.or,h',h]
 ·rw [h'] at h; cases h
theorem PH.or_eq_some {a b : PH} {i : Nat} {o : Obj} (h : (a.or b) i = some o) : a i = some o ∨ (a i = none ∧ b i = some o):=by
 unfold PH.or at h
 split at h
 ·rename_i o' ho; exact .inl (ho.trans h)
 ·rename_i ho; exact .inr ⟨ho,h⟩
theorem PH.or_eq_none {a b : PH} {i : Nat} : (a.or b) i = none ↔ a i = none ∧ b i = none:=by
 unfold PH.or
 split
 ·rename_i o ho; simp [ho]
 ·rename_i ho; simp [ho]
theorem PH.or_le {a b c : PH} (h : PH.le a c) (k : PH.le b c) : PH.le (a.or b) c:=fun i o e => by
 rcases PH.or_eq_some e with e | ⟨_,e⟩
 ·exact h i o e
 ·exact k i o e
theorem PH.dis.symm {a b : PH} (h : PH.dis a b) : PH.dis b a:=fun i => (h i).symm
theorem PH.dis_or {a b c : PH} : PH.dis a (b.or c) ↔ PH.dis a b ∧ PH.dis a c:=by
 constructor
 ·intro h
  refine ⟨fun i => ?_,fun i => ?_⟩
  ·rcases h i with h | h
   ·exact .inl h
   ·exact .inr (PH.or_eq_none.1 h).1
  ·rcases h i with h | h
   ·exact .inl h
   ·exact .inr (PH.or_eq_none.1 h).2
 ·rintro ⟨h,k⟩ i
  rcases h i with h | h
  ·exact .inl h
  ·rcases k i with k | k
   ·exact .inl k
   ·exact .inr (PH.or_eq_none.2 ⟨h,k⟩)
theorem PH.or_comm {a b : PH} (h : PH.dis a b) : a.or b = b.or a:=by
 funext i
 unfold PH.or
 rcases h i with h | h <;> rw [h] <;> cases a i <;> cases b i <;> simp_all
theorem PH.or_assoc (a b c : PH) : (a.or b).or c = a.or (b.or c):=by
 funext i
 unfold PH.or
 cases a i <;> rfl
structure Sat (w : World) (I m : PH) : Prop where
 imm : ∀ i o,I i = some o → w.heap[i]? = some o
 own : ∀ i o,m i = some o → w.heap[i]? = some o
 dis : PH.dis I m
theorem Sat.sub {w : World} {I m m' : PH} (h : Sat w I m) (hm : PH.le m' m) : Sat w I m' :=
 ⟨h.imm,fun i o e => h.own i o (hm i o e),fun i => by
  rcases h.dis i with e | e
  ·exact .inl e
  ·right
   cases hi : m' i with
   | none => rfl
   | some o => rw [hm i o hi] at e; cases e⟩
abbrev Res:=PH → Prop
def Stars : List Res → PH → Prop
 | [],_ => True
 | r :: rs,m => ∃ m1 m2,PH.dis m1 m2 ∧ m = m1.or m2 ∧ r m1 ∧ Stars rs m2
theorem Stars.append {a b : List Res} : ∀ {m : PH},Stars (a ++ b) m → ∃ m1 m2,PH.dis m1 m2 ∧ m = m1.or m2 ∧ Stars a m1 ∧ Stars b m2:=by
 induction a with
 | nil => exact fun {m} h => ⟨fun _ => none,m,fun _ => .inl rfl,by funext i; rfl,trivial,h⟩
 | cons r rs ih =>
  rintro m ⟨m1,m2,hd,rfl,hr,hs⟩
  obtain ⟨n1,n2,hd',rfl,h1,h2⟩:=ih hs
  obtain ⟨d1,d2⟩:=PH.dis_or.1 hd
  exact ⟨m1.or n1,n2,PH.dis.symm (PH.dis_or.2 ⟨d2.symm,hd'.symm⟩),(PH.or_assoc _ _ _).symm,⟨m1,n1,d1,rfl,hr,h1⟩,h2⟩
theorem Stars.join {a b : List Res} : ∀ {m1 m2 : PH},PH.dis m1 m2 → Stars a m1 → Stars b m2 → ∃ m,PH.le m (m1.or m2) ∧ Stars (a ++ b) m:=by
 induction a with
 | nil => exact fun {m1 m2} hd _ h => ⟨m2,PH.le_or_right hd,h⟩
 | cons r rs ih =>
  rintro m1 m2 hd ⟨n1,n2,hd',rfl,hr,hs⟩ hb
  obtain ⟨d1,d2⟩:=PH.dis_or.1 hd.symm
  obtain ⟨k,hk,hkS⟩:=ih d2.symm hs hb
  refine ⟨n1.or k,?_,n1,k,?_,rfl,hr,hkS⟩
  ·rw [PH.or_assoc]
   exact PH.or_le (PH.le_or_left _ _) (hk.trans (PH.le_or_right (PH.dis_or.2 ⟨hd',d1.symm⟩)))
  ·intro i
   rcases hd' i with e | e
   ·exact .inl e
   ·rcases d1 i with e' | e'
    ·right
     cases hki : k i with
     | none => rfl
     | some o => have:=hk i o hki; simp [PH.or,e,e'] at this
    ·exact .inl e'
def Ent (R R' : List Res) : Prop:=∀ m,Stars R m → ∃ m',PH.le m' m ∧ Stars R' m'
theorem Ent.refl (R : List Res) : Ent R R:=fun m h => ⟨m,PH.le_refl m,h⟩
theorem Ent.trans {R R' R'' : List Res} (h : Ent R R') (k : Ent R' R'') : Ent R R'':=fun m hm => by
 obtain ⟨m',hle,h'⟩:=h m hm
 obtain ⟨m'',hle',h''⟩:=k m' h'
 exact ⟨m'',hle'.trans hle,h''⟩
theorem dis_sub {a b a' b' : PH} (h : PH.dis a b) (ha : PH.le a' a) (hb : PH.le b' b) : PH.dis a' b':=fun i => by
 cases ha' : a' i with
 | none => exact .inl rfl
 | some o =>
  right
  cases hb' : b' i with
  | none => rfl
  | some o' =>
   rcases h i with e | e
   ·rw [ha i o ha'] at e; cases e
   ·rw [hb i o' hb'] at e; cases e
theorem Ent.cons {r : Res} {R R' : List Res} (h : Ent R R') : Ent (r :: R) (r :: R'):=by
 rintro m ⟨m1,m2,hd,rfl,hr,hs⟩
 obtain ⟨m2',hle,h'⟩:=h m2 hs
 exact ⟨m1.or m2',PH.or_le (PH.le_or_left _ _) (hle.trans (PH.le_or_right hd)),m1,m2',dis_sub hd (PH.le_refl _) hle,rfl,hr,h'⟩
theorem Ent.head {r r' : Res} {R : List Res} (h : ∀ m,r m → r' m) : Ent (r :: R) (r' :: R):=by
 rintro m ⟨m1,m2,hd,rfl,hr,hs⟩
 exact ⟨_,PH.le_refl _,m1,m2,hd,rfl,h _ hr,hs⟩
theorem Ent.drop {r : Res} {R R' : List Res} (h : Ent R R') : Ent (r :: R) R':=by
 rintro m ⟨m1,m2,hd,rfl,hr,hs⟩
 obtain ⟨m2',hle,h'⟩:=h m2 hs
 exact ⟨m2',hle.trans (PH.le_or_right hd),h'⟩
theorem Ent.nil (R : List Res) : Ent R []:=fun m _ => ⟨m,PH.le_refl m,trivial⟩
theorem Ent.swap (r s : Res) (R : List Res) : Ent (r :: s :: R) (s :: r :: R):=by
 rintro m ⟨m1,m2,hd,rfl,hr,n1,n2,hd',rfl,hs,h⟩
 obtain ⟨d1,d2⟩:=PH.dis_or.1 hd
 refine ⟨_,PH.le_refl _,n1,m1.or n2,PH.dis_or.2 ⟨d1.symm,hd'⟩,?_,hs,m1,n2,d2,rfl,hr,h⟩
 rw [← PH.or_assoc,PH.or_comm d1,PH.or_assoc]
theorem Ent.pull : ∀ (k : Nat) (R : List Res) (r : Res),R[k]? = some r → Ent R (r :: R.eraseIdx k)
 | 0,r' :: R,r,h => by simp at h; subst h; exact Ent.refl _
 | k + 1,r' :: R,r,h => by
  have:=Ent.pull k R r (by simpa using h)
  exact (Ent.cons this).trans (Ent.swap _ _ _)
theorem Ent.pick (k : Nat) {r : Res} {R R' : List Res} (hk : R[k]? = some r) (h : Ent (R.eraseIdx k) R') : Ent R (r :: R'):=(Ent.pull k R r hk).trans (Ent.cons h)
theorem zE {R R' : List Res} (h : Ent R R':=by first | done | (repeat first | exact Ent.refl _ | exact Ent.nil _ | refine Ent.pick 0 rfl ?_ | refine Ent.pick 1 rfl ?_ | refine Ent.pick 2 rfl ?_ | refine Ent.pick 3 rfl ?_ | refine Ent.pick 4 rfl ?_ | refine Ent.pick 5 rfl ?_ | refine Ent.pick 6 rfl ?_ | refine Ent.pick 7 rfl ?_ | refine Ent.pick 8 rfl ?_ | refine Ent.pick 9 rfl ?_ | refine Ent.pick 10 rfl ?_ | refine Ent.pick 11 rfl ?_ | refine Ent.pick 12 rfl ?_ | refine Ent.pick 13 rfl ?_ | refine Ent.pick 14 rfl ?_)) : Ent R R':=h
theorem Ent.pickE (k : Nat) {r r' : Res} {R R' : List Res} (hk : R[k]? = some r') (e : r' = r) (h : Ent (R.eraseIdx k) R') : Ent R (r :: R'):=by subst e; exact Ent.pick k hk h
theorem Ent.fold (R : List Res) : Ent R [Stars R]:=fun m h => ⟨m,PH.le_refl m,m,fun _ => none,fun _ => .inr rfl,by funext i; unfold PH.or; cases m i <;> rfl,h,trivial⟩
theorem Ent.foldAt (A R : List Res) : Ent (A ++ R) (A ++ [Stars R]):=by
 induction A with
 | nil => exact Ent.fold R
 | cons r A ih => exact Ent.cons ih
theorem Ent.unfoldAt (A R : List Res) : Ent (A ++ [Stars R]) (A ++ R):=by
 induction A with
 | nil =>
  rintro m ⟨m1,m2,hd,rfl,h,_⟩
  exact ⟨m1,PH.le_or_left _ _,h⟩
 | cons r A ih => exact Ent.cons ih
theorem ask_drawn {α : Type} : ∀ (q : Ask α) (w : World),w.drawn ≤ (w.ask q).2.drawn
 | .done a,w => nLr _
 | .ask what range k,w => by
  unfold World.ask
  dsimp only
  split
  ·exact ask_drawn (k 0) w
  ·exact Nat.le_trans (Nat.le_succ _) (ask_drawn _ { w with drawn:=w.drawn + 1 })
theorem sys_drawn (c : Sys) (w : World) : w.drawn ≤ (w.sys c).2.drawn:=by
 unfold World.sys
 have h:=ask_drawn (Kernel.perform c w.os) w
 split
 ·exact nLr _
 ·rename_i r os w1 heq
  rw [heq] at h
  exact h
theorem view_drawn {P : Program} {w w' : World} {a : Addr} {u : TypeId} {k : Addr} {v : Value} {at_ : Bool} {l : List Addr} (h : w.viewStore P a u k v at_ = .ok (w',l)) : w'.drawn = w.drawn:=by
 unfold World.viewStore at h
 simp only [bind,Except.bind,pure,Except.pure,MonadExcept.throw,_root_.throwThe,MonadExceptOf.throw] at h
 (repeat' split at h) <;> first | (cases h; done) | (cases h; rfl)
theorem far_drawn {P : Program} {w w' : World} {a : Addr} {v : Value} {at_ : Bool} {l : List Addr} (h : w.farStore P a v at_ = .ok (w',l)) : w.drawn ≤ w'.drawn:=by
 unfold World.farStore at h
 split at h
 ·split at h
  ·rename_i heq
   cases h
   exact Nat.le_of_eq (view_drawn heq).symm
  ·cases h
 ·cases h
theorem run_drawn {P : Program} {α : Type} (s : Sem α) : ∀ (w : World) {v : α} {w' : World},s.run P w = .ok v w' → w.drawn ≤ w'.drawn:=by
  induction s with
  | pure a => intro w v w' h; cases h; exact nLr _
  | load m a k ih =>
    intro w v w' h
    simp only [Sem.run] at h
    (repeat' split at h) <;> first | exact ih _ _ h | cases h
  | store m a v0 k ih =>
    intro w v w' h
    cases v0 <;> simp only [Sem.run] at h <;> first
      | cases h
      | (split at h
         · split at h
           · cases h
           · exact ih (w.setCell a _) h
         · split at h
           · rename_i hf
             exact Nat.le_trans (far_drawn hf) (ih _ h)
           · cases h)
  | new o k ih => intro w v w' h; exact ih w.heap.size { w with heap:=w.heap.push o } h
  | shape r k ih => intro w v w' h; exact ih _ _ h
  | freeze a n k ih =>
    intro w v w' h
    have h2:=ih (w.freeze a n) h
    have h3 : (w.freeze a n).drawn = w.drawn:=by unfold World.freeze; split <;> rfl
    omega
  | frozen a k ih => intro w v w' h; exact ih _ _ h
  | getObj r k ih =>
    intro w v w' h
    simp only [Sem.run] at h
    (repeat' split at h) <;> first | exact ih _ _ h | cases h
  | setObj r o k ih =>
    intro w v w' h
    simp only [Sem.run] at h
    split at h
    · cases h
    · exact ih { w with heap:=w.heap.setIfInBounds r o } h
    · cases h
  | choose q k ih =>
    intro w v w' h
    simp only [Sem.run] at h
    split at h
    · exact ih _ _ h
    · exact Nat.le_trans (Nat.le_succ _) (ih _ _ h)
  | sys c k ih => intro w v w' h; exact Nat.le_trans (sys_drawn c w) (ih _ _ h)
  | program k ih => intro w v w' h; exact ih _ _ h
  | mark m k ih => intro w v w' h; exact ih _ h
  | halt h0 => intro w v w' h; cases h
structure Still (w0 w : World) : Prop where
 os : w.os = w0.os
 tape : w.tape = w0.tape
 output : w.output = w0.output
 size : w0.heap.size ≤ w.heap.size
 drawn : w0.drawn ≤ w.drawn
theorem Still.refl (w : World) : Still w w:=⟨rfl,rfl,rfl,nLr _,nLr _⟩
theorem Still.trans {a b c : World} (h : Still a b) (k : Still b c) : Still a c:=⟨k.os.trans h.os,k.tape.trans h.tape,k.output.trans h.output,Nat.le_trans h.size k.size,Nat.le_trans h.drawn k.drawn⟩
structure Cx where
 P : Program
 n : Nat
 W : World
structure St (W : World) (I : PH) (R : List Res) (w : World) : Prop where
 mem : ∃ m,Stars R m ∧ Sat w I m
 still : Still W w
theorem St.ent {W : World} {I : PH} {R R' : List Res} {w : World} (h : St W I R w) (k : Ent R R') : St W I R' w:=by
 obtain ⟨⟨m,hm,hs⟩,hst⟩:=h
 obtain ⟨m',hle,hm'⟩:=k m hm
 exact ⟨⟨m',hm',hs.sub hle⟩,hst⟩
abbrev Env:=List (Nat × Value)
def lk : Env → Nat → Option Value
 | [],_ => none
 | (k,v) :: r,t => match Nat.beq k t with | true => some v | false => lk r t
structure Mod (n : Nat) (e : Env) (a : Act) : Prop where
 size : a.tmps.size = n
 defers : a.defers = []
 get : ∀ t v,lk e t = some v → a.tmps[t]? = some v
def evo (e : Env) : Operand → Option Value
 | .tmp t => lk e t
 | .const v => some v
 | .global g => some (.pointer (some ⟨g,0,none⟩))
 | .func f => some (.func (.func f) #[] #[])
def evs (e : Env) : List Operand → Option (List Value)
 | [] => some []
 | x :: xs => match evo e x with
  | none => none
  | some v => match evs e xs with
   | none => none
   | some vs => some (v :: vs)
theorem Mod.eval {n : Nat} {e : Env} {a : Act} (h : Mod n e a) {x : Operand} {v : Value} (hx : evo e x = some v) : a.eval x = v:=by
 cases x with
 | tmp t => have:=h.get t v hx; simp [Act.eval,this]
 | const v => simp [evo] at hx; simp [Act.eval,hx]
 | global g => simp [evo] at hx; simp [Act.eval,hx]
 | func f => simp [evo] at hx; simp [Act.eval,hx]
theorem Mod.evals {n : Nat} {e : Env} {a : Act} (h : Mod n e a) : ∀ {xs : List Operand} {vs : List Value},evs e xs = some vs → xs.map a.eval = vs
 | [],vs,hx => by simp [evs] at hx; simp [hx]
 | x :: xs,vs,hx => by
  unfold evs at hx
  split at hx
  ·cases hx
  ·rename_i v hv
   split at hx
   ·cases hx
   ·rename_i vs' hvs
    simp at hx
    subst hx
    simp [h.eval hv,h.evals hvs]
theorem Mod.put {n : Nat} {e : Env} {a : Act} (h : Mod n e a) {d : Nat} (hd : Nat.blt d n = true) (v : Value) : Mod n ((d,v) :: e) (a.put (some d) v):=by
 have hd' : d < n:=by simpa [Nat.blt_eq] using hd
 refine ⟨by simp [Act.put,h.size],h.defers,fun t u hu => ?_⟩
 unfold lk at hu
 split at hu
 ·rename_i he
  have he : d = t:=Nat.eq_of_beq_eq_true he
  simp at hu
  subst he; subst hu
  simp [Act.put,h.size,hd']
 ·rename_i he
  have he : d ≠ t:=Nat.ne_of_beq_eq_false he
  simp only [Act.put]
  rw [Array.getElem?_setIfInBounds_ne he]
  exact h.get t u hu
def EnvSub : Env → Env → Prop
 | [],_ => True
 | (t,v) :: r,e => lk e t = some v ∧ EnvSub r e
theorem EnvSub.lk {e' e : Env} (h : EnvSub e' e) {t : Nat} {v : Value} (hl : lk e' t = some v) : lk e t = some v:=by
 induction e' with
 | nil => simp [Eng.lk] at hl
 | cons p r ih =>
  obtain ⟨k,u⟩:=p
  unfold Eng.lk at hl
  split at hl
  ·rename_i he
   have he : k = t:=Nat.eq_of_beq_eq_true he
   simp at hl
   subst he; subst hl
   exact h.1
  ·exact ih h.2 hl
theorem Mod.sub {n : Nat} {e e' : Env} {a : Act} (h : Mod n e a) (hs : EnvSub e' e) : Mod n e' a:=⟨h.size,h.defers,fun t v ht => h.get t v (hs.lk ht)⟩
def Nx (C : Cx) (e : Env) (I : PH) (R : List Res) (K : Act → World → Prop) : Prop:=∀ a w,Mod C.n e a → St C.W I R w → K a w
section
variable {C : Cx} {e e' : Env} {I : PH} {R R' : List Res} {K K' : Act → World → Prop} {Q : Exit → Act → World → Prop}
theorem Nx.weak (he : EnvSub e' e) (hR : Ent R R') (h : Nx C e' I R' K) : Nx C e I R K:=fun a w ha hw => h a w (ha.sub he) (hw.ent hR)
theorem Nx.ent (hR : Ent R R') (h : Nx C e I R' K) : Nx C e I R K:=fun a w ha hw => h a w ha (hw.ent hR)
theorem Nx.pull (k : Nat) {r : Res} (hk : R[k]? = some r) (h : Nx C e I (r :: R.eraseIdx k) K) : Nx C e I R K:=h.ent (Ent.pull k R r hk)
theorem Nx.seq {x y : Code} (h : Nx C e I R (x.wp C.P (Exit.then (y.wp C.P Q) Q))) : Nx C e I R ((Code.seq x y).wp C.P Q):=fun a w ha hw => wp_seq (h a w ha hw)
theorem Nx.skip (h : Nx C e I R (Q .normal)) : Nx C e I R (Code.skip.wp C.P Q):=fun a w ha hw => wp_skip (h a w ha hw)
theorem Nx.ret (h : Nx C e I R (Q .ret)) : Nx C e I R (Code.ret.wp C.P Q):=fun a w ha hw => wp_ret (h a w ha hw)
theorem Nx.exit {id : Nat} (h : Nx C e I R (Q (.exit id))) : Nx C e I R ((Code.exit id).wp C.P Q):=fun a w ha hw => wp_exit (h a w ha hw)
theorem Nx.block {id : Nat} {c : Code} (h : Nx C e I R (c.wp C.P (Exit.inBlock id Q))) : Nx C e I R ((Code.block id c).wp C.P Q):=fun a w ha hw => wp_block (h a w ha hw)
theorem Nx.label {l : Nat} (h : Nx C e I R (Q .normal)) : Nx C e I R ((Code.label l).wp C.P Q):=fun a w ha hw => wp_label (h a w ha hw)
theorem Nx.nil {ops : Array Oper} (h : Nx C e I R (Q .normal)) : Nx C e I R (wpList C.P ops Q []):=fun a w ha hw => wpList_nil (h a w ha hw)
theorem Nx.cond_true {c : Operand} {x y : Code} (hc : evo e c = some (.bool true)) (h : Nx C e I R (x.wp C.P Q)) : Nx C e I R ((Code.cond c x y).wp C.P Q) :=
 fun a w ha hw => wp_cond_true (ha.eval hc) (h a w ha hw)
theorem Nx.cond_false {c : Operand} {x y : Code} (hc : evo e c = some (.bool false)) (h : Nx C e I R (y.wp C.P Q)) : Nx C e I R ((Code.cond c x y).wp C.P Q) :=
 fun a w ha hw => wp_cond_false (ha.eval hc) (h a w ha hw)
theorem Nx.cond_dec {c : Operand} {x y : Code} {p : Prop} [Decidable p] (hc : evo e c = some (.bool (decide p))) (ht : p → Nx C e I R (x.wp C.P Q)) (hf : ¬p → Nx C e I R (y.wp C.P Q)) :
  Nx C e I R ((Code.cond c x y).wp C.P Q) :=
 fun a w ha hw => wp_cond_split (ha.eval hc) (fun h => ht (of_decide_eq_true h) a w ha hw) (fun h => hf (of_decide_eq_false h) a w ha hw)
theorem Nx.cond_bool {c : Operand} {x y : Code} {b : Bool} (hc : evo e c = some (.bool b)) (ht : b = true → Nx C e I R (x.wp C.P Q)) (hf : b = false → Nx C e I R (y.wp C.P Q)) :
  Nx C e I R ((Code.cond c x y).wp C.P Q) :=
 fun a w ha hw => wp_cond_split (ha.eval hc) (fun h => ht h a w ha hw) (fun h => hf h a w ha hw)
theorem Nx.force (t : Nat) {p : Prop} [Decidable p] (hc : lk e t = some (.bool (decide p))) (ht : p → Nx C ((t,.bool true) :: e) I R K) (hf : ¬p → Nx C ((t,.bool false) :: e) I R K) : Nx C e I R K:=by
 intro a w ha hw
 have key : ∀ b,decide p = b → Mod C.n ((t,.bool b) :: e) a:=fun b hb => ⟨ha.size,ha.defers,fun u v hu => by
  unfold lk at hu
  split at hu
  ·rename_i he
   have he : t = u:=Nat.eq_of_beq_eq_true he
   simp at hu
   subst he; subst hu
   rw [← hb]; exact ha.get _ _ hc
  ·exact ha.get _ _ hu⟩
 by_cases h : p
 ·exact ht h a w (key true (by simp [h])) hw
 ·exact hf h a w (key false (by simp [h])) hw
theorem Nx.force_bool (t : Nat) {b : Bool} (hc : lk e t = some (.bool b)) (ht : b = true → Nx C ((t,.bool true) :: e) I R K) (hf : b = false → Nx C ((t,.bool false) :: e) I R K) : Nx C e I R K:=by
 refine Nx.force t (p:=b = true) ?_ ht (fun h => hf (by simpa using h))
 rw [hc]; cases b <;> rfl
theorem Nx.then_normal (h : Nx C e I R K) : Nx C e I R (Exit.then K Q .normal):=h
theorem Nx.then_exit {id : Nat} (h : Nx C e I R (Q (.exit id))) : Nx C e I R (Exit.then K Q (.exit id)):=h
theorem Nx.then_ret (h : Nx C e I R (Q .ret)) : Nx C e I R (Exit.then K Q .ret):=h
theorem Nx.in_normal {id : Nat} (h : Nx C e I R (Q .normal)) : Nx C e I R (Exit.inBlock id Q .normal):=h
theorem Nx.in_ret {id : Nat} (h : Nx C e I R (Q .ret)) : Nx C e I R (Exit.inBlock id Q .ret):=h
theorem Nx.in_exit {id : Nat} (h : Nx C e I R (Q .normal)) : Nx C e I R (Exit.inBlock id Q (.exit id)):=fun a w ha hw => by
 show (if id = id then Q .normal a w else Q (.exit id) a w)
 rw [if_pos rfl]; exact h a w ha hw
theorem Nx.in_other {id id' : Nat} (hne : Nat.beq id' id = false) (h : Nx C e I R (Q (.exit id'))) : Nx C e I R (Exit.inBlock id Q (.exit id')):=fun a w ha hw => by
 show (if id' = id then Q .normal a w else Q (.exit id') a w)
 rw [if_neg (Nat.ne_of_beq_eq_false hne)]; exact h a w ha hw
def Again (C : Cx) {σ : Type} (E : σ → Env) (H : PH) (T : σ → List Res) (ok : σ → Prop) (μ : σ → Nat) (s : σ) : Act → World → Prop :=
 fun a w => ∃ s',ok s' ∧ μ s' < μ s ∧ Mod C.n (E s') a ∧ St C.W H (T s') w
theorem Nx.loop {σ : Type} (E : σ → Env) (T : σ → List Res) (ok : σ → Prop) (μ : σ → Nat) (s0 : σ) {c : Code} (h0 : ok s0) (he : EnvSub (E s0) e) (hR : Ent R (T s0))
  (round : ∀ s,ok s → Nx C (E s) I (T s) (c.wp C.P (Exit.then (Again C E I T ok μ s) Q))) : Nx C e I R ((Code.loop c).wp C.P Q):=by
 have key : ∀ n s,μ s = n → ok s → ∀ a w,Mod C.n (E s) a → St C.W I (T s) w → ∀ (b : Frame) (k : List Item) (cs : List Frame),
   ∃ ex a' w',Q ex a' w' ∧ Arrives C.P (lone (b.at a (.code c :: .inLoop c :: k)) cs w) b k cs ex a' w':=by
  intro n
  induction n using Nat.strongRecOn with
  | _ n ih =>
   intro s hn hok a w ha hw b k cs
   obtain ⟨ex,a₁,w₁,hq,harr⟩:=round s hok a w ha hw b (.inLoop c :: k) cs
   cases ex with
   | normal =>
    obtain ⟨s',hok',hlt,ha',hw'⟩:=hq
    obtain ⟨e₂,a₂,w₂,hq₂,harr₂⟩:=ih (μ s') (hn ▸ hlt) s' rfl hok' a₁ w₁ ha' hw' b k cs
    exact ⟨e₂,a₂,w₂,hq₂,.of_steps (Steps.trans harr (.one step_inLoop)) harr₂⟩
   | exit id => exact ⟨_,a₁,w₁,hq,.pass (x:=.inLoop c) rfl (fun _ _ => .inl (by simp)) harr⟩
   | goto l => exact ⟨_,a₁,w₁,hq,.pass (x:=.inLoop c) rfl (fun _ _ => .inl (by simp)) harr⟩
   | ret => exact ⟨_,a₁,w₁,hq,.pass (x:=.inLoop c) rfl (fun _ _ => .inl (by simp)) harr⟩
   | panic ch => exact ⟨_,a₁,w₁,hq,.pass (x:=.inLoop c) rfl (fun _ _ => .inl (by simp)) harr⟩
   | outgrown => exact ⟨_,a₁,w₁,hq,.pass (x:=.inLoop c) rfl (fun _ _ => .inl (by simp)) harr⟩
 intro a w ha hw b k cs
 obtain ⟨ex,a',w',hq,harr⟩:=key _ s0 rfl h0 a w (ha.sub he) (hw.ent hR) b k cs
 exact ⟨ex,a',w',hq,.of_steps (.one step_loop) harr⟩
theorem Nx.again {σ : Type} {E : σ → Env} {T : σ → List Res} {ok : σ → Prop} {μ : σ → Nat} {s : σ} (s' : σ) (hok : ok s') (hμ : μ s' < μ s) (he : EnvSub (E s') e) (hR : Ent R (T s')) :
  Nx C e I R (Again C E I T ok μ s):=fun _ _ ha hw => ⟨s',hok,hμ,ha.sub he,hw.ent hR⟩
def Stop (K : Act → World → Prop) : Act → World → Prop:=K
def Upto (C : Cx) {σ : Type} (E : σ → Env) (H : PH) (T : σ → List Res) (ok : σ → Prop) : Act → World → Prop:=fun a w => ∃ s,ok s ∧ Mod C.n (E s) a ∧ St C.W H (T s) w
end
end Go.Eng
namespace Go.Eng
def nthL {α : Type} : List α → Nat → Option α
 | [],_ => none
 | c :: _,0 => some c
 | _ :: r,i + 1 => nthL r i
theorem nthL_eq {α : Type} : ∀ {l : List α} {i : Nat},nthL l i = l[i]?
 | [],i => by simp [nthL]
 | _ :: _,0 => rfl
 | _ :: r,i + 1 => by simp only [nthL,List.getElem?_cons_succ]; exact nthL_eq
def pureRun (P : Program) {α : Type} : Sem α → Option α
 | .pure a => some a
 | .program k => pureRun P (k P)
 | .mark _ k => pureRun P k
 | _ => none
theorem run_of_pureRun {P : Program} {α : Type} : ∀ {s : Sem α} {a : α},pureRun P s = some a → ∀ w : World,s.run P w = .ok a w
 | .pure a,b,h,w => by simp [pureRun] at h; simp [Sem.run,h]
 | .program k,b,h,w => by simp [pureRun] at h; simp [Sem.run,run_of_pureRun h w]
 | .mark m k,b,h,w => by simp [pureRun] at h; simp [Sem.run,run_of_pureRun h w]
 | .load ..,b,h,w => by simp [pureRun] at h
 | .store ..,b,h,w => by simp [pureRun] at h
 | .new ..,b,h,w => by simp [pureRun] at h
 | .shape ..,b,h,w => by simp [pureRun] at h
 | .freeze ..,b,h,w => by simp [pureRun] at h
 | .frozen ..,b,h,w => by simp [pureRun] at h
 | .getObj ..,b,h,w => by simp [pureRun] at h
 | .setObj ..,b,h,w => by simp [pureRun] at h
 | .choose ..,b,h,w => by simp [pureRun] at h
 | .sys ..,b,h,w => by simp [pureRun] at h
 | .halt ..,b,h,w => by simp [pureRun] at h
def opK (P : Program) (o : Oper) (K : Act → World → Prop) (Q : Exit → Act → World → Prop) : Act → World → Prop:=fun a w => o.wp P a w K Q
section
variable {C : Cx} {e e' : Env} {I : PH} {R R' : List Res} {K K' : Act → World → Prop} {Q : Exit → Act → World → Prop}
theorem Nx.cons {ops : Array Oper} {rest : List Oper} {o : Oper} (hg : o.guard = none) (h : Nx C e I R (opK C.P o (wpList C.P ops Q rest) Q)) : Nx C e I R (wpList C.P ops Q (o :: rest)):=by
 intro a w ha hw
 unfold wpList
 rw [if_pos (by simp [Region.wanted,hg])]
 exact .inl (h a w ha hw)
theorem yielded_of {n : Nat} {ops : Array Oper} {a : Act} {j d : Nat} {b : Bool} (ha : Mod n e a) (hd : (ops[j]?).bind (·.dst) = some d) (hb : lk e d = some (.bool b)) : yielded ops a.tmps j = some b:=by
 have:=ha.get d _ hb
 simp [yielded,hd,this]
theorem Nx.cons_do {ops : Array Oper} {rest : List Oper} {o : Oper} {j d : Nat} {want : Bool} (hg : o.guard = some (j,want)) (hd : (ops[j]?).bind (·.dst) = some d) (hb : lk e d = some (.bool want))
  (h : Nx C e I R (opK C.P o (wpList C.P ops Q rest) Q)) : Nx C e I R (wpList C.P ops Q (o :: rest)):=by
 intro a w ha hw
 unfold wpList
 rw [if_pos (by simp [Region.wanted,hg,yielded_of ha hd hb])]
 exact .inl (h a w ha hw)
theorem Nx.cons_no {ops : Array Oper} {rest : List Oper} {o : Oper} {j d t : Nat} {want : Bool} (hg : o.guard = some (j,want)) (hd : (ops[j]?).bind (·.dst) = some d) (hb : lk e d = some (.bool (!want)))
  (ht : o.dst = some t) (hlt : Nat.blt t C.n = true) (h : Nx C ((t,undef) :: e) I R (wpList C.P ops Q rest)) : Nx C e I R (wpList C.P ops Q (o :: rest)):=by
 intro a w ha hw
 unfold wpList
 rw [if_neg (by simp [Region.wanted,hg,yielded_of ha hd hb]),ht]
 exact h _ w (ha.put hlt _) hw
theorem Nx.op_run {o : Oper} {d : Nat} {v : Value} (hd : o.dst = some d) (hlt : Nat.blt d C.n = true)
  (hrun : ∀ a w,Mod C.n e a → St C.W I R w → (execOp a.eval o).run C.P w = .ok (.value v) w) (h : Nx C ((d,v) :: e) I R K) : Nx C e I R (opK C.P o K Q):=by
 intro a w ha hw
 unfold opK Oper.wp
 rw [hrun a w ha hw]
 show K (a.put o.dst v) w
 rw [hd]
 exact h _ w (ha.put hlt v) hw
variable {d : Nat} {ty t u : TypeId} {pos : String} {after : Array Edge} {g : Option (Nat × Bool)} {x y z : Operand} {v vx vy vz : Value}
variable {dst : Option Tmp}
theorem run_v {s : Sem Value} {P : Program} {w w' : World} (h : s.run P w = .ok v w') : (do pure (Next.value (← s)) : Sem Next).run P w = .ok (.value v) w':=by
 rw [Sem.run_bind,h]; rfl
theorem Nx.bin {op : BinOp} (hx : evo e x = some vx) (hy : evo e y = some vy) (hv : pureRun C.P (do eqGuard op t x y vx vy; binOp op t vx vy) = some v) (hlt : Nat.blt d C.n = true)
  (h : Nx C ((d,v) :: e) I R K) : Nx C e I R (opK C.P ⟨some d,.binOp op t x y u,ty,pos,after,g⟩ K Q) :=
 Nx.op_run rfl hlt (fun a w ha _ => by simp only [execOp,ha.eval hx,ha.eval hy]; exact run_v (run_of_pureRun hv w)) h
def I64 (z : Int) : Prop:=-9223372036854775808 ≤ z ∧ z ≤ 9223372036854775807
theorem wrap_i64 {z : Int} (h : I64 z) : IntKind.i64.wrap z = z:=IntWalk.i64_in _ (by unfold I64 at h; omega)
theorem Nx.add {p q : Int} (hx : evo e x = some (.int .i64 p)) (hy : evo e y = some (.int .i64 q)) (hr : I64 (p + q)) (hlt : Nat.blt d C.n = true)
  (h : Nx C ((d,.int .i64 (p + q)) :: e) I R K) : Nx C e I R (opK C.P ⟨some d,.binOp .add t x y u,ty,pos,after,g⟩ K Q) :=
 Nx.bin hx hy (by rw [← wrap_i64 hr]; rfl) hlt h
theorem Nx.sub {p q : Int} (hx : evo e x = some (.int .i64 p)) (hy : evo e y = some (.int .i64 q)) (hr : I64 (p - q)) (hlt : Nat.blt d C.n = true)
  (h : Nx C ((d,.int .i64 (p - q)) :: e) I R K) : Nx C e I R (opK C.P ⟨some d,.binOp .sub t x y u,ty,pos,after,g⟩ K Q) :=
 Nx.bin hx hy (by rw [← wrap_i64 hr]; rfl) hlt h
theorem Nx.mul {p q : Int} (hx : evo e x = some (.int .i64 p)) (hy : evo e y = some (.int .i64 q)) (hr : I64 (p * q)) (hlt : Nat.blt d C.n = true)
  (h : Nx C ((d,.int .i64 (p * q)) :: e) I R K) : Nx C e I R (opK C.P ⟨some d,.binOp .mul t x y u,ty,pos,after,g⟩ K Q) :=
 Nx.bin hx hy (by rw [← wrap_i64 hr]; rfl) hlt h
theorem run_rem {P : Program} {p q : Int} (h0 : 0 ≤ p) (hq : 0 < q) : pureRun P (do eqGuard .rem t x y (.int .i64 p) (.int .i64 q); binOp .rem t (.int .i64 p) (.int .i64 q)) = some (.int .i64 (p % q)):=by
 rw [eqGuard_rem,binOp_rem]
 have hne : q ≠ 0:=by omega
 have : p.tmod q = p % q:=Int.tmod_eq_emod_of_nonneg h0
 unfold pureRun
 simp [Op.intDiv,hne,this]; rfl
theorem run_quo {P : Program} {p q : Int} (h0 : 0 ≤ p) (hq : 0 < q) (hr : I64 p) : pureRun P (do eqGuard .quo t x y (.int .i64 p) (.int .i64 q); binOp .quo t (.int .i64 p) (.int .i64 q)) = some (.int .i64 (p / q)):=by
 rw [eqGuard_quo,binOp_quo]
 have hne : q ≠ 0:=by omega
 have : p.tdiv q = p / q:=Int.tdiv_eq_ediv_of_nonneg h0
 have h1 : p / q ≤ p:=Int.ediv_le_self _ h0
 have h2 : 0 ≤ p / q:=Int.ediv_nonneg h0 (by omega)
 have hw : IntKind.i64.wrap (p / q) = p / q:=wrap_i64 (by unfold I64 at *; omega)
 unfold pureRun
 simp [Op.intDiv,hne,this,hw]; rfl
theorem Nx.rem {p q : Int} (hx : evo e x = some (.int .i64 p)) (hy : evo e y = some (.int .i64 q)) (hq : 0 < q) (h0 : 0 ≤ p) (hlt : Nat.blt d C.n = true)
  (h : Nx C ((d,.int .i64 (p % q)) :: e) I R K) : Nx C e I R (opK C.P ⟨some d,.binOp .rem t x y u,ty,pos,after,g⟩ K Q) :=
 Nx.bin hx hy (run_rem h0 hq) hlt h
theorem Nx.quo {p q : Int} (hx : evo e x = some (.int .i64 p)) (hy : evo e y = some (.int .i64 q)) (hq : 0 < q) (h0 : 0 ≤ p) (hr : I64 p) (hlt : Nat.blt d C.n = true)
  (h : Nx C ((d,.int .i64 (p / q)) :: e) I R K) : Nx C e I R (opK C.P ⟨some d,.binOp .quo t x y u,ty,pos,after,g⟩ K Q) :=
 Nx.bin hx hy (run_quo h0 hq hr) hlt h
theorem Nx.un {op : UnOp} (hx : evo e x = some vx) (hv : pureRun C.P (Op.unary op vx) = some v) (hlt : Nat.blt d C.n = true)
  (h : Nx C ((d,v) :: e) I R K) : Nx C e I R (opK C.P ⟨some d,.unOp op t x,ty,pos,after,g⟩ K Q) :=
 Nx.op_run rfl hlt (fun a w ha _ => by simp only [execOp,ha.eval hx]; exact run_v (run_of_pureRun hv w)) h
theorem Nx.neg {p : Int} (hx : evo e x = some (.int .i64 p)) (hr : I64 (-p)) (hlt : Nat.blt d C.n = true)
  (h : Nx C ((d,.int .i64 (-p)) :: e) I R K) : Nx C e I R (opK C.P ⟨some d,.unOp .neg t x,ty,pos,after,g⟩ K Q) :=
 Nx.un hx (by rw [← wrap_i64 hr,← Int.zero_sub]; rfl) hlt h
theorem Nx.conv_i64 {k : IntKind} {p : Int} {s : TypeDesc} (hx : evo e x = some (.int k p)) (hs : C.P.underlying t = some s) (ht : C.P.underlying u = some (.int .i64)) (hr : I64 p) (hlt : Nat.blt d C.n = true)
  (h : Nx C ((d,.int .i64 p) :: e) I R K) : Nx C e I R (opK C.P ⟨some d,.convert t u x,ty,pos,after,g⟩ K Q) :=
 Nx.op_run rfl hlt (fun a w ha _ => by
  simp only [execOp,ha.eval hx]
  refine run_v ?_
  unfold convert
  rw [Sem.run_bind,run_underlying hs,Result.andThen_ok,Sem.run_bind,run_underlying ht,Result.andThen_ok]
  show Result.ok (Value.int .i64 (IntKind.i64.wrap p)) w = _
  rw [wrap_i64 hr]) h
theorem Nx.makeFunc {F : Fn} {c1 c2 : Array Operand} {v1 v2 : List Value} (h1 : evs e c1.toList = some v1) (h2 : evs e c2.toList = some v2) (hlt : Nat.blt d C.n = true)
  (h : Nx C ((d,.func F v1.toArray v2.toArray) :: e) I R K) : Nx C e I R (opK C.P ⟨some d,.makeFunc F c1 c2,ty,pos,after,g⟩ K Q) :=
 Nx.op_run rfl hlt (fun a w ha _ => by
  have e1 : c1.map a.eval = v1.toArray:=by rw [← ha.evals h1]; exact Array.ext' (by rw [Array.toList_map])
  have e2 : c2.map a.eval = v2.toArray:=by rw [← ha.evals h2]; exact Array.ext' (by rw [Array.toList_map])
  simp only [execOp,e1,e2]
  rfl) h
def forced : Nat → Option Nat
 | 0 => some 0 | 1 => some 1 | 2 => some 2 | 3 => some 3 | 4 => some 4 | 5 => some 5 | 6 => some 6 | 7 => some 7 | 8 => some 8 | 9 => some 9
 | 10 => some 10 | 11 => some 11 | 12 => some 12 | 13 => some 13 | 14 => some 14 | 15 => some 15 | 16 => some 16 | 17 => some 17 | 18 => some 18 | 19 => some 19
 | 20 => some 20 | 21 => some 21 | 22 => some 22 | 23 => some 23 | 24 => some 24 | 25 => some 25 | 26 => some 26 | 27 => some 27 | 28 => some 28 | 29 => some 29
 | 30 => some 30 | 31 => some 31 | 32 => some 32 | 33 => some 33 | 34 => some 34 | 35 => some 35 | 36 => some 36 | 37 => some 37 | 38 => some 38 | 39 => some 39
 | 40 => some 40 | 41 => some 41 | 42 => some 42 | 43 => some 43 | 44 => some 44 | 45 => some 45 | 46 => some 46 | 47 => some 47 | 48 => some 48 | 49 => some 49
 | _ => none
theorem forced_eq {a b : Nat} (h : forced a = some b) : a = b:=by
 unfold forced at h
 split at h <;> simp at h <;> omega
def cellsIn (P : Program) (t : TypeId) : Option Nat:=match P.info? t with | some i => forced i.size | none => none
theorem cellsIn_run {P : Program} {t : TypeId} {n : Nat} (h : cellsIn P t = some n) (w : World) : (sizeOf t).run P w = .ok n w:=by
 unfold cellsIn at h
 split at h
 ·rename_i i hi
  have:=forced_eq h
  simp [sizeOf,typeInfo,hi,this]
 ·cases h
def fieldOff (P : Program) (t : TypeId) (k : Nat) : Option Nat :=
 match P.underlying t with
 | some (.struct fs) => match fs[k]? with
  | some f => match cellsIn P f.type with
   | some 0 => none
   | some _ => forced f.offset
   | none => none
  | none => none
 | _ => none
theorem fieldOff_run {P : Program} {t : TypeId} {k o : Nat} (h : fieldOff P t k = some o) (A : Addr) (w : World) : (Instr.fieldAt t (.pointer (some A)) k).run P w = .ok (.pointer (some (A.add o))) w:=by
 unfold fieldOff at h
 split at h
 ·rename_i fs hfs
  split at h
  ·rename_i f hf
   split at h
   ·cases h
   ·rename_i n hn0 hn
    have hsz:=cellsIn_run hn w
    have ho:=forced_eq h
    have h0 : ¬ n = 0:=hn0
    unfold Instr.fieldAt
    rw [Sem.run_bind,run_underlying hfs,Result.andThen_ok]
    simp only [hf]
    simp [Instr.sureAddr,fieldPlace,hsz,h0,ho]
   ·cases h
  ·cases h
 ·cases h
def binRun (P : Program) (op : BinOp) (t : TypeId) (x y : Operand) : Value → Value → Option Value
 | .int k a,.int k' b => match op with
  | .eql => match decide (k = k') with | true => some (.bool (decide (a = b))) | false => none
  | .neq => match decide (k = k') with | true => some (.bool (decide (a ≠ b))) | false => none
  | .lss => match decide (k = k') with | true => some (.bool (decide (a < b))) | false => none
  | .leq => match decide (k = k') with | true => some (.bool (decide (a ≤ b))) | false => none
  | .gtr => match decide (k = k') with | true => some (.bool (decide (b < a))) | false => none
  | .geq => match decide (k = k') with | true => some (.bool (decide (b ≤ a))) | false => none
  | _ => none
 | vx,vy => pureRun P (do eqGuard op t x y vx vy; binOp op t vx vy)
theorem binRun_sound {P : Program} {op : BinOp} {t : TypeId} {x y : Operand} {vx vy v : Value} (h : binRun P op t x y vx vy = some v) (w : World) :
  (do eqGuard op t x y vx vy; binOp op t vx vy : Sem Value).run P w = .ok v w:=by
 unfold binRun at h
 split at h
 ·rename_i k a k' b
  have key : ∀ {p : Prop} [Decidable p] {c : Bool},(match decide (k = k') with | true => some (Value.bool (decide p)) | false => none) = some v → c = decide p → k = k' ∧ v = .bool c:=by
   intro p _ c hm hc
   by_cases hk : k = k'
   ·simp [hk] at hm; exact ⟨hk,by rw [hc]; exact hm.symm⟩
   ·simp [hk] at hm
  rw [eqGuard_at_int]
  cases op <;> simp only at h <;> try (cases h; done)
  ·obtain ⟨rfl,rfl⟩:=key h rfl; rw [binOp_eql]; rfl
  ·obtain ⟨rfl,rfl⟩:=key h (show (a != b) = decide (a ≠ b) by by_cases hab : a = b <;> simp [hab]); rw [binOp_neq]; rfl
  ·obtain ⟨rfl,rfl⟩:=key h rfl; rw [binOp_lss]; rfl
  ·obtain ⟨rfl,rfl⟩:=key h rfl; rw [binOp_leq]; rfl
  ·obtain ⟨rfl,rfl⟩:=key h rfl; rw [binOp_gtr]; rfl
  ·obtain ⟨rfl,rfl⟩:=key h rfl; rw [binOp_geq]; rfl
 ·exact run_of_pureRun h w
def unRun (P : Program) (op : UnOp) : Value → Option Value
 | .int _ _ => match op with
  | _ => none
 | vx => pureRun P (Op.unary op vx)
def lenRun (P : Program) (t : TypeId) : Value → Option Value
 | .slice _ n _ => match P.underlying t with
  | some (.slice _) => some (.int .i64 n)
  | _ => none
 | .string s => match P.underlying t with
  | some .string => some (.int .i64 s.size)
  | _ => none
 | _ => none
def opRun (P : Program) (e : Env) : Op → Option Value
 | .move x => evo e x
 | .assign x => evo e x
 | .pick c a b => match evo e c with
  | some (.bool true) => evo e a
  | some (.bool false) => evo e b
  | _ => none
 | .binOp op t x y _ => match evo e x with
  | none => none
  | some vx => match evo e y with
   | none => none
   | some vy => binRun P op t x y vx vy
 | .unOp op _ x => match evo e x with
  | none => none
  | some vx => unRun P op vx
 | .extract x k => match evo e x with
  | some (.tuple ⟨vs⟩) => nthL vs k
  | _ => none
 | .fieldAddr t x k => match evo e x with
  | some (.pointer (some ⟨b,p,none⟩)) => match fieldOff P t k with
   | some o => some (.pointer (some ⟨b,p + o,none⟩))
   | none => none
  | _ => none
 | .nilCheck x => match evo e x with
  | some (.pointer (some a)) => some (.pointer (some a))
  | _ => none
 | .call { callee:=.builtin .len,args:=⟨[x]⟩,argTypes:=⟨[t]⟩ } => match evo e x with
  | some v => lenRun P t v
  | none => none
 | _ => none
theorem opRun_sound {P : Program} {op : Op} {v : Value} (h : opRun P e op = some v) {n : Nat} {a : Act} (ha : Mod n e a) (w : World) {dst : Option Tmp} {ty : TypeId} {pos : String} {after : Array Edge} {g : Option (Nat × Bool)} :
  (execOp a.eval ⟨dst,op,ty,pos,after,g⟩).run P w = .ok (.value v) w:=by
 unfold opRun at h
 split at h
 ·simp only [execOp,ha.eval h]; rfl
 ·simp only [execOp,ha.eval h]; rfl
 ·split at h
  ·rename_i hc; simp only [execOp,ha.eval hc,ha.eval h]; rfl
  ·rename_i hc; simp only [execOp,ha.eval hc,ha.eval h]; rfl
  ·cases h
 ·split at h
  ·cases h
  ·rename_i vx hx
   split at h
   ·cases h
   ·rename_i vy hy
    simp only [execOp,ha.eval hx,ha.eval hy]
    exact run_v (binRun_sound h w)
 ·split at h
  ·cases h
  ·rename_i vx hx
   simp only [execOp,ha.eval hx]
   refine run_v ?_
   unfold unRun at h
   split at h
   ·cases h
   ·exact run_of_pureRun h w
 ·split at h
  ·rename_i vs hx
   simp only [execOp,ha.eval hx]
   refine run_v ?_
   rw [nthL_eq] at h
   simp [Instr.extract,h]
  ·cases h
 ·split at h
  ·rename_i b p hx
   split at h
   ·rename_i o ho
    obtain rfl:=Option.some.inj h
    simp only [execOp,ha.eval hx]
    have:=fieldOff_run ho ⟨b,p,none⟩ w
    rw [Addr.add_lit] at this
    exact run_v this
   ·cases h
  ·cases h
 ·split at h
  ·rename_i A hx
   obtain rfl:=Option.some.inj h
   simp only [execOp,ha.eval hx]; rfl
  ·cases h
 ·split at h
  ·rename_i x t _ u hx
   unfold lenRun at h
   have e1 : ∀ cs,(builtin .len #[t] ty cs #[u]).run P w = .ok (.value v) w → (execOp a.eval ⟨dst,.call { callee:=.builtin .len,args:=#[x],argTypes:=#[t] },ty,pos,after,g⟩).run P w = .ok (.value v) w:=by
    intro cs hcs
    simp only [execOp,resolve,List.map_toArray,List.map_cons,List.map_nil,ha.eval hx]
    exact hcs
   refine e1 #[] ?_
   refine run_v ?_
   unfold Builtin.len_
   simp only [List.getElem?_toArray,List.getElem?_cons_zero]
   split at h
   ·split at h
    ·rename_i el hd
     obtain rfl:=Option.some.inj h
     rw [Sem.run_bind,run_underlying hd]; rfl
    ·cases h
   ·split at h
    ·rename_i hd
     obtain rfl:=Option.some.inj h
     rw [Sem.run_bind,run_underlying hd]; rfl
    ·cases h
   ·cases h
  ·cases h
 ·cases h
theorem Nx.opr {op : Op} (hv : opRun C.P e op = some v) (hlt : Nat.blt d C.n = true) (h : Nx C ((d,v) :: e) I R K) : Nx C e I R (opK C.P ⟨some d,op,ty,pos,after,g⟩ K Q) :=
 Nx.op_run rfl hlt (fun _ w ha _ => opRun_sound hv ha w) h
def Rd (W : World) (I : PH) (R : List Res) (A : Addr) (v : Value) : Prop:=∀ w,St W I R w → w.cell? A = some v
def cellH (I : PH) (a : Addr) : Option Value :=
 match I a.block with
 | some (.cells c _ _) => if a.spot.isSome then none else c[a.off]?
 | _ => none
theorem cellH_cell {w : World} {I : PH} (h : ∀ i o,I i = some o → w.heap[i]? = some o) {a : Addr} {v : Value} (hc : cellH I a = some v) : w.cell? a = some v:=by
 unfold cellH at hc
 split at hc
 ·rename_i c t fz hb
  simp only [World.cell?,h _ _ hb]
  exact hc
 ·cases hc
theorem cellH_mono {I I' : PH} (h : PH.le I I') {a : Addr} {v : Value} (hc : cellH I a = some v) : cellH I' a = some v:=by
 unfold cellH at hc ⊢
 split at hc
 ·rename_i c t fz hb
  rw [h _ _ hb]
  exact hc
 ·cases hc
variable {W : World} {A : Addr}
theorem Rd.imm (hc : cellH I A = some v) : Rd W I R A v:=fun _ h => by
 obtain ⟨⟨m,_,hs⟩,_⟩:=h
 exact cellH_cell hs.imm hc
theorem Rd.own {r : Res} (hc : ∀ m,r m → cellH m A = some v) : Rd W I (r :: R) A v:=fun _ h => by
 obtain ⟨⟨m,⟨m1,m2,_,rfl,hr,_⟩,hs⟩,_⟩:=h
 exact cellH_cell (fun i o hi => hs.own i o (PH.le_or_left m1 m2 i o hi)) (hc m1 hr)
theorem Rd.tail {r : Res} (h : Rd W I R A v) : Rd W I (r :: R) A v:=fun w hw => h w (hw.ent (Ent.drop (Ent.refl R)))
theorem Rd.ent (hR : Ent R R') (h : Rd W I R' A v) : Rd W I R A v:=fun w hw => h w (hw.ent hR)
def Blk (b : Nat) (t : TypeId) (cs : List Value) : Res:=fun m => m b = some (.cells cs.toArray t (0,0))
theorem Rd.blk0 {b i : Nat} {cs : List Value} (hc : cs[i]? = some v) : Rd W I (Blk b t cs :: R) ⟨b,i,none⟩ v :=
 Rd.own fun m hm => by simp [cellH,show m b = _ from hm,hc]
theorem Rd.blk {b i : Nat} {cs : List Value} (hc : nthL cs i = some v) : Rd W I (Blk b t cs :: R) ⟨b,i,none⟩ v:=Rd.blk0 (nthL_eq.symm.trans hc)
theorem Rd.at_ (k : Nat) {b i : Nat} {cs : List Value} (hk : nthL R k = some (Blk b t cs)) (hc : nthL cs i = some v) : Rd W I R ⟨b,i,none⟩ v :=
 Rd.ent (Ent.pull k R _ (nthL_eq.symm.trans hk)) (Rd.blk hc)
def Rds (W : World) (I : PH) (R : List Res) (A : Addr) (vs : List Value) : Prop:=∀ j u,vs[j]? = some u → Rd W I R (A.add j) u
theorem Rds.tail {r : Res} {vs : List Value} (h : Rds W I R A vs) : Rds W I (r :: R) A vs:=fun j u hj => (h j u hj).tail
theorem Rds.blk {b i n : Nat} {cs vs : List Value} (hc : (cs.drop i).take n = vs) : Rds W I (Blk b t cs :: R) ⟨b,i,none⟩ vs:=fun j u hj => by
 rw [Addr.add_lit]
 subst hc
 refine Rd.blk0 ?_
 rw [List.getElem?_take] at hj
 split at hj
 ·rw [List.getElem?_drop] at hj; exact hj
 ·cases hj
theorem Rds.blk0 {b : Nat} {cs : List Value} : Rds W I (Blk b t cs :: R) ⟨b,0,none⟩ cs:=fun j u hj => by
 rw [Addr.add_lit,Nat.zero_add]
 exact Rd.blk0 hj
theorem Rds.at_ (k : Nat) {b : Nat} {cs : List Value} (hk : nthL R k = some (Blk b t cs)) : Rds W I R ⟨b,0,none⟩ cs:=fun j u hj =>
 Rd.ent (Ent.pull k R _ (nthL_eq.symm.trans hk)) (Rds.blk0 j u hj)
def cutL : List Value → Nat → Nat → Option (List Value)
 | _,0,0 => some []
 | [],_,_ => none
 | c :: r,0,n + 1 => match cutL r 0 n with
  | some l => some (c :: l)
  | none => none
 | _ :: r,i + 1,n => cutL r i n
theorem cutL_eq : ∀ {cs : List Value} {i n : Nat} {vs : List Value},cutL cs i n = some vs → (cs.drop i).take n = vs
 | [],0,0,vs,h => by simp [cutL] at h; simp [h]
 | [],0,n + 1,vs,h => by simp [cutL] at h
 | [],i + 1,n,vs,h => by simp [cutL] at h
 | c :: r,0,0,vs,h => by simp [cutL] at h; simp [h]
 | c :: r,0,n + 1,vs,h => by
  unfold cutL at h
  split at h
  ·rename_i l hl
   have:=cutL_eq hl
   simp only [List.drop_zero] at this
   have h:=Option.some.inj h
   simp only [List.drop_zero,List.take_succ_cons,this,h]
  ·cases h
 | c :: r,i + 1,n,vs,h => by
  unfold cutL at h
  rw [List.drop_succ_cons]
  exact cutL_eq h
theorem Rds.cut (k n : Nat) {b i : Nat} {cs vs : List Value} (hk : nthL R k = some (Blk b t cs)) (hc : cutL cs i n = some vs) : Rds W I R ⟨b,i,none⟩ vs:=fun j u hj =>
 Rd.ent (Ent.pull k R _ (nthL_eq.symm.trans hk)) (Rds.blk (cutL_eq hc) j u hj)
def plainT (P : Program) (t : TypeId) : Bool:=match P.underlying t with
 | some (.struct _) => false
 | some (.array _ _) => false
 | some _ => true
 | none => false
def aggT (P : Program) (t : TypeId) : Bool:=match P.underlying t with
 | some (.struct _) => true
 | some (.array _ _) => true
 | _ => false
theorem run_isAgg_plain {P : Program} (h : plainT P t = true) (w : World) : (isAgg t).run P w = .ok false w:=by
 unfold plainT at h
 split at h
 ·cases h
 ·cases h
 ·rename_i d h1 h2 hd
  unfold isAgg
  rw [Sem.run_bind,run_underlying hd,Result.andThen_ok]
  cases d <;> first | rfl | exact absurd rfl (h1 _) | exact absurd rfl (h2 _ _)
 ·cases h
theorem run_isAgg_agg {P : Program} (h : aggT P t = true) (w : World) : (isAgg t).run P w = .ok true w:=by
 unfold aggT at h
 split at h
 ·rename_i fs hd; unfold isAgg; rw [Sem.run_bind,run_underlying hd,Result.andThen_ok]; rfl
 ·rename_i n el hd; unfold isAgg; rw [Sem.run_bind,run_underlying hd,Result.andThen_ok]; rfl
 ·cases h
theorem run_loadVar_plain {P : Program} (h : plainT P t = true) {w : World} (hc : w.cell? A = some v) : (loadVar t A).run P w = .ok v w:=by
 unfold loadVar
 rw [Sem.run_bind,run_isAgg_plain h,Result.andThen_ok]
 simp only [Bool.false_eq_true,if_false]
 simp [load,Sem.run,hc]
theorem run_loadVar_agg {P : Program} {n : Nat} {vs : List Value} (h : aggT P t = true) (hn : cellsIn P t = some n) (hl : vs.length = n) {w : World} (hc : ∀ j u,vs[j]? = some u → w.cell? (A.add j) = some u) :
  (loadVar t A).run P w = .ok (.agg vs.toArray) w:=by
 unfold loadVar
 rw [Sem.run_bind,run_isAgg_agg h,Result.andThen_ok]
 simp only [if_true]
 rw [Sem.run_bind,cellsIn_run hn,Result.andThen_ok,Sem.run_bind,← hl,run_loadCells_list w A vs hc]
 rfl
theorem Nx.load (hx : evo e x = some (.pointer (some A))) (ht : plainT C.P t = true) (hlt : Nat.blt d C.n = true) (hr : Rd C.W I R A v)
  (h : Nx C ((d,v) :: e) I R K) : Nx C e I R (opK C.P ⟨some d,.load t x,ty,pos,after,g⟩ K Q) :=
 Nx.op_run rfl hlt (fun a w ha hw => by simp only [execOp,ha.eval hx]; exact run_v (run_loadVar_plain ht (hr w hw))) h
theorem Nx.loads {n : Nat} {vs : List Value} (hx : evo e x = some (.pointer (some A))) (ht : aggT C.P t = true) (hn : cellsIn C.P t = some n) (hlt : Nat.blt d C.n = true) (hr : Rds C.W I R A vs) (hl : vs.length = n)
  (h : Nx C ((d,.agg vs.toArray) :: e) I R K) : Nx C e I R (opK C.P ⟨some d,.load t x,ty,pos,after,g⟩ K Q) :=
 Nx.op_run rfl hlt (fun a w ha hw => by simp only [execOp,ha.eval hx]; exact run_v (run_loadVar_agg ht hn hl (fun j u hj => hr j u hj w hw))) h
theorem Sat.alloc {w : World} {I m : PH} (h : Sat w I m) (o : Obj) : Sat (w.alloc o) I ((PH.single w.heap.size o).or m):=by
 have hlt : ∀ {i : Nat} {o' : Obj},w.heap[i]? = some o' → i < w.heap.size:=fun {i o'} hi => (Array.getElem?_eq_some_iff.1 hi).1
 have hold : ∀ {i : Nat} {o' : Obj},w.heap[i]? = some o' → (w.alloc o).heap[i]? = some o':=fun {i o'} hi => (heap_alloc_old w o i (hlt hi)).trans hi
 refine ⟨fun i o' hi => hold (h.imm i o' hi),fun i o' hi => ?_,PH.dis_or.2 ⟨fun i => ?_,h.dis⟩⟩
 ·rcases PH.or_eq_some hi with h1 | ⟨_,h1⟩
  ·have h2 : (if i = w.heap.size then some o else none) = some o':=h1
   by_cases he : i = w.heap.size
   ·rw [if_pos he] at h2; subst he
    obtain rfl : o = o':=by simpa using h2
    exact heap_alloc_new w o
   ·rw [if_neg he] at h2; cases h2
  ·exact hold (h.own i o' h1)
 ·unfold PH.single
  by_cases he : i = w.heap.size
  ·left
   cases hi : I i with
   | none => rfl
   | some o' => have:=hlt (h.imm i o' hi); omega
  ·right; rw [if_neg he]
theorem St.alloc {w : World} (h : St W I R w) (o : Obj) : St W I ((fun m => m w.heap.size = some o) :: R) (w.alloc o):=by
 obtain ⟨⟨m,hm,hs⟩,hst⟩:=h
 refine ⟨⟨_,⟨_,m,?_,rfl,by simp [PH.single],hm⟩,hs.alloc o⟩,hst.os,hst.tape,hst.output,Nat.le_trans hst.size (by simp),hst.drawn⟩
 intro i
 unfold PH.single
 by_cases he : i = w.heap.size
 ·right
  cases hi : m i with
  | none => rfl
  | some o' => have:=(Array.getElem?_eq_some_iff.1 (hs.own i o' hi)).1; omega
 ·left; rw [if_neg he]
theorem Nx.op_new {o : Oper} {d : Nat} {v : Nat → Value} {ob : Obj} (hd : o.dst = some d) (hlt : Nat.blt d C.n = true)
  (hrun : ∀ a w,Mod C.n e a → St C.W I R w → (execOp a.eval o).run C.P w = .ok (.value (v w.heap.size)) (w.alloc ob))
  (h : ∀ b,Nx C ((d,v b) :: e) I ((fun m => m b = some ob) :: R) K) : Nx C e I R (opK C.P o K Q):=by
 intro a w ha hw
 unfold opK Oper.wp
 rw [hrun a w ha hw]
 show K (a.put o.dst (v w.heap.size)) (w.alloc ob)
 rw [hd]
 exact h _ _ _ (ha.put hlt _) (hw.alloc ob)
theorem Nx.box {cs : List Value} (hx : evo e x = some vx) (hc : vx.cells.toList = cs) (hlt : Nat.blt d C.n = true)
  (h : ∀ b,Nx C ((d,.pointer (some ⟨b,0,none⟩)) :: e) I (Blk b t cs :: R) K) : Nx C e I R (opK C.P ⟨some d,.box t x,ty,pos,after,g⟩ K Q) :=
 Nx.op_new (v:=fun b => .pointer (some ⟨b,0,none⟩)) (ob:=.cells cs.toArray t) rfl hlt (fun a w ha hw => by
  subst hc
  simp only [execOp,ha.eval hx]
  exact run_v rfl) h
theorem Nx.box_agg {cs : List Value} (hx : evo e x = some (.agg cs.toArray)) (hlt : Nat.blt d C.n = true)
  (h : ∀ b,Nx C ((d,.pointer (some ⟨b,0,none⟩)) :: e) I (Blk b t cs :: R) K) : Nx C e I R (opK C.P ⟨some d,.box t x,ty,pos,after,g⟩ K Q) :=
 Nx.box hx rfl hlt h
theorem Nx.box1 (hx : evo e x = some vx) (h1 : vx.cells = #[vx]) (hlt : Nat.blt d C.n = true)
  (h : ∀ b,Nx C ((d,.pointer (some ⟨b,0,none⟩)) :: e) I (Blk b t [vx] :: R) K) : Nx C e I R (opK C.P ⟨some d,.box t x,ty,pos,after,g⟩ K Q) :=
 Nx.box hx (by rw [h1]) hlt h
def cellsL : Value → List Value
 | .agg ⟨l⟩ => l
 | v => [v]
theorem cellsL_eq (v : Value) : v.cells.toList = cellsL v:=by cases v <;> rfl
def forceL : List Value → Option (List Value)
 | [] => some []
 | v :: r => match forceL r with
  | some r' => some (v :: r')
  | none => none
theorem forceL_eq : ∀ {l l' : List Value},forceL l = some l' → l' = l
 | [],l',h => by simp [forceL] at h; exact h
 | v :: r,l',h => by
  unfold forceL at h
  split at h
  ·rename_i r' hr
   simp at h
   rw [← h,forceL_eq hr]
  ·cases h
def zeroOf (P : Program) (t : TypeId) : Option (List Value):=match P.info? t with
 | some i => match i.zero with
  | some z => forceL (cellsL z)
  | none => none
 | none => none
theorem zeroOf_run {P : Program} {cs : List Value} (h : zeroOf P t = some cs) (w : World) : ∃ z : Value,z.cells = cs.toArray ∧ (zeroValue t).run P w = .ok z w:=by
 unfold zeroOf at h
 split at h
 ·rename_i i hi
  split at h
  ·rename_i z hz
   refine ⟨z,by rw [forceL_eq h,← cellsL_eq],by simp [zeroValue,typeInfo,hi,hz]⟩
  ·cases h
 ·cases h
theorem Nx.alloc {cs : List Value} (hz : zeroOf C.P t = some cs) (hlt : Nat.blt d C.n = true)
  (h : ∀ b,Nx C ((d,.pointer (some ⟨b,0,none⟩)) :: e) I (Blk b t cs :: R) K) : Nx C e I R (opK C.P ⟨some d,.alloc t,ty,pos,after,g⟩ K Q) :=
 Nx.op_new (v:=fun b => .pointer (some ⟨b,0,none⟩)) (ob:=.cells cs.toArray t) rfl hlt (fun a w ha hw => by
  obtain ⟨z,hzc,hrun⟩:=zeroOf_run hz w
  refine run_v ?_
  unfold Instr.alloc
  rw [Sem.run_bind,hrun,Result.andThen_ok]
  simp only [newVar,hzc]
  rfl) h
def setAtB : List Value → Nat → Value → Option (List Value)
 | [],_,_ => none
 | _ :: r,0,v => some (v :: r)
 | c :: r,i + 1,v => match setAtB r i v with
  | some r' => some (c :: r')
  | none => none
def setsAtB : List Value → Nat → List Value → Option (List Value)
 | cs,_,[] => some cs
 | cs,i,v :: vs => match setAtB cs i v with
  | none => none
  | some cs' => setsAtB cs' (i + 1) vs
def buildRun (P : Program) (t : TypeId) : List (Nat × Value) → List Value → Option (List Value)
 | [],cs => forceL cs
 | (k,v) :: r,cs => match fieldOff P t k with
  | none => none
  | some o => match setsAtB cs o (cellsL v) with
   | none => none
   | some cs' => buildRun P t r cs'
def buildV (P : Program) (t : TypeId) (parts : List (Nat × Value)) : Option (List Value):=match zeroOf P t with
 | none => none
 | some zs => buildRun P t parts zs
theorem Nx.build {parts : Array (Nat × Operand)} {vs cs : List Value} (hx : evs e (parts.toList.map (·.2)) = some vs)
  (hcs : buildV C.P t ((parts.toList.map (·.1)).zip vs) = some cs) (hv : pureRun C.P (Instr.build t (((parts.toList.map (·.1)).zip vs).toArray)) = some (.agg cs.toArray)) (hlt : Nat.blt d C.n = true)
  (h : Nx C ((d,.agg cs.toArray) :: e) I R K) : Nx C e I R (opK C.P ⟨some d,.build t parts,ty,pos,after,g⟩ K Q) :=
 have _:=hcs
 Nx.op_run rfl hlt (fun a w ha _ => by
  have e1 : (parts.map fun (i,x) => (i,a.eval x)) = ((parts.toList.map (·.1)).zip vs).toArray:=by
   rw [← ha.evals hx]
   apply Array.ext'
   simp only [Array.toList_map]
   induction parts.toList with
   | nil => rfl
   | cons p r ih => simp [ih]
  simp only [execOp,e1]
  exact run_v (run_of_pureRun hv w)) h
def litRun : List (Nat × Value) → Nat → Nat → Option (List Value)
 | [],_,_ => some []
 | (j,v) :: r,i,sz => match Nat.beq j i with
  | false => none
  | true => match Nat.beq (cellsL v).length sz with
   | false => none
   | true => match litRun r (i + 1) sz with
    | none => none
    | some cs => forceL (cellsL v ++ cs)
theorem foldl_set : ∀ (vs : List Value) (k : Nat) (pre : List Value) (mid post : List Value),mid.length = vs.length → pre.length = k →
  (vs.zipIdx 0).foldl (fun (cs : Array Value) (p : Value × Nat) => cs.setIfInBounds (k + p.2) p.1) (pre ++ mid ++ post).toArray = (pre ++ vs ++ post).toArray:=by
 have key : ∀ (vs : List Value) (n k : Nat) (pre mid post : List Value),mid.length = vs.length → pre.length = k + n →
   (vs.zipIdx n).foldl (fun (cs : Array Value) (p : Value × Nat) => cs.setIfInBounds (k + p.2) p.1) (pre ++ mid ++ post).toArray = (pre ++ vs ++ post).toArray:=by
  intro vs
  induction vs with
  | nil =>
   intro n k pre mid post hm _
   have : mid = []:=List.eq_nil_of_length_eq_zero (by simpa using hm)
   subst this
   simp
  | cons v vs ih =>
   intro n k pre mid post hm hp
   cases mid with
   | nil => simp at hm
   | cons m mid =>
    simp only [List.zipIdx_cons,List.foldl_cons]
    have hset : (pre ++ m :: mid ++ post).toArray.setIfInBounds (k + n) v = ((pre ++ [v]) ++ mid ++ post).toArray:=by
     apply Array.ext'
     simp only [Array.toList_setIfInBounds]
     rw [List.append_assoc,List.set_append]
     rw [if_neg (by omega)]
     have : k + n - pre.length = 0:=by omega
     rw [this]
     simp
    rw [hset,ih (n + 1) k (pre ++ [v]) mid post (by simpa using hm) (by simp; omega)]
    simp
 intro vs k pre mid post hm hp
 exact key vs 0 k pre mid post hm (by omega)
theorem litRun_fill : ∀ (parts : List (Nat × Value)) (i sz : Nat) (cs pre mid : List Value),litRun parts i sz = some cs → mid.length = parts.length * sz → pre.length = i * sz →
  Instr.fill (fun i => some (i * sz,sz)) (pre ++ mid).toArray parts = some (pre ++ cs).toArray
 | [],i,sz,cs,pre,mid,h,hm,_ => by
  simp [litRun] at h; subst h
  have : mid = []:=List.eq_nil_of_length_eq_zero (by simpa using hm)
  subst this
  rfl
 | (j,v) :: r,i,sz,cs,pre,mid,h,hm,hp => by
  unfold litRun at h
  split at h
  ·cases h
  ·rename_i hj
   split at h
   ·cases h
   ·rename_i hl
    split at h
    ·cases h
    ·rename_i cs' hcs
     have h:=forceL_eq h
     subst h
     obtain rfl:=Nat.eq_of_beq_eq_true hj
     have hl:=Nat.eq_of_beq_eq_true hl
     have hsz : v.cells.size = sz:=by rw [← hl,← cellsL_eq]; simp
     simp only [List.length_cons,Nat.add_mul,Nat.one_mul] at hm
     unfold Instr.fill
     simp only
     rw [if_neg (by simp [hsz]; omega)]
     have e1 : v.cells.zipIdx.foldl (fun cs p => cs.setIfInBounds (j * sz + p.2) p.1) (pre ++ mid).toArray = ((pre ++ cellsL v) ++ mid.drop sz).toArray:=by
      rw [← Array.foldl_toList,Array.toList_zipIdx,cellsL_eq]
      have:=foldl_set (cellsL v) (j * sz) pre (mid.take sz) (mid.drop sz) (by simp; omega) hp
      rw [List.append_assoc,List.take_append_drop] at this
      exact this
     have e2 : (v.cells.zipIdx.foldl (fun cs (x : Value × Nat) => match x with | (c,j_1) => cs.setIfInBounds (j * sz + j_1) c) (pre ++ mid).toArray) = ((pre ++ cellsL v) ++ mid.drop sz).toArray:=e1
     rw [e2,litRun_fill r (j + 1) sz cs' (pre ++ cellsL v) (mid.drop sz) hcs (by simp; omega) (by simp [hp,hl,Nat.add_mul])]
     simp
theorem Nx.buildSlice {el : TypeId} {len sz : Nat} {parts : Array (Nat × Operand)} {vs cs zs : List Value} (hx : evs e (parts.toList.map (·.2)) = some vs) (ht : C.P.underlying t = some (.slice el)) (hsz : cellsIn C.P el = some sz)
  (hv : litRun ((parts.toList.map (·.1)).zip vs) 0 sz = some cs) (hcnt : Nat.beq vs.length len = true) (hz : zeroOf C.P el = some zs) (hsm : Nat.ble (len * sz) 16777216 = true) (hpos : Nat.beq (len * sz) 0 = false) (hlt : Nat.blt d C.n = true)
  (h : ∀ b,Nx C ((d,.slice (some ⟨b,0,none⟩) len len) :: e) I (Blk b el cs :: R) K) : Nx C e I R (opK C.P ⟨some d,.buildSlice t len parts,ty,pos,after,g⟩ K Q) :=
 Nx.op_new (v:=fun b => .slice (some ⟨b,0,none⟩) len len) (ob:=.cells cs.toArray el) rfl hlt (fun a w ha hw => by
  have hlen : vs.length = len:=Nat.eq_of_beq_eq_true hcnt
  have e1 : (parts.map fun (i,x) => (i,a.eval x)).toList = (parts.toList.map (·.1)).zip vs:=by
   rw [← ha.evals hx]
   simp only [Array.toList_map]
   induction parts.toList with
   | nil => rfl
   | cons p r ih => simp [ih]
  have hpl : ((parts.toList.map (·.1)).zip vs).length = len:=by
   have : (parts.toList.map (·.2)).length = vs.length:=by rw [← ha.evals hx]; simp
   simp at this
   simp [← hlen]; omega
  simp only [execOp]
  refine run_v ?_
  have hle : ¬ len * sz > 2 ^ 24:=by have:=Nat.le_of_ble_eq_true hsm; omega
  have hne : ¬ len * sz = 0:=Nat.ne_of_beq_eq_false hpos
  obtain ⟨z,hzc,hzrun⟩:=zeroOf_run hz w
  have hf:=litRun_fill _ 0 sz cs [] ((Array.range (len * sz)).map (z.cells[· % z.cells.size]!)).toList hv (by simp [hpl]) (by simp)
  simp only [List.nil_append,Array.toArray_toList] at hf
  unfold Instr.buildSlice
  rw [Sem.run_bind,run_underlying ht,Result.andThen_ok]
  simp only
  rw [Sem.run_bind,cellsIn_run hsz,Result.andThen_ok,if_neg hle,if_neg hne]
  simp only [Sem.run_bind,Sem.run_pure,Result.andThen_ok,hzrun,e1,hf]
  rfl) h
theorem Nx.buildSlice0 {el : TypeId} {sz : Nat} (ht : C.P.underlying t = some (.slice el)) (hsz : cellsIn C.P el = some sz) (hlt : Nat.blt d C.n = true)
  (h : ∀ b,Nx C ((d,.slice (some ⟨b,0,none⟩) 0 0) :: e) I (Blk b el [] :: R) K) : Nx C e I R (opK C.P ⟨some d,.buildSlice t 0 #[],ty,pos,after,g⟩ K Q) :=
 Nx.op_new (v:=fun b => .slice (some ⟨b,0,none⟩) 0 0) (ob:=.cells #[] el) rfl hlt (fun a w ha hw => by
  simp only [execOp]
  refine run_v ?_
  unfold Instr.buildSlice
  rw [Sem.run_bind,run_underlying ht,Result.andThen_ok]
  have hz : (sizeOf el).run C.P w = .ok sz w:=cellsIn_run hsz w
  have hr : (Array.map (fun _ => (default : Value)) (Array.range 0)) = #[]:=by simp [Array.range]
  have hf : Instr.fill (fun i => some (i * sz,sz)) (#[] : Array Value) [] = some #[]:=rfl
  simp [hz,hr,hf]
  rfl) h
end
end Go.Eng
namespace Go.Eng
def FnSpec (P : Program) (f : FuncId) (args : List Value) (I : PH) (Rpre : List Res) (Post : Value → List Res → Prop) : Prop :=
 ∀ (w : World) (F : Res),St w I (Rpre ++ [F]) w → Calls P f args.toArray w fun e w' => ∃ v R',e = .returned v ∧ Post v R' ∧ St w I (R' ++ [F]) w'
def fnPost (P : Program) (fn : Func) (I : PH) (F : Res) (W : World) (Post : Value → List Res → Prop) : Exit → Act → World → Prop :=
 bodyPost P fn fun e w' => ∃ v R',e = .returned v ∧ Post v R' ∧ St W I (R' ++ [F]) w'
def argEnv : List Value → Nat → Env
 | [],_ => []
 | v :: r,i => (i,v) :: argEnv r (i + 1)
theorem argEnv_lk : ∀ (l : List Value) (i t : Nat) (v : Value),lk (argEnv l i) t = some v → i ≤ t ∧ l[t - i]? = some v
 | [],i,t,v,h => by simp [argEnv,lk] at h
 | u :: r,i,t,v,h => by
  unfold argEnv lk at h
  split at h
  ·rename_i he
   have he : i = t:=Nat.eq_of_beq_eq_true he
   simp at h
   subst he; subst h
   simp
  ·rename_i he
   have he : i ≠ t:=Nat.ne_of_beq_eq_false he
   obtain ⟨h1,h2⟩:=argEnv_lk r (i + 1) t v h
   refine ⟨by omega,?_⟩
   rw [show t - i = (t - (i + 1)) + 1 by omega]
   simpa using h2
theorem FnSpec.enter {P : Program} {f : FuncId} {fn : Func} {c : Code} {args : List Value} {I : PH} {Rpre : List Res} {Post : Value → List Res → Prop} {n : Nat}
  (hf : P.funcs[f]? = some fn) (hb : fn.body = some c) (hn : fn.ntmps = n) (hle : Nat.ble args.length n = true)
  (h : ∀ w F,Nx ⟨P,n,w⟩ (argEnv args 0) I (Rpre ++ [F]) (c.wp P (fnPost P fn I F w Post))) : FnSpec P f args I Rpre Post:=by
 intro w F hw
 have hle:=Nat.le_of_ble_eq_true hle
 refine calls_of_wp hf hb (h w F _ w ⟨?_,rfl,fun t v ht => ?_⟩ hw)
 ·simp [hn]; omega
 ·obtain ⟨_,h2⟩:=argEnv_lk args 0 t v ht
  have hlt : t < args.length:=by
   rcases Nat.lt_or_ge t args.length with h' | h'
   ·exact h'
   ·rw [Nat.sub_zero,List.getElem?_eq_none h'] at h2; cases h2
  rw [Array.getElem?_append_left (by simpa using hlt)]
  simpa using h2
theorem FnSpec.mono {P : Program} {f : FuncId} {args : List Value} {I : PH} {Rpre : List Res} {Post Post' : Value → List Res → Prop} (h : FnSpec P f args I Rpre Post) (hp : ∀ v R',Post v R' → Post' v R') : FnSpec P f args I Rpre Post' :=
 fun w F hw => (h w F hw).mono fun _ _ ⟨v,R',he,hv,hs⟩ => ⟨v,R',he,hp v R' hv,hs⟩
def callable (P : Program) (f : FuncId) : Bool:=match P.funcs[f]? with
 | some fn => !(fn.name == "runtime.NumGoroutine") && fn.body.isSome
 | none => false
theorem run_callFunc {P : Program} {f : FuncId} (h : callable P f = true) (args : Array Value) (w : World) : (callFunc f args).run P w = .ok (.enter f args) w:=by
 unfold callable at h
 split at h
 ·rename_i fn hfn
  simp only [Bool.and_eq_true,Bool.not_eq_true'] at h
  have hb : fn.body.isNone = false:=by
   cases hb : fn.body with
   | none => rw [hb] at h; cases h.2
   | some c => rfl
  unfold callFunc
  simp only [program,bind,Sem.bind,Sem.run,hfn,h.1,hb,Bool.false_eq_true,if_false]
  rfl
 ·cases h
section
variable {C : Cx} {e e' : Env} {I : PH} {R R' : List Res} {K K' : Act → World → Prop} {Q : Exit → Act → World → Prop}
variable {d : Nat} {ty t u : TypeId} {pos : String} {after : Array Edge} {g : Option (Nat × Bool)} {x y z : Operand} {v vx vy vz : Value}
theorem run_call {P : Program} {ρ : Operand → Value} {o : Oper} {fx : Operand} {args : Array Operand} {tys : Array TypeId} {f : FuncId} {c1 c2 : Array Value} {vs al : List Value} {w : World}
  (ho : o.op = .call { callee:=.value fx,args,argTypes:=tys }) (hfx : ρ fx = .func (.func f) c1 c2) (hvs : args.toList.map ρ = vs) (hal : c1.toList ++ vs ++ c2.toList = al) (hc : callable P f = true) :
  (execOp ρ o).run P w = .ok (.enter f al.toArray) w:=by
 have e1 : c1 ++ args.map ρ ++ c2 = al.toArray:=by
  rw [← hal,← hvs]
  apply Array.ext'
  simp
 unfold execOp
 simp only [ho,resolve,hfx,Deferred.ofValue]
 rw [Sem.run_bind]
 show Sem.run P (callFunc f (c1 ++ args.map ρ ++ c2)) w = _
 rw [e1]
 exact run_callFunc hc _ w
theorem St.split {W : World} {A B : List Res} {w : World} (h : St W I (A ++ B) w) : St w I (A ++ [Stars B]) w:=by
 obtain ⟨⟨m,hm,hs⟩,_⟩:=h.ent (Ent.foldAt A B)
 exact ⟨⟨m,hm,hs⟩,Still.refl w⟩
theorem St.unsplit {W w0 : World} {A B : List Res} {w : World} (h0 : Still W w0) (h : St w0 I (A ++ [Stars B]) w) : St W I (A ++ B) w:=by
 obtain ⟨hm,hs⟩:=h.ent (Ent.unfoldAt A B)
 exact ⟨hm,h0.trans hs⟩
theorem Nx.call {fx : Operand} {args : Array Operand} {tys : Array TypeId} {f : FuncId} {c1 c2 : Array Value} {vs al : List Value} {Rpre Rrest : List Res} {Post : Value → List Res → Prop}
  (hfx : evo e fx = some (.func (.func f) c1 c2)) (hvs : evs e args.toList = some vs) (hal : c1.toList ++ vs ++ c2.toList = al) (hc : callable C.P f = true) (hlt : Nat.blt d C.n = true)
  (hs : FnSpec C.P f al I Rpre Post) (hR : Ent R (Rpre ++ Rrest))
  (h : ∀ v R',Post v R' → Nx C ((d,v) :: e) I (R' ++ Rrest) K) : Nx C e I R (opK C.P ⟨some d,.call { callee:=.value fx,args,argTypes:=tys },ty,pos,after,g⟩ K Q):=by
 intro a w ha hw
 unfold opK Oper.wp
 rw [run_call rfl (ha.eval hfx) (ha.evals hvs) hal hc]
 refine Calls.mono (hs w (Stars Rrest) (hw.ent hR).split) ?_
 rintro en w' ⟨v,R',rfl,hv,hst⟩
 exact h v R' hv _ w' (ha.put hlt v) (hst.unsplit hw.still)
theorem St.lend {W : World} {B A : List Res} {w : World} (h : St W I (B ++ A) w) : ∃ m,PH.dis I m ∧ Stars B m ∧ St W (I.or m) A w ∧
  ∀ {w' : World} {A' : List Res},St W (I.or m) A' w' → St W I (B ++ A') w':=by
 obtain ⟨⟨m,hm,hs⟩,hst⟩:=h
 obtain ⟨m1,m2,hd,rfl,h1,h2⟩:=Stars.append hm
 have hd':=PH.dis_or.1 hs.dis
 refine ⟨m1,hd'.1,h1,⟨⟨m2,h2,⟨fun i o hi => ?_,fun i o hi => hs.own i o (PH.le_or_right hd i o hi),?_⟩⟩,hst⟩,?_⟩
 ·rcases PH.or_eq_some hi with hi | ⟨_,hi⟩
  ·exact hs.imm i o hi
  ·exact hs.own i o (PH.le_or_left _ _ i o hi)
 ·exact (PH.dis_or.2 ⟨hd'.2.symm,hd.symm⟩).symm
 ·rintro w' A' ⟨⟨m',hm',hs'⟩,hst'⟩
  have hda:=PH.dis_or.1 hs'.dis.symm
  obtain ⟨k,hk,hkS⟩:=Stars.join hda.2.symm h1 hm'
  refine ⟨⟨k,hkS,⟨fun i o hi => hs'.imm i o (PH.le_or_left _ _ i o hi),fun i o hi => ?_,?_⟩⟩,hst'⟩
  ·rcases PH.or_eq_some (hk i o hi) with hi' | ⟨_,hi'⟩
   ·exact hs'.imm i o (PH.le_or_right hd'.1 i o hi')
   ·exact hs'.own i o hi'
  ·exact dis_sub (PH.dis_or.2 ⟨hd'.1,hda.1.symm⟩) (PH.le_refl _) hk
theorem Nx.call_lend {fx : Operand} {args : Array Operand} {tys : Array TypeId} {f : FuncId} {c1 c2 : Array Value} {vs al : List Value} {B Rpre Rrest : List Res} {Post : Value → List Res → Prop}
  (hfx : evo e fx = some (.func (.func f) c1 c2)) (hvs : evs e args.toList = some vs) (hal : c1.toList ++ vs ++ c2.toList = al) (hc : callable C.P f = true) (hlt : Nat.blt d C.n = true)
  (hs : ∀ m,PH.dis I m → Stars B m → FnSpec C.P f al (I.or m) Rpre Post) (hR : Ent R (B ++ (Rpre ++ Rrest)))
  (h : ∀ v R',Post v R' → Nx C ((d,v) :: e) I (B ++ (R' ++ Rrest)) K) : Nx C e I R (opK C.P ⟨some d,.call { callee:=.value fx,args,argTypes:=tys },ty,pos,after,g⟩ K Q):=by
 intro a w ha hw
 unfold opK Oper.wp
 rw [run_call rfl (ha.eval hfx) (ha.evals hvs) hal hc]
 obtain ⟨m,hd,hB,hl,hback⟩:=(hw.ent hR).lend
 refine Calls.mono (hs m hd hB w (Stars Rrest) hl.split) ?_
 rintro en w' ⟨v,R',rfl,hv,hst⟩
 exact h v R' hv _ w' (ha.put hlt v) (hback (hst.unsplit hw.still))
theorem Nx.freeze {B : List Res} (hR : Ent R (B ++ R')) (h : ∀ m,PH.dis I m → Stars B m → Nx C e (I.or m) R' K) : Nx C e I R K:=by
 intro a w ha hw
 obtain ⟨m,hd,hB,hl,_⟩:=(hw.ent hR).lend
 exact h m hd hB a w ha hl
def resV (e : Env) : List ResultVar → Option Value
 | [] => some (.tuple #[])
 | [.tmp t] => lk e t
 | [.tmp t,.tmp u] => match lk e t,lk e u with
  | some a,some b => some (.tuple #[a,b])
  | _,_ => none
 | [.tmp t,.tmp u,.tmp x] => match lk e t,lk e u,lk e x with
  | some a,some b,some c => some (.tuple #[a,b,c])
  | _,_,_ => none
 | [.tmp t,.tmp u,.tmp x,.tmp y] => match lk e t,lk e u,lk e x,lk e y with
  | some a,some b,some c,some d => some (.tuple #[a,b,c,d])
  | _,_,_,_ => none
 | _ => none
theorem resV_run {n : Nat} {a : Act} (ha : Mod n e a) {P : Program} {w : World} {fn : Func} {v : Value} (h : resV e fn.results.toList = some v) : (results fn a.tmps).run P w = .ok v w:=by
 have hd : ∀ {t : Nat} {u : Value},lk e t = some u → a.tmps[t]?.getD undef = u:=fun {t u} ht => by simp [ha.get t u ht]
 generalize hl : fn.results.toList = l at h
 have hr : fn.results = l.toArray:=by rw [← hl]
 unfold resV at h
 split at h
 ·simp at h; subst h; simp [results,hr]
 ·rename_i t; simp [results,hr,hd h]
 ·rename_i t u
  split at h
  ·rename_i v1 v2 h1 h2; simp at h; subst h; simp [results,hr,hd h1,hd h2]
  ·cases h
 ·rename_i t u x
  split at h
  ·rename_i v1 v2 v3 h1 h2 h3; simp at h; subst h; simp [results,hr,hd h1,hd h2,hd h3]
  ·cases h
 ·rename_i t u x y
  split at h
  ·rename_i v1 v2 v3 v4 h1 h2 h3 h4; simp at h; subst h; simp [results,hr,hd h1,hd h2,hd h3,hd h4]
  ·cases h
 ·cases h
theorem Nx.ret_fn {fn : Func} {F : Res} {Post : Value → List Res → Prop} (hv : resV e fn.results.toList = some v) (R' : List Res) (hp : Post v R') (hR : Ent R (R' ++ [F])) : Nx C e I R (fnPost C.P fn I F C.W Post .ret) :=
 fun _ _ ha hw => ⟨ha.defers,v,resV_run ha hv,v,R',rfl,hp,hw.ent hR⟩
theorem Nx.end_fn {fn : Func} {F : Res} {Post : Value → List Res → Prop} (hv : resV e fn.results.toList = some v) (R' : List Res) (hp : Post v R') (hR : Ent R (R' ++ [F])) : Nx C e I R (fnPost C.P fn I F C.W Post .normal) :=
 fun _ _ ha hw => ⟨ha.defers,v,resV_run ha hv,v,R',rfl,hp,hw.ent hR⟩
theorem resC_run {n nc t0 b : Nat} {ty : TypeId} {cs : List Value} {a : Act} (ha : Mod n e a) {P : Program} {w : World} {fn : Func} (hres : fn.results.toList = [.cell t0 ty]) (hx : lk e t0 = some (.pointer (some ⟨b,0,none⟩)))
  (ht : aggT P ty = true) (hn : cellsIn P ty = some nc) (hl : cs.length = nc) (hc : ∀ j u,cs[j]? = some u → w.cell? ((⟨b,0,none⟩ : Addr).add j) = some u) : (results fn a.tmps).run P w = .ok (.agg cs.toArray) w:=by
 have hr : fn.results = #[.cell t0 ty]:=by
  have : fn.results = [ResultVar.cell t0 ty].toArray:=by rw [← hres]
  simpa using this
 have hd : a.tmps[t0]?.getD undef = .pointer (some ⟨b,0,none⟩):=by simp [ha.get t0 _ hx]
 have hload:=run_loadVar_agg (A:=⟨b,0,none⟩) ht hn hl hc
 simp [results,hr,hd,asAddr,hload]
theorem Nx.ret_cell (k : Nat) {fn : Func} {F : Res} {Post : Value → List Res → Prop} {nc t0 b : Nat} {ty tb : TypeId} {cs : List Value} (hres : fn.results.toList = [.cell t0 ty]) (hx : lk e t0 = some (.pointer (some ⟨b,0,none⟩)))
  (ht : aggT C.P ty = true) (hn : cellsIn C.P ty = some nc) (hl : cs.length = nc) (hk : nthL R k = some (Blk b tb cs)) (R' : List Res) (hp : Post (.agg cs.toArray) R') (hR : Ent R (R' ++ [F])) : Nx C e I R (fnPost C.P fn I F C.W Post .ret) :=
 fun _ w ha hw => ⟨ha.defers,_,resC_run ha hres hx ht hn hl (fun j u hj => (Rds.at_ k hk : Rds C.W I R ⟨b,0,none⟩ cs) j u hj w hw),_,R',rfl,hp,hw.ent hR⟩
def Wr (P : Program) (W : World) (I : PH) (R : List Res) (A : Addr) (vs : List Value) (R' : List Res) : Prop :=
 ∀ w,St W I R w → ∃ w',(storeCells A vs).run P w = .ok () w' ∧ St W I R' w'
theorem St.upd {W w w' : World} {r r' : Res} {b : Nat} {o : Obj} (h : St W I (r :: R) w) (hr : ∀ m,r m → (m b).isSome = true ∧ r' (fun i => if i = b then some o else m i))
  (hb : w'.heap[b]? = some o) (hne : ∀ i,i ≠ b → ∀ o',w.heap[i]? = some o' → w'.heap[i]? = some o') (hst : Still w w') : St W I (r' :: R) w':=by
 obtain ⟨⟨m,⟨m1,m2,hd,rfl,h1,h2⟩,hs⟩,hst0⟩:=h
 obtain ⟨hsome,hr'⟩:=hr m1 h1
 have hIb : I b = none:=by
  rcases hs.dis b with e | e
  ·exact e
  ·rw [(PH.or_eq_none.1 e).1] at hsome; cases hsome
 have h2b : m2 b = none:=by
  rcases hd b with e | e
  ·rw [e] at hsome; cases hsome
  ·exact e
 refine ⟨⟨_,⟨_,m2,?_,rfl,hr',h2⟩,⟨fun i o' hi => ?_,fun i o' hi => ?_,fun i => ?_⟩⟩,hst0.trans hst⟩
 ·intro i
  by_cases hi : i = b
  ·subst hi; exact .inr h2b
  ·simp only [hi,if_false]; exact hd i
 ·by_cases hib : i = b
  ·subst hib; rw [hIb] at hi; cases hi
  ·exact hne i hib o' (hs.imm i o' hi)
 ·by_cases hib : i = b
  ·subst hib
   rcases PH.or_eq_some hi with hi | ⟨hi,_⟩
   ·simp at hi; subst hi; exact hb
   ·simp at hi
  ·refine hne i hib o' (hs.own i o' ?_)
   rcases PH.or_eq_some hi with hi | ⟨hi,hi'⟩
   ·simp only [hib,if_false] at hi; exact PH.le_or_left _ _ i o' hi
   ·exact PH.le_or_right hd i o' hi'
 ·by_cases hib : i = b
  ·subst hib; exact .inl hIb
  ·rcases hs.dis i with e | e
   ·exact .inl e
   ·right
    have:=PH.or_eq_none.1 e
    exact PH.or_eq_none.2 ⟨by simp only [hib,if_false]; exact this.1,this.2⟩
def setAt : List Value → Nat → Value → Option (List Value)
 | [],_,_ => none
 | _ :: r,0,v => some (v :: r)
 | c :: r,i + 1,v => match setAt r i v with
  | some r' => some (c :: r')
  | none => none
theorem setAt_eq : ∀ {l l' : List Value} {i : Nat} {v : Value},setAt l i v = some l' → i < l.length ∧ l' = l.set i v
 | [],l',i,v,h => by simp [setAt] at h
 | c :: r,l',0,v,h => by simp [setAt] at h; simp [h]
 | c :: r,l',i + 1,v,h => by
  unfold setAt at h
  split at h
  ·rename_i r' hr
   obtain ⟨h1,h2⟩:=setAt_eq hr
   simp at h
   subst h; subst h2
   simp; omega
  ·cases h
def setsAt : List Value → Nat → List Value → Option (List Value)
 | cs,_,[] => some cs
 | cs,i,v :: vs => match setAt cs i v with
  | none => none
  | some cs' => setsAt cs' (i + 1) vs
theorem run_store1 {P : Program} {w : World} {b i : Nat} {t : TypeId} {cs : Array Value} {v : Value} (hb : w.heap[b]? = some (.cells cs t (0,0))) (hi : i < cs.size) (h1 : v.oneCell' = true) :
  (store ⟨b,i,none⟩ v).run P w = .ok () (w.setCell ⟨b,i,none⟩ v):=by
 rw [run_store P w _ v _ h1]
 have hc : w.cell? ⟨b,i,none⟩ = some cs[i]:=by rw [cell_of_row w b i cs t (0,0) hb]; exact Array.getElem?_eq_getElem hi
 simp [hc,frozen_of_row w b i cs t hb]
theorem storeCells_from {P : Program} {b : Nat} {t : TypeId} : ∀ (vs cs cs' : List Value) (i j : Nat) (w : World),w.heap[b]? = some (.cells cs.toArray t (0,0)) → setsAt cs (i + j) vs = some cs' → (∀ v ∈ vs,v.oneCell' = true) →
  ∃ w',(storeCells ⟨b,i,none⟩ vs j).run P w = .ok () w' ∧ w'.heap[b]? = some (.cells cs'.toArray t (0,0)) ∧ (∀ k,k ≠ b → w'.heap[k]? = w.heap[k]?) ∧ Still w w'
 | [],cs,cs',i,j,w,hb,hs,_ => by simp [setsAt] at hs; subst hs; exact ⟨w,rfl,hb,fun _ _ => rfl,Still.refl w⟩
 | v :: vs,cs,cs',i,j,w,hb,hs,h1 => by
  unfold setsAt at hs
  split at hs
  ·cases hs
  ·rename_i cs1 hcs1
   obtain ⟨hlt,he⟩:=setAt_eq hcs1
   have hrun:=run_store1 (P:=P) hb (i:=i + j) (by simpa using hlt) (h1 v (by simp))
   have hb1 : (w.setCell ⟨b,i + j,none⟩ v).heap[b]? = some (.cells cs1.toArray t (0,0)):=by
    rw [heap_setCell_same w b (i + j) cs.toArray t v hb,he]
    simp
   obtain ⟨w',hr,hb',hk,hst⟩:=storeCells_from (P:=P) vs cs1 cs' i (j + 1) _ hb1 hs (fun u hu => h1 u (by simp [hu]))
   refine ⟨w',?_,hb',fun k hne => (hk k hne).trans (heap_setCell_other w _ k v hne),Still.trans (b:=w.setCell ⟨b,i + j,none⟩ v) ⟨rfl,rfl,rfl,by simp,nLr _⟩ hst⟩
   unfold storeCells
   rw [Sem.run_bind,Addr.add_lit,hrun,Result.andThen_ok]
   exact hr
theorem Wr.blk {P : Program} {W : World} {b i : Nat} {cs vs cs' : List Value} (hs : setsAt cs i vs = some cs') (h1 : ∀ v ∈ vs,v.oneCell' = true) : Wr P W I (Blk b t cs :: R) ⟨b,i,none⟩ vs (Blk b t cs' :: R):=by
 intro w hw
 obtain ⟨⟨m,⟨m1,m2,hd,rfl,hb,h2⟩,hsat⟩,hst⟩:=id hw
 have hb0 : w.heap[b]? = some (.cells cs.toArray t (0,0)):=hsat.own _ _ (PH.le_or_left _ _ _ _ hb)
 obtain ⟨w',hr,hb',hk,hst'⟩:=storeCells_from (P:=P) vs cs cs' i 0 w hb0 hs h1
 exact ⟨w',hr,hw.upd (o:=.cells cs'.toArray t (0,0)) (b:=b) (fun m hm => ⟨by rw [show m b = _ from hm]; rfl,by simp [Blk]⟩) hb' (fun k hne o' ho => (hk k hne).trans ho) hst'⟩
theorem Nx.store {n : Nat} {A : Addr} {vs : List Value} (hx : evo e x = some (.pointer (some A))) (hy : evo e y = some vy) (hc : vy.cells.toList = vs) (hn : cellsIn C.P t = some n) (hl : Nat.beq vs.length n = true)
  (hw : Wr C.P C.W I R A vs R') (h : Nx C e I R' K) : Nx C e I R (opK C.P ⟨none,.store t x y,ty,pos,after,g⟩ K Q):=by
 intro a w ha hst
 obtain ⟨w',hr,hst'⟩:=hw w hst
 have hlen : vs.length = n:=Nat.eq_of_beq_eq_true hl
 unfold opK Oper.wp
 have hrun : (execOp a.eval ⟨none,.store t x y,ty,pos,after,g⟩).run C.P w = .ok .skip w':=by
  simp only [execOp,ha.eval hx,ha.eval hy]
  rw [Sem.run_bind]
  unfold Instr.storeAt storeVar
  simp only [Instr.sureAddr]
  rw [Sem.run_bind,Sem.run_pure,Result.andThen_ok,Sem.run_bind,cellsIn_run hn,Result.andThen_ok]
  have hsz : vy.cells.size = n:=by rw [← hlen,← hc]; simp
  rw [if_neg (by simp [hsz]),hc,hr]
  rfl
 rw [hrun]
 exact h _ w' ha hst'
theorem Nx.store_blk (k : Nat) {n b i : Nat} {t0 : TypeId} {cs cs' : List Value} (hx : evo e x = some (.pointer (some ⟨b,i,none⟩))) (hy : evo e y = some vy) (hk : nthL R k = some (Blk b t0 cs)) (hs : setsAt cs i (cellsL vy) = some cs')
  (h1 : (cellsL vy).all Value.oneCell' = true) (hn : cellsIn C.P t = some n) (hl : Nat.beq (cellsL vy).length n = true) (h : Nx C e I (Blk b t0 cs' :: R.eraseIdx k) K) : Nx C e I R (opK C.P ⟨none,.store t x y,ty,pos,after,g⟩ K Q) :=
 Nx.ent (Ent.pull k R _ (nthL_eq.symm.trans hk)) (Nx.store hx hy (cellsL_eq vy) hn hl (Wr.blk hs (fun u hu => List.all_eq_true.1 h1 u hu)) h)
end
end Go.Eng
namespace Go.Eng
section
variable {C : Cx} {e e' : Env} {I : PH} {R R' : List Res} {K K' : Act → World → Prop} {Q : Exit → Act → World → Prop} {W : World}
variable {d : Nat} {ty t u el : TypeId} {pos : String} {after : Array Edge} {g : Option (Nat × Bool)} {x y z : Operand} {v vx vy vz : Value}
variable {A B : Option Addr} {n c : Nat}
def ad (A : Option Addr) : Addr:=A.getD ⟨0,0,none⟩
theorem ad_some (a : Addr) : ad (some a) = a:=rfl
theorem run_builtin {P : Program} {ρ : Operand → Value} {b : Builtin} {args : Array Operand} {tys : Array TypeId} {vs : List Value} {w : World} {dst : Option Tmp}
  (hvs : args.toList.map ρ = vs) : ∃ cs,(execOp ρ ⟨dst,.call { callee:=.builtin b,args,argTypes:=tys },ty,pos,after,g⟩).run P w = (builtin b tys ty cs vs.toArray).run P w:=by
 have e1 : args.map ρ = vs.toArray:=by rw [← hvs]; exact Array.ext' (by rw [Array.toList_map])
 unfold execOp
 simp only [resolve,e1]
 exact ⟨_,rfl⟩
theorem Nx.len_str {tys : Array TypeId} {s : ByteArray} (hx : evo e x = some (.string s)) (hty : tys = #[t]) (ht : C.P.underlying t = some .string) (hlt : Nat.blt d C.n = true)
  (h : Nx C ((d,.int .i64 s.size) :: e) I R K) : Nx C e I R (opK C.P ⟨some d,.call { callee:=.builtin .len,args:=#[x],argTypes:=tys },ty,pos,after,g⟩ K Q) :=
 Nx.op_run rfl hlt (fun a w ha _ => by
  subst hty
  obtain ⟨cs,hcs⟩:=run_builtin (P:=C.P) (w:=w) (ρ:=a.eval) (b:=.len) (args:=#[x]) (dst:=some d) (ty:=ty) (pos:=pos) (after:=after) (g:=g) (tys:=#[t]) (show [x].map a.eval = [Value.string s] from by simp only [List.map_cons,List.map_nil,ha.eval hx])
  rw [hcs]
  refine run_v ?_
  unfold Builtin.len_
  simp only [List.getElem?_toArray,List.getElem?_cons_zero]
  rw [Sem.run_bind,run_underlying ht]
  rfl) h
theorem Nx.min2 {tys : Array TypeId} {k k' : IntKind} {p q : Int} (hx : evo e x = some (.int k p)) (hy : evo e y = some (.int k' q)) (hlt : Nat.blt d C.n = true)
  (h : Nx C ((d,.int k (min p q)) :: e) I R K) : Nx C e I R (opK C.P ⟨some d,.call { callee:=.builtin .min,args:=#[x,y],argTypes:=tys },ty,pos,after,g⟩ K Q) :=
 Nx.op_run rfl hlt (fun a w ha _ => by
  obtain ⟨cs,hcs⟩:=run_builtin (P:=C.P) (w:=w) (ρ:=a.eval) (b:=.min) (args:=#[x,y]) (dst:=some d) (ty:=ty) (pos:=pos) (after:=after) (g:=g) (tys:=tys) (show [x,y].map a.eval = [Value.int k p,Value.int k' q] from by simp only [List.map_cons,List.map_nil,ha.eval hx,ha.eval hy])
  rw [hcs]
  refine run_v ?_
  show Result.ok (Value.int k (if q < p then q else p)) w = _
  have : (if q < p then q else p) = min p q:=by rw [Int.min_def]; split <;> split <;> omega
  rw [this]) h
theorem Nx.max2 {tys : Array TypeId} {k k' : IntKind} {p q : Int} (hx : evo e x = some (.int k p)) (hy : evo e y = some (.int k' q)) (hlt : Nat.blt d C.n = true)
  (h : Nx C ((d,.int k (max p q)) :: e) I R K) : Nx C e I R (opK C.P ⟨some d,.call { callee:=.builtin .max,args:=#[x,y],argTypes:=tys },ty,pos,after,g⟩ K Q) :=
 Nx.op_run rfl hlt (fun a w ha _ => by
  obtain ⟨cs,hcs⟩:=run_builtin (P:=C.P) (w:=w) (ρ:=a.eval) (b:=.max) (args:=#[x,y]) (dst:=some d) (ty:=ty) (pos:=pos) (after:=after) (g:=g) (tys:=tys) (show [x,y].map a.eval = [Value.int k p,Value.int k' q] from by simp only [List.map_cons,List.map_nil,ha.eval hx,ha.eval hy])
  rw [hcs]
  refine run_v ?_
  show Result.ok (Value.int k (if q > p then q else p)) w = _
  have : (if q > p then q else p) = max p q:=by rw [Int.max_def]; split <;> split <;> omega
  rw [this]) h
theorem run_indexAt {P : Program} {k : IntKind} {i : Int} {sz : Nat} {a : Addr} (ht : P.underlying t = some (.slice el)) (hsz : cellsIn P el = some sz) (h0 : 0 ≤ i) (h1 : i < n) (w : World) :
  (Instr.indexAt t (.slice (some a) n c) (.int k i)).run P w = .ok (.pointer (some (a.add (i.toNat * sz)))) w:=by
 have hz : (sizeOf el).run P w = .ok sz w:=cellsIn_run hsz w
 have hand : 0 ≤ i ∧ i < (n : Int):=⟨h0,h1⟩
 simp [Instr.indexAt,asIntOf,run_underlying ht,hz,hand]
theorem Nx.indexAddr {k : IntKind} {i : Int} {sz : Nat} (hx : evo e x = some (.slice A n c)) (hy : evo e y = some (.int k i)) (ht : C.P.underlying t = some (.slice el)) (hsz : cellsIn C.P el = some sz)
  (hlt : Nat.blt d C.n = true) (h0 : 0 ≤ i) (h1 : i < n) (hA : A.isSome = true)
  (h : Nx C ((d,.pointer (some ((ad A).add (i.toNat * sz)))) :: e) I R K) : Nx C e I R (opK C.P ⟨some d,.indexAddr t x y,ty,pos,after,g⟩ K Q) :=
 Nx.op_run rfl hlt (fun a w ha _ => by
  simp only [execOp,ha.eval hx,ha.eval hy]
  refine run_v ?_
  cases A with
  | none => cases hA
  | some a => exact run_indexAt ht hsz h0 h1 w) h
theorem Nx.indexAddr_nat {k : IntKind} {i sz : Nat} (hx : evo e x = some (.slice A n c)) (hy : evo e y = some (.int k (i : Int))) (ht : C.P.underlying t = some (.slice el)) (hsz : cellsIn C.P el = some sz)
  (hlt : Nat.blt d C.n = true) (h1 : i < n) (hA : A.isSome = true)
  (h : Nx C ((d,.pointer (some ((ad A).add (i * sz)))) :: e) I R K) : Nx C e I R (opK C.P ⟨some d,.indexAddr t x y,ty,pos,after,g⟩ K Q) :=
 Nx.indexAddr hx hy ht hsz hlt (by omega) (by omega) hA (by rw [nCt]; exact h)
def Arr (I : PH) (A : Option Addr) (cs : List Value) : Prop:=∀ j u,cs[j]? = some u → A.isSome = true ∧ cellH I ((ad A).add j) = some u
theorem Arr.mono {I I' : PH} (h : PH.le I I') {cs : List Value} (ha : Arr I A cs) : Arr I' A cs:=fun j u hj => ⟨(ha j u hj).1,cellH_mono h (ha j u hj).2⟩
theorem Arr.isSome {I : PH} {cs : List Value} (ha : Arr I A cs) (h : 0 < cs.length) : A.isSome = true:=(ha 0 cs[0] (gEq h)).1
theorem Arr.nil {I : PH} : Arr I A []:=fun j u hj => by simp at hj
theorem Arr.rd {cs : List Value} (ha : Arr I A cs) {j : Nat} (hj : cs[j]? = some v) : Rd W I R ((ad A).add j) v:=Rd.imm (ha j v hj).2
theorem Addr.add_add (a : Addr) (i j : Nat) : (a.add i).add j = a.add (i + j):=by
 unfold Addr.add
 by_cases hi : i = 0 <;> by_cases hj : j = 0 <;> simp [hi,hj,Nat.add_assoc]
theorem Arr.rds {cs vs : List Value} (ha : Arr I A cs) {j n : Nat} (hv : (cs.drop j).take n = vs) : Rds W I R ((ad A).add j) vs:=fun k u hk => by
 rw [Addr.add_add]
 subst hv
 rw [List.getElem?_take] at hk
 split at hk
 ·rw [List.getElem?_drop] at hk; exact ha.rd hk
 ·cases hk
structure SliceOf {α : Type} (f : α → Value) (I : PH) (A : Option Addr) (c : Nat) (l : List α) : Prop where
 arr : Arr I A (l.map f)
 cap : l.length ≤ c
 max : c ≤ maxLen
theorem SliceOf.mono {α : Type} {f : α → Value} {I I' : PH} {l : List α} (hle : PH.le I I') (h : SliceOf f I A c l) : SliceOf f I' A c l:=⟨h.arr.mono hle,h.cap,h.max⟩
theorem SliceOf.isSome {α : Type} {f : α → Value} {l : List α} (h : SliceOf f I A c l) (hk : 0 < l.length) : A.isSome = true:=h.arr.isSome (by rw [lMp]; omega)
theorem SliceOf.len {α : Type} {f : α → Value} {l : List α} (h : SliceOf f I A c l) : (l.length : Int) ≤ 9223372036854775807:=by
 have h1:=h.cap; have h2:=h.max; unfold maxLen at h2; omega
theorem SliceOf.nil {α : Type} {f : α → Value} : SliceOf f I none 0 ([] : List α):=⟨Arr.nil,nLr _,by unfold maxLen; omega⟩
theorem SliceOf.rd {α : Type} [Inhabited α] {f : α → Value} {l : List α} {k : Nat} (h : SliceOf f I A c l) (hk : k < l.length) : Rd W I R ((ad A).add (k * 1)) (f (l.getD k default)):=by
 rw [Nat.mul_one]
 refine h.arr.rd ?_
 rw [gMp,gEl,gEq hk]
 rfl
abbrev Ints:=SliceOf (fun x : Int => Value.int .i64 x)
structure SliceN {α : Type} (f : α → List Value) (sz : Nat) (I : PH) (A : Option Addr) (c : Nat) (l : List α) : Prop where
 arr : Arr I A (l.flatMap f)
 cap : l.length ≤ c
 max : c ≤ maxLen
 cells : ∀ x ∈ l,(f x).length = sz
theorem flatMap_at {α : Type} [Inhabited α] {f : α → List Value} {sz : Nat} : ∀ {l : List α} {k : Nat},(∀ x ∈ l,(f x).length = sz) → k < l.length → ((l.flatMap f).drop (k * sz)).take sz = f (l.getD k default)
 | [],k,_,hk => by simp at hk
 | x :: r,0,h,_ => by
  have:=h x (by simp)
  simp only [List.flatMap_cons,Nat.zero_mul,List.drop_zero,List.getD_cons_zero]
  rw [List.take_append_of_le_length (by omega),← this,tLn]
 | x :: r,k + 1,h,hk => by
  have h0:=h x (by simp)
  simp only [List.flatMap_cons,List.getD_cons_succ]
  rw [List.drop_append,List.drop_eq_nil_of_le (by rw [h0,Nat.add_mul]; omega),List.nil_append,h0,show (k + 1) * sz - sz = k * sz by rw [Nat.add_mul]; omega]
  exact flatMap_at (fun y hy => h y (by simp [hy])) (by simpa using hk)
theorem SliceN.mono {α : Type} {f : α → List Value} {sz : Nat} {I I' : PH} {l : List α} (hle : PH.le I I') (h : SliceN f sz I A c l) : SliceN f sz I' A c l:=⟨h.arr.mono hle,h.cap,h.max,h.cells⟩
theorem SliceN.len {α : Type} {f : α → List Value} {sz : Nat} {l : List α} (h : SliceN f sz I A c l) : (l.length : Int) ≤ 9223372036854775807:=by
 have h1:=h.cap; have h2:=h.max; unfold maxLen at h2; omega
theorem SliceN.isSome {α : Type} {f : α → List Value} {sz : Nat} {l : List α} (h : SliceN f sz I A c l) (hk : 0 < l.length) (hsz : 0 < sz) : A.isSome = true:=by
 refine h.arr.isSome ?_
 cases l with
 | nil => simp at hk
 | cons x r => have:=h.cells x (by simp); simp only [List.flatMap_cons,lAp]; omega
theorem SliceN.rds {α : Type} [Inhabited α] {f : α → List Value} {sz : Nat} {l : List α} {k : Nat} (h : SliceN f sz I A c l) (hk : k < l.length) : Rds W I R ((ad A).add (k * sz)) (f (l.getD k default)) :=
 h.arr.rds (flatMap_at h.cells hk)
theorem Blk.arr {m : PH} {t : TypeId} {b : Nat} {cs : List Value} (h : Blk b t cs m) : Arr m (some ⟨b,0,none⟩) cs:=fun j u hj => ⟨rfl,by
 rw [ad_some,Addr.add_lit,Nat.zero_add]
 simp [cellH,show m b = _ from h,hj]⟩
def offA (A : Option Addr) (c l sz : Nat) : Option Addr:=if c = l then A else A.map (·.add (l * sz))
theorem run_slice_of {P : Program} {sz : Nat} {lo hi : Option Value} {l h : Nat} (ht : P.underlying t = some (.slice el)) (hsz : cellsIn P el = some sz) (w : World)
  (hb : (Instr.sliceBounds true n c lo hi none).run P w = .ok (l,h,c) w) : (Instr.sliceAt t (.slice A n c) lo hi none).run P w = .ok (.slice (offA A c l sz) (h - l) (c - l)) w:=by
 have hz : (sizeOf el).run P w = .ok sz w:=cellsIn_run hsz w
 simp [Instr.sliceAt,run_underlying ht,Instr.slice,hb,hz,offA]
theorem offA_zero {sz : Nat} : offA A c 0 sz = A:=by
 unfold offA
 split
 ·rfl
 ·cases A with
  | none => rfl
  | some a => simp [Addr.add]
theorem Nx.slice_hi {k : IntKind} {h sz : Nat} (hx : evo e x = some (.slice A n c)) (hy : evo e y = some (.int k (h : Int))) (ht : C.P.underlying t = some (.slice el)) (hsz : cellsIn C.P el = some sz)
  (hlt : Nat.blt d C.n = true) (h2 : h ≤ c) (hk : Nx C ((d,.slice A h c) :: e) I R K) : Nx C e I R (opK C.P ⟨some d,.slice t x none (some y) none,ty,pos,after,g⟩ K Q) :=
 Nx.op_run rfl hlt (fun a w ha _ => by
  simp only [execOp,ha.eval hx,ha.eval hy,Option.map_some,Option.map_none]
  refine run_v ?_
  have:=run_slice_of (A:=A) (n:=n) (c:=c) (lo:=none) (hi:=some (.int k (h : Int))) (l:=0) (h:=h) ht hsz w (by simp [Instr.sliceBounds,run_sliceBound,h2])
  rw [offA_zero] at this
  exact this) hk
theorem SliceOf.take {α : Type} {f : α → Value} {l : List α} (h : SliceOf f I A c l) (k : Nat) : SliceOf f I A c (l.take k) :=
 ⟨fun j u hj => by
  rw [List.map_take,List.getElem?_take] at hj
  split at hj
  ·exact h.arr j u hj
  ·(cases hj),by have:=h.cap; rw [lTk]; omega,h.max⟩
def Vec (t : TypeId) (sz : Nat) (A : Option Addr) (n c : Nat) (xs : List Value) : Res:=fun m =>
 xs.length = n * sz ∧ ((A = none ∧ n = 0 ∧ c = 0) ∨
  ∃ b cur,A = some ⟨b,0,none⟩ ∧ m b = some (.cells cur t (0,0)) ∧ n ≤ c ∧ c ≤ maxLen ∧ cur.size = c * sz ∧ cur.toList.take (n * sz) = xs)
theorem Vec.nil {m : PH} {t : TypeId} {sz : Nat} : Vec t sz none 0 0 [] m:=⟨by simp,.inl ⟨rfl,rfl,rfl⟩⟩
theorem Ent.vec_nil (t : TypeId) (sz : Nat) (R : List Res) : Ent R (Vec t sz none 0 0 [] :: R) :=
 fun m hm => ⟨m,PH.le_refl m,fun _ => none,m,fun _ => .inl rfl,by funext i; rfl,Vec.nil,hm⟩
theorem Vec.arr {m : PH} {sz : Nat} {xs : List Value} (h : Vec t sz A n c xs m) : Arr m A xs:=by
 rcases h.2 with ⟨rfl,rfl,rfl⟩ | ⟨b,cur,rfl,hb,_,_,_,htake⟩
 ·have : xs = []:=List.eq_nil_of_length_eq_zero (by simpa using h.1)
  subst this; exact Arr.nil
 ·intro j u hj
  refine ⟨rfl,?_⟩
  rw [ad_some,Addr.add_lit,Nat.zero_add]
  simp only [cellH,hb,Option.isSome_none,Bool.false_eq_true,if_false]
  rw [← htake,List.getElem?_take] at hj
  split at hj
  ·simpa using hj
  ·cases hj
theorem Vec.le {m : PH} {sz : Nat} {xs : List Value} (h : Vec t sz A n c xs m) : n ≤ c ∧ c ≤ maxLen:=by
 rcases h.2 with ⟨_,rfl,rfl⟩ | ⟨b,cur,_,_,h1,h2,_⟩
 ·exact ⟨nLr _,by unfold maxLen; omega⟩
 ·exact ⟨h1,h2⟩
theorem Rd.vec {sz j : Nat} {xs : List Value} (hj : xs[j]? = some v) : Rd W I (Vec t sz A n c xs :: R) ((ad A).add j) v:=Rd.own fun _ hm => ((Vec.arr hm) j v hj).2
theorem Rd.vec_at {α : Type} [Inhabited α] {f : α → Value} {l : List α} {k : Nat} (hk : k < l.length) : Rd W I (Vec t 1 A n c (l.map f) :: R) ((ad A).add (k * 1)) (f (l.getD k default)):=by
 rw [Nat.mul_one]
 refine Rd.vec ?_
 rw [gMp,gEl,gEq hk]
 rfl
theorem Rd.vecAt (k : Nat) {sz j : Nat} {xs : List Value} (hk : nthL R k = some (Vec t sz A n c xs)) (hj : nthL xs j = some v) : Rd W I R ((ad A).add j) v :=
 Rd.ent (Ent.pull k R _ (nthL_eq.symm.trans hk)) (Rd.vec (nthL_eq.symm.trans hj))
theorem Rd.vecEl (k : Nat) {α : Type} [Inhabited α] {f : α → Value} {l : List α} {i : Nat} (hk : nthL R k = some (Vec t 1 A n c (l.map f))) (hi : i < l.length) : Rd W I R ((ad A).add (i * 1)) (f (l.getD i default)) :=
 Rd.ent (Ent.pull k R _ (nthL_eq.symm.trans hk)) (Rd.vec_at hi)
theorem Nx.vec_fact {sz : Nat} {xs : List Value} (h : (xs.length = n * sz → n ≤ c → c ≤ maxLen → (0 < n → A.isSome = true) → Nx C e I (Vec t sz A n c xs :: R) K)) : Nx C e I (Vec t sz A n c xs :: R) K:=by
 intro a w ha hw
 obtain ⟨⟨m,⟨m1,m2,hd,rfl,hv,h2⟩,hs⟩,hst⟩:=id hw
 refine h hv.1 hv.le.1 hv.le.2 (fun hn => ?_) a w ha hw
 rcases hv.2 with ⟨_,h0,_⟩ | ⟨b,cur,rfl,_⟩
 ·omega
 ·rfl
theorem Vec.owns {w : World} {m1 m2 : PH} {sz : Nat} {xs : List Value} (h : Vec t sz A n c xs m1) (hs : ∀ i o,(m1.or m2) i = some o → w.heap[i]? = some o) : w.ownsRow 0 t sz (.slice A n c) n xs:=by
 refine ⟨h.1,?_⟩
 rcases h.2 with ⟨rfl,rfl,rfl⟩ | ⟨b,cur,rfl,hb,h1,h2,h3,h4⟩
 ·exact .inl ⟨rfl,rfl⟩
 ·exact .inr ⟨b,c,cur,rfl,nZl _,hs b _ (PH.le_or_left _ _ _ _ hb),h1,h2,h3,h4⟩
def elemOk (P : Program) (el : TypeId) (sz by_ : Nat) : Prop:=∃ i z,P.info? el = some i ∧ i.zero = some z ∧ i.size = sz ∧ i.bytes = by_ ∧ z.cells.size = sz ∧ 0 < sz
structure Src (W : World) (I : PH) (R : List Res) (B : Option Addr) (k sz : Nat) (ys : List Value) : Prop where
 len : ys.length = k * sz
 rds : ∀ b,B = some b → Rds W I R b ys
 noAd : B = none → k = 0
 one : ∀ u ∈ ys,u.oneCell' = true
theorem Src.blk {b k sz : Nat} {cs : List Value} (hl : cs.length = k * sz) (h1 : ∀ u ∈ cs,u.oneCell' = true) : Src W I (Blk b t cs :: R) (some ⟨b,0,none⟩) k sz cs :=
 ⟨hl,fun a ha => by cases ha; exact Rds.blk0,(fun h => by cases h),h1⟩
theorem Src.tail {r : Res} {k sz : Nat} {ys : List Value} (h : Src W I R B k sz ys) : Src W I (r :: R) B k sz ys:=⟨h.len,fun b hb => (h.rds b hb).tail,h.noAd,h.one⟩
theorem Src.arr {k sz : Nat} {ys : List Value} (h : Arr I B ys) (hl : ys.length = k * sz) (hsz : 0 < sz) (h1 : ∀ u ∈ ys,u.oneCell' = true) : Src W I R B k sz ys :=
 ⟨hl,fun b hb j u hj => by subst hb; exact h.rd hj,(fun hb => by
  rcases Nat.eq_zero_or_pos k with h0 | h0
  ·exact h0
  ·have:=h.isSome (by rw [hl]; exact Nat.mul_pos h0 hsz)
   rw [hb] at this; cases this),h1⟩
def elemIs (P : Program) (el : TypeId) (sz : Nat) : Bool:=match P.info? el with
 | some i => match i.zero with
  | some z => Nat.beq i.size sz && Nat.ble i.bytes 4096 && Nat.beq z.cells.size sz && Nat.blt 0 sz
  | none => false
 | none => false
theorem elemIs_ok {P : Program} {sz : Nat} (h : elemIs P el sz = true) : ∃ by_,by_ ≤ 4096 ∧ elemOk P el sz by_:=by
 unfold elemIs at h
 split at h
 ·rename_i i hi
  split at h
  ·rename_i z hz
   simp only [Bool.and_eq_true] at h
   exact ⟨i.bytes,Nat.le_of_ble_eq_true h.1.1.2,i,z,hi,hz,Nat.eq_of_beq_eq_true h.1.1.1,rfl,Nat.eq_of_beq_eq_true h.1.2,by simpa [Nat.blt_eq] using h.2⟩
  ·cases h
 ·cases h
theorem append_run {P : Program} {w : World} {sz by_ k c2 : Nat} {xs ys : List Value} (ht : P.underlying t = some (.slice el)) (hel : elemOk P el sz by_)
  (hown : w.ownsRow 0 el sz (.slice A n c) n xs) (hsrc : Src W I R B k sz ys) (hst : St W I R w) (h63 : n + k ≤ maxLen) (hby : (n + k) * by_ ≤ 140737488355328) :
  ∃ v' w',(Builtin.append_ #[t,t] ty #[.slice A n c,.slice B k c2]).run P w = .ok v' w' ∧ w'.ownsRow 0 el sz v' (n + k) (xs ++ ys) ∧ w.grownBy w' (Value.slice A n c).ownBlock ∧
   (v'.ownBlock = (Value.slice A n c).ownBlock ∨ v'.ownBlock = some w.heap.size):=by
 obtain ⟨i,zv,hi,hz,hsize,hbytes,hzs,hpos⟩:=hel
 cases B with
 | none =>
  have hk:=hsrc.noAd rfl
  subst hk
  have hy : ys = []:=List.eq_nil_of_length_eq_zero (by simpa using hsrc.len)
  subst hy
  refine ⟨.slice A n c,w,?_,by simpa using hown,⟨rfl,rfl,rfl,nLr _,fun _ _ _ => rfl⟩,.inl rfl⟩
  rcases hown.2 with ⟨hv,rfl⟩ | ⟨b',cap,cur,hv,_,_,hnc,_⟩
  ·cases hv; simp [Builtin.append_,run_underlying ht,sizeOf,typeInfo,hi,Builtin.lenOf,Builtin.firstCells]
  ·cases hv; simp [Builtin.append_,run_underlying ht,sizeOf,typeInfo,hi,Builtin.lenOf,Builtin.firstCells,hnc,storeCells]
 | some b =>
  obtain ⟨v',w',hr,h2,h3,_,h5⟩:=run_append_own_at (P:=P) w 0 t ty el i zv sz by_ ht hi hz hsize hbytes hzs hpos (.slice A n c) n xs hown b k c2 ys hsrc.len (fun j u hj => hsrc.rds b rfl j u hj w hst) hsrc.one h63 hby (nZl _)
  exact ⟨v',w',hr,h2,h3,h5⟩
theorem St.append {w w' : World} {sz m : Nat} {xs xs' : List Value} {v' : Value} (h : St W I (Vec el sz A n c xs :: R) w) (hown : w'.ownsRow 0 el sz v' m xs') (hg : w.grownBy w' (Value.slice A n c).ownBlock)
  (hat : v'.ownBlock = (Value.slice A n c).ownBlock ∨ v'.ownBlock = some w.heap.size) (hdr : w.drawn ≤ w'.drawn) : ∃ A' c',v' = .slice A' m c' ∧ St W I (Vec el sz A' m c' xs' :: R) w':=by
 obtain ⟨⟨mm,⟨m1,m2,hd,rfl,hv,h2⟩,hs⟩,hst⟩:=h
 have hlt : ∀ {i : Nat} {o' : Obj},w.heap[i]? = some o' → i < w.heap.size:=fun {i o'} hi => (Array.getElem?_eq_some_iff.1 hi).1
 have hnotI : ∀ i,some i = (Value.slice A n c).ownBlock → I i = none ∧ m2 i = none:=by
  intro i hi
  rcases hv.2 with ⟨rfl,_,_⟩ | ⟨b,cur,rfl,hb,_⟩
  ·simp [Value.ownBlock] at hi
  ·simp [Value.ownBlock] at hi
   subst hi
   refine ⟨?_,?_⟩
   ·rcases hs.dis i with e | e
    ·exact e
    ·rw [(PH.or_eq_none.1 e).1] at hb; cases hb
   ·rcases hd i with e | e
    ·rw [e] at hb; cases hb
    ·exact e
 have keepI : ∀ i o,I i = some o → w'.heap[i]? = some o:=fun i o hi => by
  rw [hg.block i (hlt (hs.imm i o hi)) (fun he => by rw [(hnotI i he).1] at hi; cases hi)]; exact hs.imm i o hi
 have keep2 : ∀ i o,m2 i = some o → w'.heap[i]? = some o:=fun i o hi => by
  have h0:=hs.own i o (PH.le_or_right hd i o hi)
  rw [hg.block i (hlt h0) (fun he => by rw [(hnotI i he).2] at hi; cases hi)]; exact h0
 have hst' : Still W w':=hst.trans ⟨hg.os,hg.tape,hg.output,hg.size,hdr⟩
 rcases hown.2 with ⟨rfl,rfl⟩ | ⟨b',cap',cur',rfl,_,hb',hnc,hcm,hsz,htake⟩
 ·exact ⟨none,0,rfl,⟨⟨_,⟨fun _ => none,m2,fun _ => .inl rfl,by funext i; rfl,⟨hown.1,.inl ⟨rfl,rfl,rfl⟩⟩,h2⟩,⟨keepI,keep2,(PH.dis_or.1 hs.dis).2⟩⟩,hst'⟩⟩
 ·have hfree : I b' = none ∧ m2 b' = none:=by
   rcases hat with he | he
   ·exact hnotI b' (by rw [← he]; rfl)
   ·have : b' = w.heap.size:=by simpa [Value.ownBlock] using he
    subst this
    refine ⟨?_,?_⟩
    ·cases hi : I w.heap.size with
     | none => rfl
     | some o => have:=hlt (hs.imm _ o hi); omega
    ·cases hi : m2 w.heap.size with
     | none => rfl
     | some o => have:=hlt (hs.own _ o (PH.le_or_right hd _ o hi)); omega
  refine ⟨some ⟨b',0,none⟩,cap',rfl,⟨⟨(PH.single b' (.cells cur' el (0,0))).or m2,⟨PH.single b' (.cells cur' el (0,0)),m2,?_,rfl,⟨hown.1,.inr ⟨b',cur',rfl,by simp [PH.single],hnc,hcm,hsz,htake⟩⟩,h2⟩,⟨keepI,?_,?_⟩⟩,hst'⟩⟩
  ·intro i
   unfold PH.single
   by_cases hi : i = b'
   ·right; rw [hi]; exact hfree.2
   ·left; rw [if_neg hi]
  ·intro i o hi
   rcases PH.or_eq_some hi with h1 | ⟨_,h1⟩
   ·have h1' : (if i = b' then some (Obj.cells cur' el (0,0)) else none) = some o:=h1
    by_cases hib : i = b'
    ·rw [if_pos hib] at h1'; subst hib
     obtain rfl : Obj.cells cur' el (0,0) = o:=by simpa using h1'
     exact hb'
    ·rw [if_neg hib] at h1'; cases h1'
   ·exact keep2 i o h1
  ·refine PH.dis_or.2 ⟨fun i => ?_,(PH.dis_or.1 hs.dis).2⟩
   unfold PH.single
   by_cases hi : i = b'
   ·left; rw [hi]; exact hfree.1
   ·right; rw [if_neg hi]
theorem Nx.append {tys : Array TypeId} {sz k c2 : Nat} {xs ys : List Value} (hx : evo e x = some (.slice A n c)) (hy : evo e y = some (.slice B k c2)) (hty : tys = #[t,t]) (ht : C.P.underlying t = some (.slice el)) (hel : elemIs C.P el sz = true)
  (hlt : Nat.blt d C.n = true) (hsrc : Src C.W I (Vec el sz A n c xs :: R) B k sz ys) (h63 : n + k ≤ 34359738368)
  (h : ∀ A' c',Nx C ((d,.slice A' (n + k) c') :: e) I (Vec el sz A' (n + k) c' (xs ++ ys) :: R) K) : Nx C e I (Vec el sz A n c xs :: R) (opK C.P ⟨some d,.call { callee:=.builtin .append,args:=#[x,y],argTypes:=tys },ty,pos,after,g⟩ K Q):=by
 subst hty
 intro a w ha hw
 obtain ⟨⟨m,⟨m1,m2,hd,rfl,hv,h2⟩,hs⟩,hst⟩:=id hw
 obtain ⟨by_,hby0,hel⟩:=elemIs_ok hel
 have hby : (n + k) * by_ ≤ 140737488355328:=Nat.le_trans (Nat.mul_le_mul h63 hby0) (by decide)
 have h63 : n + k ≤ maxLen:=by unfold maxLen; omega
 obtain ⟨v',w',hr,hown',hg,hat⟩:=append_run (ty:=ty) (c2:=c2) ht hel (hv.owns hs.own) hsrc hw h63 hby
 obtain ⟨A',c',rfl,hst'⟩:=St.append hw hown' hg hat (run_drawn _ _ hr)
 unfold opK Oper.wp
 have hrun : (execOp a.eval ⟨some d,.call { callee:=.builtin .append,args:=#[x,y],argTypes:=#[t,t] },ty,pos,after,g⟩).run C.P w = .ok (.value (.slice A' (n + k) c')) w':=by
  obtain ⟨cs,hcs⟩:=run_builtin (P:=C.P) (w:=w) (ρ:=a.eval) (b:=.append) (args:=#[x,y]) (dst:=some d) (ty:=ty) (pos:=pos) (after:=after) (g:=g) (tys:=#[t,t]) (show [x,y].map a.eval = [Value.slice A n c,Value.slice B k c2] from by simp only [List.map_cons,List.map_nil,ha.eval hx,ha.eval hy])
  rw [hcs]
  exact run_v hr
 rw [hrun]
 exact h A' c' _ w' (ha.put hlt _) hst'
theorem Nx.append_lit (k : Nat) {tys : Array TypeId} {sz m c2 b : Nat} {xs cs : List Value} (hx : evo e x = some (.slice A n c)) (hy : evo e y = some (.slice (some ⟨b,0,none⟩) m c2)) (hty : tys = #[t,t]) (ht : C.P.underlying t = some (.slice el)) (hel : elemIs C.P el sz = true)
  (hlt : Nat.blt d C.n = true) (hk : nthL R k = some (Vec el sz A n c xs)) (hl : Nat.beq cs.length (m * sz) = true) (h1 : cs.all Value.oneCell' = true) (h63 : n + m ≤ 34359738368)
  (h : ∀ A' c',Nx C ((d,.slice A' (n + m) c') :: e) I (Vec el sz A' (n + m) c' (xs ++ cs) :: R.eraseIdx k) K) : Nx C e I (Blk b el cs :: R) (opK C.P ⟨some d,.call { callee:=.builtin .append,args:=#[x,y],argTypes:=tys },ty,pos,after,g⟩ K Q):=by
 refine Nx.ent (R':=Vec el sz A n c xs :: Blk b el cs :: R.eraseIdx k) ((Ent.cons (Ent.pull k R _ (nthL_eq.symm.trans hk))).trans (Ent.swap _ _ _)) ?_
 refine Nx.append hx hy hty ht hel hlt (Src.tail (Src.blk (Nat.eq_of_beq_eq_true hl) (fun u hu => List.all_eq_true.1 h1 u hu))) h63 fun A' c' => ?_
 exact (h A' c').ent (Ent.cons (Ent.drop (Ent.refl _)))
theorem Nx.callv {fx : Operand} {args : Array Operand} {tys : Array TypeId} {f : FuncId} {c1 c2 : Array Value} {vs al : List Value} {V : Value}
  (hfx : evo e fx = some (.func (.func f) c1 c2)) (hvs : evs e args.toList = some vs) (hal : c1.toList ++ vs ++ c2.toList = al) (hc : callable C.P f = true) (hlt : Nat.blt d C.n = true)
  (hs : FnSpec C.P f al I [] (fun v R' => v = V ∧ R' = [])) (h : Nx C ((d,V) :: e) I R K) : Nx C e I R (opK C.P ⟨some d,.call { callee:=.value fx,args,argTypes:=tys },ty,pos,after,g⟩ K Q) :=
 Nx.call (Rpre:=[]) (Rrest:=R) hfx hvs hal hc hlt hs (Ent.refl _) (by rintro v R' ⟨rfl,rfl⟩; exact h)
theorem Nx.makeSlice {kl kc : IntKind} {by_ m : Nat} {z0 : Value} {i : TypeInfo} (hx : evo e x = some (.int kl (m : Int))) (hy : evo e y = some (.int kc (m : Int))) (ht : C.P.underlying t = some (.slice el))
  (hi : C.P.info? el = some i) (hz : i.zero = some z0) (hs : i.size = 1) (hb : i.bytes = by_) (hz1 : z0.cells = #[z0]) (hlt : Nat.blt d C.n = true) (hbytes : by_ * m ≤ 281474976710656) (h63 : m ≤ maxLen)
  (h : ∀ b,Nx C ((d,.slice (some ⟨b,0,none⟩) m m) :: e) I (Vec el 1 (some ⟨b,0,none⟩) m m (List.replicate m z0) :: R) K) : Nx C e I R (opK C.P ⟨some d,.makeSlice t x y,ty,pos,after,g⟩ K Q):=by
 refine Nx.op_new (v:=fun b => .slice (some ⟨b,0,none⟩) m m) (ob:=.cells (madeCells z0.cells (m * 1)) el) rfl hlt (fun a w ha hw => ?_) (fun b => ?_)
 ·simp only [execOp,ha.eval hx,ha.eval hy]
  refine run_v ?_
  have hbb : (i.bytes : Int) * (m : Int) ≤ 281474976710656:=by
   have h : ((i.bytes * m : Nat) : Int) ≤ 281474976710656:=by rw [hb]; omega
   rwa [Int.natCast_mul] at h
  unfold maxLen at h63
  have hr:=run_make (P:=C.P) w t el i z0 ht hi hz kl kc m m (by omega) (by omega) hbb (by omega)
  simp only [nCt,hs] at hr
  exact hr
 ·refine (h b).ent (Ent.head fun mm hm => ⟨by simp,.inr ⟨b,_,rfl,hm,nLr _,h63,by rw [size_madeCells],?_⟩⟩)
  rw [hz1,Nat.mul_one,toList_madeCells_one]
  simp
theorem Wr.vec {P : Program} {i : Nat} {xs : List Value} (hi : i < n) (h1 : v.oneCell' = true) : Wr P W I (Vec t 1 A n c xs :: R) ((ad A).add i) [v] (Vec t 1 A n c (xs.set i v) :: R):=by
 intro w hw
 obtain ⟨⟨m,⟨m1,m2,hd,rfl,hv,h2⟩,hsat⟩,hst⟩:=id hw
 rcases hv.2 with ⟨_,h0,_⟩ | ⟨b,cur,rfl,hb,hnc,hcm,hsz,htake⟩
 ·omega
 have hb0 : w.heap[b]? = some (.cells cur t (0,0)):=hsat.own _ _ (PH.le_or_left _ _ _ _ hb)
 have hrun:=run_store1 (P:=P) hb0 (i:=i) (by omega) h1
 refine ⟨w.setCell ⟨b,i,none⟩ v,?_,hw.upd (o:=.cells (cur.setIfInBounds i v) t (0,0)) (b:=b) (fun mm hm => ?_) ?_ (fun k hne o' ho => (heap_setCell_other w ⟨b,i,none⟩ k v hne).trans ho) ⟨rfl,rfl,rfl,by simp,nLr _⟩⟩
 ·rw [ad_some,Addr.add_lit,Nat.zero_add]
  unfold storeCells
  rw [Sem.run_bind,Addr.add_zero',hrun]
  rfl
 ·rcases hm.2 with ⟨he,_,_⟩ | ⟨b',cur',he,hb',h1',h2',h3',h4'⟩
  ·cases he
  ·cases he
   refine ⟨by rw [hb']; rfl,by simpa using hm.1,.inr ⟨b,cur.setIfInBounds i v,rfl,by simp,h1',h2',by simpa using hsz,?_⟩⟩
   rw [← htake]
   simp only [Array.toList_setIfInBounds,Nat.mul_one]
   rw [List.take_set]
 ·exact heap_setCell_same w b i cur t v hb0
theorem Blk.vec {b n sz : Nat} {cs : List Value} (hl : cs.length = n * sz) (hm : n ≤ maxLen) : ∀ m,Blk b t cs m → Vec t sz (some ⟨b,0,none⟩) n n cs m :=
 fun m h => ⟨hl,.inr ⟨b,cs.toArray,rfl,h,nLr _,hm,by simpa using hl,by simp [← hl]⟩⟩
theorem Nx.blk_vec (k : Nat) (n sz : Nat) {b : Nat} {cs : List Value} (hk : nthL R k = some (Blk b t cs)) (hl : cs.length = n * sz) (hm : n ≤ 34359738368) (h : Nx C e I (Vec t sz (some ⟨b,0,none⟩) n n cs :: R.eraseIdx k) K) : Nx C e I R K :=
 Nx.ent ((Ent.pull k R _ (nthL_eq.symm.trans hk)).trans (Ent.head (Blk.vec hl (by unfold maxLen; omega)))) h
theorem Nx.store_ints (k : Nat) {i : Nat} {l : List Int} {z : Int} (hx : evo e x = some (.pointer (some ((ad A).add (i * 1))))) (hy : evo e y = some (.int .i64 z)) (hn : cellsIn C.P t = some 1) (hk : nthL R k = some (Vec el 1 A n c (l.map (Value.int .i64)))) (hi : i < n)
  (h : Nx C e I (Vec el 1 A n c ((l.set i z).map (Value.int .i64)) :: R.eraseIdx k) K) : Nx C e I R (opK C.P ⟨none,.store t x y,ty,pos,after,g⟩ K Q):=by
 rw [Nat.mul_one] at hx
 refine Nx.ent (Ent.pull k R _ (nthL_eq.symm.trans hk)) (Nx.store hx hy rfl hn rfl (Wr.vec hi rfl) ?_)
 rw [List.map_set] at h
 exact h
theorem Nx.makeInts {kl kc : IntKind} {m : Nat} {i : TypeInfo} (hx : evo e x = some (.int kl (m : Int))) (hy : evo e y = some (.int kc (m : Int))) (ht : C.P.underlying t = some (.slice el))
  (hi : C.P.info? el = some i) (hz : i.zero = some (.int .i64 0)) (hs : i.size = 1) (hb : i.bytes = 8) (hlt : Nat.blt d C.n = true) (h63 : m ≤ 34359738368)
  (h : ∀ b,Nx C ((d,.slice (some ⟨b,0,none⟩) m m) :: e) I (Vec el 1 (some ⟨b,0,none⟩) m m ((List.replicate m (0 : Int)).map (Value.int .i64)) :: R) K) : Nx C e I R (opK C.P ⟨some d,.makeSlice t x y,ty,pos,after,g⟩ K Q) :=
 Nx.makeSlice hx hy ht hi hz hs hb rfl hlt (by omega) (by unfold maxLen; omega) (fun b => by have:=h b; rw [List.map_replicate] at this; exact this)
theorem Nx.call_lendR (k : Nat) {fx : Operand} {args : Array Operand} {tys : Array TypeId} {f : FuncId} {c1 c2 : Array Value} {vs al : List Value} {r : Res} {Post : Value → List Res → Prop}
  (hfx : evo e fx = some (.func (.func f) c1 c2)) (hvs : evs e args.toList = some vs) (hal : c1.toList ++ vs ++ c2.toList = al) (hc : callable C.P f = true) (hlt : Nat.blt d C.n = true) (hk : nthL R k = some r)
  (hs : ∀ m I',PH.le I I' → PH.le m I' → r m → FnSpec C.P f al I' [] Post) (h : ∀ v R',Post v R' → Nx C ((d,v) :: e) I (r :: (R' ++ R.eraseIdx k)) K) : Nx C e I R (opK C.P ⟨some d,.call { callee:=.value fx,args,argTypes:=tys },ty,pos,after,g⟩ K Q) :=
 Nx.call_lend (B:=[r]) (Rpre:=[]) (Rrest:=R.eraseIdx k) hfx hvs hal hc hlt (fun m hd hB => by
  obtain ⟨m1,m2,hd',rfl,hr,_⟩:=hB
  exact hs m1 _ (PH.le_or_left _ _) ((PH.le_or_left m1 m2).trans (PH.le_or_right hd)) hr) (Ent.pull k R r (nthL_eq.symm.trans hk)) h
theorem Vec.sliceN {α : Type} {f : α → List Value} {sz : Nat} {m I' : PH} {l : List α} (hm : PH.le m I') (h : Vec t sz A l.length c (l.flatMap f) m) (hf : ∀ x ∈ l,(f x).length = sz) : SliceN f sz I' A c l :=
 ⟨h.arr.mono hm,h.le.1,h.le.2,hf⟩
theorem Vec.sliceOf {α : Type} {f : α → Value} {m I' : PH} {l : List α} (hm : PH.le m I') (h : Vec t 1 A l.length c (l.map f) m) : SliceOf f I' A c l:=⟨h.arr.mono hm,h.le.1,h.le.2⟩
theorem Blk.sliceOf {α : Type} {f : α → Value} {b : Nat} {m I' : PH} {l : List α} (hm : PH.le m I') (h : Blk b t (l.map f) m) (hl : l.length ≤ maxLen) : SliceOf f I' (some ⟨b,0,none⟩) l.length l :=
 ⟨(Blk.arr h).mono hm,nLr _,hl⟩
theorem Nx.append_vec (k : Nat) {tys : Array TypeId} {sz m c2 : Nat} {xs ys : List Value} (hx : evo e x = some (.slice A n c)) (hy : evo e y = some (.slice B m c2)) (hty : tys = #[t,t]) (ht : C.P.underlying t = some (.slice el)) (hel : elemIs C.P el sz = true)
  (hlt : Nat.blt d C.n = true) (hk : nthL R k = some (Vec el sz A n c xs)) (h1 : ∀ u ∈ ys,u.oneCell' = true) (h63 : n + m ≤ 34359738368)
  (h : ∀ A' c',Nx C ((d,.slice A' (n + m) c') :: e) I (Vec el sz A' (n + m) c' (xs ++ ys) :: R.eraseIdx k) K) : Nx C e I (Vec el sz B m c2 ys :: R) (opK C.P ⟨some d,.call { callee:=.builtin .append,args:=#[x,y],argTypes:=tys },ty,pos,after,g⟩ K Q):=by
 refine Nx.vec_fact fun hl _ _ hB => ?_
 refine Nx.ent (R':=Vec el sz A n c xs :: Vec el sz B m c2 ys :: R.eraseIdx k) ((Ent.cons (Ent.pull k R _ (nthL_eq.symm.trans hk))).trans (Ent.swap _ _ _)) ?_
 refine Nx.append hx hy hty ht hel hlt (Src.tail ⟨hl,fun b hb j u hj => ?_,fun hb => ?_,h1⟩) h63 fun A' c' => ?_
 ·subst hb; exact Rd.vec hj
 ·rcases Nat.eq_zero_or_pos m with h0 | h0
  ·exact h0
  ·have:=hB h0; rw [hb] at this; cases this
 ·exact (h A' c').ent (Ent.cons (Ent.drop (Ent.refl _)))
end
end Go.Eng
namespace Go.Eng
def PanicOk (Q : Exit → Act → World → Prop) : Prop:=∀ c d v a w,Q (.panic c) (Act.put a d v) w → Q (.panic c) a w
theorem PanicOk.fn {P : Program} {fn : Func} {I : PH} {F : Res} {W : World} {Post : Value → List Res → Prop} : PanicOk (fnPost P fn I F W Post):=by
 rintro c d v a w ⟨_,v',R',he,_⟩
 cases he
theorem PanicOk.then_ {K : Act → World → Prop} {Q : Exit → Act → World → Prop} (h : PanicOk Q) : PanicOk (Exit.then K Q):=fun c d v a w hq => h c d v a w hq
theorem PanicOk.inB {id : Nat} {Q : Exit → Act → World → Prop} (h : PanicOk Q) : PanicOk (Exit.inBlock id Q):=fun c d v a w hq => h c d v a w hq
def mixOk (ops : Array Oper) (loud : List Nat) : List Nat → Array Bool → Bool
 | [],listed => (Region.ready .any ops listed).isEmpty
 | k :: r,listed => (if loud.contains k then Region.ready .any ops listed == [k] else Region.free .any ops listed k && (Region.ready .any ops listed).contains k) && mixOk ops loud r (listed.setIfInBounds k true)
def wpMix (P : Program) (ops : Array Oper) (Q : Exit → Act → World → Prop) (S : World → Prop) (loud : List Nat) : List Nat → Act → World → Prop
 | [],a,w => Q .normal a w
 | k :: r,a,w => ∃ o,ops[k]? = some o ∧
  if loud.contains k then wpOp P ops Q k (fun a' w' => S w' ∧ wpMix P ops Q S loud r a' w') a w
  else ∃ v,YieldsIf P ops S o v a ∧ wpMix P ops Q S loud r (a.put o.dst v) w
theorem wpMix_any {P : Program} {ops : Array Oper} {Q : Exit → Act → World → Prop} {S : World → Prop} {loud : List Nat} (hs : Region.noSelect ops = true) (hQ : PanicOk Q) : ∀ (ord : List Nat) (fuel : Nat) (listed : Array Bool) (a : Act) (w : World),
  mixOk ops loud ord listed = true → ord.length ≤ fuel → S w → wpMix P ops Q S loud ord a w → wpAnyH P .any ops Q S fuel listed a w
 | [],fuel,listed,a,w,hok,_,_,h => wpAnyH_done (by simpa [mixOk] using hok) h fuel
 | k :: r,fuel,listed,a,w,hok,hf,hS,h => by
  cases fuel with
  | zero => simp at hf
  | succ fuel =>
   obtain ⟨o,ho,h⟩:=h
   unfold mixOk at hok
   rw [Bool.and_eq_true] at hok
   obtain ⟨hk,hr⟩:=hok
   simp only [List.length_cons] at hf
   by_cases hl : loud.contains k = true
   ·rw [if_pos hl] at h hk
    refine wpAnyH_all (rs:=[k]) (by simpa using hk) (by simp) fun i hi => ?_
    simp at hi
    subst hi
    exact wpOp_mono (fun a' w' ⟨h1,h2⟩ => ⟨h1,wpMix_any hs hQ r fuel _ a' w' hr (by omega) h1 h2⟩) h
   ·rw [if_neg hl] at h hk
    rw [Bool.and_eq_true] at hk
    obtain ⟨v,hy,h⟩:=h
    exact wpAnyH_take ho hs hk.1 hk.2 (fun c a w => hQ c o.dst v a w) hy hS (wpMix_any hs hQ r fuel _ _ w hr (by omega) hS h)
section
variable {C : Cx} {e e' : Env} {I : PH} {R R' R0 : List Res} {K K' : Act → World → Prop} {Q : Exit → Act → World → Prop} {W : World}
variable {ops : Array Oper} {S : World → Prop} {loud r : List Nat} {k d : Nat} {v : Value} {o : Oper}
theorem St.drew {w : World} (h : St W I R w) : St W I R { w with drawn:=w.drawn + 1 } :=
 ⟨by obtain ⟨m,hm,hs⟩:=h.mem; exact ⟨m,hm,⟨hs.imm,hs.own,hs.dis⟩⟩,⟨h.still.os,h.still.tape,h.still.output,h.still.size,Nat.le_trans h.still.drawn (Nat.le_succ _)⟩⟩
theorem Nx.draw (ord loud : List Nat) (R0 : List Res) {id : Nat} (hm : C.P.follows .mixedOrders = true) (hs : Region.noSelect ops = true) (hok : mixOk ops loud ord (Array.replicate ops.size false) = true) (hlen : Nat.ble ord.length ops.size = true) (hQ : PanicOk Q) (hR : Ent R R0)
  (h : Nx C e I R (wpMix C.P ops Q (St C.W I R0) loud ord)) : Nx C e I R ((Code.region id ops true).wp C.P Q):=by
 intro a w ha hw
 refine wp_region_held (S:=St C.W I R0) hm (wpMix_any hs hQ ord _ _ a _ hok (Nat.le_of_ble_eq_true hlen) (hw.drew.ent hR) (h a _ ha hw.drew))
theorem Nx.mix_nil (h : Nx C e I R (Q .normal)) : Nx C e I R (wpMix C.P ops Q S loud []):=fun a w ha hw => h a w ha hw
theorem Nx.mix_nil_then {K : Act → World → Prop} (h : Nx C e I R K) : Nx C e I R (wpMix C.P ops (Exit.then K Q) S loud []):=fun a w ha hw => h a w ha hw
theorem Nx.mix_q (ho : ops[k]? = some o) (hl : loud.contains k = false) (hg : o.guard = none) (hd : o.dst = some d) (hlt : Nat.blt d C.n = true)
  (hrun : ∀ a w,Mod C.n e a → S w → (execOp a.eval o).run C.P w = .ok (.value v) w) (h : Nx C ((d,v) :: e) I R (wpMix C.P ops Q S loud r)) : Nx C e I R (wpMix C.P ops Q S loud (k :: r)):=by
 intro a w ha hw
 refine ⟨o,ho,?_⟩
 rw [if_neg (by rw [hl]; simp)]
 refine ⟨v,.inl ⟨by simp [Region.wanted,hg],fun w hS => hrun a w ha hS⟩,?_⟩
 rw [hd]
 exact h _ w (ha.put hlt v) hw
theorem Nx.mix_q_do {j dj : Nat} {want : Bool} (ho : ops[k]? = some o) (hl : loud.contains k = false) (hg : o.guard = some (j,want)) (hdj : (ops[j]?).bind (·.dst) = some dj) (hb : lk e dj = some (.bool want)) (hd : o.dst = some d) (hlt : Nat.blt d C.n = true)
  (hrun : ∀ a w,Mod C.n e a → S w → (execOp a.eval o).run C.P w = .ok (.value v) w) (h : Nx C ((d,v) :: e) I R (wpMix C.P ops Q S loud r)) : Nx C e I R (wpMix C.P ops Q S loud (k :: r)):=by
 intro a w ha hw
 refine ⟨o,ho,?_⟩
 rw [if_neg (by rw [hl]; simp)]
 refine ⟨v,.inl ⟨by simp [Region.wanted,hg,yielded_of ha hdj hb],fun w hS => hrun a w ha hS⟩,?_⟩
 rw [hd]
 exact h _ w (ha.put hlt v) hw
theorem Nx.mix_q_no {j dj : Nat} {want : Bool} (ho : ops[k]? = some o) (hl : loud.contains k = false) (hg : o.guard = some (j,want)) (hdj : (ops[j]?).bind (·.dst) = some dj) (hb : lk e dj = some (.bool (!want))) (hd : o.dst = some d) (hlt : Nat.blt d C.n = true)
  (h : Nx C ((d,undef) :: e) I R (wpMix C.P ops Q S loud r)) : Nx C e I R (wpMix C.P ops Q S loud (k :: r)):=by
 intro a w ha hw
 refine ⟨o,ho,?_⟩
 rw [if_neg (by rw [hl]; simp)]
 refine ⟨undef,.inr ⟨by simp [Region.wanted,hg,yielded_of ha hdj hb],rfl⟩,?_⟩
 rw [hd]
 exact h _ w (ha.put hlt undef) hw
theorem Nx.mix_l (ho : ops[k]? = some o) (hl : loud.contains k = true) (hg : o.guard = none) (h : Nx C e I R (opK C.P o (fun a w => S w ∧ wpMix C.P ops Q S loud r a w) Q)) : Nx C e I R (wpMix C.P ops Q S loud (k :: r)):=by
 intro a w ha hw
 refine ⟨o,ho,?_⟩
 rw [if_pos hl]
 unfold wpOp
 simp only [ho]
 rw [if_pos (by simp [Region.wanted,hg])]
 exact .inl (h a w ha hw)
theorem Nx.mix_l_do {j dj : Nat} {want : Bool} (ho : ops[k]? = some o) (hl : loud.contains k = true) (hg : o.guard = some (j,want)) (hdj : (ops[j]?).bind (·.dst) = some dj) (hb : lk e dj = some (.bool want))
  (h : Nx C e I R (opK C.P o (fun a w => S w ∧ wpMix C.P ops Q S loud r a w) Q)) : Nx C e I R (wpMix C.P ops Q S loud (k :: r)):=by
 intro a w ha hw
 refine ⟨o,ho,?_⟩
 rw [if_pos hl]
 unfold wpOp
 simp only [ho]
 rw [if_pos (by simp [Region.wanted,hg,yielded_of ha hdj hb])]
 exact .inl (h a w ha hw)
theorem Nx.mix_l_no {j dj : Nat} {want : Bool} (ho : ops[k]? = some o) (hl : loud.contains k = true) (hg : o.guard = some (j,want)) (hdj : (ops[j]?).bind (·.dst) = some dj) (hb : lk e dj = some (.bool (!want))) (hd : o.dst = some d) (hlt : Nat.blt d C.n = true)
  (h : Nx C ((d,undef) :: e) I R (fun a w => S w ∧ wpMix C.P ops Q S loud r a w)) : Nx C e I R (wpMix C.P ops Q S loud (k :: r)):=by
 intro a w ha hw
 refine ⟨o,ho,?_⟩
 rw [if_pos hl]
 unfold wpOp
 simp only [ho]
 rw [if_neg (by simp [Region.wanted,hg,yielded_of ha hdj hb]),hd]
 exact h _ w (ha.put hlt undef) hw
def AnyW : World → Prop:=fun _ => True
theorem Nx.mix_T (h : Nx C e I R K) : Nx C e I R (fun a w => AnyW w ∧ K a w):=fun a w ha hw => ⟨trivial,h a w ha hw⟩
theorem Nx.mix_S (hR : Ent R R0) (h : Nx C e I R K) : Nx C e I R (fun a w => St C.W I R0 w ∧ K a w):=fun a w ha hw => ⟨hw.ent hR,h a w ha hw⟩
variable {ty t el : TypeId} {pos : String} {after : Array Edge} {g : Option (Nat × Bool)} {x y : Operand} {A : Option Addr} {ad0 : Addr} {n c : Nat} {vs : List Value}
def QRun (C : Cx) (e : Env) (S : World → Prop) (o : Oper) (v : Value) : Prop:=∀ a w,Mod C.n e a → S w → (execOp a.eval o).run C.P w = .ok (.value v) w
theorem QRun.opr {op : Op} {dst : Option Tmp} (hv : opRun C.P e op = some v) : QRun C e S ⟨dst,op,ty,pos,after,g⟩ v:=fun _ w ha _ => opRun_sound hv ha w
theorem QRun.bin {op : BinOp} {u : TypeId} {vx vy : Value} {dst : Option Tmp} (hx : evo e x = some vx) (hy : evo e y = some vy) (hv : pureRun C.P (do eqGuard op t x y vx vy; binOp op t vx vy) = some v) : QRun C e S ⟨dst,.binOp op t x y u,ty,pos,after,g⟩ v :=
 fun a w ha _ => by simp only [execOp,ha.eval hx,ha.eval hy]; exact run_v (run_of_pureRun hv w)
theorem QRun.binr {op : BinOp} {u : TypeId} {vx vy : Value} {dst : Option Tmp} (hx : evo e x = some vx) (hy : evo e y = some vy) (hv : ∀ w,(do eqGuard op t x y vx vy; binOp op t vx vy).run C.P w = .ok v w) : QRun C e S ⟨dst,.binOp op t x y u,ty,pos,after,g⟩ v :=
 fun a w ha _ => by simp only [execOp,ha.eval hx,ha.eval hy]; exact run_v (hv w)
theorem QRun.add {u : TypeId} {p q : Int} {dst : Option Tmp} (hx : evo e x = some (.int .i64 p)) (hy : evo e y = some (.int .i64 q)) (hr : I64 (p + q)) : QRun C e S ⟨dst,.binOp .add t x y u,ty,pos,after,g⟩ (.int .i64 (p + q)) :=
 QRun.bin hx hy (by rw [← wrap_i64 hr]; rfl)
theorem QRun.sub {u : TypeId} {p q : Int} {dst : Option Tmp} (hx : evo e x = some (.int .i64 p)) (hy : evo e y = some (.int .i64 q)) (hr : I64 (p - q)) : QRun C e S ⟨dst,.binOp .sub t x y u,ty,pos,after,g⟩ (.int .i64 (p - q)) :=
 QRun.bin hx hy (by rw [← wrap_i64 hr]; rfl)
theorem QRun.mul {u : TypeId} {p q : Int} {dst : Option Tmp} (hx : evo e x = some (.int .i64 p)) (hy : evo e y = some (.int .i64 q)) (hr : I64 (p * q)) : QRun C e S ⟨dst,.binOp .mul t x y u,ty,pos,after,g⟩ (.int .i64 (p * q)) :=
 QRun.bin hx hy (by rw [← wrap_i64 hr]; rfl)
theorem QRun.conv_i64 {u : TypeId} {k0 : IntKind} {p : Int} {s : TypeDesc} {dst : Option Tmp} (hx : evo e x = some (.int k0 p)) (hs : C.P.underlying t = some s) (ht : C.P.underlying u = some (.int .i64)) (hr : I64 p) : QRun C e S ⟨dst,.convert t u x,ty,pos,after,g⟩ (.int .i64 p):=fun a w ha _ => by
 simp only [execOp,ha.eval hx]
 refine run_v ?_
 unfold convert
 rw [Sem.run_bind,run_underlying hs,Result.andThen_ok,Sem.run_bind,run_underlying ht,Result.andThen_ok]
 show Result.ok (Value.int .i64 (IntKind.i64.wrap p)) w = _
 rw [wrap_i64 hr]
theorem QRun.build {parts : Array (Nat × Operand)} {vs cs : List Value} {dst : Option Tmp} (hx : evs e (parts.toList.map (·.2)) = some vs)
  (hcs : buildV C.P t ((parts.toList.map (·.1)).zip vs) = some cs) (hv : pureRun C.P (Instr.build t (((parts.toList.map (·.1)).zip vs).toArray)) = some (.agg cs.toArray)) : QRun C e S ⟨dst,.build t parts,ty,pos,after,g⟩ (.agg cs.toArray) :=
 have _:=hcs
 fun a w ha _ => by
  have e1 : (parts.map fun (i,x) => (i,a.eval x)) = ((parts.toList.map (·.1)).zip vs).toArray:=by
   rw [← ha.evals hx]
   apply Array.ext'
   simp only [Array.toList_map]
   induction parts.toList with
   | nil => rfl
   | cons p r ih => simp [ih]
  simp only [execOp,e1]
  exact run_v (run_of_pureRun hv w)
theorem QRun.min2 {tys : Array TypeId} {k k' : IntKind} {p q : Int} {dst : Option Tmp} (hx : evo e x = some (.int k p)) (hy : evo e y = some (.int k' q)) : QRun C e S ⟨dst,.call { callee:=.builtin .min,args:=#[x,y],argTypes:=tys },ty,pos,after,g⟩ (.int k (min p q)):=fun a w ha _ => by
 obtain ⟨cs,hcs⟩:=run_builtin (P:=C.P) (w:=w) (ρ:=a.eval) (b:=.min) (args:=#[x,y]) (dst:=dst) (ty:=ty) (pos:=pos) (after:=after) (g:=g) (tys:=tys) (show [x,y].map a.eval = [Value.int k p,Value.int k' q] from by simp only [List.map_cons,List.map_nil,ha.eval hx,ha.eval hy])
 rw [hcs]
 refine run_v ?_
 show Result.ok (Value.int k (if q < p then q else p)) w = _
 have : (if q < p then q else p) = min p q:=by rw [Int.min_def]; split <;> split <;> omega
 rw [this]
theorem QRun.idx {k0 : IntKind} {i sz : Nat} {dst : Option Tmp} (hx : evo e x = some (.slice A n c)) (hy : evo e y = some (.int k0 (i : Int))) (ht : C.P.underlying t = some (.slice el)) (hsz : cellsIn C.P el = some sz) (h1 : i < n) (hA : A.isSome = true) :
  QRun C e S ⟨dst,.indexAddr t x y,ty,pos,after,g⟩ (.pointer (some ((ad A).add (i * sz)))):=fun a w ha _ => by
 simp only [execOp,ha.eval hx,ha.eval hy]
 refine run_v ?_
 cases A with
 | none => cases hA
 | some a => have:=run_indexAt (P:=C.P) (c:=c) (k:=k0) (a:=a) ht hsz (i:=(i : Int)) (n:=n) (by omega) (by omega) w; rw [nCt] at this; exact this
theorem QRun.idxi {k0 : IntKind} {i : Int} {sz : Nat} {dst : Option Tmp} (hx : evo e x = some (.slice A n c)) (hy : evo e y = some (.int k0 i)) (ht : C.P.underlying t = some (.slice el)) (hsz : cellsIn C.P el = some sz) (h0 : 0 ≤ i) (h1 : i < n) (hA : A.isSome = true) :
  QRun C e S ⟨dst,.indexAddr t x y,ty,pos,after,g⟩ (.pointer (some ((ad A).add (i.toNat * sz)))):=fun a w ha _ => by
 simp only [execOp,ha.eval hx,ha.eval hy]
 refine run_v ?_
 cases A with
 | none => cases hA
 | some a => exact run_indexAt ht hsz h0 h1 w
theorem QRun.load {dst : Option Tmp} (hx : evo e x = some (.pointer (some ad0))) (ht : plainT C.P t = true) (hr : Rd C.W I R0 ad0 v) : QRun C e (St C.W I R0) ⟨dst,.load t x,ty,pos,after,g⟩ v :=
 fun a w ha hw => by simp only [execOp,ha.eval hx]; exact run_v (run_loadVar_plain ht (hr w hw))
theorem QRun.loads {dst : Option Tmp} (hx : evo e x = some (.pointer (some ad0))) (ht : aggT C.P t = true) (hn : cellsIn C.P t = some n) (hr : Rds C.W I R0 ad0 vs) (hl : vs.length = n) : QRun C e (St C.W I R0) ⟨dst,.load t x,ty,pos,after,g⟩ (.agg vs.toArray) :=
 fun a w ha hw => by simp only [execOp,ha.eval hx]; exact run_v (run_loadVar_agg ht hn hl (fun j u hj => hr j u hj w hw))
end
end Go.Eng
