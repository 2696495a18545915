/-
  The proof engine, part M: maps that are owned, as lists of keys and values.
-/
import Derived.Test.YtaoeapmdhpkidaaEngG
import Derived.MapKept
namespace Go.Eng
open Go.Instr
/-- How keys of one kind lie in a map. -/
structure KeyEnc (P : Program) (kt : TypeId) {κ : Type} [DecidableEq κ] (g : κ → Value) : Prop where
  same : ∃ kind, P.underlying kt = some kind ∧ ∀ a b, sameNow kind (g a) (g b) = some (decide (a = b))
  check : ∀ (em : Bool) (a : κ) (w : World), (checkKey em 10000 kt (g a)).run P w = .ok () w
  bits : ∀ a, sameBits 10000 (g a) (g a) = true
theorem KeyEnc.int {P : Program} {kt : TypeId} {k : IntKind} (h : P.underlying kt = some (.int k)) : KeyEnc P kt (fun x : Int => Value.int k x) := by
  refine ⟨⟨_, h, fun a b => ?_⟩, fun em a w => ?_, fun a => by simp [sameBits]⟩
  · simp only [sameNow, if_pos]
    by_cases hab : a = b <;> simp [hab]
  · unfold checkKey
    rw [Sem.run_bind, run_underlying h, Result.andThen_ok]
    rfl
section
variable {κ α : Type} [DecidableEq κ] {g : κ → Value} {f : α → Value}
def mfindI : List (κ × α) → κ → Nat → Option (Nat × α)
  | [], _, _ => none
  | (k', v) :: r, k, i => if k = k' then some (i, v) else mfindI r k (i + 1)
def mget : List (κ × α) → κ → Option α
  | [], _ => none
  | (k', v) :: r, k => if k = k' then some v else mget r k
def mset : List (κ × α) → κ → α → List (κ × α)
  | [], k, v => [(k, v)]
  | (k', v') :: r, k, v => if k = k' then (k', v) :: r else (k', v') :: mset r k v
theorem mfindI_get : ∀ (l : List (κ × α)) (k : κ) (i : Nat), (mfindI l k i).map (·.2) = mget l k
  | [], _, _ => rfl
  | (k', v) :: r, k, i => by
    unfold mfindI mget
    split
    · rfl
    · exact mfindI_get r k (i + 1)
theorem mget_set (l : List (κ × α)) (k k' : κ) (v : α) : mget (mset l k v) k' = if k' = k then some v else mget l k' := by
  induction l with
  | nil =>
    simp only [mset, mget]
  | cons p r ih =>
    obtain ⟨q, u⟩ := p
    simp only [mset]
    by_cases h : k = q
    · rw [if_pos h]
      simp only [mget]
      by_cases h2 : k' = q
      · rw [if_pos h2, if_pos (h2.trans h.symm)]
      · rw [if_neg h2, if_neg (by rw [h]; exact h2), if_neg h2]
    · rw [if_neg h]
      simp only [mget]
      by_cases h2 : k' = q
      · rw [if_pos h2, if_pos h2, if_neg (by rw [h2]; exact fun h3 => h h3.symm)]
      · rw [if_neg h2, if_neg h2, ih]
def entOk (g : κ → Value) (f : α → Value) (es : List MapEntry) (l : List (κ × α)) : Prop := es.map (fun e => (e.key, e.val)) = l.map fun p => (g p.1, f p.2)
theorem findNow_ent {kind : TypeDesc} (hs : ∀ a b, sameNow kind (g a) (g b) = some (decide (a = b))) {k : κ} : ∀ {es : List MapEntry} {l : List (κ × α)} (i : Nat), entOk g f es l → findNow kind (g k) es i = some ((mfindI l k i).map fun p => (p.1, f p.2))
  | [], [], i, _ => rfl
  | [], _ :: _, i, h => by simp [entOk] at h
  | _ :: _, [], i, h => by simp [entOk] at h
  | e :: es, (q, u) :: l, i, h => by
    simp only [entOk, List.map_cons, List.cons.injEq, Prod.mk.injEq] at h
    obtain ⟨⟨h1, h2⟩, h3⟩ := h
    unfold findNow
    rw [h1, hs]
    unfold mfindI
    by_cases hk : k = q
    · simp [hk, h2]
    · simp only [hk, decide_false]
      exact findNow_ent hs (i + 1) h3
theorem modify_ent {k : κ} {v v0 : α} : ∀ {es : List MapEntry} {l : List (κ × α)} {i j : Nat}, entOk g f es l → mfindI l k i = some (j, v0) → i ≤ j ∧ j - i < es.length ∧ entOk g f (es.modify (j - i) fun e => { e with key := g k, val := f v }) (mset l k v)
  | [], [], i, j, _, h => by simp [mfindI] at h
  | [], _ :: _, i, j, h, _ => by simp [entOk] at h
  | _ :: _, [], i, j, h, _ => by simp [entOk] at h
  | e :: es, (q, u) :: l, i, j, h, hf => by
    simp only [entOk, List.map_cons, List.cons.injEq, Prod.mk.injEq] at h
    obtain ⟨⟨h1, h2⟩, h3⟩ := h
    unfold mfindI at hf
    unfold mset
    by_cases hk : k = q
    · rw [if_pos hk] at hf ⊢
      simp only [Option.some.injEq, Prod.mk.injEq] at hf
      obtain ⟨rfl, rfl⟩ := hf
      refine ⟨Nat.le_refl _, by simp, ?_⟩
      rw [Nat.sub_self]
      simp only [entOk, List.modify_zero_cons, List.map_cons, List.cons.injEq, Prod.mk.injEq]
      exact ⟨⟨by rw [hk], trivial⟩, h3⟩
    · rw [if_neg hk] at hf ⊢
      obtain ⟨a1, a2, a3⟩ := modify_ent (v := v) h3 hf
      refine ⟨by omega, by simp; omega, ?_⟩
      rw [show j - i = (j - (i + 1)) + 1 by omega]
      simp only [entOk, List.modify_succ_cons, List.map_cons, List.cons.injEq, Prod.mk.injEq]
      exact ⟨⟨h1, h2⟩, a3⟩
theorem push_ent {k : κ} {v : α} : ∀ {es : List MapEntry} {l : List (κ × α)} {i : Nat} {e : MapEntry}, entOk g f es l → mfindI l k i = none → e.key = g k → e.val = f v → entOk g f (es ++ [e]) (mset l k v)
  | [], [], i, e, _, _, h1, h2 => by simp [entOk, mset, h1, h2]
  | [], _ :: _, i, e, h, _, _, _ => by simp [entOk] at h
  | _ :: _, [], i, e, h, _, _, _ => by simp [entOk] at h
  | x :: es, (q, u) :: l, i, e, h, hf, he1, he2 => by
    simp only [entOk, List.map_cons, List.cons.injEq, Prod.mk.injEq] at h
    obtain ⟨⟨h1, h2⟩, h3⟩ := h
    unfold mfindI at hf
    by_cases hk : k = q
    · rw [if_pos hk] at hf; cases hf
    · rw [if_neg hk] at hf
      unfold mset
      rw [if_neg hk]
      simp only [entOk, List.cons_append, List.map_cons, List.cons.injEq, Prod.mk.injEq]
      exact ⟨⟨h1, h2⟩, push_ent h3 hf he1 he2⟩
/-- A map that is owned. -/
def MapR (g : κ → Value) (f : α → Value) (b : Nat) (l : List (κ × α)) : Res := fun m => ∃ es clock, m b = some (.map es clock) ∧ entOk g f es.toList l
theorem run_findKey_ent {P : Program} {kt : TypeId} (K : KeyEnc P kt g) {es : List MapEntry} {l : List (κ × α)} (h : entOk g f es l) (k : κ) (w : World) : (findKey kt (g k) es).run P w = .ok ((mfindI l k 0).map fun p => (p.1, f p.2)) w := by
  obtain ⟨kind, hk, hs⟩ := K.same
  unfold findKey
  rw [Sem.run_bind, run_underlying hk, Result.andThen_ok, findNow_ent hs 0 h]
  rfl
theorem run_lookup_ent {P : Program} {t kt et : TypeId} {b clock : Nat} {es : Array MapEntry} {l : List (κ × α)} {w : World} {z : α} (K : KeyEnc P kt g) (ht : P.underlying t = some (.map kt et)) (hz : (zeroValue et).run P w = .ok (f z) w) (hb : w.heap[b]? = some (.map es clock)) (h : entOk g f es.toList l) (k : κ) (ok : Bool) :
    (Instr.lookup t (.map (some b)) (g k) ok).run P w = .ok (if ok then .tuple #[f ((mget l k).getD z), .bool (mget l k).isSome] else f ((mget l k).getD z)) w := by
  have hg := mfindI_get l k 0
  unfold Instr.lookup
  rw [Sem.run_bind, run_underlying ht, Result.andThen_ok]
  simp only [Sem.run_bind, MapKept.run_getObj_map hb, Result.andThen_ok, Sem.run_pure, K.check, run_findKey_ent K h]
  cases hm : mfindI l k 0 with
  | none =>
    rw [hm] at hg
    simp only [Option.map_none, Sem.run_bind, hz, Result.andThen_ok, Sem.run_pure]
    rw [← hg]
    cases ok <;> rfl
  | some p =>
    rw [hm] at hg
    simp only [Option.map_some, Sem.run_bind, Result.andThen_ok, Sem.run_pure]
    rw [← hg]
    cases ok <;> rfl
theorem run_update_ent {P : Program} {t kt et : TypeId} {b clock : Nat} {es : Array MapEntry} {l : List (κ × α)} {w : World} (K : KeyEnc P kt g) (ht : P.underlying t = some (.map kt et)) (hb : w.heap[b]? = some (.map es clock)) (h : entOk g f es.toList l) (k : κ) (v : α) :
    ∃ es' clock', (Instr.mapUpdate t (.map (some b)) (g k) (f v)).run P w = .ok () { w with heap := w.heap.setIfInBounds b (.map es' clock') } ∧ entOk g f es'.toList (mset l k v) := by
  unfold Instr.mapUpdate
  cases hm : mfindI l k 0 with
  | none =>
    refine ⟨es.push ⟨g k, f v, clock⟩, clock + 1, ?_, by rw [Array.toList_push]; exact push_ent h hm rfl rfl⟩
    rw [Sem.run_bind, run_underlying ht, Result.andThen_ok]
    simp only [Sem.run_bind, MapKept.run_getObj_map hb, Result.andThen_ok, K.check, run_findKey_ent K h, hm, Option.map_none, MapKept.run_setObj_map _ hb]
  | some p =>
    obtain ⟨j, v0⟩ := p
    obtain ⟨_, hlt, hmod⟩ := modify_ent (v := v) h hm
    rw [Nat.sub_zero] at hlt hmod
    have hkey : es[j]?.map (·.key) = some (g k) := by
      have key : ∀ {es : List MapEntry} {l : List (κ × α)} {i : Nat}, entOk g f es l → mfindI l k i = some (j, v0) → i ≤ j ∧ (es[j - i]?).map (·.key) = some (g k) := by
        intro es
        induction es with
        | nil => intro l i h1 h2; cases l with
          | nil => simp [mfindI] at h2
          | cons _ _ => simp [entOk] at h1
        | cons e es ih =>
          intro l i h1 h2
          cases l with
          | nil => simp [entOk] at h1
          | cons q l =>
            obtain ⟨q, u⟩ := q
            simp only [entOk, List.map_cons, List.cons.injEq, Prod.mk.injEq] at h1
            obtain ⟨⟨a1, a2⟩, a3⟩ := h1
            unfold mfindI at h2
            by_cases hk : k = q
            · rw [if_pos hk] at h2
              simp only [Option.some.injEq, Prod.mk.injEq] at h2
              obtain ⟨rfl, rfl⟩ := h2
              refine ⟨Nat.le_refl _, ?_⟩
              rw [Nat.sub_self]
              simp [a1, hk]
            · rw [if_neg hk] at h2
              obtain ⟨b1, b2⟩ := ih a3 h2
              refine ⟨by omega, ?_⟩
              rw [show j - i = (j - (i + 1)) + 1 by omega, List.getElem?_cons_succ]
              exact b2
      have := (key h hm).2
      rw [Nat.sub_zero] at this
      rw [← Array.getElem?_toList]
      exact this
    refine ⟨es.modify j fun e => { e with key := g k, val := f v }, clock, ?_, by rw [Array.toList_modify]; exact hmod⟩
    rw [Sem.run_bind, run_underlying ht, Result.andThen_ok]
    simp only [Sem.run_bind, MapKept.run_getObj_map hb, Result.andThen_ok, K.check, run_findKey_ent K h, hm, Option.map_some, hkey, Option.getD_some, keyThatStays, K.bits, if_true, Sem.run_pure, MapKept.run_setObj_map _ hb]
end
section
variable {C : Cx} {e e' : Env} {I : PH} {R R' R0 : List Res} {K K' : Act → World → Prop} {Q : Exit → Act → World → Prop} {W : World}
variable {d : Nat} {ty t : TypeId} {pos : String} {after : Array Edge} {gd : Option (Nat × Bool)} {x y z : Operand} {dst : Option Tmp}
variable {κ α : Type}
theorem Nx.makeMap (g : κ → Value) (f : α → Value) (hlt : Nat.blt d C.n = true)
    (h : ∀ b, Nx C ((d, .map (some b)) :: e) I (MapR g f b [] :: R) K) : Nx C e I R (opK C.P ⟨some d, .makeMap t none, ty, pos, after, gd⟩ K Q) :=
  Nx.op_new (v := fun b => .map (some b)) (ob := .map #[] 0) rfl hlt (fun a w ha hw => by
    simp only [execOp, Option.map_none]
    exact run_v rfl) (fun b => (h b).ent (Ent.head fun m hm => ⟨#[], 0, hm, rfl⟩))
theorem MapR.held {g : κ → Value} {f : α → Value} {b : Nat} {l : List (κ × α)} {w : World} (h : St W I (MapR g f b l :: R) w) : ∃ es clock, w.heap[b]? = some (.map es clock) ∧ entOk g f es.toList l := by
  obtain ⟨⟨m, ⟨m1, m2, _, rfl, ⟨es, clock, hb, he⟩, _⟩, hs⟩, _⟩ := h
  exact ⟨es, clock, hs.own _ _ (PH.le_or_left _ _ _ _ hb), he⟩
variable [DecidableEq κ]
/-- m[k] = v, the map resource number i. -/
theorem Nx.mapSet (i : Nat) (g : κ → Value) (f : α → Value) {kt et : TypeId} {b : Nat} {l : List (κ × α)} {k : κ} {v : α} {op : Op} (hop : op = .insert t x y z ∨ op = .mapUpdate t x y z) (hx : evo e x = some (.map (some b))) (hy : evo e y = some (g k)) (hz : evo e z = some (f v))
    (KE : KeyEnc C.P kt g) (ht : C.P.underlying t = some (.map kt et)) (hk : nthL R i = some (MapR g f b l)) (h : Nx C e I (MapR g f b (mset l k v) :: R.eraseIdx i) K) : Nx C e I R (opK C.P ⟨none, op, ty, pos, after, gd⟩ K Q) := by
  refine Nx.ent (Ent.pull i R _ (nthL_eq.symm.trans hk)) ?_
  intro a w ha hw
  obtain ⟨es, clock, hb, he⟩ := MapR.held hw
  obtain ⟨es', clock', hr, he'⟩ := run_update_ent KE ht hb he k v
  unfold opK Oper.wp
  have hrun : (execOp a.eval ⟨none, op, ty, pos, after, gd⟩).run C.P w = .ok .skip { w with heap := w.heap.setIfInBounds b (.map es' clock') } := by
    rcases hop with rfl | rfl <;>
    · simp only [execOp, ha.eval hx, ha.eval hy, ha.eval hz]
      rw [Sem.run_bind, hr]
      rfl
  rw [hrun]
  have hlt := (Array.getElem?_eq_some_iff.1 hb).1
  refine h _ _ ha (hw.upd (o := .map es' clock') (b := b) (fun m hm => ?_) (by simp [hlt]) (fun j hne o' ho => ?_) ⟨rfl, rfl, rfl, by simp, Nat.le_refl _⟩)
  · obtain ⟨es1, clock1, h1, _⟩ := hm
    exact ⟨by rw [h1]; rfl, es', clock', by simp, he'⟩
  · simp only
    rw [Array.getElem?_setIfInBounds_ne (fun h => hne h.symm)]
    exact ho
/-- 'v, ok := m[k]' or 'm[k]', the map resource number i. -/
theorem Nx.mapGet (i : Nat) (g : κ → Value) (f : α → Value) {kt et : TypeId} {b : Nat} {l : List (κ × α)} {k : κ} {z : α} {ok : Bool} {ti : TypeInfo} (hx : evo e x = some (.map (some b))) (hy : evo e y = some (g k))
    (KE : KeyEnc C.P kt g) (ht : C.P.underlying t = some (.map kt et)) (hi : C.P.info? et = some ti) (hz : ti.zero = some (f z)) (hlt : Nat.blt d C.n = true) (hk : nthL R i = some (MapR g f b l))
    (h : Nx C ((d, if ok then .tuple #[f ((mget l k).getD z), .bool (mget l k).isSome] else f ((mget l k).getD z)) :: e) I R K) : Nx C e I R (opK C.P ⟨some d, .lookup t x y ok, ty, pos, after, gd⟩ K Q) :=
  Nx.op_run rfl hlt (fun a w ha hw => by
    obtain ⟨es, clock, hb, he⟩ := MapR.held (hw.ent (Ent.pull i R _ (nthL_eq.symm.trans hk)))
    simp only [execOp, ha.eval hx, ha.eval hy]
    exact run_v (run_lookup_ent KE ht (by simp [zeroValue, typeInfo, hi, hz]) hb he k ok)) h
theorem QRun.mapGet (i : Nat) (g : κ → Value) (f : α → Value) {kt et : TypeId} {b : Nat} {l : List (κ × α)} {k : κ} {z : α} {ok : Bool} {ti : TypeInfo} (hx : evo e x = some (.map (some b))) (hy : evo e y = some (g k))
    (KE : KeyEnc C.P kt g) (ht : C.P.underlying t = some (.map kt et)) (hi : C.P.info? et = some ti) (hz : ti.zero = some (f z)) (hk : nthL R0 i = some (MapR g f b l)) :
    QRun C e (St C.W I R0) ⟨dst, .lookup t x y ok, ty, pos, after, gd⟩ (if ok then .tuple #[f ((mget l k).getD z), .bool (mget l k).isSome] else f ((mget l k).getD z)) := fun a w ha hw => by
  obtain ⟨es, clock, hb, he⟩ := MapR.held (hw.ent (Ent.pull i R0 _ (nthL_eq.symm.trans hk)))
  simp only [execOp, ha.eval hx, ha.eval hy]
  exact run_v (run_lookup_ent KE ht (by simp [zeroValue, typeInfo, hi, hz]) hb he k ok)
end
end Go.Eng
