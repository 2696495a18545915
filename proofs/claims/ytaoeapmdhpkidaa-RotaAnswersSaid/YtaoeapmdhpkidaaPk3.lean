/-
  The proof engine, part H: a statement of open order whose last operations write what its first ones read: behind them nothing is asked of the world.
-/
import Derived.Laws.Bits64
import Derived.Laws.Bits64b
import Derived.Laws.Externs
import Derived.Shelf.Spec.BitsCarry
import Derived.Lib.ItoaNum
import Derived.Lib.TrailingZeros
import Derived.Sort.Grow
import Derived.Lib.AppendIntMem
import Derived.Lib.ItoaLen
import Derived.Laws.Concat
import Derived.Laws.Strings
import Derived.Laws.StructEq
import Derived.Laws.Small
import Derived.MapKept
import Derived.Lib.AppendStr
import Derived.Laws.IdiomStrings
import Derived.Laws.Strings2
import Derived.Laws.Cover1
import Derived.Test.YtaoeapmdhpkidaaProg
import Derived.Test.YtaoeapmdhpkidaaPk2
namespace Go.Eng
/-- In whatever order the operations come up, S holds behind each of them that is not among the last ones. -/
def wpAnyF (P : Program) (md : Region.Mode) (ops : Array Oper) (Q : Exit → Act → World → Prop) (S : World → Prop) (fin : List Nat) : Nat → Array Bool → Act → World → Prop
  | 0, listed, a, w => Region.ready md ops listed = [] ∧ Q .normal a w
  | n + 1, listed, a, w => (Region.ready md ops listed = [] → Q .normal a w) ∧
    ∀ i ∈ Region.ready md ops listed, wpOp P ops Q i (fun a' w' => (fin.contains i = false → S w') ∧ wpAnyF P md ops Q S fin n (listed.setIfInBounds i true) a' w') a w
section
variable {P : Program} {ops : Array Oper} {Q : Exit → Act → World → Prop} {md : Region.Mode} {S : World → Prop} {fin : List Nat}
theorem wpAny_of_fin : ∀ (n : Nat) (listed : Array Bool) (a : Act) (w : World), wpAnyF P md ops Q S fin n listed a w → wpAny P md ops Q n listed a w
  | 0, _, _, _, h => h
  | n + 1, _, _, _, h => ⟨h.1, fun i hi => wpOp_mono (fun a' w' h' => wpAny_of_fin n _ a' w' h'.2) (h.2 i hi)⟩
theorem ready_waits {i j : Nat} {oj : Oper} {listed : Array Bool} (hi : i ∈ Region.ready md ops listed) (hj : j ∈ Region.ready md ops listed) (ho : ops[j]? = some oj) : ∀ e ∈ oj.after, Region.binds md e = true → e.on ≠ i := by
  intro e he hb heq
  obtain ⟨_, o, ho', hall⟩ := mem_ready.1 hj
  obtain ⟨h0, _, _, _⟩ := mem_ready.1 hi
  rw [ho] at ho'
  obtain rfl : oj = o := by simpa using ho'
  have h1 := hall e he hb
  subst heq
  rcases Nat.lt_or_ge e.on listed.size with h' | h'
  · simp [h'] at h0 h1
    rw [h0] at h1; cases h1
  · simp [Array.getElem?_eq_none h'] at h1
/-- Whatever has come up, what it waits for has come up. -/
def Closed (md : Region.Mode) (ops : Array Oper) (listed : Array Bool) : Prop := ∀ k o, ops[k]? = some o → listed.getD k false = true → ∀ e ∈ o.after, Region.binds md e = true → listed.getD e.on false = true
theorem Closed.start (n : Nat) : Closed md ops (Array.replicate n false) := fun k o _ h => by
  exfalso
  by_cases hk : k < n <;> simp [hk] at h
theorem Closed.set {i : Nat} {listed : Array Bool} (h : Closed md ops listed) (hi : i ∈ Region.ready md ops listed) : Closed md ops (listed.setIfInBounds i true) := fun k o ho hk e he hb => by
  by_cases hik : i = k
  · subst hik
    obtain ⟨_, o', ho', hall⟩ := mem_ready.1 hi
    rw [ho] at ho'
    obtain rfl : o = o' := by simpa using ho'
    exact getD_set_true (hall e he hb)
  · rw [getD_set_ne false hik] at hk
    exact getD_set_true (h k o ho hk e he hb)
/-- Number j waits for number i, directly or through others. -/
def waitsOn (md : Region.Mode) (ops : Array Oper) : Nat → Nat → Nat → Bool
  | 0, _, _ => false
  | n + 1, j, i => match ops[j]? with
    | some o => o.after.any fun e => Region.binds md e && (Nat.beq e.on i || waitsOn md ops n e.on i)
    | none => false
theorem waitsOn_listed {i : Nat} {listed : Array Bool} (hc : Closed md ops listed) : ∀ (n j : Nat), waitsOn md ops n j i = true → (∀ o, ops[j]? = some o → ∀ e ∈ o.after, Region.binds md e = true → listed.getD e.on false = true) → listed.getD i false = true
  | 0, j, h, _ => by simp [waitsOn] at h
  | n + 1, j, h, hj => by
    unfold waitsOn at h
    split at h
    · rename_i o ho
      obtain ⟨e, he, hb⟩ := Array.any_eq_true'.1 h
      simp only [Bool.and_eq_true, Bool.or_eq_true] at hb
      have h1 := hj o ho e he hb.1
      rcases hb.2 with h2 | h2
      · rw [← Nat.eq_of_beq_eq_true h2]; exact h1
      · exact waitsOn_listed hc n e.on h2 fun o' ho' => hc e.on o' ho' h1
    · cases h
/-- The last ones wait for number i. -/
def finWaits (md : Region.Mode) (ops : Array Oper) (fin : List Nat) (i : Nat) : Bool := fin.all fun j => waitsOn md ops 2 j i || waitsOn md ops 4 j i || waitsOn md ops 9 j i
theorem finWaits_not {i j : Nat} {listed : Array Bool} (hc : Closed md ops listed) (h : finWaits md ops fin i = true) (hi : i ∈ Region.ready md ops listed) (hj : j ∈ Region.ready md ops listed) : fin.contains j = false := by
  cases hf : fin.contains j with
  | false => rfl
  | true =>
    exfalso
    have h1 := List.all_eq_true.1 h j (by simpa using hf)
    obtain ⟨_, oj, hoj, hall⟩ := mem_ready.1 hj
    have hj' : ∀ o, ops[j]? = some o → ∀ e ∈ o.after, Region.binds md e = true → listed.getD e.on false = true := fun o ho => by
      rw [hoj] at ho
      obtain rfl : oj = o := by simpa using ho
      exact hall
    have h2 : listed.getD i false = true := by
      simp only [Bool.or_eq_true] at h1
      rcases h1 with (h1 | h1) | h1 <;> exact waitsOn_listed hc _ j h1 hj'
    have h0 := (mem_ready.1 hi).1
    rcases Nat.lt_or_ge i listed.size with h' | h'
    · simp [h'] at h0 h2
      rw [h0] at h2; cases h2
    · simp [Array.getElem?_eq_none h'] at h2
theorem wpAnyF_first {i : Nat} {oi : Oper} {v : Value} (hi : ops[i]? = some oi) (hs : Region.noSelect ops = true) (hQ : PanicOk Q) (hfin : finWaits md ops fin i = true) :
    ∀ (n : Nat) (listed : Array Bool) (a : Act) (w : World), Closed md ops listed →
      (∀ j oj, ops[j]? = some oj → j ≠ i → listed.getD j true = false → (∀ e ∈ oj.after, Region.binds md e = true → e.on ≠ i) → oi.apart ops oj = true) →
      i ∈ Region.ready md ops listed → YieldsIf P ops S oi v a → S w →
      wpAnyF P md ops Q S fin n (listed.setIfInBounds i true) (a.put oi.dst v) w → wpAnyF P md ops Q S fin (n + 1) listed a w
  | n, listed, a, w, hcl, hap, hr, hy, hS, H => by
    refine ⟨fun h0 => (by rw [h0] at hr; cases hr), fun j hj => ?_⟩
    by_cases hji : j = i
    · subst hji; exact hy.wpOp hi hS ⟨fun _ => hS, H⟩
    · have hj2 := ready_mono hj hji
      obtain ⟨hjun, oj, hoj, _⟩ := mem_ready.1 hj
      have hno := ready_waits hr hj hoj
      have hnf := finWaits_not hcl hfin hr hj
      match n, H with
      | 0, H => rw [H.1] at hj2; cases hj2
      | n + 1, H =>
        have h1 := H.2 j hj2
        have h2 := wpOp_putIf hoj (hap j oj hoj hji hjun hno) (fun cs b => Region.noSelect_spec hs i oi cs b hi) (fun cs b => Region.noSelect_spec hs j oj cs b hoj) (fun c a w => hQ c oi.dst v a w) hy h1
        refine wpOp_mono (fun a' w' h3 => ?_) h2
        obtain ⟨hy', hS', H'⟩ := h3
        refine ⟨fun _ => hS' hnf, wpAnyF_first hi hs hQ hfin n (listed.setIfInBounds j true) a' w' (hcl.set hj) (fun k ok hk hki hun hnk => ?_) (ready_mono hr (Ne.symm hji)) hy' (hS' hnf) ?_⟩
        · refine hap k ok hk hki ?_ hnk
          by_cases hjk : j = k
          · subst hjk; exact hjun
          · rwa [getD_set_ne true hjk] at hun
        · rw [Array.setIfInBounds_comm _ _ hji]
          exact H'
theorem wpOp_then {T : Act → World → Prop} {i : Nat} {a : Act} {w : World} {K : Act → World → Prop} (hh : wpOp P ops (Exit.then T Q) i K a w) : wpOp P ops Q i K a w := by
  unfold wpOp at *
  split
  · simpa [*] using hh
  · rename_i o ho
    simp only [ho] at hh
    split
    · rename_i hw
      simp only [hw, if_true] at hh
      rcases hh with hh | hh
      · refine .inl ?_
        unfold Oper.wp at *
        generalize (execOp a.eval o).run P w = r at *
        cases r with
        | ok n w' =>
          cases n <;> simp only [Oper.upon] at hh ⊢ <;>
            first
              | exact hh
              | exact Calls.mono hh (fun e w'' he => by cases e <;> exact he)
              | exact Rows.mono hh (fun _ _ he => he)
        | halt x w' => cases x <;> simp only [Oper.upon] at hh ⊢ <;> exact hh
      · exact .inr hh
    · rename_i hw
      simpa [hw] using hh
def mixOkF (ops : Array Oper) (fin loud : List Nat) : List Nat → Array Bool → Bool
  | [], listed => mixOk ops fin fin listed
  | k :: r, listed => (if loud.contains k then Region.ready .any ops listed == [k] && !(fin.contains k) else Region.free .any ops listed k && (Region.ready .any ops listed).contains k && finWaits .any ops fin k) && mixOkF ops fin loud r (listed.setIfInBounds k true)
theorem wpMix_fin (hs : Region.noSelect ops = true) (hQ : PanicOk Q) (hall : ∀ k ∈ fin, fin.contains k = true) : ∀ (r : List Nat) (n : Nat) (listed : Array Bool) (a : Act) (w : World), (∀ k ∈ r, fin.contains k = true) →
    mixOk ops fin r listed = true → r.length ≤ n → wpMix P ops Q AnyW fin r a w → wpAnyF P .any ops Q S fin n listed a w
  | [], n, listed, a, w, _, hok, _, h => by
    have hr : Region.ready .any ops listed = [] := by simpa [mixOk] using hok
    cases n with
    | zero => exact ⟨hr, h⟩
    | succ n => exact ⟨fun _ => h, by rw [hr]; simp⟩
  | k :: r, 0, listed, a, w, _, _, hl, _ => by simp at hl
  | k :: r, n + 1, listed, a, w, hk, hok, hl, h => by
    obtain ⟨o, ho, h⟩ := h
    have hkf := hk k (by simp)
    unfold mixOk at hok
    rw [if_pos hkf] at h hok
    simp only [Bool.and_eq_true, beq_iff_eq] at hok
    refine ⟨fun h0 => (by rw [hok.1] at h0; cases h0), fun i hi => ?_⟩
    rw [hok.1] at hi
    obtain rfl : i = k := by simpa using hi
    refine wpOp_mono (fun a' w' h3 => ⟨fun hf => ?_, wpMix_fin hs hQ hall r n _ a' w' (fun j hj => hk j (by simp [hj])) hok.2 (by simpa using hl) h3.2⟩) h
    rw [hkf] at hf; cases hf
theorem wpMix_anyF (hs : Region.noSelect ops = true) (hQ : PanicOk Q) {loud : List Nat} : ∀ (ord : List Nat) (n : Nat) (listed : Array Bool) (a : Act) (w : World), Closed .any ops listed →
    mixOkF ops fin loud ord listed = true → ord.length + fin.length ≤ n → S w → wpMix P ops (Exit.then (wpMix P ops Q AnyW fin fin) Q) S loud ord a w → wpAnyF P .any ops Q S fin n listed a w
  | [], n, listed, a, w, _, hok, hl, _, h => wpMix_fin hs hQ (fun k hk => by simpa using hk) fin n listed a w (fun k hk => by simpa using hk) hok (by simpa using hl) h
  | k :: r, 0, listed, a, w, _, _, hl, _, _ => by simp at hl
  | k :: r, n + 1, listed, a, w, hcl, hok, hl, hS, h => by
    obtain ⟨o, ho, h⟩ := h
    unfold mixOkF at hok
    rw [Bool.and_eq_true] at hok
    obtain ⟨hk, hr⟩ := hok
    have hl' : r.length + fin.length ≤ n := by simp only [List.length_cons] at hl; omega
    by_cases hc : loud.contains k = true
    · rw [if_pos hc] at h hk
      simp only [Bool.and_eq_true, beq_iff_eq, Bool.not_eq_true'] at hk
      refine ⟨fun h0 => (by rw [hk.1] at h0; cases h0), fun i hi => ?_⟩
      rw [hk.1] at hi
      obtain rfl : i = k := by simpa using hi
      refine wpOp_then (T := wpMix P ops Q AnyW fin fin) ?_
      exact wpOp_mono (fun a' w' h3 => ⟨fun _ => h3.1, wpMix_anyF hs hQ r n _ a' w' (hcl.set (by rw [hk.1]; simp)) hr hl' h3.1 h3.2⟩) h
    · rw [if_neg hc] at h hk
      simp only [Bool.and_eq_true] at hk
      obtain ⟨v, hy, h⟩ := h
      exact wpAnyF_first ho hs hQ hk.2 n listed a w hcl (Region.free_spec ho hk.1.1) (by simpa using hk.1.2) hy hS (wpMix_anyF hs hQ r n _ _ w (hcl.set (by simpa using hk.1.2)) hr hl' hS h)
end
section
variable {C : Cx} {e e' : Env} {I : PH} {R R' R0 : List Res} {K K' : Act → World → Prop} {Q : Exit → Act → World → Prop} {W : World} {c : Code} {ops : Array Oper}
theorem Nx.p_drawF {id : Nat} (hid : cid c = id) (ord loud fin : List Nat) (R0 : List Res) (hk : ck c = 2) (hm : C.P.follows .mixedOrders = true) (hs : Region.noSelect (cops c) = true) (hok : mixOkF (cops c) fin loud ord (Array.replicate (cops c).size false) = true) (hlen : Nat.ble (ord.length + fin.length) (cops c).size = true) (hQ : PanicOk Q) (hR : Ent R R0)
    (h : Nx C e I R (wpMix C.P (cops c) (Exit.then (wpMix C.P (cops c) Q AnyW fin fin) Q) (St C.W I R0) loud ord)) : Nx C e I R (c.wp C.P Q) := by
  have hc : c = .region (cid c) (cops c) true := by
    cases c <;> first | (simp [ck] at hk; done) | skip
    rename_i b
    cases b with
    | false => simp [ck] at hk
    | true => rfl
  clear hid
  rw [hc]
  intro a w ha hw
  refine wp_region_any hm (wpAny_of_fin _ _ _ _ (wpMix_anyF (S := St C.W I R0) hs hQ ord _ _ a _ (Closed.start _) hok (Nat.le_of_ble_eq_true hlen) (hw.drew.ent hR) (h a _ ha hw.drew)))
theorem Ent.eraseK : ∀ (k : Nat) (R : List Res), Ent R (R.eraseIdx k)
  | _, [] => Ent.refl _
  | 0, _ :: _ => Ent.drop (Ent.refl _)
  | k + 1, _ :: R => Ent.cons (Ent.eraseK k R)

/-! ## Results: temporaries and variables of the call's own, mixed -/
/-- One result's value. -/
def resOne (tmps : Array Value) : ResultVar → Sem Value
  | .tmp t => pure (tmps.getD t undef)
  | .cell x t => do loadVar t (← asAddr (tmps.getD x undef))
theorem results_eq (fn : Func) (tmps : Array Value) : results fn tmps = (do
  let vs ← fn.results.mapM (resOne tmps)
  pure (if h : vs.size = 1 then vs[0] else .tuple vs)) := by
  unfold results
  congr 1
def ROne (C : Cx) (e : Env) (I : PH) (R : List Res) (r : ResultVar) (v : Value) : Prop := ∀ a w, Mod C.n e a → St C.W I R w → (resOne a.tmps r).run C.P w = .ok v w
variable {v v1 v2 v3 : Value}
theorem ROne.tmp {t : Nat} (h : lk e t = some v) : ROne C e I R (.tmp t) v := fun a w ha _ => by simp [resOne, ha.get t v h]
theorem ROne.cell (k : Nat) {nc t0 b : Nat} {ty tb : TypeId} {cs : List Value} (hx : lk e t0 = some (.pointer (some ⟨b, 0, none⟩))) (ht : aggT C.P ty = true) (hn : cellsIn C.P ty = some nc) (hl : cs.length = nc) (hk : nthL R k = some (Blk b tb cs)) : ROne C e I R (.cell t0 ty) (.agg cs.toArray) := fun a w ha hw => by
  have hload := run_loadVar_agg (A := ⟨b, 0, none⟩) ht hn hl (fun j u hj => (Rds.at_ k hk : Rds C.W I R ⟨b, 0, none⟩ cs) j u hj w hw)
  simp [resOne, ha.get t0 _ hx, asAddr, hload]
/-- A result that is one cell, in a variable of the call's own. -/
theorem ROne.cell1 (k : Nat) {t0 b : Nat} {ty tb : TypeId} (hx : lk e t0 = some (.pointer (some ⟨b, 0, none⟩))) (ht : plainT C.P ty = true) (hk : nthL R k = some (Blk b tb [v])) : ROne C e I R (.cell t0 ty) v := fun a w ha hw => by
  have hload := run_loadVar_plain (A := ⟨b, 0, none⟩) ht ((Rd.at_ (i := 0) k hk rfl : Rd C.W I R ⟨b, 0, none⟩ v) w hw)
  simp [resOne, ha.get t0 _ hx, asAddr, hload]
theorem Nx.ret1 {fn : Func} {F : Res} {Post : Value → List Res → Prop} {r1 : ResultVar} (hres : fn.results.toList = [r1]) (h1 : ROne C e I R r1 v1) (R' : List Res) (hp : Post v1 R') (hR : Ent R (R' ++ [F])) : Nx C e I R (fnPost C.P fn I F C.W Post .ret) :=
  fun a w ha hw => ⟨ha.defers, _, by
    have hr : fn.results = #[r1] := by
      have : fn.results = [r1].toArray := by rw [← hres]
      simpa using this
    have e1 := h1 a w ha hw
    rw [results_eq, hr]
    simp [e1], _, R', rfl, hp, hw.ent hR⟩
theorem Nx.ret2 {fn : Func} {F : Res} {Post : Value → List Res → Prop} {r1 r2 : ResultVar} (hres : fn.results.toList = [r1, r2]) (h1 : ROne C e I R r1 v1) (h2 : ROne C e I R r2 v2) (R' : List Res) (hp : Post (.tuple #[v1, v2]) R') (hR : Ent R (R' ++ [F])) : Nx C e I R (fnPost C.P fn I F C.W Post .ret) :=
  fun a w ha hw => ⟨ha.defers, _, by
    have hr : fn.results = #[r1, r2] := by
      have : fn.results = [r1, r2].toArray := by rw [← hres]
      simpa using this
    have e1 := h1 a w ha hw
    have e2 := h2 a w ha hw
    rw [results_eq, hr]
    simp [e1, e2], _, R', rfl, hp, hw.ent hR⟩
theorem Nx.ret3 {fn : Func} {F : Res} {Post : Value → List Res → Prop} {r1 r2 r3 : ResultVar} (hres : fn.results.toList = [r1, r2, r3]) (h1 : ROne C e I R r1 v1) (h2 : ROne C e I R r2 v2) (h3 : ROne C e I R r3 v3) (R' : List Res) (hp : Post (.tuple #[v1, v2, v3]) R') (hR : Ent R (R' ++ [F])) : Nx C e I R (fnPost C.P fn I F C.W Post .ret) :=
  fun a w ha hw => ⟨ha.defers, _, by
    have hr : fn.results = #[r1, r2, r3] := by
      have : fn.results = [r1, r2, r3].toArray := by rw [← hres]
      simpa using this
    have e1 := h1 a w ha hw
    have e2 := h2 a w ha hw
    have e3 := h3 a w ha hw
    rw [results_eq, hr]
    simp [e1, e2, e3], _, R', rfl, hp, hw.ent hR⟩
/-- A store whose block is told in other words. -/
theorem Nx.store_as (k : Nat) {x y : Operand} {ty t : TypeId} {pos : String} {after : Array Edge} {g : Option (Nat × Bool)} {vy : Value} {n b i : Nat} {t0 : TypeId} {cs cs' : List Value} (cs2 : List Value) (hx : evo e x = some (.pointer (some ⟨b, i, none⟩))) (hy : evo e y = some vy) (hk : nthL R k = some (Blk b t0 cs)) (hs : setsAt cs i (cellsL vy) = some cs')
    (h1 : (cellsL vy).all Value.oneCell' = true) (hn : cellsIn C.P t = some n) (hl : Nat.beq (cellsL vy).length n = true) (he : cs' = cs2) (h : Nx C e I (Blk b t0 cs2 :: R.eraseIdx k) K) : Nx C e I R (opK C.P ⟨none, .store t x y, ty, pos, after, g⟩ K Q) :=
  Nx.store_blk k hx hy hk hs h1 hn hl (by rw [he]; exact h)
end
end Go.Eng
/-
  The proof engine, part K: a statement of open order with allocations that may come at any time, in steps that a walk finds by itself.
-/
namespace Go.Eng
/-- What is still to come: a chain of operations (those that only read are taken first, the others come up one behind the other), allocations at any time, and last ones behind all of them. -/
def GoodF (C : Cx) (ops : Array Oper) (Q : Exit → Act → World → Prop) (S : World → Prop) (I : PH) (pool : List PoolOp) (loud fin : List Nat) : List Nat → Env → List Res → Prop
  | [], e, R => keysFree pool e = true ∧ ∀ bs : List Nat, bs.length = pool.length → Nx C (e ++ pe pool (bs.map some)) I (Stars (pr pool (bs.map some)) :: R) (wpMix C.P ops Q AnyW fin fin)
  | k :: ch, e, R => keysFree pool e = true ∧ match loud.contains k with
    | true => ∀ (ex : Env) (X : Res), Nx C (e ++ ex) I (X :: R) (wpOp C.P ops Q k (fun a w => S w ∧ ∃ e' R', Mod C.n (e' ++ ex) a ∧ St C.W I (X :: R') w ∧ GoodF C ops Q S I pool loud fin ch e' R'))
    | false => ∃ o v e', ops[k]? = some o ∧ (∀ a ex, Mod C.n (e ++ ex) a → YieldsIf C.P ops S o v a ∧ Mod C.n (e' ++ ex) (a.put o.dst v)) ∧ GoodF C ops Q S I pool loud fin ch e' R
theorem GoodF.free {C : Cx} {ops : Array Oper} {Q : Exit → Act → World → Prop} {S : World → Prop} {I : PH} {pool : List PoolOp} {loud fin ch : List Nat} {e : Env} {R : List Res} (h : GoodF C ops Q S I pool loud fin ch e R) : keysFree pool e = true := by
  cases ch <;> exact h.1
def PoolSF (C : Cx) (ops : Array Oper) (Q : Exit → Act → World → Prop) (S : World → Prop) (I : PH) (pool : List PoolOp) (loud fin ch : List Nat) (ex : Env) (X : Res) : Act → World → Prop :=
  fun a w => S w ∧ ∃ e' R', Mod C.n (e' ++ ex) a ∧ St C.W I (X :: R') w ∧ GoodF C ops Q S I pool loud fin ch e' R'
def poolOkF (ops : Array Oper) (loud fin : List Nat) (pool : List PoolOp) : Nat → List Nat → List Bool → Array Bool → Bool
  | fuel, [], fl, listed =>
    if fl.all id then mixOk ops fin fin listed && Nat.ble fin.length fuel
    else match fuel with
      | 0 => false
      | f + 1 => !(Region.ready .any ops listed).isEmpty && (Region.ready .any ops listed).all fun i => match findP pool fl i 0 with
        | some j => poolOkF ops loud fin pool f [] (fl.set j true) (listed.setIfInBounds i true)
        | none => false
  | 0, _ :: _, _, _ => false
  | f + 1, k :: ch, fl, listed => match loud.contains k with
    | true => !(Region.ready .any ops listed).isEmpty && (Region.ready .any ops listed).all fun i =>
      if Nat.beq i k then poolOkF ops loud fin pool f ch fl (listed.setIfInBounds i true)
      else match findP pool fl i 0 with
        | some j => poolOkF ops loud fin pool f (k :: ch) (fl.set j true) (listed.setIfInBounds i true)
        | none => false
    | false => Region.free .any ops listed k && (Region.ready .any ops listed).contains k && finWaits .any ops fin k && poolOkF ops loud fin pool f ch fl (listed.setIfInBounds k true)
section
variable {C : Cx} {e e' : Env} {I : PH} {R R' R0 : List Res} {K K' : Act → World → Prop} {Q : Exit → Act → World → Prop} {W : World}
variable {ops : Array Oper} {S : World → Prop} {loud fin ch : List Nat} {pool : List PoolOp} {c : Code} {o : Oper}
theorem pool_anyF (hs : Region.noSelect ops = true) (hQ : PanicOk Q) (hd : (pool.map (·.d)).Pairwise (· ≠ ·)) (hfit : ∀ p ∈ pool, PoolFit C ops p) (hS : ∀ w o, S w → S (w.alloc o)) :
    ∀ (fuel : Nat) (ch : List Nat) (bs : List (Option Nat)) (listed : Array Bool) (e : Env) (R : List Res) (a : Act) (w : World), Closed .any ops listed → poolOkF ops loud fin pool fuel ch (bs.map Option.isSome) listed = true → bs.length = pool.length →
      Mod C.n (e ++ pe pool bs) a → St C.W I (Stars (pr pool bs) :: R) w → S w → GoodF C ops Q S I pool loud fin ch e R → wpAnyF C.P .any ops Q S fin fuel listed a w := by
  have hfull : ∀ (fuel : Nat) (bs : List (Option Nat)) (listed : Array Bool) (e : Env) (R : List Res) (a : Act) (w : World), (bs.map Option.isSome).all id = true → (mixOk ops fin fin listed && Nat.ble fin.length fuel) = true → bs.length = pool.length →
      Mod C.n (e ++ pe pool bs) a → St C.W I (Stars (pr pool bs) :: R) w → GoodF C ops Q S I pool loud fin [] e R → wpAnyF C.P .any ops Q S fin fuel listed a w := by
    intro fuel bs listed e R a w hall hok hbl ha hw hg
    obtain ⟨l, rfl⟩ := map_isSome hall
    rw [Bool.and_eq_true] at hok
    exact wpMix_fin hs hQ (fun k hk => by simpa using hk) fin fuel listed a w (fun k hk => by simpa using hk) hok.1 (Nat.le_of_ble_eq_true hok.2) (hg.2 l (by simpa using hbl) a w ha hw)
  intro fuel
  induction fuel with
  | zero =>
    intro ch bs listed e R a w hcl hok hbl ha hw hSw hg
    cases ch with
    | cons k ch => simp [poolOkF] at hok
    | nil =>
      unfold poolOkF at hok
      split at hok
      · rename_i hall
        exact hfull 0 bs listed e R a w hall hok hbl ha hw hg
      · cases hok
  | succ f ih =>
    intro ch bs listed e R a w hcl hok hbl ha hw hSw hg
    have poolStep : ∀ i j, i ∈ Region.ready .any ops listed → findP pool (bs.map Option.isSome) i 0 = some j → poolOkF ops loud fin pool f ch ((bs.map Option.isSome).set j true) (listed.setIfInBounds i true) = true →
        wpOp C.P ops Q i (fun a' w' => (fin.contains i = false → S w') ∧ wpAnyF C.P .any ops Q S fin f (listed.setIfInBounds i true) a' w') a w := by
      intro i j hir hfj hokj
      obtain ⟨m, p, hm, hpm, hfm, hpk⟩ := findP_ok hfj
      obtain rfl : j = m := by omega
      subst hpk
      have hbj : bs[j]? = some none := by
        rw [List.getElem?_map] at hfm
        cases hbj : bs[j]? with
        | none => rw [hbj] at hfm; cases hfm
        | some o => cases o with
          | none => rfl
          | some b => rw [hbj] at hfm; cases hfm
      obtain ⟨⟨ty, pos, after, hop⟩, hz, hlt⟩ := hfit p (List.mem_of_getElem? hpm)
      unfold wpOp
      simp only [hop]
      rw [if_pos (by simp [Region.wanted])]
      refine .inl ?_
      obtain ⟨z, hzc, hrun⟩ := zeroOf_run hz w
      have hrun' : (execOp a.eval ⟨some p.d, .alloc p.t, ty, pos, after, none⟩).run C.P w = .ok (.value (.pointer (some ⟨w.heap.size, 0, none⟩))) (w.alloc (.cells p.cs.toArray p.t)) := by
        refine run_v ?_
        unfold Instr.alloc
        rw [Sem.run_bind, hrun, Result.andThen_ok]
        simp only [newVar, hzc]
        rfl
      unfold Oper.wp
      rw [hrun']
      refine ⟨fun _ => hS w _ hSw, ?_⟩
      refine ih ch (bs.set j (some w.heap.size)) (listed.setIfInBounds p.k true) e R _ _ (hcl.set hir) ?_ (by rw [List.length_set]; exact hbl) (ha.poolPut hg.free hd hpm hbj hlt) ?_ (hS w _ hSw) hg
      · rw [List.map_set]; exact hokj
      · refine (hw.alloc (.cells p.cs.toArray p.t)).ent ?_
        refine (Ent.bundle (B := pr pool bs) (r := Blk w.heap.size p.t p.cs)).trans ?_
        refine Ent.head fun m hm => ?_
        obtain ⟨m1, m2, hd', rfl, h1, h2⟩ := Stars.append hm
        obtain ⟨n1, n2, hd2, rfl, h3, _⟩ := h2
        obtain ⟨m', hle, h'⟩ := pr_set (b := w.heap.size) hpm hbj (n1.or m1) ⟨n1, m1, (PH.dis_or.1 hd').1.symm, rfl, h3, h1⟩
        exact Stars.up h' (hle.trans (PH.or_le ((PH.le_or_left n1 n2).trans (PH.le_or_right hd')) (PH.le_or_left _ _)))
    cases ch with
    | nil =>
      unfold poolOkF at hok
      split at hok
      · rename_i hall
        exact hfull (f + 1) bs listed e R a w hall hok hbl ha hw hg
      · simp only [Bool.and_eq_true, Bool.not_eq_true', List.all_eq_true] at hok
        refine ⟨fun h0 => (by rw [h0] at hok; simp at hok), fun i hi => ?_⟩
        have := hok.2 i hi
        split at this
        · rename_i j hj; exact poolStep i j hi hj this
        · cases this
    | cons k ch =>
      unfold poolOkF at hok
      cases hl : loud.contains k with
      | true =>
        rw [hl] at hok
        simp only [Bool.and_eq_true, Bool.not_eq_true', List.all_eq_true] at hok
        have hg2 := hg.2
        rw [hl] at hg2
        refine ⟨fun h0 => (by rw [h0] at hok; simp at hok), fun i hi => ?_⟩
        have := hok.2 i hi
        split at this
        · rename_i hik
          obtain rfl := Nat.eq_of_beq_eq_true hik
          refine wpOp_mono (fun a' w' => ?_) (hg2 (pe pool bs) (Stars (pr pool bs)) a w ha hw)
          rintro ⟨hS', e', R', ha', hw', hg'⟩
          exact ⟨fun _ => hS', ih ch bs _ e' R' a' w' (hcl.set hi) this hbl ha' hw' hS' hg'⟩
        · split at this
          · rename_i j hj; exact poolStep i j hi hj this
          · cases this
      | false =>
        rw [hl] at hok
        simp only [Bool.and_eq_true] at hok
        have hg2 := hg.2
        rw [hl] at hg2
        obtain ⟨o, v, e', ho, hy, hg'⟩ := hg2
        obtain ⟨hy1, hy2⟩ := hy a _ ha
        exact wpAnyF_first ho hs hQ hok.1.2 f listed a w hcl (Region.free_spec ho hok.1.1.1) (by simpa using hok.1.1.2) hy1 hSw (ih ch bs _ e' R _ w (hcl.set (by simpa using hok.1.1.2)) hok.2 hbl hy2 hw hSw hg')
/-- 'ch': the chain; 'loud': those of it that write or call; 'fin': the last ones. -/
theorem Nx.p_poolF {id : Nat} (hid : cid c = id) (ch loud fin : List Nat) (pool : List PoolOp) (hk : ck c = 2) (hm : C.P.follows .mixedOrders = true) (hs : Region.noSelect (cops c) = true)
    (hok : poolOkF (cops c) loud fin pool (cops c).size ch (pool.map fun _ => false) (Array.replicate (cops c).size false) = true)
    (hd : (pool.map (·.d)).Pairwise (· ≠ ·)) (hfit : ∀ p ∈ pool, PoolFit C (cops c) p) (hQ : PanicOk Q) (hR : Ent R R0)
    (h : GoodF C (cops c) Q (St C.W I R0) I pool loud fin ch e R) : Nx C e I R (c.wp C.P Q) := by
  have hc : c = .region (cid c) (cops c) true := by
    cases c <;> first | (simp [ck] at hk; done) | skip
    rename_i b
    cases b with
    | false => simp [ck] at hk
    | true => rfl
  clear hid
  rw [hc]
  have hS : ∀ w o, St C.W I R0 w → St C.W I R0 (w.alloc o) := fun w o h => (h.alloc o).ent (Ent.drop (Ent.refl _))
  intro a w ha hw
  obtain ⟨h1, h2, h3⟩ := pe_nones pool
  refine wp_region_any hm (wpAny_of_fin (S := St C.W I R0) (fin := fin) _ _ _ _ ?_)
  refine pool_anyF hs hQ hd hfit hS _ ch (pool.map fun _ => none) _ e R a _ (Closed.start _) (by rw [h3]; exact hok) (by simp) (by rw [h1, List.append_nil]; exact ha) (hw.drew.ent ?_) (hw.drew.ent hR) h
  rw [h2]
  exact Ent.stars_nil _
theorem GoodF.is (h : GoodF C ops Q S I pool loud fin ch e R) : GoodF C ops Q S I pool loud fin ch e R := h
theorem GoodF.loud_ {k : Nat} (hf : keysFree pool e = true) (hl : loud.contains k = true) (ho : opAt ops.toList k = some o) (hg : o.guard = none) (h : ∀ (ex : Env) (X : Res), Nx C (e ++ ex) I (X :: R) (opK C.P o (PoolSF C ops Q S I pool loud fin ch ex X) Q)) : GoodF C ops Q S I pool loud fin (k :: ch) e R :=
  ⟨hf, by
    rw [hl]
    intro ex X a w ha hw
    unfold wpOp
    simp only [opAt_arr ho]
    rw [if_pos (by simp [Region.wanted, hg])]
    exact .inl (h ex X a w ha hw)⟩
theorem Mod.app_l {n : Nat} {a : Act} {ex : Env} (h : Mod n (e ++ ex) a) : Mod n e a := ⟨h.size, h.defers, fun t v ht => h.get t v (lk_app_l ht)⟩
theorem GoodF.quiet {k d : Nat} {v : Value} (hf : keysFree pool e = true) (hl : loud.contains k = false) (ho : opAt ops.toList k = some o) (hg : o.guard = none) (hd : o.dst = some d) (hlt : Nat.blt d C.n = true) (hrun : QRun C e S o v) (h : GoodF C ops Q S I pool loud fin ch ((d, v) :: e) R) : GoodF C ops Q S I pool loud fin (k :: ch) e R :=
  ⟨hf, by
    rw [hl]
    refine ⟨o, v, (d, v) :: e, opAt_arr ho, fun a ex ha => ⟨.inl ⟨by simp [Region.wanted, hg], fun w hS => hrun a w ha.app_l hS⟩, ?_⟩, h⟩
    rw [hd]
    exact ha.put hlt v⟩
theorem GoodF.done1 {p : PoolOp} (hf : keysFree [p] e = true) (h : ∀ b, Nx C (e ++ [(p.d, .pointer (some ⟨b, 0, none⟩))]) I (Blk b p.t p.cs :: R) (wpMix C.P ops Q AnyW fin fin)) : GoodF C ops Q S I [p] loud fin [] e R := ⟨hf, fun bs hbs => by
  match bs, hbs with
  | [b], _ => exact Nx.unfoldAt 0 (B := [Blk b p.t p.cs]) rfl (h b)⟩
theorem GoodF.done2 {p q : PoolOp} (hf : keysFree [p, q] e = true) (h : ∀ b b', Nx C (e ++ [(p.d, .pointer (some ⟨b, 0, none⟩)), (q.d, .pointer (some ⟨b', 0, none⟩))]) I (Blk b p.t p.cs :: Blk b' q.t q.cs :: R) (wpMix C.P ops Q AnyW fin fin)) : GoodF C ops Q S I [p, q] loud fin [] e R := ⟨hf, fun bs hbs => by
  match bs, hbs with
  | [b, b'], _ => exact Nx.unfoldAt 0 (B := [Blk b p.t p.cs, Blk b' q.t q.cs]) rfl (h b b')⟩
theorem GoodF.done3 {p q r : PoolOp} (hf : keysFree [p, q, r] e = true) (h : ∀ b b' b2, Nx C (e ++ [(p.d, .pointer (some ⟨b, 0, none⟩)), (q.d, .pointer (some ⟨b', 0, none⟩)), (r.d, .pointer (some ⟨b2, 0, none⟩))]) I (Blk b p.t p.cs :: Blk b' q.t q.cs :: Blk b2 r.t r.cs :: R) (wpMix C.P ops Q AnyW fin fin)) : GoodF C ops Q S I [p, q, r] loud fin [] e R := ⟨hf, fun bs hbs => by
  match bs, hbs with
  | [b, b', b2], _ => exact Nx.unfoldAt 0 (B := [Blk b p.t p.cs, Blk b' q.t q.cs, Blk b2 r.t r.cs]) rfl (h b b' b2)⟩
/-- Behind an operation of the chain. 'k': where the frame X stands. -/
theorem Nx.pool_nextF (k : Nat) {ex : Env} {X : Res} {t : Nat} {v : Value} (hk : nthL R k = some X) (hS : Ent R R0) (h : GoodF C ops Q (St C.W I R0) I pool loud fin ch ((t, v) :: e) (R.eraseIdx k)) : Nx C ((t, v) :: (e ++ ex)) I R (PoolSF C ops Q (St C.W I R0) I pool loud fin ch ex X) :=
  fun _ w ha hw => ⟨hw.ent hS, (t, v) :: e, R.eraseIdx k, ha, hw.ent (Ent.pull k R X (nthL_eq.symm.trans hk)), h⟩
theorem PoolFit.all1 {p : PoolOp} (h : PoolFit C ops p) : ∀ q ∈ [p], PoolFit C ops q := fun q hq => by
  obtain rfl : q = p := by simpa using hq
  exact h
theorem PoolFit.cons {p : PoolOp} {r : List PoolOp} (h : PoolFit C ops p) (hr : ∀ q ∈ r, PoolFit C ops q) : ∀ q ∈ p :: r, PoolFit C ops q := fun q hq => by
  rcases List.mem_cons.1 hq with rfl | hq
  · exact h
  · exact hr q hq
theorem PoolFit.nil : ∀ q ∈ ([] : List PoolOp), PoolFit C ops q := fun q hq => by simp at hq
end
end Go.Eng
/-
  The proof engine, part U: unsigned whole numbers of 64 bits: sums that wrap, shifts, bits.
-/
namespace Go.Eng
/-- 2^64 -/
abbrev B64 : Int := 18446744073709551616
section
variable {P : Program} {t : TypeId} {x y : Operand} {p q : Int}
theorem run_addU : pureRun P (do eqGuard .add t x y (.int .u64 p) (.int .u64 q); binOp .add t (.int .u64 p) (.int .u64 q)) = some (.int .u64 ((p + q) % B64)) := by rw [← IntKind.wrap_u64]; rfl
theorem run_subU : pureRun P (do eqGuard .sub t x y (.int .u64 p) (.int .u64 q); binOp .sub t (.int .u64 p) (.int .u64 q)) = some (.int .u64 ((p - q) % B64)) := by rw [← IntKind.wrap_u64]; rfl
theorem run_mulU : pureRun P (do eqGuard .mul t x y (.int .u64 p) (.int .u64 q); binOp .mul t (.int .u64 p) (.int .u64 q)) = some (.int .u64 ((p * q) % B64)) := by rw [← IntKind.wrap_u64]; rfl
theorem bits_eq (op : BinOp) (a b : Int) : (Op.intBits op .u64 a b) = (match op with
    | .and => pure (.int .u64 (IntKind.u64.wrap ((BitVec.ofInt 64 a &&& BitVec.ofInt 64 b).toNat)))
    | .or => pure (.int .u64 (IntKind.u64.wrap ((BitVec.ofInt 64 a ||| BitVec.ofInt 64 b).toNat)))
    | .xor => pure (.int .u64 (IntKind.u64.wrap ((BitVec.ofInt 64 a ^^^ BitVec.ofInt 64 b).toNat)))
    | .andNot => pure (.int .u64 (IntKind.u64.wrap ((BitVec.ofInt 64 a &&& ~~~BitVec.ofInt 64 b).toNat)))
    | _ => stuck "intBits: & | ^ &^ expected") := by cases op <;> rfl
theorem ofInt_nat {a : Nat} (ha : a < 18446744073709551616) : (BitVec.ofInt 64 (a : Int)).toNat = a := by
  rw [BitVec.toNat_ofInt]
  omega
theorem wrap_nat {a : Nat} (ha : a < 18446744073709551616) : IntKind.u64.wrap (a : Int) = a := by rw [IntKind.wrap_u64]; omega
theorem run_andU {a b : Nat} (ha : a < 18446744073709551616) (hb : b < 18446744073709551616) : pureRun P (do eqGuard .and t x y (.int .u64 (a : Int)) (.int .u64 (b : Int)); binOp .and t (.int .u64 (a : Int)) (.int .u64 (b : Int))) = some (.int .u64 ((a &&& b : Nat) : Int)) := by
  have h : (BitVec.ofInt 64 (a : Int) &&& BitVec.ofInt 64 (b : Int)).toNat = a &&& b := by rw [BitVec.toNat_and, ofInt_nat ha, ofInt_nat hb]
  have hlt : a &&& b < 18446744073709551616 := Nat.lt_of_le_of_lt Nat.and_le_left ha
  rw [← wrap_nat hlt, ← h]
  rfl
theorem run_orU {a b : Nat} (ha : a < 18446744073709551616) (hb : b < 18446744073709551616) : pureRun P (do eqGuard .or t x y (.int .u64 (a : Int)) (.int .u64 (b : Int)); binOp .or t (.int .u64 (a : Int)) (.int .u64 (b : Int))) = some (.int .u64 ((a ||| b : Nat) : Int)) := by
  have h : (BitVec.ofInt 64 (a : Int) ||| BitVec.ofInt 64 (b : Int)).toNat = a ||| b := by rw [BitVec.toNat_or, ofInt_nat ha, ofInt_nat hb]
  have hlt : a ||| b < 18446744073709551616 := Nat.or_lt_two_pow (n := 64) ha hb
  rw [← wrap_nat hlt, ← h]
  rfl
theorem run_xorU {a b : Nat} (ha : a < 18446744073709551616) (hb : b < 18446744073709551616) : pureRun P (do eqGuard .xor t x y (.int .u64 (a : Int)) (.int .u64 (b : Int)); binOp .xor t (.int .u64 (a : Int)) (.int .u64 (b : Int))) = some (.int .u64 ((a ^^^ b : Nat) : Int)) := by
  have h : (BitVec.ofInt 64 (a : Int) ^^^ BitVec.ofInt 64 (b : Int)).toNat = a ^^^ b := by rw [BitVec.toNat_xor, ofInt_nat ha, ofInt_nat hb]
  have hlt : a ^^^ b < 18446744073709551616 := Nat.xor_lt_two_pow (n := 64) ha hb
  rw [← wrap_nat hlt, ← h]
  rfl
theorem run_andNotU {a b : Nat} (ha : a < 18446744073709551616) (hb : b < 18446744073709551616) : pureRun P (do eqGuard .andNot t x y (.int .u64 (a : Int)) (.int .u64 (b : Int)); binOp .andNot t (.int .u64 (a : Int)) (.int .u64 (b : Int))) = some (.int .u64 ((a &&& (18446744073709551615 - b) : Nat) : Int)) := by
  have h : (BitVec.ofInt 64 (a : Int) &&& ~~~BitVec.ofInt 64 (b : Int)).toNat = a &&& (18446744073709551615 - b) := by
    rw [BitVec.toNat_and, BitVec.toNat_not, ofInt_nat ha, ofInt_nat hb]
  have hlt : a &&& (18446744073709551615 - b) < 18446744073709551616 := Nat.lt_of_le_of_lt Nat.and_le_left ha
  rw [← wrap_nat hlt, ← h]
  rfl
/-- ^a -/
theorem run_notU {a : Nat} (ha : a < 18446744073709551616) : pureRun P (Op.unary .xor (.int .u64 (a : Int))) = some (.int .u64 ((18446744073709551615 - a : Nat) : Int)) := by
  have h : (BitVec.ofInt 64 (IntKind.u64.max) ^^^ BitVec.ofInt 64 (a : Int)).toNat = 18446744073709551615 - a := by
    have e : BitVec.ofInt 64 (IntKind.u64.max) = BitVec.allOnes 64 := by decide
    rw [e, BitVec.allOnes_xor, BitVec.toNat_not, ofInt_nat ha]
  have hlt : 18446744073709551615 - a < 18446744073709551616 := by omega
  rw [← wrap_nat hlt, ← h]
  rfl
/-- Shifts by a number that is known to be small. -/
theorem run_shlU {k : IntKind} {n : Nat} (hn : n ≤ 64) : pureRun P (do eqGuard .shl t x y (.int .u64 p) (.int k (n : Int)); binOp .shl t (.int .u64 p) (.int k (n : Int))) = some (.int .u64 ((p * 2 ^ n) % B64)) := by
  have h1 : ¬ (n : Int) < 0 := by omega
  have h2 : min ((n : Int).toNat) IntKind.u64.bits = n := by rw [Int.toNat_natCast]; exact Nat.min_eq_left (by simp [IntKind.bits]; omega)
  have h3 : Op.shift .shl .u64 p k (n : Int) = pure (.int .u64 (IntKind.u64.wrap (p * 2 ^ n))) := by
    unfold Op.shift
    rw [if_neg h1, h2]
  rw [← IntKind.wrap_u64]
  show pureRun P (Op.shift .shl .u64 p k (n : Int)) = _
  rw [h3]; rfl
theorem run_shrU {k : IntKind} {n : Nat} (hn : n ≤ 64) : pureRun P (do eqGuard .shr t x y (.int .u64 p) (.int k (n : Int)); binOp .shr t (.int .u64 p) (.int k (n : Int))) = some (.int .u64 (p / 2 ^ n)) := by
  have h1 : ¬ (n : Int) < 0 := by omega
  have h2 : min ((n : Int).toNat) IntKind.u64.bits = n := by rw [Int.toNat_natCast]; exact Nat.min_eq_left (by simp [IntKind.bits]; omega)
  have h3 : Op.shift .shr .u64 p k (n : Int) = pure (.int .u64 (p / 2 ^ n)) := by
    unfold Op.shift
    rw [if_neg h1, h2]
    simp only [Int.fdiv_eq_ediv_of_nonneg p (show (0 : Int) ≤ 2 ^ n from Int.pow_nonneg (by omega))]
  show pureRun P (Op.shift .shr .u64 p k (n : Int)) = _
  rw [h3]; rfl
/-- An or of two that have no bit in common is their sum. -/
theorem run_orD {p q : Int} (n m k : Nat) (hp : p = ((2 ^ n * m : Nat) : Int)) (hq : q = (k : Int)) (hm : 2 ^ n * m < 18446744073709551616) (hk : k < 2 ^ n) (hk2 : k < 18446744073709551616) :
    pureRun P (do eqGuard .or t x y (.int .u64 p) (.int .u64 q); binOp .or t (.int .u64 p) (.int .u64 q)) = some (.int .u64 (p + q)) := by
  subst hp
  subst hq
  rw [run_orU hm hk2, ← Nat.two_pow_add_eq_or_of_lt hk m]
  rfl
theorem run_shrI {k : IntKind} {n : Nat} (hn : n ≤ 64) : pureRun P (do eqGuard .shr t x y (.int .i64 p) (.int k (n : Int)); binOp .shr t (.int .i64 p) (.int k (n : Int))) = some (.int .i64 (p / 2 ^ n)) := by
  have h1 : ¬ (n : Int) < 0 := by omega
  have h2 : min ((n : Int).toNat) IntKind.i64.bits = n := by rw [Int.toNat_natCast]; exact Nat.min_eq_left (by simp [IntKind.bits]; omega)
  have h3 : Op.shift .shr .i64 p k (n : Int) = pure (.int .i64 (p / 2 ^ n)) := by
    unfold Op.shift
    rw [if_neg h1, h2]
    simp only [Int.fdiv_eq_ediv_of_nonneg p (show (0 : Int) ≤ 2 ^ n from Int.pow_nonneg (by omega))]
  show pureRun P (Op.shift .shr .i64 p k (n : Int)) = _
  rw [h3]; rfl
end
/-! The highest bit -/
theorem top_cases {a : Nat} (h : a < 18446744073709551616) : a / 9223372036854775808 = 0 ∨ a / 9223372036854775808 = 1 := by omega
theorem and_top (a b : Nat) : (a &&& b) / 9223372036854775808 = (a / 9223372036854775808) &&& (b / 9223372036854775808) := Nat.and_div_two_pow (n := 63)
theorem or_top (a b : Nat) : (a ||| b) / 9223372036854775808 = (a / 9223372036854775808) ||| (b / 9223372036854775808) := Nat.or_div_two_pow (n := 63)
theorem xor_top (a b : Nat) : (a ^^^ b) / 9223372036854775808 = (a / 9223372036854775808) ^^^ (b / 9223372036854775808) := Nat.xor_div_two_pow (n := 63)
theorem not_top {s : Nat} (hs : s < 18446744073709551616) : (18446744073709551615 - s) / 9223372036854775808 = 1 - s / 9223372036854775808 := by omega
theorem carry64 {x y c : Nat} (hx : x < 18446744073709551616) (hy : y < 18446744073709551616) (hc : c ≤ 1) :
    ((x &&& y) ||| ((x ||| y) &&& (18446744073709551615 - (x + y + c) % 18446744073709551616))) / 9223372036854775808 = (x + y + c) / 18446744073709551616 := by
  have hs : (x + y + c) % 18446744073709551616 < 18446744073709551616 := Nat.mod_lt _ (by decide)
  rw [or_top, and_top, and_top, or_top, not_top hs]
  rcases top_cases hx with h1 | h1 <;> rcases top_cases hy with h2 | h2 <;> rcases top_cases hs with h3 | h3 <;> rw [h1, h2, h3] <;> simp only [Nat.reduceSub] <;> (first | (show 0 = _; omega) | (show 1 = _; omega))
theorem borrow64 {x y c : Nat} (hx : x < 18446744073709551616) (hy : y < 18446744073709551616) (hc : c ≤ 1) :
    (((18446744073709551615 - x) &&& y) ||| ((18446744073709551615 - (x ^^^ y)) &&& ((x + (18446744073709551616 - y) + (18446744073709551616 - c)) % 18446744073709551616))) / 9223372036854775808 = (if x < y + c then 1 else 0) := by
  have hs : (x + (18446744073709551616 - y) + (18446744073709551616 - c)) % 18446744073709551616 < 18446744073709551616 := Nat.mod_lt _ (by decide)
  have hxor : x ^^^ y < 18446744073709551616 := Nat.xor_lt_two_pow (n := 64) hx hy
  rw [or_top, and_top, and_top, not_top hx, not_top hxor, xor_top]
  rcases top_cases hx with h1 | h1 <;> rcases top_cases hy with h2 | h2 <;> rcases top_cases hs with h3 | h3 <;> rw [h1, h2, h3] <;> simp only [Nat.reduceSub] <;> split <;> (first | rfl | (exfalso; omega))
/-! A call that the model answers itself -/
section
variable {C : Cx} {e : Env} {I : PH} {R : List Res} {K : Act → World → Prop} {Q : Exit → Act → World → Prop}
variable {d : Nat} {ty : TypeId} {pos : String} {after : Array Edge} {g : Option (Nat × Bool)} {v : Value}
theorem Nx.binr {op : BinOp} {t u : TypeId} {x y : Operand} {vx vy : Value} (hx : evo e x = some vx) (hy : evo e y = some vy) (hv : ∀ w, (do eqGuard op t x y vx vy; binOp op t vx vy).run C.P w = .ok v w) (hlt : Nat.blt d C.n = true)
    (h : Nx C ((d, v) :: e) I R K) : Nx C e I R (opK C.P ⟨some d, .binOp op t x y u, ty, pos, after, g⟩ K Q) :=
  Nx.op_run rfl hlt (fun a w ha _ => by simp only [execOp, ha.eval hx, ha.eval hy]; exact run_v (hv w)) h
/-- Conversion of an integer to uint64. -/
theorem Nx.conv_u64 {t u : TypeId} {x : Operand} {k : IntKind} {p : Int} {s : TypeDesc} (hx : evo e x = some (.int k p)) (hs : C.P.underlying t = some s) (ht : C.P.underlying u = some (.int .u64)) (hlt : Nat.blt d C.n = true)
    (h : Nx C ((d, .int .u64 (p % B64)) :: e) I R K) : Nx C e I R (opK C.P ⟨some d, .convert t u x, ty, pos, after, g⟩ K Q) :=
  Nx.op_run rfl hlt (fun a w ha _ => by
    simp only [execOp, ha.eval hx]
    refine run_v ?_
    unfold convert
    rw [Sem.run_bind, run_underlying hs, Result.andThen_ok, Sem.run_bind, run_underlying ht, Result.andThen_ok]
    show Result.ok (Value.int .u64 (IntKind.u64.wrap p)) w = _
    rw [IntKind.wrap_u64]) h
theorem Nx.call_run {fx : Operand} {args : Array Operand} {tys : Array TypeId} {f : FuncId} {c1 c2 : Array Value} {vs al : List Value}
    (hfx : evo e fx = some (.func (.func f) c1 c2)) (hvs : evs e args.toList = some vs) (hal : c1.toList ++ vs ++ c2.toList = al) (hlt : Nat.blt d C.n = true)
    (hr : ∀ w, (callFunc f al.toArray).run C.P w = .ok (.value v) w)
    (h : Nx C ((d, v) :: e) I R K) : Nx C e I R (opK C.P ⟨some d, .call { callee := .value fx, args, argTypes := tys }, ty, pos, after, g⟩ K Q) :=
  Nx.op_run rfl hlt (fun a w ha _ => by
    have e1 : c1 ++ args.map a.eval ++ c2 = al.toArray := by
      rw [← hal, ← ha.evals hvs]
      apply Array.ext'
      simp
    unfold execOp
    simp only [resolve, ha.eval hfx, Deferred.ofValue]
    rw [Sem.run_bind]
    show Sem.run C.P (callFunc f (c1 ++ args.map a.eval ++ c2)) w = _
    rw [e1]
    exact hr w) h
end
/-- A function that leaves memory as it is, by a contract of the library. -/
theorem FnSpec.of_same {P : Program} {f : FuncId} {args : List Value} {I : PH} {v : Value} (h : ∀ (w W : World) (R : List Res), St W I R w → Calls P f args.toArray w fun e w' => e = .returned v ∧ w' = w) :
    FnSpec P f args I [] (fun u R' => u = v ∧ R' = []) := fun w _ hw =>
  (h w w _ hw).mono fun _ _ ⟨he, hw'⟩ => ⟨v, [], he, ⟨rfl, rfl⟩, hw' ▸ hw⟩
end Go.Eng
/-
  The proof engine, part V: whole numbers of 128 bits as two of 64, counted modulo 2^128.
-/
namespace Go.Eng
/-- 2^128 -/
abbrev B128 : Int := 340282366920938463463374607431768211456
def wH (z : Int) : Nat := ((z % B128) / B64).toNat
def wL (z : Int) : Nat := (z % B64).toNat
def wideL (z : Int) : List Value := [.int .u64 (wH z), .int .u64 (wL z)]
theorem wH_lt (z : Int) : wH z < 18446744073709551616 := by unfold wH B128 B64; omega
theorem wL_lt (z : Int) : wL z < 18446744073709551616 := by unfold wL B64; omega
theorem wide_val (z : Int) : (wH z : Int) * B64 + wL z = z % B128 := by unfold wH wL B64 B128; omega
/-- A pair that is z modulo 2^128 is z's pair. -/
theorem wide_eq {h l : Nat} {z : Int} (hh : h < 18446744073709551616) (hl : l < 18446744073709551616) (he : ((h : Int) * B64 + l) % B128 = z % B128) : wH z = h ∧ wL z = l := by
  unfold wH wL B64 B128 at *
  omega
theorem wide_congr {a b : Int} (h : a % B128 = b % B128) : wideL a = wideL b := by
  have h1 := wide_val b
  have := wide_eq (wH_lt b) (wL_lt b) (z := a) (by rw [h1, Int.emod_emod_of_dvd _ (Int.dvd_refl _), h])
  unfold wideL
  rw [this.1, this.2]
theorem wide_add (a b : Int) : wL (a + b) = (wL a + wL b) % 18446744073709551616 ∧ wH (a + b) = (wH a + wH b + (wL a + wL b) / 18446744073709551616) % 18446744073709551616 := by
  have h1 := wide_val a
  have h2 := wide_val b
  have la := wL_lt a; have lb := wL_lt b; have ha := wH_lt a; have hb := wH_lt b
  have := wide_eq (z := a + b) (h := (wH a + wH b + (wL a + wL b) / 18446744073709551616) % 18446744073709551616) (l := (wL a + wL b) % 18446744073709551616) (Nat.mod_lt _ (by decide)) (Nat.mod_lt _ (by decide)) (by
    rw [Int.add_emod a b, ← h1, ← h2]
    unfold B64 B128
    omega)
  exact ⟨this.2, this.1⟩
theorem sub_core {ha hb la lb : Nat} (h1 : ha < 18446744073709551616) (h2 : hb < 18446744073709551616) (h3 : la < 18446744073709551616) (h4 : lb < 18446744073709551616) :
    ((((ha + 18446744073709551616 - hb - (if la < lb + 0 then 1 else 0)) % 18446744073709551616 : Nat) : Int) * B64 + ((la + 18446744073709551616 - lb - 0) % 18446744073709551616 : Nat)) % B128 = ((ha : Int) * B64 + la - ((hb : Int) * B64 + lb)) % B128 := by
  have key : ∀ (x y k : Int), x = y + B128 * k → x % B128 = y % B128 := fun x y k h => by rw [h, Int.add_mul_emod_self_left]
  have nm : ∀ x : Nat, x < 18446744073709551616 → (x + 18446744073709551616) % 18446744073709551616 = x := fun x h => by rw [Nat.add_mod_right, Nat.mod_eq_of_lt h]
  by_cases hl : la < lb
  · rw [if_pos (by omega : la < lb + 0), show (la + 18446744073709551616 - lb - 0) % 18446744073709551616 = la + 18446744073709551616 - lb from Nat.mod_eq_of_lt (by omega)]
    by_cases hh : ha < hb + 1
    · rw [show (ha + 18446744073709551616 - hb - 1) % 18446744073709551616 = ha + 18446744073709551616 - hb - 1 from Nat.mod_eq_of_lt (by omega)]
      exact key _ _ 1 (by unfold B64 B128; omega)
    · rw [show ha + 18446744073709551616 - hb - 1 = (ha - hb - 1) + 18446744073709551616 by omega, nm _ (by omega)]
      exact key _ _ 0 (by unfold B64 B128; omega)
  · rw [if_neg (by omega : ¬ la < lb + 0), show la + 18446744073709551616 - lb - 0 = (la - lb) + 18446744073709551616 by omega, nm _ (by omega)]
    by_cases hh : ha < hb
    · rw [show (ha + 18446744073709551616 - hb - 0) % 18446744073709551616 = ha + 18446744073709551616 - hb from Nat.mod_eq_of_lt (by omega)]
      exact key _ _ 1 (by unfold B64 B128; omega)
    · rw [show ha + 18446744073709551616 - hb - 0 = (ha - hb) + 18446744073709551616 by omega, nm _ (by omega)]
      exact key _ _ 0 (by unfold B64 B128; omega)
theorem wide_sub (a b : Int) : wL (a - b) = (wL a + 18446744073709551616 - wL b - 0) % 18446744073709551616 ∧ wH (a - b) = (wH a + 18446744073709551616 - wH b - (if wL a < wL b + 0 then 1 else 0)) % 18446744073709551616 := by
  have := wide_eq (z := a - b) (h := (wH a + 18446744073709551616 - wH b - (if wL a < wL b + 0 then 1 else 0)) % 18446744073709551616) (l := (wL a + 18446744073709551616 - wL b - 0) % 18446744073709551616) (Nat.mod_lt _ (by decide)) (Nat.mod_lt _ (by decide)) (by
    rw [Int.sub_emod a b, ← wide_val a, ← wide_val b]
    exact sub_core (wH_lt a) (wH_lt b) (wL_lt a) (wL_lt b))
  exact ⟨this.2, this.1⟩
theorem wide_not (a : Int) : wH (-a - 1) = 18446744073709551615 - wH a ∧ wL (-a - 1) = 18446744073709551615 - wL a := by
  have h1 := wide_val a
  have la := wL_lt a; have ha := wH_lt a
  exact wide_eq (by omega) (by omega) (by
    unfold B64 B128 at *
    omega)
theorem wide_mul (a b : Int) : wL (a * b) = (wL a * wL b) % 18446744073709551616 ∧ wH (a * b) = (wL a * wL b / 18446744073709551616 + wH a * wL b + wL a * wH b) % 18446744073709551616 := by
  have h1 := wide_val a
  have h2 := wide_val b
  have := wide_eq (z := a * b) (h := (wL a * wL b / 18446744073709551616 + wH a * wL b + wL a * wH b) % 18446744073709551616) (l := (wL a * wL b) % 18446744073709551616) (Nat.mod_lt _ (by decide)) (Nat.mod_lt _ (by decide)) (by
    rw [Int.mul_emod a b, ← h1, ← h2]
    have e : ((wH a : Int) * B64 + wL a) * ((wH b : Int) * B64 + wL b) = B128 * (wH a * wH b) + ((wH a * wL b : Nat) + (wL a * wH b : Nat)) * B64 + (wL a * wL b : Nat) := by
      unfold B64 B128
      push_cast
      grind
    rw [e]
    generalize wH a * wL b = p
    generalize wL a * wH b = q
    generalize wL a * wL b = r
    generalize (wH a : Int) * wH b = s
    unfold B64 B128
    omega)
  exact ⟨this.2, this.1⟩
/-- In this range the number itself can be told. -/
def InW (z : Int) : Prop := -170141183460469231731687303715884105728 ≤ z ∧ z < 170141183460469231731687303715884105728
theorem wide_neg {z : Int} (h : InW z) : wH z / 9223372036854775808 = 1 ↔ z < 0 := by unfold InW wH B128 B64 at *; omega
theorem wide_zero {z : Int} (h : InW z) : (wH z = 0 ∧ wL z = 0) ↔ z = 0 := by unfold InW wH wL B128 B64 at *; omega
theorem wide_inj {a b : Int} (ha : InW a) (hb : InW b) (h : wH a = wH b) (hl : wL a = wL b) : a = b := by unfold InW wH wL B128 B64 at *; omega
end Go.Eng
/-
  The proof engine, part W: wide numbers: shifts, lengths, zeros; greatest common divisors.
-/
namespace Go.Eng
section
variable {P : Program} {t : TypeId} {x y : Operand} {p q : Int}
theorem run_shlN {k : IntKind} (n : Nat) (hq : q = (n : Int)) (hn : n ≤ 64) : pureRun P (do eqGuard .shl t x y (.int .u64 p) (.int k q); binOp .shl t (.int .u64 p) (.int k q)) = some (.int .u64 ((p * 2 ^ n) % B64)) := by
  subst hq; exact run_shlU hn
theorem run_shrN {k : IntKind} (n : Nat) (hq : q = (n : Int)) (hn : n ≤ 64) : pureRun P (do eqGuard .shr t x y (.int .u64 p) (.int k q); binOp .shr t (.int .u64 p) (.int k q)) = some (.int .u64 (p / 2 ^ n)) := by
  subst hq; exact run_shrU hn
/-- The same with the small one first. -/
theorem run_orE {p q : Int} (n m k : Nat) (hp : p = (k : Int)) (hq : q = ((2 ^ n * m : Nat) : Int)) (hm : 2 ^ n * m < 18446744073709551616) (hk : k < 2 ^ n) (hk2 : k < 18446744073709551616) :
    pureRun P (do eqGuard .or t x y (.int .u64 p) (.int .u64 q); binOp .or t (.int .u64 p) (.int .u64 q)) = some (.int .u64 (p + q)) := by
  subst hp
  subst hq
  rw [run_orU hk2 hm, Nat.or_comm, ← Nat.two_pow_add_eq_or_of_lt hk m, Nat.add_comm]
  rfl
end
section
variable {P : Program} {t : TypeId} {x y : Operand} {p q : Int}
theorem run_and1 (n : Nat) (hp : p = (n : Int)) (hn : n < 18446744073709551616) : pureRun P (do eqGuard .and t x y (.int .u64 p) (.int .u64 1); binOp .and t (.int .u64 p) (.int .u64 1)) = some (.int .u64 ((n % 2 : Nat) : Int)) := by
  subst hp
  have := run_andU (P := P) (t := t) (x := x) (y := y) (a := n) (b := 1) hn (by decide)
  rw [Nat.and_one_is_mod] at this
  exact this
end
theorem wL_nat (a : Nat) : wL (a : Int) = a % 18446744073709551616 := by unfold wL B64; omega
theorem wH_nat {a : Nat} (h : a < 340282366920938463463374607431768211456) : wH (a : Int) = a / 18446744073709551616 := by unfold wH B128 B64; omega
theorem pow_split {n : Nat} (hn : n ≤ 64) : 2 ^ (64 - n) * 2 ^ n = 18446744073709551616 := by
  rw [← Nat.pow_add, show 64 - n + n = 64 by omega]
theorem mul_lt_pow {a n : Nat} (h : a * 2 ^ n < 340282366920938463463374607431768211456) : a < 340282366920938463463374607431768211456 :=
  Nat.lt_of_le_of_lt (Nat.le_mul_of_pos_right a (Nat.two_pow_pos n)) h
/-- a times 2^n, n up to 64 -/
theorem left_nat {a n : Nat} (hn : n ≤ 64) (h : a * 2 ^ n < 340282366920938463463374607431768211456) :
    a * 2 ^ n / 18446744073709551616 = a / 18446744073709551616 * 2 ^ n + a % 18446744073709551616 / 2 ^ (64 - n) ∧ a / 18446744073709551616 * 2 ^ n + a % 18446744073709551616 / 2 ^ (64 - n) < 18446744073709551616
      ∧ a % 18446744073709551616 / 2 ^ (64 - n) < 2 ^ n ∧ a * 2 ^ n % 18446744073709551616 = a % 18446744073709551616 * 2 ^ n % 18446744073709551616 := by
  have e := pow_split hn
  have h1 : a % 18446744073709551616 / 2 ^ (64 - n) = (a % 18446744073709551616) * 2 ^ n / 18446744073709551616 := by
    rw [← e, Nat.mul_div_mul_right _ _ (Nat.two_pow_pos n)]
  have h2 : a * 2 ^ n = (a / 18446744073709551616 * 2 ^ n) * 18446744073709551616 + a % 18446744073709551616 * 2 ^ n := by
    conv => lhs; rw [← Nat.div_add_mod a 18446744073709551616]
    rw [Nat.add_mul, Nat.mul_assoc, Nat.mul_comm 18446744073709551616]
  have h3 : a % 18446744073709551616 / 2 ^ (64 - n) < 2 ^ n := by
    rw [Nat.div_lt_iff_lt_mul (Nat.two_pow_pos _), Nat.mul_comm, e]
    exact Nat.mod_lt _ (by decide)
  refine ⟨?_, ?_, h3, ?_⟩
  · rw [h1, h2]; omega
  · rw [h1]; omega
  · rw [h2]; omega
/-- a divided by 2^n, n up to 64 -/
theorem right_nat {a n : Nat} (hn : n ≤ 64) (h : a < 340282366920938463463374607431768211456) :
    a / 2 ^ n / 18446744073709551616 = a / 18446744073709551616 / 2 ^ n ∧ a % 18446744073709551616 / 2 ^ n < 2 ^ (64 - n)
      ∧ a / 18446744073709551616 * 2 ^ (64 - n) % 18446744073709551616 = 2 ^ (64 - n) * (a / 18446744073709551616 % 2 ^ n)
      ∧ a / 2 ^ n % 18446744073709551616 = a % 18446744073709551616 / 2 ^ n + 2 ^ (64 - n) * (a / 18446744073709551616 % 2 ^ n) := by
  have e := pow_split hn
  have hp := Nat.two_pow_pos n
  have h3 : a % 18446744073709551616 / 2 ^ n < 2 ^ (64 - n) := by
    rw [Nat.div_lt_iff_lt_mul hp, e]
    exact Nat.mod_lt _ (by decide)
  have h4 : a / 18446744073709551616 * 2 ^ (64 - n) % 18446744073709551616 = 2 ^ (64 - n) * (a / 18446744073709551616 % 2 ^ n) := by
    have k : ∀ x p q m : Nat, p * q = m → x * p % m = p * (x % q) := fun x p q m hm => by rw [← hm, Nat.mul_comm x p, Nat.mul_mod_mul_left]
    exact k _ _ _ _ e
  refine ⟨by rw [Nat.div_div_eq_div_mul, Nat.div_div_eq_div_mul, Nat.mul_comm], h3, h4, ?_⟩
  have h5 : a / 2 ^ n = a / 18446744073709551616 * 2 ^ (64 - n) + a % 18446744073709551616 / 2 ^ n := by
    conv => lhs; rw [← Nat.div_add_mod a 18446744073709551616]
    rw [← e, Nat.mul_right_comm, Nat.mul_comm _ (2 ^ n), Nat.mul_add_div hp, Nat.mul_comm (2 ^ (64 - n)) (a / _)]
  have h6 : a % 18446744073709551616 / 2 ^ n + 2 ^ (64 - n) * (a / 18446744073709551616 % 2 ^ n) < 18446744073709551616 := by
    have : a / 18446744073709551616 % 2 ^ n < 2 ^ n := Nat.mod_lt _ hp
    have h7 : 2 ^ (64 - n) * (a / 18446744073709551616 % 2 ^ n + 1) ≤ 2 ^ (64 - n) * 2 ^ n := Nat.mul_le_mul_left _ this
    rw [e, Nat.mul_add] at h7
    omega
  have h8 : a / 18446744073709551616 * 2 ^ (64 - n) = 18446744073709551616 * (a / 18446744073709551616 * 2 ^ (64 - n) / 18446744073709551616) + 2 ^ (64 - n) * (a / 18446744073709551616 % 2 ^ n) := by
    rw [← h4]; exact (Nat.div_add_mod _ _).symm
  rw [h5]
  generalize a / 18446744073709551616 * 2 ^ (64 - n) = X at *
  generalize 2 ^ (64 - n) * (a / 18446744073709551616 % 2 ^ n) = Y at *
  generalize a % 18446744073709551616 / 2 ^ n = Z at *
  clear h5 h4 h3 e hp
  omega
/-! One bit -/
def bitN (a i : Nat) : Nat := a / 2 ^ i % 2
theorem bit_high {a i : Nat} (h1 : 64 ≤ i) (h2 : i < 128) : a / 18446744073709551616 / 2 ^ (i % 64) % 2 = bitN a i := by
  unfold bitN
  rw [Nat.div_div_eq_div_mul, show (18446744073709551616 : Nat) = 2 ^ 64 from rfl, ← Nat.pow_add, show 64 + i % 64 = i by omega]
theorem bit_low {a i : Nat} (h1 : i < 64) : a % 18446744073709551616 / 2 ^ i % 2 = bitN a i := by
  have h := Nat.testBit_mod_two_pow a 64 i
  rw [Nat.testBit_eq_decide_div_mod_eq, Nat.testBit_eq_decide_div_mod_eq, decide_eq_true h1, Bool.true_and, show (2 : Nat) ^ 64 = 18446744073709551616 from rfl, decide_eq_decide] at h
  unfold bitN
  omega
/-- One step of a long division. -/
theorem div_step {a b i : Nat} (hb : 0 < b) : (2 * (a / 2 ^ (i + 1) % b) + bitN a i < b → a / 2 ^ i % b = 2 * (a / 2 ^ (i + 1) % b) + bitN a i ∧ a / 2 ^ i / b = 2 * (a / 2 ^ (i + 1) / b)) ∧
    (¬ 2 * (a / 2 ^ (i + 1) % b) + bitN a i < b → a / 2 ^ i % b = 2 * (a / 2 ^ (i + 1) % b) + bitN a i - b ∧ a / 2 ^ i / b = 2 * (a / 2 ^ (i + 1) / b) + 1) := by
  have e : a / 2 ^ (i + 1) = a / 2 ^ i / 2 := by rw [Nat.pow_succ, Nat.div_div_eq_div_mul]
  unfold bitN
  rw [e]
  generalize a / 2 ^ i = A
  have h1 := Nat.div_add_mod (A / 2) b
  have h2 : A / 2 % b < b := Nat.mod_lt _ hb
  generalize A / 2 % b = r at *
  generalize A / 2 / b = q at *
  have h3 : A = b * (2 * q) + (2 * r + A % 2) := by
    rw [Nat.mul_left_comm]
    omega
  constructor
  · intro hlt
    constructor
    · conv => lhs; rw [h3]
      rw [Nat.mul_add_mod, Nat.mod_eq_of_lt hlt]
    · conv => lhs; rw [h3]
      rw [Nat.mul_add_div hb, Nat.div_eq_of_lt hlt, Nat.add_zero]
  · intro hge
    have h4 : A = b * (2 * q + 1) + (2 * r + A % 2 - b) := by
      rw [Nat.mul_add]
      omega
    have hlt : 2 * r + A % 2 - b < b := by omega
    constructor
    · conv => lhs; rw [h4]
      rw [Nat.mul_add_mod, Nat.mod_eq_of_lt hlt]
    · conv => lhs; rw [h4]
      rw [Nat.mul_add_div hb, Nat.div_eq_of_lt hlt, Nat.add_zero]
/-! Number of bits -/
def lenN (a : Nat) : Nat := if a < 18446744073709551616 then Lib.bitLen a else 64 + Lib.bitLen (a / 18446744073709551616)
theorem bitLen_two {x : Nat} (h : x < 18446744073709551616) : x < 2 ^ Lib.bitLen x ∧ (x ≠ 0 → 1 ≤ Lib.bitLen x ∧ 2 ^ (Lib.bitLen x - 1) ≤ x) := by
  by_cases h0 : x = 0
  · subst h0; decide
  · obtain ⟨a, b, c⟩ := Lib.bitLenAux_bounds 64 x h h0
    exact ⟨c, fun _ => ⟨a, b⟩⟩
theorem lenN_spec {a : Nat} (h : a < 340282366920938463463374607431768211456) : a < 2 ^ lenN a ∧ (a ≠ 0 → 1 ≤ lenN a ∧ 2 ^ (lenN a - 1) ≤ a) ∧ lenN a ≤ 128 := by
  unfold lenN
  split
  · rename_i hl
    obtain ⟨b1, b2⟩ := bitLen_two hl
    exact ⟨b1, b2, Nat.le_trans (Lib.bitLen_le a 64 (Nat.le_refl _) hl) (by decide)⟩
  · rename_i hl
    have hq : a / 18446744073709551616 < 18446744073709551616 := by omega
    obtain ⟨b1, b2⟩ := bitLen_two hq
    obtain ⟨b3, b4⟩ := b2 (by omega)
    have hle := Lib.bitLen_le (a / 18446744073709551616) 64 (Nat.le_refl _) hq
    generalize Lib.bitLen (a / 18446744073709551616) = L at *
    refine ⟨?_, fun _ => ⟨by omega, ?_⟩, by omega⟩
    · rw [Nat.pow_add, show (2 : Nat) ^ 64 = 18446744073709551616 from rfl]; omega
    · rw [show 64 + L - 1 = 64 + (L - 1) by omega, Nat.pow_add, show (2 : Nat) ^ 64 = 18446744073709551616 from rfl]; omega
/-! How often 2 divides -/
def zerN (a : Nat) : Nat := if a % 18446744073709551616 = 0 then 64 + Lib.ctz 64 (a / 18446744073709551616) else Lib.ctz 64 (a % 18446744073709551616)
theorem ctz_two {x : Nat} (h0 : x ≠ 0) (h : x < 18446744073709551616) : ∃ m, x = 2 ^ Lib.ctz 64 x * (2 * m + 1) ∧ Lib.ctz 64 x < 64 := by
  unfold Lib.ctz
  rw [if_neg h0]
  exact Lib.ctzFrom_spec 64 x (by omega) h
theorem zerN_spec {a : Nat} (h0 : a ≠ 0) (h : a < 340282366920938463463374607431768211456) : ∃ m, a = 2 ^ zerN a * (2 * m + 1) ∧ zerN a < 128 := by
  unfold zerN
  split
  · rename_i hl
    obtain ⟨m, hm, hz⟩ := ctz_two (x := a / 18446744073709551616) (by omega) (by omega)
    generalize Lib.ctz 64 (a / 18446744073709551616) = z at *
    refine ⟨m, ?_, by omega⟩
    rw [Nat.pow_add, Nat.mul_assoc, ← hm, show (2 : Nat) ^ 64 = 18446744073709551616 from rfl]
    omega
  · rename_i hl
    obtain ⟨m, hm, hz⟩ := ctz_two (x := a % 18446744073709551616) (by omega) (Nat.mod_lt _ (by decide))
    generalize Lib.ctz 64 (a % 18446744073709551616) = z at *
    have e := pow_split (n := z) (by omega)
    refine ⟨a / 18446744073709551616 * 2 ^ (63 - z) + m, ?_, by omega⟩
    have e2 : (2 : Nat) ^ (64 - z) = 2 * 2 ^ (63 - z) := by rw [show 64 - z = (63 - z) + 1 by omega, Nat.pow_succ, Nat.mul_comm]
    conv => lhs; rw [← Nat.div_add_mod a 18446744073709551616, hm]
    rw [← e, e2]
    grind
/-! The greatest common divisor by halving -/
theorem gcd_odd {a b z : Nat} (ha : a % 2 = 1) : Nat.gcd a (2 ^ z * b) = Nat.gcd a b := by
  have : Nat.Coprime a (2 ^ z) := by
    apply Nat.Coprime.pow_right
    have h := Nat.gcd_dvd_left a 2
    have h2 := Nat.gcd_dvd_right a 2
    have h3 : Nat.gcd a 2 = 1 ∨ Nat.gcd a 2 = 2 := by
      have := Nat.le_of_dvd (by decide) h2
      have : 0 < Nat.gcd a 2 := Nat.gcd_pos_of_pos_right _ (by decide)
      omega
    rcases h3 with h3 | h3
    · exact h3
    · rw [h3] at h; omega
  exact Nat.Coprime.gcd_mul_left_cancel_right b this.symm
theorem gcd_sub {a b : Nat} (h : a ≤ b) : Nat.gcd a (b - a) = Nat.gcd a b := by
  conv => rhs; rw [show b = (b - a) + a by omega]
  simp
/-- gcd (2^i u) (2^j v) with u, v odd -/
theorem gcd_twos {i j u v : Nat} (hu : u % 2 = 1) (hv : v % 2 = 1) : Nat.gcd (2 ^ i * u) (2 ^ j * v) = 2 ^ (min i j) * Nat.gcd u v := by
  by_cases h : i ≤ j
  · rw [Nat.min_eq_left h, show j = i + (j - i) by omega, Nat.pow_add, Nat.mul_assoc, Nat.gcd_mul_left, gcd_odd hu]
  · rw [Nat.min_eq_right (by omega), show i = j + (i - j) by omega, Nat.pow_add, Nat.mul_assoc, Nat.gcd_mul_left, Nat.gcd_comm, gcd_odd hv, Nat.gcd_comm]
end Go.Eng
/-
  The proof engine, part R: fractions as rational numbers.
-/
namespace Go.Eng
section
variable {P : Program} {t : TypeId} {x y : Operand} {p q : Int}
theorem run_remT (hq : q ≠ 0) : pureRun P (do eqGuard .rem t x y (.int .i64 p) (.int .i64 q); binOp .rem t (.int .i64 p) (.int .i64 q)) = some (.int .i64 (p.tmod q)) := by
  rw [eqGuard_rem, binOp_rem]
  unfold pureRun
  simp [Op.intDiv, hq]; rfl
theorem run_quoT (hq : q ≠ 0) (hr : I64 (p.tdiv q)) : pureRun P (do eqGuard .quo t x y (.int .i64 p) (.int .i64 q); binOp .quo t (.int .i64 p) (.int .i64 q)) = some (.int .i64 (p.tdiv q)) := by
  rw [eqGuard_quo, binOp_quo]
  have hw : IntKind.i64.wrap (p.tdiv q) = p.tdiv q := wrap_i64 hr
  unfold pureRun
  simp [Op.intDiv, hq, hw]; rfl
end
/-- 2^60 -/
abbrev M60 : Nat := 1152921504606846976
/-- A fraction's two numbers, not too large. -/
def RB (q : Rat) : Prop := q.num.natAbs ≤ 1152921504606846976 ∧ q.den ≤ 1152921504606846976
instance (q : Rat) : Decidable (RB q) := by unfold RB; infer_instance
def FOk (n d : Int) : Prop := 1 ≤ d ∧ d ≤ 1152921504606846976 ∧ -1152921504606846976 ≤ n ∧ n ≤ 1152921504606846976 ∧ Nat.gcd n.natAbs d.natAbs = 1
instance (n d : Int) : Decidable (FOk n d) := by unfold FOk; infer_instance
def fracV (n d : Int) : Value := .agg #[.int .i64 n, .int .i64 d]
def ratV (q : Rat) : Value := fracV q.num q.den
/-- What an operation returns: the fraction, or the error. -/
def redN (q : Rat) : Int := if RB q then q.num else 0
def redD (q : Rat) : Int := if RB q then q.den else 0
def redE (q : Rat) : Int := if RB q then 0 else 14
def redV (q : Rat) : Value := .tuple #[.agg #[.int .i64 (redN q), .int .i64 (redD q)], .int .i64 (redE q)]
theorem redV_pos {q : Rat} (h : RB q) : redV q = .tuple #[ratV q, .int .i64 0] := by
  unfold redV redN redD redE
  rw [if_pos h, if_pos h, if_pos h]; rfl
theorem redV_neg {q : Rat} (h : ¬RB q) : redV q = .tuple #[fracV 0 0, .int .i64 14] := by
  unfold redV redN redD redE
  rw [if_neg h, if_neg h, if_neg h]; rfl
theorem FOk.rat {n d : Int} (h : FOk n d) : ∃ q : Rat, q.num = n ∧ (q.den : Int) = d ∧ RB q := by
  obtain ⟨h1, h2, h3, h4, h5⟩ := h
  refine ⟨⟨n, d.natAbs, by omega, h5⟩, rfl, ?_, ?_⟩
  · show ((d.natAbs : Nat) : Int) = d
    omega
  · show n.natAbs ≤ 1152921504606846976 ∧ d.natAbs ≤ 1152921504606846976
    omega
theorem RB.fok {q : Rat} (h : RB q) : FOk q.num q.den := by
  have h0 := q.den_pos
  have hr := q.reduced
  unfold RB at h
  refine ⟨by omega, by omega, by omega, by omega, ?_⟩
  rw [Int.natAbs_natCast]
  exact hr
/-- Num and Den of a fraction whose denominator is positive. -/
theorem div_parts (z : Int) {D : Nat} (hD : 0 < D) : (Rat.divInt z D).den = D / Nat.gcd D z.natAbs ∧ (Rat.divInt z D).num.natAbs = z.natAbs / Nat.gcd D z.natAbs ∧ (Rat.divInt z D).num = ((z.natAbs / Nat.gcd D z.natAbs : Nat) : Int) * z.sign := by
  have hg : Int.gcd (D : Int) z = Nat.gcd D z.natAbs := rfl
  have hg0 : 0 < Nat.gcd D z.natAbs := Nat.gcd_pos_of_pos_left _ hD
  obtain ⟨k, hk⟩ := Nat.gcd_dvd_right D z.natAbs
  have hkd : z.natAbs / Nat.gcd D z.natAbs = k := by
    conv => lhs; arg 1; rw [hk]
    exact Nat.mul_div_cancel_left _ hg0
  have hs : (D : Int).sign = 1 := Int.sign_eq_one_of_pos (by omega)
  have hz : z = (Nat.gcd D z.natAbs : Int) * ((k : Int) * z.sign) := by
    have h1 : z = (z.natAbs : Int) * z.sign := by rw [Int.mul_comm]; exact (Int.sign_mul_natAbs z).symm
    conv => lhs; rw [h1, hk]
    rw [Int.natCast_mul, Int.mul_assoc]
  have hnum : (Rat.divInt z D).num = (k : Int) * z.sign := by
    rw [Rat.num_divInt, hs, Int.one_mul, hg]
    conv => lhs; arg 1; rw [hz]
    exact Int.mul_ediv_cancel_left _ (by omega)
  rw [hkd]
  refine ⟨?_, ?_, hnum⟩
  · rw [Rat.den_divInt, if_neg (by omega), hg, Int.natAbs_natCast]
  · rw [hnum, Int.natAbs_mul]
    by_cases h0 : z = 0
    · subst h0
      have : k = 0 := by
        rw [← hkd]; simp
      simp [this]
    · rw [Int.natAbs_sign_of_ne_zero h0]
      simp
/-- An operation on valid fractions, or the error. -/
def opV (n d m e : Int) (q : Rat) : Value := if FOk n d ∧ FOk m e then redV q else .tuple #[fracV 0 0, .int .i64 11]
theorem opV_congr {n d m e : Int} {p q : Rat} (h : FOk n d ∧ FOk m e → p = q) : opV n d m e p = opV n d m e q := by
  unfold opV
  split
  · rename_i h'; rw [h h']
  · rfl
def divV (n d m e : Int) : Value := if FOk n d ∧ FOk m e then (if m = 0 then .tuple #[fracV 0 0, .int .i64 18] else redV (Rat.divInt n d / Rat.divInt m e)) else .tuple #[fracV 0 0, .int .i64 11]
def ofV (n d : Int) : Value := if d = 0 then .tuple #[fracV 0 0, .int .i64 18] else redV (Rat.divInt n d)
theorem rat_div_eq (n d m e : Int) : Rat.divInt n d / Rat.divInt m e = Rat.divInt (n * e) (d * m) := by
  rw [Rat.div_def, Rat.inv_divInt, Rat.divInt_mul_divInt]
theorem floor_parts (n : Int) {d : Int} (hd : 0 < d) : (n.tmod d < 0 → n.tdiv d - 1 = n / d) ∧ (¬ n.tmod d < 0 → n.tdiv d = n / d) ∧ ((n.tdiv d).natAbs ≤ n.natAbs) := by
  have h1 := Int.mul_tdiv_add_tmod n d
  have h2 : (n.tmod d).natAbs < d.natAbs := by rw [Int.natAbs_tmod]; exact Nat.mod_lt _ (by omega)
  have h3 : (n.tdiv d).natAbs ≤ n.natAbs := by rw [Int.natAbs_tdiv]; exact Nat.div_le_self _ _
  refine ⟨fun h => ?_, fun h => ?_, h3⟩
  · refine ((Int.ediv_emod_unique hd).2 ⟨?_, ?_, ?_⟩ : n / d = n.tdiv d - 1 ∧ n % d = n.tmod d + d).1.symm
    · rw [Int.mul_sub]; omega
    · omega
    · omega
  · refine ((Int.ediv_emod_unique hd).2 ⟨?_, ?_, ?_⟩ : n / d = n.tdiv d ∧ n % d = n.tmod d).1.symm
    · omega
    · omega
    · omega
end Go.Eng
/-
  The proof engine, part T: a library function that makes new memory and draws; strings.
-/
namespace Go.Eng
open Go.Sort (grow)
theorem St.grown {W w : World} {I : PH} {R : List Res} (h : St W I R w) (k : Nat) (os : Array Obj) : St W I R (grow (w.drewN k) os) := by
  obtain ⟨⟨m, hm, hs⟩, hst⟩ := h
  have hold : ∀ (i : Nat) (o : Obj), w.heap[i]? = some o → (grow (w.drewN k) os).heap[i]? = some o := fun i o hi => by
    have hlt := (Array.getElem?_eq_some_iff.1 hi).1
    show (w.heap ++ os)[i]? = some o
    rw [Array.getElem?_append_left hlt]
    exact hi
  refine ⟨⟨m, hm, ⟨fun i o hi => hold i o (hs.imm i o hi), fun i o hi => hold i o (hs.own i o hi), hs.dis⟩⟩, ⟨hst.os, hst.tape, hst.output, Nat.le_trans hst.size (Lib.size_grow w k os), Nat.le_trans hst.drawn (Nat.le_add_right _ _)⟩⟩
theorem FnSpec.of_grow {P : Program} {f : FuncId} {args : List Value} {I : PH} {v : Value} (h : ∀ (w W : World) (R : List Res), St W I R w → Calls P f args.toArray w fun e w' => e = .returned v ∧ ∃ k os, w' = grow (w.drewN k) os) :
    FnSpec P f args I [] (fun u R' => u = v ∧ R' = []) := fun w _ hw =>
  (h w w _ hw).mono fun _ _ ⟨he, k, os, hw'⟩ => ⟨v, [], he, ⟨rfl, rfl⟩, by rw [hw']; exact hw.grown k os⟩
/-- A text, by its bytes. -/
def strV (l : List UInt8) : Value := .string ⟨l.toArray⟩
section
variable {P : Program} {t : TypeId} {x y : Operand} {a b : List UInt8}
/-- Two texts, one behind the other. -/
theorem run_cat (h : a.length ≤ 8388608 ∧ b.length ≤ 8388608) (w : World) : (do eqGuard .add t x y (.string ⟨a.toArray⟩) (.string ⟨b.toArray⟩); binOp .add t (.string ⟨a.toArray⟩) (.string ⟨b.toArray⟩)).run P w = .ok (.string ⟨(a ++ b).toArray⟩) w := by
  rw [eqGuard_at_string, binOp_string_add]
  exact run_string_add_lists w a b (by omega) (by omega)
theorem run_streq (w : World) : (do eqGuard .eql t x y (.string ⟨a.toArray⟩) (.string ⟨b.toArray⟩); binOp .eql t (.string ⟨a.toArray⟩) (.string ⟨b.toArray⟩)).run P w = .ok (.bool (a == b)) w := by
  rw [eqGuard_at_string, binOp_string_eql, ByteArray.toList_mk, ByteArray.toList_mk]
  rfl
theorem run_strne (w : World) : (do eqGuard .neq t x y (.string ⟨a.toArray⟩) (.string ⟨b.toArray⟩); binOp .neq t (.string ⟨a.toArray⟩) (.string ⟨b.toArray⟩)).run P w = .ok (.bool (!(a == b))) w := by
  rw [eqGuard_at_string, binOp_string_neq, ByteArray.toList_mk, ByteArray.toList_mk]
  rfl
theorem run_booleq {t : TypeId} {x y : Operand} (ht : P.underlying t = some .bool) (b c : Bool) (w : World) : (do eqGuard .eql t x y (.bool b) (.bool c); binOp .eql t (.bool b) (.bool c)).run P w = .ok (.bool (b == c)) w := by
  rw [eqGuard_at_bool]
  show (do pure (Value.bool (← Op.equal t (.bool b) (.bool c))) : Sem Value).run P w = _
  rw [Sem.run_bind, run_equal_bool w t b c ht]; rfl
theorem run_boolne {t : TypeId} {x y : Operand} (ht : P.underlying t = some .bool) (b c : Bool) (w : World) : (do eqGuard .neq t x y (.bool b) (.bool c); binOp .neq t (.bool b) (.bool c)).run P w = .ok (.bool (!(b == c))) w := by
  rw [eqGuard_at_bool]
  show (do pure (Value.bool (!(← Op.equal t (.bool b) (.bool c)))) : Sem Value).run P w = _
  rw [Sem.run_bind, run_equal_bool w t b c ht]; rfl
theorem eq_true_run {s : Sem Value} {b : Bool} (h : ∀ w, s.run P w = .ok (.bool b) w) (hb : b = true) (w : World) : s.run P w = .ok (.bool true) w := by rw [h w, hb]
end
end Go.Eng
/-
  The proof engine, part M: maps that are owned, as lists of keys and values.
-/
namespace Go.Eng
open Go.Instr
/-- How keys of one kind lie in a map. -/
structure KeyEnc (P : Program) (kt : TypeId) {κ : Type} [DecidableEq κ] (g : κ → Value) : Prop where
  same : ∃ kind, P.underlying kt = some kind ∧ ∀ a b, sameNow kind (g a) (g b) = some (decide (a = b))
  check : ∀ (em : Bool) (a : κ) (w : World), (checkKey em 10000 kt (g a)).run P w = .ok () w
  bits : ∀ a, sameBits 10000 (g a) (g a) = true
theorem KeyEnc.int {P : Program} {kt : TypeId} {k : IntKind} (h : P.underlying kt = some (.int k)) : KeyEnc P kt (fun x : Int => Value.int k x) := by
  refine ⟨⟨_, h, fun a b => ?_⟩, fun em a w => ?_, fun a => by simp [sameBits]⟩
  · simp only [sameNow, if_pos]
    by_cases hab : a = b <;> simp [hab]
  · unfold checkKey
    rw [Sem.run_bind, run_underlying h, Result.andThen_ok]
    rfl
section
variable {κ α : Type} [DecidableEq κ] {g : κ → Value} {f : α → Value}
def mfindI : List (κ × α) → κ → Nat → Option (Nat × α)
  | [], _, _ => none
  | (k', v) :: r, k, i => if k = k' then some (i, v) else mfindI r k (i + 1)
def mget : List (κ × α) → κ → Option α
  | [], _ => none
  | (k', v) :: r, k => if k = k' then some v else mget r k
def mset : List (κ × α) → κ → α → List (κ × α)
  | [], k, v => [(k, v)]
  | (k', v') :: r, k, v => if k = k' then (k', v) :: r else (k', v') :: mset r k v
theorem mfindI_get : ∀ (l : List (κ × α)) (k : κ) (i : Nat), (mfindI l k i).map (·.2) = mget l k
  | [], _, _ => rfl
  | (k', v) :: r, k, i => by
    unfold mfindI mget
    split
    · rfl
    · exact mfindI_get r k (i + 1)
theorem mget_set (l : List (κ × α)) (k k' : κ) (v : α) : mget (mset l k v) k' = if k' = k then some v else mget l k' := by
  induction l with
  | nil =>
    simp only [mset, mget]
  | cons p r ih =>
    obtain ⟨q, u⟩ := p
    simp only [mset]
    by_cases h : k = q
    · rw [if_pos h]
      simp only [mget]
      by_cases h2 : k' = q
      · rw [if_pos h2, if_pos (h2.trans h.symm)]
      · rw [if_neg h2, if_neg (by rw [h]; exact h2), if_neg h2]
    · rw [if_neg h]
      simp only [mget]
      by_cases h2 : k' = q
      · rw [if_pos h2, if_pos h2, if_neg (by rw [h2]; exact fun h3 => h h3.symm)]
      · rw [if_neg h2, if_neg h2, ih]
def entOk (g : κ → Value) (f : α → Value) (es : List MapEntry) (l : List (κ × α)) : Prop := es.map (fun e => (e.key, e.val)) = l.map fun p => (g p.1, f p.2)
theorem findNow_ent {kind : TypeDesc} (hs : ∀ a b, sameNow kind (g a) (g b) = some (decide (a = b))) {k : κ} : ∀ {es : List MapEntry} {l : List (κ × α)} (i : Nat), entOk g f es l → findNow kind (g k) es i = some ((mfindI l k i).map fun p => (p.1, f p.2))
  | [], [], i, _ => rfl
  | [], _ :: _, i, h => by simp [entOk] at h
  | _ :: _, [], i, h => by simp [entOk] at h
  | e :: es, (q, u) :: l, i, h => by
    simp only [entOk, List.map_cons, List.cons.injEq, Prod.mk.injEq] at h
    obtain ⟨⟨h1, h2⟩, h3⟩ := h
    unfold findNow
    rw [h1, hs]
    unfold mfindI
    by_cases hk : k = q
    · simp [hk, h2]
    · simp only [hk, decide_false]
      exact findNow_ent hs (i + 1) h3
theorem modify_ent {k : κ} {v v0 : α} : ∀ {es : List MapEntry} {l : List (κ × α)} {i j : Nat}, entOk g f es l → mfindI l k i = some (j, v0) → i ≤ j ∧ j - i < es.length ∧ entOk g f (es.modify (j - i) fun e => { e with key := g k, val := f v }) (mset l k v)
  | [], [], i, j, _, h => by simp [mfindI] at h
  | [], _ :: _, i, j, h, _ => by simp [entOk] at h
  | _ :: _, [], i, j, h, _ => by simp [entOk] at h
  | e :: es, (q, u) :: l, i, j, h, hf => by
    simp only [entOk, List.map_cons, List.cons.injEq, Prod.mk.injEq] at h
    obtain ⟨⟨h1, h2⟩, h3⟩ := h
    unfold mfindI at hf
    unfold mset
    by_cases hk : k = q
    · rw [if_pos hk] at hf ⊢
      simp only [Option.some.injEq, Prod.mk.injEq] at hf
      obtain ⟨rfl, rfl⟩ := hf
      refine ⟨Nat.le_refl _, by simp, ?_⟩
      rw [Nat.sub_self]
      simp only [entOk, List.modify_zero_cons, List.map_cons, List.cons.injEq, Prod.mk.injEq]
      exact ⟨⟨by rw [hk], trivial⟩, h3⟩
    · rw [if_neg hk] at hf ⊢
      obtain ⟨a1, a2, a3⟩ := modify_ent (v := v) h3 hf
      refine ⟨by omega, by simp; omega, ?_⟩
      rw [show j - i = (j - (i + 1)) + 1 by omega]
      simp only [entOk, List.modify_succ_cons, List.map_cons, List.cons.injEq, Prod.mk.injEq]
      exact ⟨⟨h1, h2⟩, a3⟩
theorem push_ent {k : κ} {v : α} : ∀ {es : List MapEntry} {l : List (κ × α)} {i : Nat} {e : MapEntry}, entOk g f es l → mfindI l k i = none → e.key = g k → e.val = f v → entOk g f (es ++ [e]) (mset l k v)
  | [], [], i, e, _, _, h1, h2 => by simp [entOk, mset, h1, h2]
  | [], _ :: _, i, e, h, _, _, _ => by simp [entOk] at h
  | _ :: _, [], i, e, h, _, _, _ => by simp [entOk] at h
  | x :: es, (q, u) :: l, i, e, h, hf, he1, he2 => by
    simp only [entOk, List.map_cons, List.cons.injEq, Prod.mk.injEq] at h
    obtain ⟨⟨h1, h2⟩, h3⟩ := h
    unfold mfindI at hf
    by_cases hk : k = q
    · rw [if_pos hk] at hf; cases hf
    · rw [if_neg hk] at hf
      unfold mset
      rw [if_neg hk]
      simp only [entOk, List.cons_append, List.map_cons, List.cons.injEq, Prod.mk.injEq]
      exact ⟨⟨h1, h2⟩, push_ent h3 hf he1 he2⟩
/-- A map that is owned. -/
def MapR (g : κ → Value) (f : α → Value) (b : Nat) (l : List (κ × α)) : Res := fun m => ∃ es clock, m b = some (.map es clock) ∧ entOk g f es.toList l
theorem run_findKey_ent {P : Program} {kt : TypeId} (K : KeyEnc P kt g) {es : List MapEntry} {l : List (κ × α)} (h : entOk g f es l) (k : κ) (w : World) : (findKey kt (g k) es).run P w = .ok ((mfindI l k 0).map fun p => (p.1, f p.2)) w := by
  obtain ⟨kind, hk, hs⟩ := K.same
  unfold findKey
  rw [Sem.run_bind, run_underlying hk, Result.andThen_ok, findNow_ent hs 0 h]
  rfl
theorem run_lookup_ent {P : Program} {t kt et : TypeId} {b clock : Nat} {es : Array MapEntry} {l : List (κ × α)} {w : World} {z : α} (K : KeyEnc P kt g) (ht : P.underlying t = some (.map kt et)) (hz : (zeroValue et).run P w = .ok (f z) w) (hb : w.heap[b]? = some (.map es clock)) (h : entOk g f es.toList l) (k : κ) (ok : Bool) :
    (Instr.lookup t (.map (some b)) (g k) ok).run P w = .ok (if ok then .tuple #[f ((mget l k).getD z), .bool (mget l k).isSome] else f ((mget l k).getD z)) w := by
  have hg := mfindI_get l k 0
  unfold Instr.lookup
  rw [Sem.run_bind, run_underlying ht, Result.andThen_ok]
  simp only [Sem.run_bind, MapKept.run_getObj_map hb, Result.andThen_ok, Sem.run_pure, K.check, run_findKey_ent K h]
  cases hm : mfindI l k 0 with
  | none =>
    rw [hm] at hg
    simp only [Option.map_none, Sem.run_bind, hz, Result.andThen_ok, Sem.run_pure]
    rw [← hg]
    cases ok <;> rfl
  | some p =>
    rw [hm] at hg
    simp only [Option.map_some, Sem.run_bind, Result.andThen_ok, Sem.run_pure]
    rw [← hg]
    cases ok <;> rfl
theorem run_update_ent {P : Program} {t kt et : TypeId} {b clock : Nat} {es : Array MapEntry} {l : List (κ × α)} {w : World} (K : KeyEnc P kt g) (ht : P.underlying t = some (.map kt et)) (hb : w.heap[b]? = some (.map es clock)) (h : entOk g f es.toList l) (k : κ) (v : α) :
    ∃ es' clock', (Instr.mapUpdate t (.map (some b)) (g k) (f v)).run P w = .ok () { w with heap := w.heap.setIfInBounds b (.map es' clock') } ∧ entOk g f es'.toList (mset l k v) := by
  unfold Instr.mapUpdate
  cases hm : mfindI l k 0 with
  | none =>
    refine ⟨es.push ⟨g k, f v, clock⟩, clock + 1, ?_, by rw [Array.toList_push]; exact push_ent h hm rfl rfl⟩
    rw [Sem.run_bind, run_underlying ht, Result.andThen_ok]
    simp only [Sem.run_bind, MapKept.run_getObj_map hb, Result.andThen_ok, K.check, run_findKey_ent K h, hm, Option.map_none, MapKept.run_setObj_map _ hb]
  | some p =>
    obtain ⟨j, v0⟩ := p
    obtain ⟨_, hlt, hmod⟩ := modify_ent (v := v) h hm
    rw [Nat.sub_zero] at hlt hmod
    have hkey : es[j]?.map (·.key) = some (g k) := by
      have key : ∀ {es : List MapEntry} {l : List (κ × α)} {i : Nat}, entOk g f es l → mfindI l k i = some (j, v0) → i ≤ j ∧ (es[j - i]?).map (·.key) = some (g k) := by
        intro es
        induction es with
        | nil => intro l i h1 h2; cases l with
          | nil => simp [mfindI] at h2
          | cons _ _ => simp [entOk] at h1
        | cons e es ih =>
          intro l i h1 h2
          cases l with
          | nil => simp [entOk] at h1
          | cons q l =>
            obtain ⟨q, u⟩ := q
            simp only [entOk, List.map_cons, List.cons.injEq, Prod.mk.injEq] at h1
            obtain ⟨⟨a1, a2⟩, a3⟩ := h1
            unfold mfindI at h2
            by_cases hk : k = q
            · rw [if_pos hk] at h2
              simp only [Option.some.injEq, Prod.mk.injEq] at h2
              obtain ⟨rfl, rfl⟩ := h2
              refine ⟨Nat.le_refl _, ?_⟩
              rw [Nat.sub_self]
              simp [a1, hk]
            · rw [if_neg hk] at h2
              obtain ⟨b1, b2⟩ := ih a3 h2
              refine ⟨by omega, ?_⟩
              rw [show j - i = (j - (i + 1)) + 1 by omega, List.getElem?_cons_succ]
              exact b2
      have := (key h hm).2
      rw [Nat.sub_zero] at this
      rw [← Array.getElem?_toList]
      exact this
    refine ⟨es.modify j fun e => { e with key := g k, val := f v }, clock, ?_, by rw [Array.toList_modify]; exact hmod⟩
    rw [Sem.run_bind, run_underlying ht, Result.andThen_ok]
    simp only [Sem.run_bind, MapKept.run_getObj_map hb, Result.andThen_ok, K.check, run_findKey_ent K h, hm, Option.map_some, hkey, Option.getD_some, keyThatStays, K.bits, if_true, Sem.run_pure, MapKept.run_setObj_map _ hb]
end
section
variable {C : Cx} {e e' : Env} {I : PH} {R R' R0 : List Res} {K K' : Act → World → Prop} {Q : Exit → Act → World → Prop} {W : World}
variable {d : Nat} {ty t : TypeId} {pos : String} {after : Array Edge} {gd : Option (Nat × Bool)} {x y z : Operand} {dst : Option Tmp}
variable {κ α : Type}
theorem Nx.makeMap (g : κ → Value) (f : α → Value) (hlt : Nat.blt d C.n = true)
    (h : ∀ b, Nx C ((d, .map (some b)) :: e) I (MapR g f b [] :: R) K) : Nx C e I R (opK C.P ⟨some d, .makeMap t none, ty, pos, after, gd⟩ K Q) :=
  Nx.op_new (v := fun b => .map (some b)) (ob := .map #[] 0) rfl hlt (fun a w ha hw => by
    simp only [execOp, Option.map_none]
    exact run_v rfl) (fun b => (h b).ent (Ent.head fun m hm => ⟨#[], 0, hm, rfl⟩))
theorem MapR.held {g : κ → Value} {f : α → Value} {b : Nat} {l : List (κ × α)} {w : World} (h : St W I (MapR g f b l :: R) w) : ∃ es clock, w.heap[b]? = some (.map es clock) ∧ entOk g f es.toList l := by
  obtain ⟨⟨m, ⟨m1, m2, _, rfl, ⟨es, clock, hb, he⟩, _⟩, hs⟩, _⟩ := h
  exact ⟨es, clock, hs.own _ _ (PH.le_or_left _ _ _ _ hb), he⟩
variable [DecidableEq κ]
/-- m[k] = v, the map resource number i. -/
theorem Nx.mapSet (i : Nat) (g : κ → Value) (f : α → Value) {kt et : TypeId} {b : Nat} {l : List (κ × α)} {k : κ} {v : α} {op : Op} (hop : op = .insert t x y z ∨ op = .mapUpdate t x y z) (hx : evo e x = some (.map (some b))) (hy : evo e y = some (g k)) (hz : evo e z = some (f v))
    (KE : KeyEnc C.P kt g) (ht : C.P.underlying t = some (.map kt et)) (hk : nthL R i = some (MapR g f b l)) (h : Nx C e I (MapR g f b (mset l k v) :: R.eraseIdx i) K) : Nx C e I R (opK C.P ⟨none, op, ty, pos, after, gd⟩ K Q) := by
  refine Nx.ent (Ent.pull i R _ (nthL_eq.symm.trans hk)) ?_
  intro a w ha hw
  obtain ⟨es, clock, hb, he⟩ := MapR.held hw
  obtain ⟨es', clock', hr, he'⟩ := run_update_ent KE ht hb he k v
  unfold opK Oper.wp
  have hrun : (execOp a.eval ⟨none, op, ty, pos, after, gd⟩).run C.P w = .ok .skip { w with heap := w.heap.setIfInBounds b (.map es' clock') } := by
    rcases hop with rfl | rfl <;>
    · simp only [execOp, ha.eval hx, ha.eval hy, ha.eval hz]
      rw [Sem.run_bind, hr]
      rfl
  rw [hrun]
  have hlt := (Array.getElem?_eq_some_iff.1 hb).1
  refine h _ _ ha (hw.upd (o := .map es' clock') (b := b) (fun m hm => ?_) (by simp [hlt]) (fun j hne o' ho => ?_) ⟨rfl, rfl, rfl, by simp, Nat.le_refl _⟩)
  · obtain ⟨es1, clock1, h1, _⟩ := hm
    exact ⟨by rw [h1]; rfl, es', clock', by simp, he'⟩
  · simp only
    rw [Array.getElem?_setIfInBounds_ne (fun h => hne h.symm)]
    exact ho
/-- 'v, ok := m[k]' or 'm[k]', the map resource number i. -/
theorem Nx.mapGet (i : Nat) (g : κ → Value) (f : α → Value) {kt et : TypeId} {b : Nat} {l : List (κ × α)} {k : κ} {z : α} {ok : Bool} {ti : TypeInfo} (hx : evo e x = some (.map (some b))) (hy : evo e y = some (g k))
    (KE : KeyEnc C.P kt g) (ht : C.P.underlying t = some (.map kt et)) (hi : C.P.info? et = some ti) (hz : ti.zero = some (f z)) (hlt : Nat.blt d C.n = true) (hk : nthL R i = some (MapR g f b l))
    (h : Nx C ((d, if ok then .tuple #[f ((mget l k).getD z), .bool (mget l k).isSome] else f ((mget l k).getD z)) :: e) I R K) : Nx C e I R (opK C.P ⟨some d, .lookup t x y ok, ty, pos, after, gd⟩ K Q) :=
  Nx.op_run rfl hlt (fun a w ha hw => by
    obtain ⟨es, clock, hb, he⟩ := MapR.held (hw.ent (Ent.pull i R _ (nthL_eq.symm.trans hk)))
    simp only [execOp, ha.eval hx, ha.eval hy]
    exact run_v (run_lookup_ent KE ht (by simp [zeroValue, typeInfo, hi, hz]) hb he k ok)) h
theorem QRun.mapGet (i : Nat) (g : κ → Value) (f : α → Value) {kt et : TypeId} {b : Nat} {l : List (κ × α)} {k : κ} {z : α} {ok : Bool} {ti : TypeInfo} (hx : evo e x = some (.map (some b))) (hy : evo e y = some (g k))
    (KE : KeyEnc C.P kt g) (ht : C.P.underlying t = some (.map kt et)) (hi : C.P.info? et = some ti) (hz : ti.zero = some (f z)) (hk : nthL R0 i = some (MapR g f b l)) :
    QRun C e (St C.W I R0) ⟨dst, .lookup t x y ok, ty, pos, after, gd⟩ (if ok then .tuple #[f ((mget l k).getD z), .bool (mget l k).isSome] else f ((mget l k).getD z)) := fun a w ha hw => by
  obtain ⟨es, clock, hb, he⟩ := MapR.held (hw.ent (Ent.pull i R0 _ (nthL_eq.symm.trans hk)))
  simp only [execOp, ha.eval hx, ha.eval hy]
  exact run_v (run_lookup_ent KE ht (by simp [zeroValue, typeInfo, hi, hz]) hb he k ok)
end
end Go.Eng
/-
  The proof engine, part X: strings: their bytes, their parts, their order; bytes made into strings and back; a string appended to bytes.
-/
namespace Go.Eng
open Go.Lib (strCells)
open Go.Instr
variable {C : Cx} {e e' : Env} {I : PH} {R R' : List Res} {K K' : Act → World → Prop} {Q : Exit → Act → World → Prop}
variable {d : Nat} {ty t u el : TypeId} {pos : String} {after : Array Edge} {g : Option (Nat × Bool)} {x y z : Operand} {v vx vy vz : Value} {A : Option Addr} {n c : Nat}
/-- A byte's value. -/
def byteV (b : UInt8) : Value := .int .u8 b.toNat
theorem strCells_mk (l : List UInt8) : strCells ⟨l.toArray⟩ = l.map byteV := by simp [strCells, byteV]
theorem append_str_run {P : Program} {w : World} {xs : List Value} {s : ByteArray} {i : TypeInfo} (ht : P.underlying t = some (.slice el)) (hu : P.underlying u = some .string) (hi : P.info? el = some i) (hz : i.zero = some (.int .u8 0))
    (hsize : i.size = 1) (hby : i.bytes = 1) (hown : w.ownsRow 0 el 1 (.slice A n c) n xs) (h63 : n + s.size ≤ maxLen) (hbytes : n + s.size ≤ 140737488355328) :
    ∃ v' w', (Builtin.append_ #[t, u] ty #[.slice A n c, .string s]).run P w = .ok v' w' ∧ w'.ownsRow 0 el 1 v' (n + s.size) (xs ++ strCells s) ∧ w.grownBy w' (Value.slice A n c).ownBlock ∧
      (v'.ownBlock = (Value.slice A n c).ownBlock ∨ v'.ownBlock = some w.heap.size) := by
  have hsmall : n + s.size ≤ 9223372036854775807 := by simp only [maxLen] at h63; omega
  have hxl : xs.length = n := by simpa using hown.1
  have hlen : (xs ++ strCells s).length = (n + s.size) * 1 := by rw [List.length_append, hxl, Lib.strCells_length, Nat.mul_one]
  have grown : ∀ (old : Nat), old < n + s.size → ∀ (row : Option Nat),
      (w.drew.alloc (.cells (xs.toArray ++ (strCells s).toArray ++ Builtin.zeroCells (Value.int .u8 0).cells (grownCap w (n + s.size) old el - (n + s.size))) el)).ownsRow 0 el 1
        (.slice (some ⟨w.heap.size, 0, none⟩) (n + s.size) (grownCap w (n + s.size) old el)) (n + s.size) (xs ++ strCells s) ∧
      w.grownBy (w.drew.alloc (.cells (xs.toArray ++ (strCells s).toArray ++ Builtin.zeroCells (Value.int .u8 0).cells (grownCap w (n + s.size) old el - (n + s.size))) el)) row := by
    intro old ho row
    have hge := grownCap_ge w (n + s.size) old el
    have hcm : grownCap w (n + s.size) old el ≤ maxLen := grownCap_le_maxLen w (n + s.size) old el h63
    refine ⟨⟨hlen, .inr ⟨w.heap.size, _, _, rfl, Nat.zero_le _, heap_alloc_new w.drew _, hge, hcm, ?_, ?_⟩⟩, ⟨rfl, rfl, rfl, by simp, fun k hk _ => heap_alloc_old w.drew _ k hk⟩⟩
    · have hz1 : (Value.int IntKind.u8 0).cells.size = 1 := rfl
      simp only [Array.size_append, List.size_toArray, size_zeroCells, hz1, hxl, Lib.strCells_length]
      omega
    · simp only [Array.toList_append, List.append_assoc]
      rw [← List.append_assoc, ← hlen]
      exact List.take_left
  rcases hown.2 with ⟨hv, rfl⟩ | ⟨g, cap, cur, hv, hbg, hg, hnc, hcm, hcs, htake⟩
  · have hx : xs = [] := List.eq_nil_of_length_eq_zero hxl
    subst hx
    cases hv
    by_cases hm : s.size = 0
    · have hn : strCells s = [] := List.eq_nil_of_length_eq_zero (by rw [Lib.strCells_length]; exact hm)
      refine ⟨.slice none 0 0, w, ?_, by rw [hm, hn]; exact World.ownsRow_nil w 0 el 1, ⟨rfl, rfl, rfl, Nat.le_refl _, fun _ _ _ => rfl⟩, .inl rfl⟩
      have hf := Lib.run_firstCells_string (P := P) w 1 s
      rw [hm] at hf
      simp [Builtin.append_, run_underlying ht, run_underlying hu, sizeOf, typeInfo, hi, hsize, Builtin.lenOf, hm, hf]
    · have hr := run_append_nil_string (P := P) w t u ty el i (.int .u8 0) ht hu hi hz s (by omega) (by omega) (by rw [hby]; omega)
      have hgr := grown 0 (by omega) (Value.ownBlock (.slice none 0 0))
      simp only [Nat.zero_add, List.nil_append, Array.empty_append] at hgr ⊢
      have e1 : (s.data.map fun b => Value.int .u8 b.toNat) = (strCells s).toArray := by
        apply Array.ext'
        simp [strCells]
      rw [e1] at hr
      exact ⟨_, _, hr, hgr.1, hgr.2, .inr rfl⟩
  · cases hv
    by_cases hroom : n + s.size ≤ c
    · have hcs' : cur.size = c := by simpa using hcs
      have hr := Lib.run_append_room_string (P := P) w t u ty el i ht hu hi hsize g n c cur hg s hroom (by omega)
      refine ⟨_, _, hr, ⟨hlen, .inr ⟨g, c, _, rfl, hbg, setRow_heap w g cur _ el _ hg, hroom, hcm, ?_, ?_⟩⟩, ⟨rfl, rfl, rfl, by simp, fun k _ hk => setRow_other w g k _ (fun e => hk (by simp [Value.ownBlock, e]))⟩, .inl rfl⟩
      · simp only [List.size_toArray, List.length_append, List.length_take, List.length_drop, Array.length_toList, Lib.strCells_length]
        omega
      · have ht' : cur.toList.take n = xs := by simpa using htake
        rw [ht', ← hlen]
        exact List.take_left
    · have holds : ∀ j u, xs[j]? = some u → w.cell? ((⟨g, 0, none⟩ : Addr).add j) = some u := hown.cells (g := g) rfl
      have hr := Lib.run_append_grow_string (P := P) w t u ty el i (.int .u8 0) ht hu hi hz ⟨g, 0, none⟩ n c xs (by rw [hsize]; simpa using hxl) holds s (by omega) (by omega) (by rw [hby]; exact growslice_fits (by omega) (by omega))
      have hgr := grown c (by omega) (Value.ownBlock (.slice (some ⟨g, 0, none⟩) n c))
      exact ⟨_, _, hr, hgr.1, hgr.2, .inr rfl⟩
def byteTy (P : Program) (el : TypeId) : Bool := match P.info? el with
  | some i => (match i.zero with | some (.int .u8 z) => decide (z = 0) | _ => false) && Nat.beq i.size 1 && Nat.beq i.bytes 1
  | none => false
theorem byteTy_ok {P : Program} (h : byteTy P el = true) : ∃ i, P.info? el = some i ∧ i.zero = some (.int .u8 0) ∧ i.size = 1 ∧ i.bytes = 1 := by
  unfold byteTy at h
  split at h
  · rename_i i hi
    simp only [Bool.and_eq_true] at h
    obtain ⟨⟨h1, h2⟩, h3⟩ := h
    refine ⟨i, hi, ?_, Nat.eq_of_beq_eq_true h2, Nat.eq_of_beq_eq_true h3⟩
    split at h1
    · rename_i z hz
      rw [hz, of_decide_eq_true h1]
    · cases h1
  · cases h
/-- append(b, s...), b owned (the first resource). -/
theorem Nx.append_str {tys : Array TypeId} {l : List UInt8} {xs : List Value} (hx : evo e x = some (.slice A n c)) (hy : evo e y = some (strV l)) (hty : tys = #[t, u]) (ht : C.P.underlying t = some (.slice el)) (hu : C.P.underlying u = some .string) (hel : byteTy C.P el = true)
    (hlt : Nat.blt d C.n = true) (h63 : n + l.length ≤ 34359738368)
    (h : ∀ A' c', Nx C ((d, .slice A' (n + l.length) c') :: e) I (Vec el 1 A' (n + l.length) c' (xs ++ l.map byteV) :: R) K) : Nx C e I (Vec el 1 A n c xs :: R) (opK C.P ⟨some d, .call { callee := .builtin .append, args := #[x, y], argTypes := tys }, ty, pos, after, g⟩ K Q) := by
  subst hty
  intro a w ha hw
  obtain ⟨⟨m, ⟨m1, m2, hd, rfl, hv, h2⟩, hs⟩, hst⟩ := id hw
  obtain ⟨i, hi, hz, hsize, hby⟩ := byteTy_ok hel
  have hsz : (ByteArray.mk l.toArray).size = l.length := by simp [ByteArray.size]
  have h63m : n + l.length ≤ maxLen := by unfold maxLen; omega
  obtain ⟨v', w', hr, hown', hg, hat⟩ := append_str_run (ty := ty) (s := ⟨l.toArray⟩) ht hu hi hz hsize hby (hv.owns hs.own) (by rw [hsz]; exact h63m) (by rw [hsz]; omega)
  rw [hsz, strCells_mk] at hown'
  obtain ⟨A', c', rfl, hst'⟩ := St.append hw hown' hg hat (run_drawn _ _ hr)
  unfold opK Oper.wp
  have hrun : (execOp a.eval ⟨some d, .call { callee := .builtin .append, args := #[x, y], argTypes := #[t, u] }, ty, pos, after, g⟩).run C.P w = .ok (.value (.slice A' (n + l.length) c')) w' := by
    obtain ⟨cs, hcs⟩ := run_builtin (P := C.P) (w := w) (ρ := a.eval) (b := .append) (args := #[x, y]) (dst := some d) (ty := ty) (pos := pos) (after := after) (g := g) (tys := #[t, u]) (show [x, y].map a.eval = [Value.slice A n c, strV l] from by simp only [List.map_cons, List.map_nil, ha.eval hx, ha.eval hy])
    rw [hcs]
    exact run_v hr
  rw [hrun]
  exact h A' c' _ w' (ha.put hlt _) hst'
/-- The same, resource number k, bytes told as bytes. -/
theorem Nx.append_strB (k : Nat) {tys : Array TypeId} {l l2 : List UInt8} (hx : evo e x = some (.slice A l.length c)) (hy : evo e y = some (strV l2)) (hty : tys = #[t, u]) (ht : C.P.underlying t = some (.slice el)) (hu : C.P.underlying u = some .string) (hel : byteTy C.P el = true)
    (hlt : Nat.blt d C.n = true) (hk : nthL R k = some (Vec el 1 A l.length c (l.map byteV))) (h63 : l.length + l2.length ≤ 34359738368)
    (h : ∀ A' c', Nx C ((d, .slice A' (l ++ l2).length c') :: e) I (Vec el 1 A' (l ++ l2).length c' ((l ++ l2).map byteV) :: R.eraseIdx k) K) : Nx C e I R (opK C.P ⟨some d, .call { callee := .builtin .append, args := #[x, y], argTypes := tys }, ty, pos, after, g⟩ K Q) := by
  refine Nx.pull k (nthL_eq.symm.trans hk) (Nx.append_str hx hy hty ht hu hel hlt h63 fun A' c' => ?_)
  have := h A' c'
  rw [List.length_append, List.map_append] at this
  exact this
/-- append(b, lit...): a literal of bytes that has just been laid. -/
theorem Nx.append_bytes (k : Nat) {tys : Array TypeId} {l l2 : List UInt8} {m c2 b : Nat} {cs : List Value} (hx : evo e x = some (.slice A l.length c)) (hy : evo e y = some (.slice (some ⟨b, 0, none⟩) m c2)) (hty : tys = #[t, t]) (ht : C.P.underlying t = some (.slice el)) (hel : elemIs C.P el 1 = true)
    (hlt : Nat.blt d C.n = true) (hk : nthL R k = some (Vec el 1 A l.length c (l.map byteV))) (hcs : cs = l2.map byteV) (hl : Nat.beq cs.length (m * 1) = true) (h1 : cs.all Value.oneCell' = true) (h63 : l.length + m ≤ 34359738368)
    (h : ∀ A' c', Nx C ((d, .slice A' (l ++ l2).length c') :: e) I (Vec el 1 A' (l ++ l2).length c' ((l ++ l2).map byteV) :: R.eraseIdx k) K) : Nx C e I (Blk b el cs :: R) (opK C.P ⟨some d, .call { callee := .builtin .append, args := #[x, y], argTypes := tys }, ty, pos, after, g⟩ K Q) := by
  have hm : m = l2.length := by
    have := Nat.eq_of_beq_eq_true hl
    rw [hcs, List.length_map] at this; omega
  subst hm
  refine Nx.append_lit k hx hy hty ht hel hlt hk hl h1 h63 fun A' c' => ?_
  have := h A' c'
  rw [List.length_append, List.map_append, ← hcs] at this
  exact this
/-- len(s). -/
theorem Nx.len_strV {tys : Array TypeId} {l : List UInt8} (hx : evo e x = some (strV l)) (hty : tys = #[t]) (ht : C.P.underlying t = some .string) (hlt : Nat.blt d C.n = true)
    (h : Nx C ((d, .int .i64 l.length) :: e) I R K) : Nx C e I R (opK C.P ⟨some d, .call { callee := .builtin .len, args := #[x], argTypes := tys }, ty, pos, after, g⟩ K Q) := by
  refine Nx.len_str (s := ⟨l.toArray⟩) hx hty ht hlt ?_
  rw [show ((ByteArray.mk l.toArray).size : Int) = l.length by simp [ByteArray.size]]
  exact h
/-- s[lo:hi] of a string. -/
theorem Nx.slice_str {k k' : IntKind} {l : List UInt8} {i j : Nat} (hx : evo e x = some (strV l)) (hy : evo e y = some (.int k (i : Int))) (hz : evo e z = some (.int k' (j : Int))) (ht : C.P.underlying t = some .string)
    (hlt : Nat.blt d C.n = true) (h1 : i ≤ j) (h2 : j ≤ l.length) (hk : Nx C ((d, strV ((l.drop i).take (j - i))) :: e) I R K) : Nx C e I R (opK C.P ⟨some d, .slice t x (some y) (some z) none, ty, pos, after, g⟩ K Q) :=
  Nx.op_run rfl hlt (fun a w ha _ => by
    simp only [execOp, ha.eval hx, ha.eval hy, ha.eval hz, Option.map_some, Option.map_none]
    refine run_v ?_
    have h3 := run_slice_string (P := C.P) w t ⟨l.toArray⟩ k k' (i : Int) (j : Int) ht (by omega) (by omega) (by simp [ByteArray.size]; omega)
    rw [Int.toNat_natCast, Int.toNat_natCast, ByteArray.extract_mk] at h3
    rw [run_sliceAt_string w t (strV l) _ _ _ ht]
    exact h3) hk
theorem run_index_str {P : Program} {k : IntKind} {l : List UInt8} {i : Nat} (ht : P.underlying t = some .string) (hi : i < l.length) (w : World) : (Instr.index t (strV l) (.int k (i : Int))).run P w = .ok (byteV (l.getD i default)) w := by
  have h := run_index_string (P := P) w t ⟨l.toArray⟩ k (i : Int) ht
  have hs : (ByteArray.mk l.toArray).size = l.length := by simp [ByteArray.size]
  rw [dif_pos ⟨by omega, by rw [hs]; omega⟩] at h
  have he : (ByteArray.mk l.toArray)[(i : Int).toNat]'(by rw [hs]; omega) = l.getD i default := by
    rw [List.getD_eq_getElem?_getD, List.getElem?_eq_getElem hi]
    show (l.toArray)[(i : Int).toNat]'_ = _
    simp
  rw [he] at h
  exact h
/-- s[i] of a string. -/
theorem Nx.index_str {k : IntKind} {l : List UInt8} {i : Nat} (hx : evo e x = some (strV l)) (hy : evo e y = some (.int k (i : Int))) (ht : C.P.underlying t = some .string)
    (hlt : Nat.blt d C.n = true) (hi : i < l.length) (hk : Nx C ((d, byteV (l.getD i default)) :: e) I R K) : Nx C e I R (opK C.P ⟨some d, .index t x y, ty, pos, after, g⟩ K Q) :=
  Nx.op_run rfl hlt (fun a w ha _ => by
    simp only [execOp, ha.eval hx, ha.eval hy]
    exact run_v (run_index_str ht hi w)) hk
theorem QRun.index_str {S : World → Prop} {dst : Option Tmp} {k : IntKind} {l : List UInt8} {i : Nat} (hx : evo e x = some (strV l)) (hy : evo e y = some (.int k (i : Int))) (ht : C.P.underlying t = some .string) (hi : i < l.length) : QRun C e S ⟨dst, .index t x y, ty, pos, after, g⟩ (byteV (l.getD i default)) :=
  fun a w ha _ => by
    simp only [execOp, ha.eval hx, ha.eval hy]
    exact run_v (run_index_str ht hi w)
/-- string(b). -/
theorem run_bytes_str {P : Program} {W w : World} {I : PH} {R : List Res} {l : List UInt8} (hs : P.underlying t = some (.slice el)) (he : P.underlying el = some (.int .u8)) (hd : P.underlying u = some .string) (hst : St W I R w)
    (hA : l ≠ [] → A.isSome = true) (hr : ∀ j v, (l.map byteV)[j]? = some v → Rd W I R ((ad A).add j) v) : (convert t u (.slice A l.length c)).run P w = .ok (strV l) w := by
  by_cases hl : l = []
  · subst hl
    cases A with
    | none =>
      have h0 := run_convert_bytes_string (P := P) w t u el none 0 c hs he hd
      rw [show ([] : List UInt8).length = 0 from rfl, h0]
      simp [Conv.bytesToString]; rfl
    | some a => exact run_convert_bytes_back w t u el a c [] hs he hd (fun j hj => absurd hj (Nat.not_lt_zero _))
  · cases A with
    | none => exact absurd (hA hl) (by simp)
    | some a => exact run_convert_bytes_back w t u el a c l hs he hd (fun j hj => hr j _ (by simp [List.getElem?_eq_getElem hj]; rfl) w hst)
theorem Nx.bytes_str {l : List UInt8} (hx : evo e x = some (.slice A l.length c)) (hs : C.P.underlying t = some (.slice el)) (he : C.P.underlying el = some (.int .u8)) (hd : C.P.underlying u = some .string) (hlt : Nat.blt d C.n = true)
    (hA : l ≠ [] → A.isSome = true) (hr : ∀ j v, (l.map byteV)[j]? = some v → Rd C.W I R ((ad A).add j) v) (hk : Nx C ((d, strV l) :: e) I R K) : Nx C e I R (opK C.P ⟨some d, .convert t u x, ty, pos, after, g⟩ K Q) :=
  Nx.op_run rfl hlt (fun a w ha hw => by
    simp only [execOp, ha.eval hx]
    exact run_v (run_bytes_str hs he hd hw hA hr)) hk
/-- string(b), b owned: resource number k. -/
theorem Nx.vec_str (k : Nat) {l : List UInt8} (hx : evo e x = some (.slice A n c)) (hn : n = l.length) (hs : C.P.underlying t = some (.slice el)) (he : C.P.underlying el = some (.int .u8)) (hd : C.P.underlying u = some .string) (hlt : Nat.blt d C.n = true)
    (hk : nthL R k = some (Vec el 1 A n c (l.map byteV))) (h : Nx C ((d, strV l) :: e) I R K) : Nx C e I R (opK C.P ⟨some d, .convert t u x, ty, pos, after, g⟩ K Q) := by
  intro a w ha hw
  have hA : l ≠ [] → A.isSome = true := fun hl => by
    obtain ⟨⟨m, hm, hs⟩, hst⟩ := id hw
    obtain ⟨m', hle, hv⟩ := Stars.get k hm hk
    rcases hv.2 with ⟨_, h0, _⟩ | ⟨b, cur, rfl, _⟩
    · exact absurd (List.eq_nil_of_length_eq_zero (hn.symm.trans h0)) hl
    · rfl
  subst hn
  exact Nx.bytes_str hx hs he hd hlt hA (fun j v hj => Rd.ent (Ent.pull k R _ (nthL_eq.symm.trans hk)) (Rd.vec hj)) h a w ha hw
theorem Sat.drew {w : World} {I m : PH} (h : Sat w I m) : Sat w.drew I m := ⟨h.imm, h.own, h.dis⟩
/-- A row that bears the run-time's mark: it is only read. -/
def BlkZ (b : Nat) (t : TypeId) (cs : List Value) : Res := fun m => ∃ fz rest, m b = some (.cells (cs ++ rest).toArray t fz)
theorem BlkZ.sliceOf {α : Type} {f : α → Value} {b : Nat} {m I' : PH} {l : List α} {cap : Nat} (hm : PH.le m I') (h : BlkZ b t (l.map f) m) (hc : l.length ≤ cap) (hl : cap ≤ maxLen) : SliceOf f I' (some ⟨b, 0, none⟩) cap l := by
  obtain ⟨fz, rest, hb⟩ := h
  refine ⟨fun j u hj => ⟨rfl, ?_⟩, hc, hl⟩
  have hlt := (List.getElem?_eq_some_iff.1 hj).1
  rw [ad_some, Addr.add_lit, Nat.zero_add]
  simp only [cellH, hm _ _ hb, Option.isSome_none, Bool.false_eq_true, if_false]
  rw [List.getElem?_toArray, List.getElem?_append_left hlt]
  exact hj
/-- []byte(s). -/
theorem Nx.str_bytes {l : List UInt8} (hx : evo e x = some (strV l)) (hs : C.P.underlying t = some .string) (hd : C.P.underlying u = some (.slice el)) (he : C.P.underlying el = some (.int .u8)) (hlt : Nat.blt d C.n = true) (hl : l.length ≤ 34359738368)
    (h : ∀ b cap, l.length ≤ cap → cap ≤ maxLen → Nx C ((d, .slice (some ⟨b, 0, none⟩) l.length cap) :: e) I (BlkZ b el (l.map byteV) :: R) K) : Nx C e I R (opK C.P ⟨some d, .convert t u x, ty, pos, after, g⟩ K Q) := by
  intro a w ha hw
  have hsz : (ByteArray.mk l.toArray).size = l.length := by simp [ByteArray.size]
  have hr := run_bytes_of_string (P := C.P) w t u el ⟨l.toArray⟩ hs hd he
  rw [hsz] at hr
  unfold opK Oper.wp
  have hrun : (execOp a.eval ⟨some d, .convert t u x, ty, pos, after, g⟩).run C.P w = .ok (.value (.slice (some ⟨w.heap.size, 0, none⟩) l.length (grownCap w l.length 0 el))) (w.drew.alloc (.cells (bytesRow ⟨l.toArray⟩ (grownCap w l.length 0 el)) el ((bytesRow ⟨l.toArray⟩ (grownCap w l.length 0 el)).size, (bytesRow ⟨l.toArray⟩ (grownCap w l.length 0 el)).size + 1))) := by
    simp only [execOp, ha.eval hx]
    exact run_v hr
  rw [hrun]
  refine h w.heap.size (grownCap w l.length 0 el) (grownCap_ge w _ _ _) (grownCap_le_maxLen w _ _ _ (by unfold maxLen; omega)) _ _ (ha.put hlt _) ?_
  have h1 := (St.drew hw).alloc (.cells (bytesRow ⟨l.toArray⟩ (grownCap w l.length 0 el)) el ((bytesRow ⟨l.toArray⟩ (grownCap w l.length 0 el)).size, (bytesRow ⟨l.toArray⟩ (grownCap w l.length 0 el)).size + 1))
  have : bytesRow ⟨l.toArray⟩ (grownCap w l.length 0 el) = (l.map byteV ++ List.replicate (grownCap w l.length 0 el - l.length) (Value.int .u8 0)).toArray := by
    unfold bytesRow
    rw [hsz]
    apply Array.ext'
    simp [byteV]
  refine h1.ent (Ent.head fun m hm => ⟨((bytesRow ⟨l.toArray⟩ (grownCap w l.length 0 el)).size, (bytesRow ⟨l.toArray⟩ (grownCap w l.length 0 el)).size + 1), List.replicate (grownCap w l.length 0 el - l.length) (.int .u8 0), ?_⟩)
  rw [← this]
  exact hm
/-! ### Tests whose outcome is known -/
section
variable {cd : Code}
theorem Nx.p_bool_t {b : Bool} (hk : ck cd = 4) (hc : evo e (ccnd cd) = some (.bool b)) (hp : b = true) (h : Nx C e I R ((cl cd).wp C.P Q)) : Nx C e I R (cd.wp C.P Q) := Nx.p_bool hk hc (fun _ => h) (fun hn => by rw [hp] at hn; cases hn)
theorem Nx.p_bool_f {b : Bool} (hk : ck cd = 4) (hc : evo e (ccnd cd) = some (.bool b)) (hp : b = false) (h : Nx C e I R ((cr cd).wp C.P Q)) : Nx C e I R (cd.wp C.P Q) := Nx.p_bool hk hc (fun hn => by rw [hp] at hn; cases hn) (fun _ => h)
end
/-! ### Strings as keys -/
theorem strV_eq {a b : List UInt8} : (ByteArray.mk a.toArray == ByteArray.mk b.toArray) = decide (a = b) := by
  rw [Bool.eq_iff_iff, MapKept.bytes_beq, decide_eq_true_eq]
  exact ⟨fun he => by have := congrArg (fun x : ByteArray => x.data.toList) he; simpa using this, fun h => by rw [h]⟩
theorem KeyEnc.str {P : Program} {kt : TypeId} (h : P.underlying kt = some .string) : KeyEnc P kt strV := by
  refine ⟨⟨_, h, fun a b => ?_⟩, fun em a w => ?_, fun a => by show (ByteArray.mk a.toArray == ByteArray.mk a.toArray) = true; rw [strV_eq]; simp⟩
  · show some (ByteArray.mk a.toArray == ByteArray.mk b.toArray) = _
    rw [strV_eq]
  · unfold Instr.checkKey
    rw [Sem.run_bind, run_underlying h, Result.andThen_ok]
    rfl
/-! ### The order of strings -/
def strLt (a b : List UInt8) : Bool := Op.bytesLess a b
section
variable {P : Program} {a b : List UInt8}
theorem run_strlt (w : World) : (do eqGuard .lss t x y (.string ⟨a.toArray⟩) (.string ⟨b.toArray⟩); binOp .lss t (.string ⟨a.toArray⟩) (.string ⟨b.toArray⟩)).run P w = .ok (.bool (strLt a b)) w := by
  rw [show eqGuard .lss t x y (Value.string ⟨a.toArray⟩) (.string ⟨b.toArray⟩) = pure () from rfl, binOp_string_lss, ByteArray.toList_mk, ByteArray.toList_mk]
  rfl
theorem run_strgt (w : World) : (do eqGuard .gtr t x y (.string ⟨a.toArray⟩) (.string ⟨b.toArray⟩); binOp .gtr t (.string ⟨a.toArray⟩) (.string ⟨b.toArray⟩)).run P w = .ok (.bool (!(strLt a b || a == b))) w := by
  rw [show eqGuard .gtr t x y (Value.string ⟨a.toArray⟩) (.string ⟨b.toArray⟩) = pure () from rfl, binOp_string_gtr, ByteArray.toList_mk, ByteArray.toList_mk]
  rfl
theorem run_strle (w : World) : (do eqGuard .leq t x y (.string ⟨a.toArray⟩) (.string ⟨b.toArray⟩); binOp .leq t (.string ⟨a.toArray⟩) (.string ⟨b.toArray⟩)).run P w = .ok (.bool (strLt a b || a == b)) w := by
  rw [show eqGuard .leq t x y (Value.string ⟨a.toArray⟩) (.string ⟨b.toArray⟩) = pure () from rfl, binOp_string_leq, ByteArray.toList_mk, ByteArray.toList_mk]
  rfl
theorem run_strge (w : World) : (do eqGuard .geq t x y (.string ⟨a.toArray⟩) (.string ⟨b.toArray⟩); binOp .geq t (.string ⟨a.toArray⟩) (.string ⟨b.toArray⟩)).run P w = .ok (.bool (!(strLt a b))) w := by
  rw [show eqGuard .geq t x y (Value.string ⟨a.toArray⟩) (.string ⟨b.toArray⟩) = pure () from rfl, binOp_string_geq, ByteArray.toList_mk, ByteArray.toList_mk]
  rfl
theorem run_eql_c (w : World) : (do eqGuard .eql t x y (strV a) (.string ⟨b.toArray⟩); binOp .eql t (strV a) (.string ⟨b.toArray⟩)).run P w = .ok (.bool (a == b)) w := run_streq w
theorem run_eql_s (w : World) : (do eqGuard .eql t x y (strV a) (strV b); binOp .eql t (strV a) (strV b)).run P w = .ok (.bool (a == b)) w := run_streq w
theorem run_neq_s (w : World) : (do eqGuard .neq t x y (strV a) (strV b); binOp .neq t (strV a) (strV b)).run P w = .ok (.bool (!(a == b))) w := run_strne w
theorem run_lss_s (w : World) : (do eqGuard .lss t x y (strV a) (strV b); binOp .lss t (strV a) (strV b)).run P w = .ok (.bool (strLt a b)) w := run_strlt w
theorem run_gtr_s (w : World) : (do eqGuard .gtr t x y (strV a) (strV b); binOp .gtr t (strV a) (strV b)).run P w = .ok (.bool (!(strLt a b || a == b))) w := run_strgt w
end
end Go.Eng
/-
  The proof engine, part N: arrays.
-/
namespace Go.Eng
section
variable {C : Cx} {e e' : Env} {I I' : PH} {R R' R0 : List Res} {K K' : Act → World → Prop} {Q : Exit → Act → World → Prop} {W : World}
variable {d : Nat} {ty t el : TypeId} {pos : String} {after : Array Edge} {g : Option (Nat × Bool)} {x y : Operand} {dst : Option Tmp} {S : World → Prop}
/-- An array's literal: its cells are told. -/
theorem Nx.buildX {parts : Array (Nat × Operand)} {vs : List Value} (cs : List Value) (hx : evs e (parts.toList.map (·.2)) = some vs)
    (hv : pureRun C.P (Instr.build t (((parts.toList.map (·.1)).zip vs).toArray)) = some (.agg cs.toArray)) (hlt : Nat.blt d C.n = true)
    (h : Nx C ((d, .agg cs.toArray) :: e) I R K) : Nx C e I R (opK C.P ⟨some d, .build t parts, ty, pos, after, g⟩ K Q) :=
  Nx.op_run rfl hlt (fun a w ha _ => by
    have e1 : (parts.map fun (i, x) => (i, a.eval x)) = ((parts.toList.map (·.1)).zip vs).toArray := by
      rw [← ha.evals hx]
      apply Array.ext'
      simp only [Array.toList_map]
      induction parts.toList with
      | nil => rfl
      | cons p r ih => simp [ih]
    simp only [execOp, e1]
    exact run_v (run_of_pureRun hv w)) h
theorem run_indexArr {P : Program} {k : IntKind} {i n sz : Nat} {a : Addr} (ht : P.underlying t = some (.array n el)) (hsz : cellsIn P el = some sz) (h1 : i < n) (w : World) :
    (Instr.indexAt t (.pointer (some a)) (.int k (i : Int))).run P w = .ok (.pointer (some (a.add (i * sz)))) w := by
  have hz : (sizeOf el).run P w = .ok sz w := cellsIn_run hsz w
  have hand : 0 ≤ (i : Int) ∧ (i : Int) < (n : Int) := ⟨by omega, by omega⟩
  simp [Instr.indexAt, asIntOf, run_underlying ht, hz, hand, Instr.sureAddr]
  intro h; omega
theorem QRun.idxArr {k0 : IntKind} {i n sz b o : Nat} (hx : evo e x = some (.pointer (some ⟨b, o, none⟩))) (hy : evo e y = some (.int k0 (i : Int))) (ht : C.P.underlying t = some (.array n el)) (hsz : cellsIn C.P el = some sz) (h1 : Nat.blt i n = true) :
    QRun C e S ⟨dst, .indexAddr t x y, ty, pos, after, g⟩ (.pointer (some ⟨b, o + i * sz, none⟩)) := fun a w ha _ => by
  simp only [execOp, ha.eval hx, ha.eval hy]
  refine run_v ?_
  have := run_indexArr (P := C.P) (k := k0) (a := ⟨b, o, none⟩) ht hsz (by simpa [Nat.blt_eq] using h1) w
  rw [Addr.add_lit] at this
  exact this
/-- What is asked of all worlds stays so though more has been given up. -/
theorem Nx.mix_Sle (hle : PH.le I I') (hR : Ent R R0) (h : Nx C e I' R K) : Nx C e I' R (fun a w => St C.W I R0 w ∧ K a w) := fun a w ha hw => ⟨(hw.imm_le hle).ent hR, h a w ha hw⟩
end
end Go.Eng
/- Contracts of functions of the given program, and lemmas about plain lists and numbers: what the laws of this seat lean on. -/
namespace Go.Proofs.Ytaoeapmdhpkidaa
open Go.Eng
attribute [local irreducible] opK wpList Code.wp Exit.then Exit.inBlock fnPost bodyPost Nx Calls Oper.wp Rd Rds Wr Ent Stars Blk Again Vec FnSpec wpMix QRun Stop Upto wpAt
attribute [local irreducible] strV
/-! Names -/
def chB (c : UInt8) : Bool := decide (97 ≤ c.toNat ∧ c.toNat ≤ 122 ∨ 48 ≤ c.toNat ∧ c.toNat ≤ 57 ∨ c.toNat = 95)
def words : List (List UInt8) := [[97, 108, 108], [97, 110, 100], [101, 118, 101, 110, 116], [102, 114, 111, 109], [109, 105, 115, 115, 105, 110, 103], [110, 111, 116], [111, 110], [111, 114], [116, 111], [117, 110, 100, 101, 114], [119, 104, 101, 114, 101]]
def headB (s : List UInt8) : Bool := decide (1 ≤ s.length ∧ s.length ≤ 16 ∧ 97 ≤ (s.getD 0 default).toNat ∧ (s.getD 0 default).toNat ≤ 122)
def nameB (s : List UInt8) : Bool := headB s && s.all chB && !(words.contains s)
theorem all_take {s : List UInt8} {k : Nat} (hk : k < s.length) : (s.take (k + 1)).all chB = ((s.take k).all chB && chB (s.getD k default)) := by
  rw [List.take_succ_eq_append_getElem hk, List.all_append, List.getD_eq_getElem?_getD, List.getElem?_eq_getElem hk]
  simp
theorem all_false {s : List UInt8} {k : Nat} (hk : k < s.length) (h : chB (s.getD k default) = false) : s.all chB = false := by
  rw [List.all_eq_false]
  exact ⟨s.getD k default, by rw [List.getD_eq_getElem?_getD, List.getElem?_eq_getElem hk]; exact List.getElem_mem _, by rw [h]; decide⟩
set_option maxHeartbeats 4000000 in
set_option maxRecDepth 10000 in
theorem Name_spec (s : List UInt8) (hs : 0 ≤ s.length) (I : PH) : FnSpec Try.prog 88 [strV s] I [] (fun v R' => v = .bool (nameB s) ∧ R' = []) := by
  by_cases hh : headB s = true
  · have hh' := of_decide_eq_true hh
    replace hs : s.length ≤ 34359738368 := by omega
    refine FnSpec.enterP Try.func88 rfl Try.ntmps88 rfl fun w F => ?_
    repeat' first
      | ((with_reducible refine Nx.is_wp ?_); first | refine Nx.wo ?_ | refine Nx.p_dec rfl rfl (fun hc => ?_) (fun hc => ?_) | refine Nx.p_bool rfl rfl (fun hc => ?_) (fun hc => ?_))
      | ((first | refine Nx.at_op rfl rfl ?_ | refine Nx.m_loud rfl rfl rfl ?_ | refine Nx.at_do rfl rfl rfl rfl ?_ | refine Nx.m_loud_do rfl rfl rfl rfl rfl ?_); first | refine Nx.opr rfl rfl ?_ | refine Nx.len_strV rfl rfl rfl rfl ?_ | refine Nx.index_str (i := 0) rfl rfl rfl rfl (by omega) ?_ | refine Nx.str_bytes rfl rfl rfl rfl rfl hs (fun b cap h1 h2 => ?_) | refine Nx.so ?_ | refine Nx.sb (fun bx => ?_) | refine Nx.sa (fun A2 c2 => ?_))
      | ((with_reducible refine Nx.is_at ?_); first | refine Nx.a ?_ | ((fail_if_success refine Nx.at_do rfl rfl rfl rfl ?_); first | refine Nx.at_dec_t rfl rfl rfl rfl (by first | assumption | omega) ?_ | refine Nx.at_dec_f rfl rfl rfl rfl (by first | assumption | omega) ?_ | refine Nx.at_split rfl rfl rfl rfl (fun hc => ?_) (fun hc => ?_) | refine Nx.at_splitb rfl rfl rfl rfl (fun hc => ?_) (fun hc => ?_)))
      | ((with_reducible refine Nx.is_mix ?_); first | refine Nx.m ?_ | ((fail_if_success refine Nx.m_quiet_do rfl rfl rfl rfl rfl rfl rfl ?_ ?_); (fail_if_success refine Nx.m_loud_do rfl rfl rfl rfl rfl ?_); first | refine Nx.m_dec_t rfl rfl rfl rfl (by first | assumption | omega) ?_ | refine Nx.m_dec_f rfl rfl rfl rfl (by first | assumption | omega) ?_ | refine Nx.m_split rfl rfl rfl rfl (fun hc => ?_) (fun hc => ?_) | refine Nx.m_splitb rfl rfl rfl rfl (fun hc => ?_) (fun hc => ?_)))
      | ((fail_if_success (with_reducible refine Nx.is_at ?_)); (fail_if_success (with_reducible refine Nx.is_wp ?_)); (fail_if_success (with_reducible refine Nx.is_mix ?_)); first | refine Nx.ex ?_)
    refine Nx.freezeAt 0 rfl fun I1 m1 hI1 hm1 h1' => ?_
    have hb : SliceOf byteV I1 (some ⟨b, 0, none⟩) cap s := BlkZ.sliceOf hm1 h1' h1 h2
    repeat' first
      | ((with_reducible refine Nx.is_wp ?_); first | refine Nx.wo ?_ | refine Nx.p_dec rfl rfl (fun hc => ?_) (fun hc => ?_) | refine Nx.p_bool rfl rfl (fun hc => ?_) (fun hc => ?_))
      | ((first | refine Nx.at_op rfl rfl ?_ | refine Nx.m_loud rfl rfl rfl ?_ | refine Nx.at_do rfl rfl rfl rfl ?_ | refine Nx.m_loud_do rfl rfl rfl rfl rfl ?_); first | refine Nx.opr rfl rfl ?_ | refine Nx.so ?_ | refine Nx.sb (fun bx => ?_) | refine Nx.sa (fun A2 c2 => ?_))
      | ((with_reducible refine Nx.is_at ?_); first | refine Nx.a ?_ | ((fail_if_success refine Nx.at_do rfl rfl rfl rfl ?_); first | refine Nx.at_dec_t rfl rfl rfl rfl (by first | assumption | omega) ?_ | refine Nx.at_dec_f rfl rfl rfl rfl (by first | assumption | omega) ?_ | refine Nx.at_split rfl rfl rfl rfl (fun hc => ?_) (fun hc => ?_) | refine Nx.at_splitb rfl rfl rfl rfl (fun hc => ?_) (fun hc => ?_)))
      | ((with_reducible refine Nx.is_mix ?_); first | refine Nx.m ?_ | ((fail_if_success refine Nx.m_quiet_do rfl rfl rfl rfl rfl rfl rfl ?_ ?_); (fail_if_success refine Nx.m_loud_do rfl rfl rfl rfl rfl ?_); first | refine Nx.m_dec_t rfl rfl rfl rfl (by first | assumption | omega) ?_ | refine Nx.m_dec_f rfl rfl rfl rfl (by first | assumption | omega) ?_ | refine Nx.m_split rfl rfl rfl rfl (fun hc => ?_) (fun hc => ?_) | refine Nx.m_splitb rfl rfl rfl rfl (fun hc => ?_) (fun hc => ?_)))
      | ((fail_if_success (with_reducible refine Nx.is_at ?_)); (fail_if_success (with_reducible refine Nx.is_wp ?_)); (fail_if_success (with_reducible refine Nx.is_mix ?_)); first | refine Nx.ex ?_)
    refine Nx.p_loop (σ := Nat) (fun k => [(0, strV s), (24, .slice (some ⟨b, 0, none⟩) s.length cap), (25, .int .i64 s.length), (26, .int .i64 (k : Int))])
      (fun _ => [F]) (fun k => k ≤ s.length ∧ (s.take k).all chB = true) (fun k => s.length - k) 0 rfl ⟨Nat.zero_le _, rfl⟩ ⟨rfl, rfl, rfl, rfl, trivial⟩ (by (first | done | (repeat first | exact Ent.refl _ | exact Ent.nil _ | refine Ent.pick 0 rfl ?_ | refine Ent.pick 1 rfl ?_ | refine Ent.pick 2 rfl ?_ | refine Ent.pick 3 rfl ?_ | refine Ent.pick 4 rfl ?_ | refine Ent.pick 5 rfl ?_ | refine Ent.pick 6 rfl ?_ | refine Ent.pick 7 rfl ?_ | refine Ent.pick 8 rfl ?_ | refine Ent.pick 9 rfl ?_ | refine Ent.pick 10 rfl ?_ | refine Ent.pick 11 rfl ?_ | refine Ent.pick 12 rfl ?_ | refine Ent.pick 13 rfl ?_ | refine Ent.pick 14 rfl ?_))) ?_
    rintro k ⟨hk, hal⟩
    by_cases hlt : k < s.length
    · have ht := all_take hlt
      rw [hal, Bool.true_and] at ht
      have hf := all_false hlt
      by_cases hc : chB (s.getD k default) = true
      · rw [hc] at ht
        have hc' := of_decide_eq_true hc
        repeat' first
          | ((with_reducible refine Nx.is_wp ?_); first | refine Nx.wo ?_ | refine Nx.p_dec rfl rfl (fun hc => ?_) (fun hc => ?_) | refine Nx.p_bool rfl rfl (fun hc => ?_) (fun hc => ?_))
          | ((first | refine Nx.at_op rfl rfl ?_ | refine Nx.m_loud rfl rfl rfl ?_ | refine Nx.at_do rfl rfl rfl rfl ?_ | refine Nx.m_loud_do rfl rfl rfl rfl rfl ?_); first | refine Nx.opr rfl rfl ?_ | refine Nx.indexAddr_nat rfl rfl rfl rfl rfl (by omega) rfl ?_ | refine Nx.load rfl rfl rfl (hb.rd (by omega)) ?_ | refine Nx.so ?_ | refine Nx.sb (fun bx => ?_) | refine Nx.sa (fun A2 c2 => ?_))
          | ((with_reducible refine Nx.is_at ?_); first | refine Nx.a ?_ | ((fail_if_success refine Nx.at_do rfl rfl rfl rfl ?_); first | refine Nx.at_dec_t rfl rfl rfl rfl (by first | assumption | omega) ?_ | refine Nx.at_dec_f rfl rfl rfl rfl (by first | assumption | omega) ?_ | refine Nx.at_split rfl rfl rfl rfl (fun hc => ?_) (fun hc => ?_) | refine Nx.at_splitb rfl rfl rfl rfl (fun hc => ?_) (fun hc => ?_)))
          | ((with_reducible refine Nx.is_mix ?_); first | refine Nx.m ?_ | ((fail_if_success refine Nx.m_quiet_do rfl rfl rfl rfl rfl rfl rfl ?_ ?_); (fail_if_success refine Nx.m_loud_do rfl rfl rfl rfl rfl ?_); first | refine Nx.m_dec_t rfl rfl rfl rfl (by first | assumption | omega) ?_ | refine Nx.m_dec_f rfl rfl rfl rfl (by first | assumption | omega) ?_ | refine Nx.m_split rfl rfl rfl rfl (fun hc => ?_) (fun hc => ?_) | refine Nx.m_splitb rfl rfl rfl rfl (fun hc => ?_) (fun hc => ?_)))
          | ((fail_if_success (with_reducible refine Nx.is_at ?_)); (fail_if_success (with_reducible refine Nx.is_wp ?_)); (fail_if_success (with_reducible refine Nx.is_mix ?_)); first | refine Nx.ex ?_)
        all_goals exact Nx.again (k + 1) ⟨hlt, ht⟩ (by omega) ⟨rfl, rfl, rfl, rfl, trivial⟩ (by (first | done | (repeat first | exact Ent.refl _ | exact Ent.nil _ | refine Ent.pick 0 rfl ?_ | refine Ent.pick 1 rfl ?_ | refine Ent.pick 2 rfl ?_ | refine Ent.pick 3 rfl ?_ | refine Ent.pick 4 rfl ?_ | refine Ent.pick 5 rfl ?_ | refine Ent.pick 6 rfl ?_ | refine Ent.pick 7 rfl ?_ | refine Ent.pick 8 rfl ?_ | refine Ent.pick 9 rfl ?_ | refine Ent.pick 10 rfl ?_ | refine Ent.pick 11 rfl ?_ | refine Ent.pick 12 rfl ?_ | refine Ent.pick 13 rfl ?_ | refine Ent.pick 14 rfl ?_)))
      · have hc0 : chB (s.getD k default) = false := by simpa using hc
        have hc' := of_decide_eq_false hc0
        have hn : nameB s = false := by unfold nameB; rw [hf hc0]; simp
        rw [hn]
        repeat' first
          | ((with_reducible refine Nx.is_wp ?_); first | refine Nx.wo ?_ | refine Nx.p_dec rfl rfl (fun hc => ?_) (fun hc => ?_) | refine Nx.p_bool rfl rfl (fun hc => ?_) (fun hc => ?_))
          | ((first | refine Nx.at_op rfl rfl ?_ | refine Nx.m_loud rfl rfl rfl ?_ | refine Nx.at_do rfl rfl rfl rfl ?_ | refine Nx.m_loud_do rfl rfl rfl rfl rfl ?_); first | refine Nx.opr rfl rfl ?_ | refine Nx.indexAddr_nat rfl rfl rfl rfl rfl (by omega) rfl ?_ | refine Nx.load rfl rfl rfl (hb.rd (by omega)) ?_ | refine Nx.so ?_ | refine Nx.sb (fun bx => ?_) | refine Nx.sa (fun A2 c2 => ?_))
          | ((with_reducible refine Nx.is_at ?_); first | refine Nx.a ?_ | ((fail_if_success refine Nx.at_do rfl rfl rfl rfl ?_); first | refine Nx.at_dec_t rfl rfl rfl rfl (by first | assumption | omega) ?_ | refine Nx.at_dec_f rfl rfl rfl rfl (by first | assumption | omega) ?_ | refine Nx.at_split rfl rfl rfl rfl (fun hc => ?_) (fun hc => ?_) | refine Nx.at_splitb rfl rfl rfl rfl (fun hc => ?_) (fun hc => ?_)))
          | ((with_reducible refine Nx.is_mix ?_); first | refine Nx.m ?_ | ((fail_if_success refine Nx.m_quiet_do rfl rfl rfl rfl rfl rfl rfl ?_ ?_); (fail_if_success refine Nx.m_loud_do rfl rfl rfl rfl rfl ?_); first | refine Nx.m_dec_t rfl rfl rfl rfl (by first | assumption | omega) ?_ | refine Nx.m_dec_f rfl rfl rfl rfl (by first | assumption | omega) ?_ | refine Nx.m_split rfl rfl rfl rfl (fun hc => ?_) (fun hc => ?_) | refine Nx.m_splitb rfl rfl rfl rfl (fun hc => ?_) (fun hc => ?_)))
          | ((fail_if_success (with_reducible refine Nx.is_at ?_)); (fail_if_success (with_reducible refine Nx.is_wp ?_)); (fail_if_success (with_reducible refine Nx.is_mix ?_)); first | refine Nx.ex ?_)
        all_goals exact Nx.imm_le hI1 (Nx.ret_fn rfl [] ⟨rfl, rfl⟩ (by (first | done | (repeat first | exact Ent.refl _ | exact Ent.nil _ | refine Ent.pick 0 rfl ?_ | refine Ent.pick 1 rfl ?_ | refine Ent.pick 2 rfl ?_ | refine Ent.pick 3 rfl ?_ | refine Ent.pick 4 rfl ?_ | refine Ent.pick 5 rfl ?_ | refine Ent.pick 6 rfl ?_ | refine Ent.pick 7 rfl ?_ | refine Ent.pick 8 rfl ?_ | refine Ent.pick 9 rfl ?_ | refine Ent.pick 10 rfl ?_ | refine Ent.pick 11 rfl ?_ | refine Ent.pick 12 rfl ?_ | refine Ent.pick 13 rfl ?_ | refine Ent.pick 14 rfl ?_))))
    · obtain rfl : k = s.length := by omega
      rw [List.take_length] at hal
      have hnb : nameB s = !(words.contains s) := by unfold nameB; rw [hh, hal]; rfl
      repeat' first
        | ((with_reducible refine Nx.is_wp ?_); first | refine Nx.p_bool_t rfl rfl (by assumption) ?_ | refine Nx.p_bool_f rfl rfl (by assumption) ?_ | refine Nx.wo ?_ | refine Nx.p_dec rfl rfl (fun hc => ?_) (fun hc => ?_) | refine Nx.p_bool rfl rfl (fun hc => ?_) (fun hc => ?_))
        | ((first | refine Nx.at_op rfl rfl ?_ | refine Nx.m_loud rfl rfl rfl ?_ | refine Nx.at_do rfl rfl rfl rfl ?_ | refine Nx.m_loud_do rfl rfl rfl rfl rfl ?_); first | refine Nx.opr rfl rfl ?_ | refine Nx.binr rfl rfl run_eql_c rfl ?_ | refine Nx.so ?_ | refine Nx.sb (fun bx => ?_) | refine Nx.sa (fun A2 c2 => ?_))
        | ((with_reducible refine Nx.is_at ?_); first | refine Nx.a ?_ | ((fail_if_success refine Nx.at_do rfl rfl rfl rfl ?_); first | refine Nx.at_dec_t rfl rfl rfl rfl (by first | assumption | omega) ?_ | refine Nx.at_dec_f rfl rfl rfl rfl (by first | assumption | omega) ?_ | refine Nx.at_split rfl rfl rfl rfl (fun hc => ?_) (fun hc => ?_) | refine Nx.at_splitb rfl rfl rfl rfl (fun hc => ?_) (fun hc => ?_)))
        | ((with_reducible refine Nx.is_mix ?_); first | refine Nx.m ?_ | ((fail_if_success refine Nx.m_quiet_do rfl rfl rfl rfl rfl rfl rfl ?_ ?_); (fail_if_success refine Nx.m_loud_do rfl rfl rfl rfl rfl ?_); first | refine Nx.m_dec_t rfl rfl rfl rfl (by first | assumption | omega) ?_ | refine Nx.m_dec_f rfl rfl rfl rfl (by first | assumption | omega) ?_ | refine Nx.m_split rfl rfl rfl rfl (fun hc => ?_) (fun hc => ?_) | refine Nx.m_splitb rfl rfl rfl rfl (fun hc => ?_) (fun hc => ?_)))
        | ((fail_if_success (with_reducible refine Nx.is_at ?_)); (fail_if_success (with_reducible refine Nx.is_wp ?_)); (fail_if_success (with_reducible refine Nx.is_mix ?_)); first | refine Nx.ex ?_)
      all_goals
        refine Nx.imm_le hI1 (Nx.ret_fn rfl [] ⟨?_, rfl⟩ (by (first | done | (repeat first | exact Ent.refl _ | exact Ent.nil _ | refine Ent.pick 0 rfl ?_ | refine Ent.pick 1 rfl ?_ | refine Ent.pick 2 rfl ?_ | refine Ent.pick 3 rfl ?_ | refine Ent.pick 4 rfl ?_ | refine Ent.pick 5 rfl ?_ | refine Ent.pick 6 rfl ?_ | refine Ent.pick 7 rfl ?_ | refine Ent.pick 8 rfl ?_ | refine Ent.pick 9 rfl ?_ | refine Ent.pick 10 rfl ?_ | refine Ent.pick 11 rfl ?_ | refine Ent.pick 12 rfl ?_ | refine Ent.pick 13 rfl ?_ | refine Ent.pick 14 rfl ?_))))
        rw [hnb]
        simp only [beq_iff_eq, beq_eq_false_iff_ne] at *
        simp [words, *]
  · have hh0 : headB s = false := by simpa using hh
    have hh' := of_decide_eq_false hh0
    have hn : nameB s = false := by unfold nameB; rw [hh0]; rfl
    rw [hn]
    by_cases h1 : 1 ≤ s.length
    · refine FnSpec.enterP Try.func88 rfl Try.ntmps88 rfl fun w F => ?_
      repeat' first
        | ((with_reducible refine Nx.is_wp ?_); first | refine Nx.wo ?_ | refine Nx.p_dec rfl rfl (fun hc => ?_) (fun hc => ?_) | refine Nx.p_bool rfl rfl (fun hc => ?_) (fun hc => ?_))
        | ((first | refine Nx.at_op rfl rfl ?_ | refine Nx.m_loud rfl rfl rfl ?_ | refine Nx.at_do rfl rfl rfl rfl ?_ | refine Nx.m_loud_do rfl rfl rfl rfl rfl ?_); first | refine Nx.opr rfl rfl ?_ | refine Nx.len_strV rfl rfl rfl rfl ?_ | refine Nx.index_str (i := 0) rfl rfl rfl rfl (by omega) ?_ | refine Nx.so ?_ | refine Nx.sb (fun bx => ?_) | refine Nx.sa (fun A2 c2 => ?_))
        | ((with_reducible refine Nx.is_at ?_); first | refine Nx.a ?_ | ((fail_if_success refine Nx.at_do rfl rfl rfl rfl ?_); first | refine Nx.at_dec_t rfl rfl rfl rfl (by first | assumption | omega) ?_ | refine Nx.at_dec_f rfl rfl rfl rfl (by first | assumption | omega) ?_ | refine Nx.at_split rfl rfl rfl rfl (fun hc => ?_) (fun hc => ?_) | refine Nx.at_splitb rfl rfl rfl rfl (fun hc => ?_) (fun hc => ?_)))
        | ((with_reducible refine Nx.is_mix ?_); first | refine Nx.m ?_ | ((fail_if_success refine Nx.m_quiet_do rfl rfl rfl rfl rfl rfl rfl ?_ ?_); (fail_if_success refine Nx.m_loud_do rfl rfl rfl rfl rfl ?_); first | refine Nx.m_dec_t rfl rfl rfl rfl (by first | assumption | omega) ?_ | refine Nx.m_dec_f rfl rfl rfl rfl (by first | assumption | omega) ?_ | refine Nx.m_split rfl rfl rfl rfl (fun hc => ?_) (fun hc => ?_) | refine Nx.m_splitb rfl rfl rfl rfl (fun hc => ?_) (fun hc => ?_)))
        | ((fail_if_success (with_reducible refine Nx.is_at ?_)); (fail_if_success (with_reducible refine Nx.is_wp ?_)); (fail_if_success (with_reducible refine Nx.is_mix ?_)); first | refine Nx.ex ?_)
      all_goals exact Nx.ret_fn rfl [] ⟨rfl, rfl⟩ (by (first | done | (repeat first | exact Ent.refl _ | exact Ent.nil _ | refine Ent.pick 0 rfl ?_ | refine Ent.pick 1 rfl ?_ | refine Ent.pick 2 rfl ?_ | refine Ent.pick 3 rfl ?_ | refine Ent.pick 4 rfl ?_ | refine Ent.pick 5 rfl ?_ | refine Ent.pick 6 rfl ?_ | refine Ent.pick 7 rfl ?_ | refine Ent.pick 8 rfl ?_ | refine Ent.pick 9 rfl ?_ | refine Ent.pick 10 rfl ?_ | refine Ent.pick 11 rfl ?_ | refine Ent.pick 12 rfl ?_ | refine Ent.pick 13 rfl ?_ | refine Ent.pick 14 rfl ?_)))
    · refine FnSpec.enterP Try.func88 rfl Try.ntmps88 rfl fun w F => ?_
      repeat' first
        | ((with_reducible refine Nx.is_wp ?_); first | refine Nx.wo ?_ | refine Nx.p_dec rfl rfl (fun hc => ?_) (fun hc => ?_) | refine Nx.p_bool rfl rfl (fun hc => ?_) (fun hc => ?_))
        | ((first | refine Nx.at_op rfl rfl ?_ | refine Nx.m_loud rfl rfl rfl ?_ | refine Nx.at_do rfl rfl rfl rfl ?_ | refine Nx.m_loud_do rfl rfl rfl rfl rfl ?_); first | refine Nx.opr rfl rfl ?_ | refine Nx.len_strV rfl rfl rfl rfl ?_ | refine Nx.so ?_ | refine Nx.sb (fun bx => ?_) | refine Nx.sa (fun A2 c2 => ?_))
        | ((with_reducible refine Nx.is_at ?_); first | refine Nx.a ?_ | ((fail_if_success refine Nx.at_do rfl rfl rfl rfl ?_); first | refine Nx.at_dec_t rfl rfl rfl rfl (by first | assumption | omega) ?_ | refine Nx.at_dec_f rfl rfl rfl rfl (by first | assumption | omega) ?_ | refine Nx.at_split rfl rfl rfl rfl (fun hc => ?_) (fun hc => ?_) | refine Nx.at_splitb rfl rfl rfl rfl (fun hc => ?_) (fun hc => ?_)))
        | ((with_reducible refine Nx.is_mix ?_); first | refine Nx.m ?_ | ((fail_if_success refine Nx.m_quiet_do rfl rfl rfl rfl rfl rfl rfl ?_ ?_); (fail_if_success refine Nx.m_loud_do rfl rfl rfl rfl rfl ?_); first | refine Nx.m_dec_t rfl rfl rfl rfl (by first | assumption | omega) ?_ | refine Nx.m_dec_f rfl rfl rfl rfl (by first | assumption | omega) ?_ | refine Nx.m_split rfl rfl rfl rfl (fun hc => ?_) (fun hc => ?_) | refine Nx.m_splitb rfl rfl rfl rfl (fun hc => ?_) (fun hc => ?_)))
        | ((fail_if_success (with_reducible refine Nx.is_at ?_)); (fail_if_success (with_reducible refine Nx.is_wp ?_)); (fail_if_success (with_reducible refine Nx.is_mix ?_)); first | refine Nx.ex ?_)
      all_goals exact Nx.ret_fn rfl [] ⟨rfl, rfl⟩ (by (first | done | (repeat first | exact Ent.refl _ | exact Ent.nil _ | refine Ent.pick 0 rfl ?_ | refine Ent.pick 1 rfl ?_ | refine Ent.pick 2 rfl ?_ | refine Ent.pick 3 rfl ?_ | refine Ent.pick 4 rfl ?_ | refine Ent.pick 5 rfl ?_ | refine Ent.pick 6 rfl ?_ | refine Ent.pick 7 rfl ?_ | refine Ent.pick 8 rfl ?_ | refine Ent.pick 9 rfl ?_ | refine Ent.pick 10 rfl ?_ | refine Ent.pick 11 rfl ?_ | refine Ent.pick 12 rfl ?_ | refine Ent.pick 13 rfl ?_ | refine Ent.pick 14 rfl ?_)))
end Go.Proofs.Ytaoeapmdhpkidaa
/-
  The proof engine, part Y: more on strings and closures.
-/
namespace Go.Eng
theorem Blk.cell {b k : Nat} {t : TypeId} {cs : List Value} {v : Value} {m : PH} (h : Blk b t cs m) (hk : nthL cs k = some v) : cellH m ⟨b, k, none⟩ = some v := by
  rw [nthL_eq] at hk
  simp [cellH, show m b = _ from h]
  exact hk
end Go.Eng
