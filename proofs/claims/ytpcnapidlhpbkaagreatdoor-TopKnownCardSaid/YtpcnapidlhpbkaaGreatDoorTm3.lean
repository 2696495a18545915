/- Contracts of functions of the given program, and lemmas. -/
import Derived.Laws.Bits64
import Derived.Laws.Bits64b
import Derived.Laws.Externs
import Derived.Shelf.Spec.BitsCarry
import Derived.Lib.ItoaNum
import Derived.Lib.TrailingZeros
import Derived.Sort.Grow
import Derived.Lib.AppendIntMem
import Derived.Lib.ItoaLen
import Derived.Laws.Concat
import Derived.Laws.Strings
import Derived.Laws.StructEq
import Derived.Laws.Small
import Derived.MapKept
import Derived.Lib.AppendStr
import Derived.Laws.IdiomStrings
import Derived.Laws.Strings2
import Derived.Laws.Cover1
import Derived.Scope
import Derived.Recover
import Derived.WalkSmall
import Derived.Test.YtpcnapidlhpbkaaGreatDoorTm2
set_option maxHeartbeats 32000000
set_option maxRecDepth 10000
namespace Go.Eng
def wpAnyF (P : Program) (md : Region.Mode) (ops : Array Oper) (Q : Exit → Act → World → Prop) (S : World → Prop) (fin : List Nat) : Nat → Array Bool → Act → World → Prop
 | 0,listed,a,w => Region.ready md ops listed = [] ∧ Q .normal a w
 | n + 1,listed,a,w => (Region.ready md ops listed = [] → Q .normal a w) ∧
  ∀ i ∈ Region.ready md ops listed,wpOp P ops Q i (fun a' w' => (fin.contains i = false → S w') ∧ wpAnyF P md ops Q S fin n (listed.setIfInBounds i true) a' w') a w
section
variable {P : Program} {ops : Array Oper} {Q : Exit → Act → World → Prop} {md : Region.Mode} {S : World → Prop} {fin : List Nat}
theorem wpAny_of_fin : ∀ (n : Nat) (listed : Array Bool) (a : Act) (w : World),wpAnyF P md ops Q S fin n listed a w → wpAny P md ops Q n listed a w
 | 0,_,_,_,h => h
 | n + 1,_,_,_,h => ⟨h.1,fun i hi => wpOp_mono (fun a' w' h' => wpAny_of_fin n _ a' w' h'.2) (h.2 i hi)⟩
theorem ready_waits {i j : Nat} {oj : Oper} {listed : Array Bool} (hi : i ∈ Region.ready md ops listed) (hj : j ∈ Region.ready md ops listed) (ho : ops[j]? = some oj) : ∀ e ∈ oj.after,Region.binds md e = true → e.on ≠ i:=by
 intro e he hb heq
 obtain ⟨_,o,ho',hall⟩:=mem_ready.1 hj
 obtain ⟨h0,_,_,_⟩:=mem_ready.1 hi
 rw [ho] at ho'
 obtain rfl : oj = o:=by simpa using ho'
 have h1:=hall e he hb
 subst heq
 rcases Nat.lt_or_ge e.on listed.size with h' | h'
 ·simp [h'] at h0 h1
  rw [h0] at h1; cases h1
 ·simp [Array.getElem?_eq_none h'] at h1
def Closed (md : Region.Mode) (ops : Array Oper) (listed : Array Bool) : Prop:=∀ k o,ops[k]? = some o → listed.getD k false = true → ∀ e ∈ o.after,Region.binds md e = true → listed.getD e.on false = true
theorem Closed.start (n : Nat) : Closed md ops (Array.replicate n false):=fun k o _ h => by
 exfalso
 by_cases hk : k < n <;> simp [hk] at h
theorem Closed.set {i : Nat} {listed : Array Bool} (h : Closed md ops listed) (hi : i ∈ Region.ready md ops listed) : Closed md ops (listed.setIfInBounds i true):=fun k o ho hk e he hb => by
 by_cases hik : i = k
 ·subst hik
  obtain ⟨_,o',ho',hall⟩:=mem_ready.1 hi
  rw [ho] at ho'
  obtain rfl : o = o':=by simpa using ho'
  exact getD_set_true (hall e he hb)
 ·rw [getD_set_ne false hik] at hk
  exact getD_set_true (h k o ho hk e he hb)
def waitsOn (md : Region.Mode) (ops : Array Oper) : Nat → Nat → Nat → Bool
 | 0,_,_ => false
 | n + 1,j,i => match ops[j]? with
  | some o => o.after.any fun e => Region.binds md e && (Nat.beq e.on i || waitsOn md ops n e.on i)
  | none => false
theorem waitsOn_listed {i : Nat} {listed : Array Bool} (hc : Closed md ops listed) : ∀ (n j : Nat),waitsOn md ops n j i = true → (∀ o,ops[j]? = some o → ∀ e ∈ o.after,Region.binds md e = true → listed.getD e.on false = true) → listed.getD i false = true
 | 0,j,h,_ => by simp [waitsOn] at h
 | n + 1,j,h,hj => by
  unfold waitsOn at h
  split at h
  ·rename_i o ho
   obtain ⟨e,he,hb⟩:=Array.any_eq_true'.1 h
   simp only [Bool.and_eq_true,Bool.or_eq_true] at hb
   have h1:=hj o ho e he hb.1
   rcases hb.2 with h2 | h2
   ·rw [← Nat.eq_of_beq_eq_true h2]; exact h1
   ·exact waitsOn_listed hc n e.on h2 fun o' ho' => hc e.on o' ho' h1
  ·cases h
def finWaits (md : Region.Mode) (ops : Array Oper) (fin : List Nat) (i : Nat) : Bool:=fin.all fun j => waitsOn md ops 2 j i || waitsOn md ops 4 j i || waitsOn md ops 9 j i
theorem finWaits_not {i j : Nat} {listed : Array Bool} (hc : Closed md ops listed) (h : finWaits md ops fin i = true) (hi : i ∈ Region.ready md ops listed) (hj : j ∈ Region.ready md ops listed) : fin.contains j = false:=by
 cases hf : fin.contains j with
 | false => rfl
 | true =>
  exfalso
  have h1:=List.all_eq_true.1 h j (by simpa using hf)
  obtain ⟨_,oj,hoj,hall⟩:=mem_ready.1 hj
  have hj' : ∀ o,ops[j]? = some o → ∀ e ∈ o.after,Region.binds md e = true → listed.getD e.on false = true:=fun o ho => by
   rw [hoj] at ho
   obtain rfl : oj = o:=by simpa using ho
   exact hall
  have h2 : listed.getD i false = true:=by
   simp only [Bool.or_eq_true] at h1
   rcases h1 with (h1 | h1) | h1 <;> exact waitsOn_listed hc _ j h1 hj'
  have h0:=(mem_ready.1 hi).1
  rcases Nat.lt_or_ge i listed.size with h' | h'
  ·simp [h'] at h0 h2
   rw [h0] at h2; cases h2
  ·simp [Array.getElem?_eq_none h'] at h2
theorem wpAnyF_first {i : Nat} {oi : Oper} {v : Value} (hi : ops[i]? = some oi) (hs : Region.noSelect ops = true) (hQ : PanicOk Q) (hfin : finWaits md ops fin i = true) :
  ∀ (n : Nat) (listed : Array Bool) (a : Act) (w : World),Closed md ops listed →
   (∀ j oj,ops[j]? = some oj → j ≠ i → listed.getD j true = false → (∀ e ∈ oj.after,Region.binds md e = true → e.on ≠ i) → oi.apart ops oj = true) →
   i ∈ Region.ready md ops listed → YieldsIf P ops S oi v a → S w →
   wpAnyF P md ops Q S fin n (listed.setIfInBounds i true) (a.put oi.dst v) w → wpAnyF P md ops Q S fin (n + 1) listed a w
 | n,listed,a,w,hcl,hap,hr,hy,hS,H => by
  refine ⟨fun h0 => (by rw [h0] at hr; cases hr),fun j hj => ?_⟩
  by_cases hji : j = i
  ·subst hji; exact hy.wpOp hi hS ⟨fun _ => hS,H⟩
  ·have hj2:=ready_mono hj hji
   obtain ⟨hjun,oj,hoj,_⟩:=mem_ready.1 hj
   have hno:=ready_waits hr hj hoj
   have hnf:=finWaits_not hcl hfin hr hj
   match n,H with
   | 0,H => rw [H.1] at hj2; cases hj2
   | n + 1,H =>
    have h1:=H.2 j hj2
    have h2:=wpOp_putIf hoj (hap j oj hoj hji hjun hno) (fun cs b => Region.noSelect_spec hs i oi cs b hi) (fun cs b => Region.noSelect_spec hs j oj cs b hoj) (fun c a w => hQ c oi.dst v a w) hy h1
    refine wpOp_mono (fun a' w' h3 => ?_) h2
    obtain ⟨hy',hS',H'⟩:=h3
    refine ⟨fun _ => hS' hnf,wpAnyF_first hi hs hQ hfin n (listed.setIfInBounds j true) a' w' (hcl.set hj) (fun k ok hk hki hun hnk => ?_) (ready_mono hr (Ne.symm hji)) hy' (hS' hnf) ?_⟩
    ·refine hap k ok hk hki ?_ hnk
     by_cases hjk : j = k
     ·subst hjk; exact hjun
     ·rwa [getD_set_ne true hjk] at hun
    ·rw [Array.setIfInBounds_comm _ _ hji]
     exact H'
theorem wpOp_then {T : Act → World → Prop} {i : Nat} {a : Act} {w : World} {K : Act → World → Prop} (hh : wpOp P ops (Exit.then T Q) i K a w) : wpOp P ops Q i K a w:=by
 unfold wpOp at *
 split
 ·simpa [*] using hh
 ·rename_i o ho
  simp only [ho] at hh
  split
  ·rename_i hw
   simp only [hw,if_true] at hh
   rcases hh with hh | hh
   ·refine .inl ?_
    unfold Oper.wp at *
    generalize (execOp a.eval o).run P w = r at *
    cases r with
    | ok n w' =>
     cases n <;> simp only [Oper.upon] at hh ⊢ <;>
      first
       | exact hh
       | exact Calls.mono hh (fun e w'' he => by cases e <;> exact he)
       | exact Rows.mono hh (fun _ _ he => he)
    | halt x w' => cases x <;> simp only [Oper.upon] at hh ⊢ <;> exact hh
   ·exact .inr hh
  ·rename_i hw
   simpa [hw] using hh
def mixOkF (ops : Array Oper) (fin loud : List Nat) : List Nat → Array Bool → Bool
 | [],listed => mixOk ops fin fin listed
 | k :: r,listed => (if loud.contains k then Region.ready .any ops listed == [k] && !(fin.contains k) else Region.free .any ops listed k && (Region.ready .any ops listed).contains k && finWaits .any ops fin k) && mixOkF ops fin loud r (listed.setIfInBounds k true)
theorem wpMix_fin (hs : Region.noSelect ops = true) (hQ : PanicOk Q) (hall : ∀ k ∈ fin,fin.contains k = true) : ∀ (r : List Nat) (n : Nat) (listed : Array Bool) (a : Act) (w : World),(∀ k ∈ r,fin.contains k = true) →
  mixOk ops fin r listed = true → r.length ≤ n → wpMix P ops Q AnyW fin r a w → wpAnyF P .any ops Q S fin n listed a w
 | [],n,listed,a,w,_,hok,_,h => by
  have hr : Region.ready .any ops listed = []:=by simpa [mixOk] using hok
  cases n with
  | zero => exact ⟨hr,h⟩
  | succ n => exact ⟨fun _ => h,by rw [hr]; simp⟩
 | k :: r,0,listed,a,w,_,_,hl,_ => by simp at hl
 | k :: r,n + 1,listed,a,w,hk,hok,hl,h => by
  obtain ⟨o,ho,h⟩:=h
  have hkf:=hk k (by simp)
  unfold mixOk at hok
  rw [if_pos hkf] at h hok
  simp only [Bool.and_eq_true,beq_iff_eq] at hok
  refine ⟨fun h0 => (by rw [hok.1] at h0; cases h0),fun i hi => ?_⟩
  rw [hok.1] at hi
  obtain rfl : i = k:=by simpa using hi
  refine wpOp_mono (fun a' w' h3 => ⟨fun hf => ?_,wpMix_fin hs hQ hall r n _ a' w' (fun j hj => hk j (by simp [hj])) hok.2 (by simpa using hl) h3.2⟩) h
  rw [hkf] at hf; cases hf
theorem wpMix_anyF (hs : Region.noSelect ops = true) (hQ : PanicOk Q) {loud : List Nat} : ∀ (ord : List Nat) (n : Nat) (listed : Array Bool) (a : Act) (w : World),Closed .any ops listed →
  mixOkF ops fin loud ord listed = true → ord.length + fin.length ≤ n → S w → wpMix P ops (Exit.then (wpMix P ops Q AnyW fin fin) Q) S loud ord a w → wpAnyF P .any ops Q S fin n listed a w
 | [],n,listed,a,w,_,hok,hl,_,h => wpMix_fin hs hQ (fun k hk => by simpa using hk) fin n listed a w (fun k hk => by simpa using hk) hok (by simpa using hl) h
 | k :: r,0,listed,a,w,_,_,hl,_,_ => by simp at hl
 | k :: r,n + 1,listed,a,w,hcl,hok,hl,hS,h => by
  obtain ⟨o,ho,h⟩:=h
  unfold mixOkF at hok
  rw [Bool.and_eq_true] at hok
  obtain ⟨hk,hr⟩:=hok
  have hl' : r.length + fin.length ≤ n:=by simp only [List.length_cons] at hl; omega
  by_cases hc : loud.contains k = true
  ·rw [if_pos hc] at h hk
   simp only [Bool.and_eq_true,beq_iff_eq,Bool.not_eq_true'] at hk
   refine ⟨fun h0 => (by rw [hk.1] at h0; cases h0),fun i hi => ?_⟩
   rw [hk.1] at hi
   obtain rfl : i = k:=by simpa using hi
   refine wpOp_then (T:=wpMix P ops Q AnyW fin fin) ?_
   exact wpOp_mono (fun a' w' h3 => ⟨fun _ => h3.1,wpMix_anyF hs hQ r n _ a' w' (hcl.set (by rw [hk.1]; simp)) hr hl' h3.1 h3.2⟩) h
  ·rw [if_neg hc] at h hk
   simp only [Bool.and_eq_true] at hk
   obtain ⟨v,hy,h⟩:=h
   exact wpAnyF_first ho hs hQ hk.2 n listed a w hcl (Region.free_spec ho hk.1.1) (by simpa using hk.1.2) hy hS (wpMix_anyF hs hQ r n _ _ w (hcl.set (by simpa using hk.1.2)) hr hl' hS h)
end
section
variable {C : Cx} {e e' : Env} {I : PH} {R R' R0 : List Res} {K K' : Act → World → Prop} {Q : Exit → Act → World → Prop} {W : World} {c : Code} {ops : Array Oper}
theorem Nx.p_drawF {id : Nat} (hid : cid c = id) (ord loud fin : List Nat) (R0 : List Res) (hk : ck c = 2) (hm : C.P.follows .mixedOrders = true) (hs : Region.noSelect (cops c) = true) (hok : mixOkF (cops c) fin loud ord (Array.replicate (cops c).size false) = true) (hlen : Nat.ble (ord.length + fin.length) (cops c).size = true) (hQ : PanicOk Q) (hR : Ent R R0)
  (h : Nx C e I R (wpMix C.P (cops c) (Exit.then (wpMix C.P (cops c) Q AnyW fin fin) Q) (St C.W I R0) loud ord)) : Nx C e I R (c.wp C.P Q):=by
 have hc : c = .region (cid c) (cops c) true:=by
  cases c <;> first | (simp [ck] at hk; done) | skip
  rename_i b
  cases b with
  | false => simp [ck] at hk
  | true => rfl
 clear hid
 rw [hc]
 intro a w ha hw
 refine wp_region_any hm (wpAny_of_fin _ _ _ _ (wpMix_anyF (S:=St C.W I R0) hs hQ ord _ _ a _ (Closed.start _) hok (Nat.le_of_ble_eq_true hlen) (hw.drew.ent hR) (h a _ ha hw.drew)))
theorem Ent.eraseK : ∀ (k : Nat) (R : List Res),Ent R (R.eraseIdx k)
 | _,[] => Ent.refl _
 | 0,_ :: _ => Ent.drop (Ent.refl _)
 | k + 1,_ :: R => Ent.cons (Ent.eraseK k R)
def resOne (tmps : Array Value) : ResultVar → Sem Value
 | .tmp t => pure (tmps.getD t undef)
 | .cell x t => do loadVar t (← asAddr (tmps.getD x undef))
theorem results_eq (fn : Func) (tmps : Array Value) : results fn tmps = (do
 let vs ← fn.results.mapM (resOne tmps)
 pure (if h : vs.size = 1 then vs[0] else .tuple vs)):=by
 unfold results
 congr 1
def ROne (C : Cx) (e : Env) (I : PH) (R : List Res) (r : ResultVar) (v : Value) : Prop:=∀ a w,Mod C.n e a → St C.W I R w → (resOne a.tmps r).run C.P w = .ok v w
variable {v v1 v2 v3 : Value}
theorem ROne.tmp {t : Nat} (h : lk e t = some v) : ROne C e I R (.tmp t) v:=fun a w ha _ => by simp [resOne,ha.get t v h]
theorem ROne.cell (k : Nat) {nc t0 b : Nat} {ty tb : TypeId} {cs : List Value} (hx : lk e t0 = some (.pointer (some ⟨b,0,none⟩))) (ht : aggT C.P ty = true) (hn : cellsIn C.P ty = some nc) (hl : cs.length = nc) (hk : nthL R k = some (Blk b tb cs)) : ROne C e I R (.cell t0 ty) (.agg cs.toArray):=fun a w ha hw => by
 have hload:=run_loadVar_agg (A:=⟨b,0,none⟩) ht hn hl (fun j u hj => (Rds.at_ k hk : Rds C.W I R ⟨b,0,none⟩ cs) j u hj w hw)
 simp [resOne,ha.get t0 _ hx,asAddr,hload]
theorem Nx.ret2 {fn : Func} {F : Res} {Post : Value → List Res → Prop} {r1 r2 : ResultVar} (hres : fn.results.toList = [r1,r2]) (h1 : ROne C e I R r1 v1) (h2 : ROne C e I R r2 v2) (R' : List Res) (hp : Post (.tuple #[v1,v2]) R') (hR : Ent R (R' ++ [F])) : Nx C e I R (fnPost C.P fn I F C.W Post .ret) :=
 fun a w ha hw => ⟨ha.defers,_,by
  have hr : fn.results = #[r1,r2]:=by
   have : fn.results = [r1,r2].toArray:=by rw [← hres]
   simpa using this
  have e1:=h1 a w ha hw
  have e2:=h2 a w ha hw
  rw [results_eq,hr]
  simp [e1,e2],_,R',rfl,hp,hw.ent hR⟩
theorem Nx.ret3 {fn : Func} {F : Res} {Post : Value → List Res → Prop} {r1 r2 r3 : ResultVar} (hres : fn.results.toList = [r1,r2,r3]) (h1 : ROne C e I R r1 v1) (h2 : ROne C e I R r2 v2) (h3 : ROne C e I R r3 v3) (R' : List Res) (hp : Post (.tuple #[v1,v2,v3]) R') (hR : Ent R (R' ++ [F])) : Nx C e I R (fnPost C.P fn I F C.W Post .ret) :=
 fun a w ha hw => ⟨ha.defers,_,by
  have hr : fn.results = #[r1,r2,r3]:=by
   have : fn.results = [r1,r2,r3].toArray:=by rw [← hres]
   simpa using this
  have e1:=h1 a w ha hw
  have e2:=h2 a w ha hw
  have e3:=h3 a w ha hw
  rw [results_eq,hr]
  simp [e1,e2,e3],_,R',rfl,hp,hw.ent hR⟩
end
end Go.Eng
namespace Go.Eng
section
variable {C : Cx} {e : Env} {I : PH} {R : List Res} {K : Act → World → Prop} {Q : Exit → Act → World → Prop}
theorem kF {c : Code} (id : Nat) (ord loud fin : List Nat) (h : Nx C e I R (wpMix C.P (cops c) (Exit.then (wpMix C.P (cops c) Q AnyW fin fin) Q) (St C.W I R) loud ord)) (hid : cid c = id:=by exact rfl) (hk : ck c = 2:=by exact rfl) (hm : C.P.follows .mixedOrders = true:=by exact rfl) (hs : Region.noSelect (cops c) = true:=by kernel_rfl) (hok : mixOkF (cops c) fin loud ord (Array.replicate (cops c).size false) = true:=by kernel_rfl) (hlen : Nat.ble (ord.length + fin.length) (cops c).size = true:=by exact rfl) (hQ : PanicOk Q:=by exact PanicOk.auto) : Nx C e I R (c.wp C.P Q):=Nx.p_drawF hid ord loud fin R hk hm hs hok hlen hQ (Ent.refl _) h
end
end Go.Eng

namespace Go.Eng
section
variable {P : Program} {ops : Array Oper} {Q : Exit → Act → World → Prop} {md : Region.Mode} {S : World → Prop} {fin fq : List Nat}
theorem wpAnyF_firstA {i : Nat} {oi : Oper} {v : Value} (hi : ops[i]? = some oi) (hs : Region.noSelect ops = true) (hQ : PanicOk Q) (hif : fin.contains i = true) :
  ∀ (n : Nat) (listed : Array Bool) (a : Act) (w : World),
   (∀ j oj,ops[j]? = some oj → j ≠ i → listed.getD j true = false → (∀ e ∈ oj.after,Region.binds md e = true → e.on ≠ i) → oi.apart ops oj = true) →
   i ∈ Region.ready md ops listed → YieldsIf P ops AnyW oi v a →
   wpAnyF P md ops Q S fin n (listed.setIfInBounds i true) (a.put oi.dst v) w → wpAnyF P md ops Q S fin (n + 1) listed a w
 | n,listed,a,w,hap,hr,hy,H => by
  refine ⟨fun h0 => (by rw [h0] at hr; cases hr),fun j hj => ?_⟩
  by_cases hji : j = i
  ·subst hji; exact hy.wpOp hi trivial ⟨fun hf => (by rw [hif] at hf; cases hf),H⟩
  ·have hj2:=ready_mono hj hji
   obtain ⟨hjun,oj,hoj,_⟩:=mem_ready.1 hj
   have hno:=ready_waits hr hj hoj
   match n,H with
   | 0,H => rw [H.1] at hj2; cases hj2
   | n + 1,H =>
    have h1:=H.2 j hj2
    have h2:=wpOp_putIf hoj (hap j oj hoj hji hjun hno) (fun cs b => Region.noSelect_spec hs i oi cs b hi) (fun cs b => Region.noSelect_spec hs j oj cs b hoj) (fun c a w => hQ c oi.dst v a w) hy h1
    refine wpOp_mono (fun a' w' h3 => ?_) h2
    obtain ⟨hy',hS',H'⟩:=h3
    refine ⟨hS',wpAnyF_firstA hi hs hQ hif n (listed.setIfInBounds j true) a' w' (fun k ok hk hki hun hnk => ?_) (ready_mono hr (Ne.symm hji)) hy' ?_⟩
    ·refine hap k ok hk hki ?_ hnk
     by_cases hjk : j = k
     ·subst hjk; exact hjun
     ·rwa [getD_set_ne true hjk] at hun
    ·rw [Array.setIfInBounds_comm _ _ hji]
     exact H'
theorem wpMix_finQ (hs : Region.noSelect ops = true) (hQ : PanicOk Q) (hall : ∀ k ∈ fin,fin.contains k = true) : ∀ (r : List Nat) (n : Nat) (listed : Array Bool) (a : Act) (w : World),(∀ k ∈ r,fin.contains k = true) →
  mixOk ops fq r listed = true → r.length ≤ n → wpMix P ops Q AnyW fq r a w → wpAnyF P .any ops Q S fin n listed a w
 | [],n,listed,a,w,_,hok,_,h => by
  have hr : Region.ready .any ops listed = []:=by simpa [mixOk] using hok
  cases n with
  | zero => exact ⟨hr,h⟩
  | succ n => exact ⟨fun _ => h,by rw [hr]; simp⟩
 | k :: r,0,listed,a,w,_,_,hl,_ => by simp at hl
 | k :: r,n + 1,listed,a,w,hk,hok,hl,h => by
  obtain ⟨o,ho,h⟩:=h
  have hkf:=hk k (by simp)
  unfold mixOk at hok
  by_cases hc : fq.contains k = true
  ·rw [if_pos hc] at h hok
   simp only [Bool.and_eq_true,beq_iff_eq] at hok
   refine ⟨fun h0 => (by rw [hok.1] at h0; cases h0),fun i hi => ?_⟩
   rw [hok.1] at hi
   obtain rfl : i = k:=by simpa using hi
   refine wpOp_mono (fun a' w' h3 => ⟨fun hf => ?_,wpMix_finQ hs hQ hall r n _ a' w' (fun j hj => hk j (by simp [hj])) hok.2 (by simpa using hl) h3.2⟩) h
   rw [hkf] at hf; cases hf
  ·rw [if_neg hc] at h hok
   simp only [Bool.and_eq_true] at hok
   obtain ⟨v,hy,h⟩:=h
   exact wpAnyF_firstA ho hs hQ hkf n listed a w (Region.free_spec ho hok.1.1) (by simpa using hok.1.2) hy (wpMix_finQ hs hQ hall r n _ _ w (fun j hj => hk j (by simp [hj])) hok.2 (by simpa using hl) h)
end
def GoodF (C : Cx) (ops : Array Oper) (Q : Exit → Act → World → Prop) (S : World → Prop) (I : PH) (pool : List PoolOp) (loud mv fin fq : List Nat) : List Nat → Env → List Res → Prop
 | [],e,R => keysFree pool e = true ∧ ∀ bs : List Nat,bs.length = pool.length → Nx C (e ++ pe pool (bs.map some)) I (Stars (pr pool (bs.map some)) :: R) (wpMix C.P ops Q AnyW fq fin)
 | k :: ch,e,R => keysFree pool e = true ∧ match loud.contains k with
  | true => ∀ (ex : Env) (X : Res),Nx C (e ++ ex) I (X :: R) (wpOp C.P ops Q k (fun a w => S w ∧ ∃ e' R',Mod C.n (e' ++ ex) a ∧ St C.W I (X :: R') w ∧ GoodF C ops Q S I pool loud mv fin fq ch e' R'))
  | false => ∃ o v e',ops[k]? = some o ∧ (∀ a ex,Mod C.n (e ++ ex) a → YieldsIf C.P ops (if mv.contains k then AnyW else S) o v a ∧ Mod C.n (e' ++ ex) (a.put o.dst v)) ∧ GoodF C ops Q S I pool loud mv fin fq ch e' R
theorem GoodF.free {C : Cx} {ops : Array Oper} {Q : Exit → Act → World → Prop} {S : World → Prop} {I : PH} {pool : List PoolOp} {loud mv fin fq ch : List Nat} {e : Env} {R : List Res} (h : GoodF C ops Q S I pool loud mv fin fq ch e R) : keysFree pool e = true:=by
 cases ch <;> exact h.1
def PoolSF (C : Cx) (ops : Array Oper) (Q : Exit → Act → World → Prop) (S : World → Prop) (I : PH) (pool : List PoolOp) (loud mv fin fq ch : List Nat) (ex : Env) (X : Res) : Act → World → Prop :=
 fun a w => S w ∧ ∃ e' R',Mod C.n (e' ++ ex) a ∧ St C.W I (X :: R') w ∧ GoodF C ops Q S I pool loud mv fin fq ch e' R'
def poolOkF (ops : Array Oper) (loud mv fin fq : List Nat) (pool : List PoolOp) : Nat → List Nat → List Bool → Array Bool → Bool
 | fuel,[],fl,listed =>
  if fl.all id then mixOk ops fq fin listed && Nat.ble fin.length fuel
  else match fuel with
   | 0 => false
   | f + 1 => !(Region.ready .any ops listed).isEmpty && (Region.ready .any ops listed).all fun i => match findP pool fl i 0 with
    | some j => poolOkF ops loud mv fin fq pool f [] (fl.set j true) (listed.setIfInBounds i true)
    | none => false
 | 0,_ :: _,_,_ => false
 | f + 1,k :: ch,fl,listed => match loud.contains k with
  | true => !(Region.ready .any ops listed).isEmpty && (Region.ready .any ops listed).all fun i =>
   if Nat.beq i k then poolOkF ops loud mv fin fq pool f ch fl (listed.setIfInBounds i true)
   else match findP pool fl i 0 with
    | some j => poolOkF ops loud mv fin fq pool f (k :: ch) (fl.set j true) (listed.setIfInBounds i true)
    | none => false
  | false => Region.free .any ops listed k && (Region.ready .any ops listed).contains k && (mv.contains k || finWaits .any ops (mv ++ fin) k) && poolOkF ops loud mv fin fq pool f ch fl (listed.setIfInBounds k true)
section
variable {C : Cx} {e e' : Env} {I : PH} {R R' R0 : List Res} {K K' : Act → World → Prop} {Q : Exit → Act → World → Prop} {W : World}
variable {ops : Array Oper} {S : World → Prop} {loud mv fin fq ch : List Nat} {pool : List PoolOp} {c : Code} {o : Oper}
theorem pool_anyF (hs : Region.noSelect ops = true) (hQ : PanicOk Q) (hd : (pool.map (·.d)).Pairwise (· ≠ ·)) (hfit : ∀ p ∈ pool,PoolFit C ops p) (hS : ∀ w o,S w → S (w.alloc o)) :
  ∀ (fuel : Nat) (ch : List Nat) (bs : List (Option Nat)) (listed : Array Bool) (e : Env) (R : List Res) (a : Act) (w : World),Closed .any ops listed → poolOkF ops loud mv fin fq pool fuel ch (bs.map Option.isSome) listed = true → bs.length = pool.length →
   Mod C.n (e ++ pe pool bs) a → St C.W I (Stars (pr pool bs) :: R) w → S w → GoodF C ops Q S I pool loud mv fin fq ch e R → wpAnyF C.P .any ops Q S (mv ++ fin) fuel listed a w:=by
 have hfull : ∀ (fuel : Nat) (bs : List (Option Nat)) (listed : Array Bool) (e : Env) (R : List Res) (a : Act) (w : World),(bs.map Option.isSome).all id = true → (mixOk ops fq fin listed && Nat.ble fin.length fuel) = true → bs.length = pool.length →
   Mod C.n (e ++ pe pool bs) a → St C.W I (Stars (pr pool bs) :: R) w → GoodF C ops Q S I pool loud mv fin fq [] e R → wpAnyF C.P .any ops Q S (mv ++ fin) fuel listed a w:=by
  intro fuel bs listed e R a w hall hok hbl ha hw hg
  obtain ⟨l,rfl⟩:=map_isSome hall
  rw [Bool.and_eq_true] at hok
  exact wpMix_finQ hs hQ (fun k hk => by simpa using hk) fin fuel listed a w (fun k hk => by simp [hk]) hok.1 (Nat.le_of_ble_eq_true hok.2) (hg.2 l (by simpa using hbl) a w ha hw)
 intro fuel
 induction fuel with
 | zero =>
  intro ch bs listed e R a w hcl hok hbl ha hw hSw hg
  cases ch with
  | cons k ch => simp [poolOkF] at hok
  | nil =>
   unfold poolOkF at hok
   split at hok
   ·rename_i hall
    exact hfull 0 bs listed e R a w hall hok hbl ha hw hg
   ·cases hok
 | succ f ih =>
  intro ch bs listed e R a w hcl hok hbl ha hw hSw hg
  have poolStep : ∀ i j,i ∈ Region.ready .any ops listed → findP pool (bs.map Option.isSome) i 0 = some j → poolOkF ops loud mv fin fq pool f ch ((bs.map Option.isSome).set j true) (listed.setIfInBounds i true) = true →
    wpOp C.P ops Q i (fun a' w' => ((mv ++ fin).contains i = false → S w') ∧ wpAnyF C.P .any ops Q S (mv ++ fin) f (listed.setIfInBounds i true) a' w') a w:=by
   intro i j hir hfj hokj
   obtain ⟨m,p,hm,hpm,hfm,hpk⟩:=findP_ok hfj
   obtain rfl : j = m:=by omega
   subst hpk
   have hbj : bs[j]? = some none:=by
    rw [gMp] at hfm
    cases hbj : bs[j]? with
    | none => rw [hbj] at hfm; cases hfm
    | some o => cases o with
     | none => rfl
     | some b => rw [hbj] at hfm; cases hfm
   obtain ⟨⟨ty,pos,after,hop⟩,hz,hlt⟩:=hfit p (List.mem_of_getElem? hpm)
   unfold wpOp
   simp only [hop]
   rw [if_pos (by simp [Region.wanted])]
   refine .inl ?_
   obtain ⟨z,hzc,hrun⟩:=zeroOf_run hz w
   have hrun' : (execOp a.eval ⟨some p.d,.alloc p.t,ty,pos,after,none⟩).run C.P w = .ok (.value (.pointer (some ⟨w.heap.size,0,none⟩))) (w.alloc (.cells p.cs.toArray p.t)):=by
    refine run_v ?_
    unfold Instr.alloc
    rw [Sem.run_bind,hrun,Result.andThen_ok]
    simp only [newVar,hzc]
    rfl
   unfold Oper.wp
   rw [hrun']
   refine ⟨fun _ => hS w _ hSw,?_⟩
   refine ih ch (bs.set j (some w.heap.size)) (listed.setIfInBounds p.k true) e R _ _ (hcl.set hir) ?_ (by rw [List.length_set]; exact hbl) (ha.poolPut hg.free hd hpm hbj hlt) ?_ (hS w _ hSw) hg
   ·rw [List.map_set]; exact hokj
   ·refine (hw.alloc (.cells p.cs.toArray p.t)).ent ?_
    refine (Ent.bundle (B:=pr pool bs) (r:=Blk w.heap.size p.t p.cs)).trans ?_
    refine Ent.head fun m hm => ?_
    obtain ⟨m1,m2,hd',rfl,h1,h2⟩:=Stars.append hm
    obtain ⟨n1,n2,hd2,rfl,h3,_⟩:=h2
    obtain ⟨m',hle,h'⟩:=pr_set (b:=w.heap.size) hpm hbj (n1.or m1) ⟨n1,m1,(PH.dis_or.1 hd').1.symm,rfl,h3,h1⟩
    exact Stars.up h' (hle.trans (PH.or_le ((PH.le_or_left n1 n2).trans (PH.le_or_right hd')) (PH.le_or_left _ _)))
  cases ch with
  | nil =>
   unfold poolOkF at hok
   split at hok
   ·rename_i hall
    exact hfull (f + 1) bs listed e R a w hall hok hbl ha hw hg
   ·simp only [Bool.and_eq_true,Bool.not_eq_true',List.all_eq_true] at hok
    refine ⟨fun h0 => (by rw [h0] at hok; simp at hok),fun i hi => ?_⟩
    have:=hok.2 i hi
    split at this
    ·rename_i j hj; exact poolStep i j hi hj this
    ·cases this
  | cons k ch =>
   unfold poolOkF at hok
   cases hl : loud.contains k with
   | true =>
    rw [hl] at hok
    simp only [Bool.and_eq_true,Bool.not_eq_true',List.all_eq_true] at hok
    have hg2:=hg.2
    rw [hl] at hg2
    refine ⟨fun h0 => (by rw [h0] at hok; simp at hok),fun i hi => ?_⟩
    have:=hok.2 i hi
    split at this
    ·rename_i hik
     obtain rfl:=Nat.eq_of_beq_eq_true hik
     refine wpOp_mono (fun a' w' => ?_) (hg2 (pe pool bs) (Stars (pr pool bs)) a w ha hw)
     rintro ⟨hS',e',R',ha',hw',hg'⟩
     exact ⟨fun _ => hS',ih ch bs _ e' R' a' w' (hcl.set hi) this hbl ha' hw' hS' hg'⟩
    ·split at this
     ·rename_i j hj; exact poolStep i j hi hj this
     ·cases this
   | false =>
    rw [hl] at hok
    simp only [Bool.and_eq_true] at hok
    have hg2:=hg.2
    rw [hl] at hg2
    obtain ⟨o,v,e',ho,hy,hg'⟩:=hg2
    obtain ⟨hy1,hy2⟩:=hy a _ ha
    cases hmv : mv.contains k with
    | true =>
     rw [hmv] at hy1
     exact wpAnyF_firstA ho hs hQ (by simp at hmv ⊢; exact .inl hmv) f listed a w (Region.free_spec ho hok.1.1.1) (by simpa using hok.1.1.2) hy1 (ih ch bs _ e' R _ w (hcl.set (by simpa using hok.1.1.2)) hok.2 hbl hy2 hw hSw hg')
    | false =>
     rw [hmv] at hy1 hok
     exact wpAnyF_first ho hs hQ (by simpa using hok.1.2) f listed a w hcl (Region.free_spec ho hok.1.1.1) (by simpa using hok.1.1.2) hy1 hSw (ih ch bs _ e' R _ w (hcl.set (by simpa using hok.1.1.2)) hok.2 hbl hy2 hw hSw hg')
theorem Nx.p_poolF {id : Nat} (hid : cid c = id) (ch loud mv fin fq : List Nat) (pool : List PoolOp) (hk : ck c = 2) (hm : C.P.follows .mixedOrders = true) (hs : Region.noSelect (cops c) = true)
  (hok : poolOkF (cops c) loud mv fin fq pool (cops c).size ch (pool.map fun _ => false) (Array.replicate (cops c).size false) = true)
  (hd : (pool.map (·.d)).Pairwise (· ≠ ·)) (hfit : ∀ p ∈ pool,PoolFit C (cops c) p) (hQ : PanicOk Q) (hR : Ent R R0)
  (h : GoodF C (cops c) Q (St C.W I R0) I pool loud mv fin fq ch e R) : Nx C e I R (c.wp C.P Q):=by
 have hc : c = .region (cid c) (cops c) true:=by
  cases c <;> first | (simp [ck] at hk; done) | skip
  rename_i b
  cases b with
  | false => simp [ck] at hk
  | true => rfl
 clear hid
 rw [hc]
 have hS : ∀ w o,St C.W I R0 w → St C.W I R0 (w.alloc o):=fun w o h => (h.alloc o).ent (Ent.drop (Ent.refl _))
 intro a w ha hw
 obtain ⟨h1,h2,h3⟩:=pe_nones pool
 refine wp_region_any hm (wpAny_of_fin (S:=St C.W I R0) (fin:=mv ++ fin) _ _ _ _ ?_)
 refine pool_anyF hs hQ hd hfit hS _ ch (pool.map fun _ => none) _ e R a _ (Closed.start _) (by rw [h3]; exact hok) (by simp) (by rw [h1,List.append_nil]; exact ha) (hw.drew.ent ?_) (hw.drew.ent hR) h
 rw [h2]
 exact Ent.stars_nil _
theorem GoodF.is (h : GoodF C ops Q S I pool loud mv fin fq ch e R) : GoodF C ops Q S I pool loud mv fin fq ch e R:=h
theorem GoodF.loud_ {k : Nat} (hf : keysFree pool e = true) (hl : loud.contains k = true) (ho : opAt ops.toList k = some o) (hg : o.guard = none) (h : ∀ (ex : Env) (X : Res),Nx C (e ++ ex) I (X :: R) (opK C.P o (PoolSF C ops Q S I pool loud mv fin fq ch ex X) Q)) : GoodF C ops Q S I pool loud mv fin fq (k :: ch) e R :=
 ⟨hf,by
  rw [hl]
  intro ex X a w ha hw
  unfold wpOp
  simp only [opAt_arr ho]
  rw [if_pos (by simp [Region.wanted,hg])]
  exact .inl (h ex X a w ha hw)⟩
theorem Mod.app_l {n : Nat} {a : Act} {ex : Env} (h : Mod n (e ++ ex) a) : Mod n e a:=⟨h.size,h.defers,fun t v ht => h.get t v (lk_app_l ht)⟩
theorem GoodF.quiet {k d : Nat} {v : Value} (hf : keysFree pool e = true) (hl : loud.contains k = false) (ho : opAt ops.toList k = some o) (hg : o.guard = none) (hd : o.dst = some d) (hlt : Nat.blt d C.n = true) (hrun : QRun C e (if mv.contains k then AnyW else S) o v) (h : GoodF C ops Q S I pool loud mv fin fq ch ((d,v) :: e) R) : GoodF C ops Q S I pool loud mv fin fq (k :: ch) e R :=
 ⟨hf,by
  rw [hl]
  refine ⟨o,v,(d,v) :: e,opAt_arr ho,fun a ex ha => ⟨.inl ⟨by simp [Region.wanted,hg],fun w hS => hrun a w ha.app_l hS⟩,?_⟩,h⟩
  rw [hd]
  exact ha.put hlt v⟩
theorem GoodF.done1 {p : PoolOp} (hf : keysFree [p] e = true) (h : ∀ b,Nx C (e ++ [(p.d,.pointer (some ⟨b,0,none⟩))]) I (Blk b p.t p.cs :: R) (wpMix C.P ops Q AnyW fq fin)) : GoodF C ops Q S I [p] loud mv fin fq [] e R:=⟨hf,fun bs hbs => by
 match bs,hbs with
 | [b],_ => exact Nx.unfoldAt 0 (B:=[Blk b p.t p.cs]) rfl (h b)⟩
theorem Nx.pool_nextF (k : Nat) {ex : Env} {X : Res} {t : Nat} {v : Value} (hk : nthL R k = some X) (hS : Ent R R0) (h : GoodF C ops Q (St C.W I R0) I pool loud mv fin fq ch ((t,v) :: e) (R.eraseIdx k)) : Nx C ((t,v) :: (e ++ ex)) I R (PoolSF C ops Q (St C.W I R0) I pool loud mv fin fq ch ex X) :=
 fun _ _ ha hw => ⟨hw.ent hS,(t,v) :: e,R.eraseIdx k,ha,hw.ent (Ent.pull k R X (nthL_eq.symm.trans hk)),h⟩
theorem PoolFit.cons {p : PoolOp} {r : List PoolOp} (h : PoolFit C ops p) (hr : ∀ q ∈ r,PoolFit C ops q) : ∀ q ∈ p :: r,PoolFit C ops q:=fun q hq => by
 rcases List.mem_cons.1 hq with rfl | hq
 ·exact h
 ·exact hr q hq
theorem PoolFit.nil : ∀ q ∈ ([] : List PoolOp),PoolFit C ops q:=fun q hq => by simp at hq
end
end Go.Eng
namespace Go.Eng
abbrev B64 : Int:=18446744073709551616
section
variable {P : Program} {t : TypeId} {x y : Operand} {p q : Int}
theorem run_addU : pureRun P (do eqGuard .add t x y (.int .u64 p) (.int .u64 q); binOp .add t (.int .u64 p) (.int .u64 q)) = some (.int .u64 ((p + q) % B64)):=by rw [← IntKind.wrap_u64]; rfl
theorem run_mulU : pureRun P (do eqGuard .mul t x y (.int .u64 p) (.int .u64 q); binOp .mul t (.int .u64 p) (.int .u64 q)) = some (.int .u64 ((p * q) % B64)):=by rw [← IntKind.wrap_u64]; rfl
theorem ofInt_nat {a : Nat} (ha : a < 18446744073709551616) : (BitVec.ofInt 64 (a : Int)).toNat = a:=by
 rw [BitVec.toNat_ofInt]
 omega
theorem wrap_nat {a : Nat} (ha : a < 18446744073709551616) : IntKind.u64.wrap (a : Int) = a:=by rw [IntKind.wrap_u64]; omega
theorem run_andU {a b : Nat} (ha : a < 18446744073709551616) (hb : b < 18446744073709551616) : pureRun P (do eqGuard .and t x y (.int .u64 (a : Int)) (.int .u64 (b : Int)); binOp .and t (.int .u64 (a : Int)) (.int .u64 (b : Int))) = some (.int .u64 ((a &&& b : Nat) : Int)):=by
 have h : (BitVec.ofInt 64 (a : Int) &&& BitVec.ofInt 64 (b : Int)).toNat = a &&& b:=by rw [BitVec.toNat_and,ofInt_nat ha,ofInt_nat hb]
 have hlt : a &&& b < 18446744073709551616:=Nat.lt_of_le_of_lt Nat.and_le_left ha
 rw [← wrap_nat hlt,← h]
 rfl
theorem run_orU {a b : Nat} (ha : a < 18446744073709551616) (hb : b < 18446744073709551616) : pureRun P (do eqGuard .or t x y (.int .u64 (a : Int)) (.int .u64 (b : Int)); binOp .or t (.int .u64 (a : Int)) (.int .u64 (b : Int))) = some (.int .u64 ((a ||| b : Nat) : Int)):=by
 have h : (BitVec.ofInt 64 (a : Int) ||| BitVec.ofInt 64 (b : Int)).toNat = a ||| b:=by rw [BitVec.toNat_or,ofInt_nat ha,ofInt_nat hb]
 have hlt : a ||| b < 18446744073709551616:=Nat.or_lt_two_pow (n:=64) ha hb
 rw [← wrap_nat hlt,← h]
 rfl
theorem run_notU {a : Nat} (ha : a < 18446744073709551616) : pureRun P (Op.unary .xor (.int .u64 (a : Int))) = some (.int .u64 ((18446744073709551615 - a : Nat) : Int)):=by
 have h : (BitVec.ofInt 64 (IntKind.u64.max) ^^^ BitVec.ofInt 64 (a : Int)).toNat = 18446744073709551615 - a:=by
  have e : BitVec.ofInt 64 (IntKind.u64.max) = BitVec.allOnes 64:=by decide
  rw [e,BitVec.allOnes_xor,BitVec.toNat_not,ofInt_nat ha]
 have hlt : 18446744073709551615 - a < 18446744073709551616:=by omega
 rw [← wrap_nat hlt,← h]
 rfl
theorem run_shlU {k : IntKind} {n : Nat} (hn : n ≤ 64) : pureRun P (do eqGuard .shl t x y (.int .u64 p) (.int k (n : Int)); binOp .shl t (.int .u64 p) (.int k (n : Int))) = some (.int .u64 ((p * 2 ^ n) % B64)):=by
 have h1 : ¬ (n : Int) < 0:=by omega
 have h2 : min ((n : Int).toNat) IntKind.u64.bits = n:=by rw [nCt]; exact Nat.min_eq_left (by simp [IntKind.bits]; omega)
 have h3 : Op.shift .shl .u64 p k (n : Int) = pure (.int .u64 (IntKind.u64.wrap (p * 2 ^ n))):=by
  unfold Op.shift
  rw [if_neg h1,h2]
 rw [← IntKind.wrap_u64]
 show pureRun P (Op.shift .shl .u64 p k (n : Int)) = _
 rw [h3]; rfl
theorem run_shrU {k : IntKind} {n : Nat} (hn : n ≤ 64) : pureRun P (do eqGuard .shr t x y (.int .u64 p) (.int k (n : Int)); binOp .shr t (.int .u64 p) (.int k (n : Int))) = some (.int .u64 (p / 2 ^ n)):=by
 have h1 : ¬ (n : Int) < 0:=by omega
 have h2 : min ((n : Int).toNat) IntKind.u64.bits = n:=by rw [nCt]; exact Nat.min_eq_left (by simp [IntKind.bits]; omega)
 have h3 : Op.shift .shr .u64 p k (n : Int) = pure (.int .u64 (p / 2 ^ n)):=by
  unfold Op.shift
  rw [if_neg h1,h2]
  simp only [Int.fdiv_eq_ediv_of_nonneg p (show (0 : Int) ≤ 2 ^ n from Int.pow_nonneg (by omega))]
 show pureRun P (Op.shift .shr .u64 p k (n : Int)) = _
 rw [h3]; rfl
theorem run_orD {p q : Int} (n m k : Nat) (hp : p = ((2 ^ n * m : Nat) : Int)) (hq : q = (k : Int)) (hm : 2 ^ n * m < 18446744073709551616) (hk : k < 2 ^ n) (hk2 : k < 18446744073709551616) :
  pureRun P (do eqGuard .or t x y (.int .u64 p) (.int .u64 q); binOp .or t (.int .u64 p) (.int .u64 q)) = some (.int .u64 (p + q)):=by
 subst hp
 subst hq
 rw [run_orU hm hk2,← Nat.two_pow_add_eq_or_of_lt hk m]
 rfl
theorem run_shrI {k : IntKind} {n : Nat} (hn : n ≤ 64) : pureRun P (do eqGuard .shr t x y (.int .i64 p) (.int k (n : Int)); binOp .shr t (.int .i64 p) (.int k (n : Int))) = some (.int .i64 (p / 2 ^ n)):=by
 have h1 : ¬ (n : Int) < 0:=by omega
 have h2 : min ((n : Int).toNat) IntKind.i64.bits = n:=by rw [nCt]; exact Nat.min_eq_left (by simp [IntKind.bits]; omega)
 have h3 : Op.shift .shr .i64 p k (n : Int) = pure (.int .i64 (p / 2 ^ n)):=by
  unfold Op.shift
  rw [if_neg h1,h2]
  simp only [Int.fdiv_eq_ediv_of_nonneg p (show (0 : Int) ≤ 2 ^ n from Int.pow_nonneg (by omega))]
 show pureRun P (Op.shift .shr .i64 p k (n : Int)) = _
 rw [h3]; rfl
end
section
variable {C : Cx} {e : Env} {I : PH} {R : List Res} {K : Act → World → Prop} {Q : Exit → Act → World → Prop}
variable {d : Nat} {ty : TypeId} {pos : String} {after : Array Edge} {g : Option (Nat × Bool)} {v : Value}
theorem Nx.binr {op : BinOp} {t u : TypeId} {x y : Operand} {vx vy : Value} (hx : evo e x = some vx) (hy : evo e y = some vy) (hv : ∀ w,(do eqGuard op t x y vx vy; binOp op t vx vy).run C.P w = .ok v w) (hlt : Nat.blt d C.n = true)
  (h : Nx C ((d,v) :: e) I R K) : Nx C e I R (opK C.P ⟨some d,.binOp op t x y u,ty,pos,after,g⟩ K Q) :=
 Nx.op_run rfl hlt (fun a w ha _ => by simp only [execOp,ha.eval hx,ha.eval hy]; exact run_v (hv w)) h
theorem Nx.conv_u64 {t u : TypeId} {x : Operand} {k : IntKind} {p : Int} {s : TypeDesc} (hx : evo e x = some (.int k p)) (hs : C.P.underlying t = some s) (ht : C.P.underlying u = some (.int .u64)) (hlt : Nat.blt d C.n = true)
  (h : Nx C ((d,.int .u64 (p % B64)) :: e) I R K) : Nx C e I R (opK C.P ⟨some d,.convert t u x,ty,pos,after,g⟩ K Q) :=
 Nx.op_run rfl hlt (fun a w ha _ => by
  simp only [execOp,ha.eval hx]
  refine run_v ?_
  unfold convert
  rw [Sem.run_bind,run_underlying hs,Result.andThen_ok,Sem.run_bind,run_underlying ht,Result.andThen_ok]
  show Result.ok (Value.int .u64 (IntKind.u64.wrap p)) w = _
  rw [IntKind.wrap_u64]) h
theorem Nx.call_run {fx : Operand} {args : Array Operand} {tys : Array TypeId} {f : FuncId} {c1 c2 : Array Value} {vs al : List Value}
  (hfx : evo e fx = some (.func (.func f) c1 c2)) (hvs : evs e args.toList = some vs) (hal : c1.toList ++ vs ++ c2.toList = al) (hlt : Nat.blt d C.n = true)
  (hr : ∀ w,(callFunc f al.toArray).run C.P w = .ok (.value v) w)
  (h : Nx C ((d,v) :: e) I R K) : Nx C e I R (opK C.P ⟨some d,.call { callee:=.value fx,args,argTypes:=tys },ty,pos,after,g⟩ K Q) :=
 Nx.op_run rfl hlt (fun a w ha _ => by
  have e1 : c1 ++ args.map a.eval ++ c2 = al.toArray:=by
   rw [← hal,← ha.evals hvs]
   apply Array.ext'
   simp
  unfold execOp
  simp only [resolve,ha.eval hfx,Deferred.ofValue]
  rw [Sem.run_bind]
  show Sem.run C.P (callFunc f (c1 ++ args.map a.eval ++ c2)) w = _
  rw [e1]
  exact hr w) h
end
theorem FnSpec.of_same {P : Program} {f : FuncId} {args : List Value} {I : PH} {v : Value} (h : ∀ (w W : World) (R : List Res),St W I R w → Calls P f args.toArray w fun e w' => e = .returned v ∧ w' = w) :
  FnSpec P f args I [] (fun u R' => u = v ∧ R' = []):=fun w _ hw =>
 (h w w _ hw).mono fun _ _ ⟨he,hw'⟩ => ⟨v,[],he,⟨rfl,rfl⟩,hw' ▸ hw⟩
end Go.Eng
namespace Go.Eng
abbrev B128 : Int:=340282366920938463463374607431768211456
def wH (z : Int) : Nat:=((z % B128) / B64).toNat
def wL (z : Int) : Nat:=(z % B64).toNat
def wideL (z : Int) : List Value:=[.int .u64 (wH z),.int .u64 (wL z)]
theorem wH_lt (z : Int) : wH z < 18446744073709551616:=by unfold wH B128 B64; omega
theorem wL_lt (z : Int) : wL z < 18446744073709551616:=by unfold wL B64; omega
theorem wide_val (z : Int) : (wH z : Int) * B64 + wL z = z % B128:=by unfold wH wL B64 B128; omega
theorem wide_eq {h l : Nat} {z : Int} (hh : h < 18446744073709551616) (hl : l < 18446744073709551616) (he : ((h : Int) * B64 + l) % B128 = z % B128) : wH z = h ∧ wL z = l:=by
 unfold wH wL B64 B128 at *
 omega
theorem wide_add (a b : Int) : wL (a + b) = (wL a + wL b) % 18446744073709551616 ∧ wH (a + b) = (wH a + wH b + (wL a + wL b) / 18446744073709551616) % 18446744073709551616:=by
 have h1:=wide_val a
 have h2:=wide_val b
 have la:=wL_lt a; have lb:=wL_lt b; have ha:=wH_lt a; have hb:=wH_lt b
 have:=wide_eq (z:=a + b) (h:=(wH a + wH b + (wL a + wL b) / 18446744073709551616) % 18446744073709551616) (l:=(wL a + wL b) % 18446744073709551616) (Nat.mod_lt _ (by decide)) (Nat.mod_lt _ (by decide)) (by
  rw [Int.add_emod a b,← h1,← h2]
  unfold B64 B128
  omega)
 exact ⟨this.2,this.1⟩
theorem sub_core {ha hb la lb : Nat} (h1 : ha < 18446744073709551616) (h2 : hb < 18446744073709551616) (h3 : la < 18446744073709551616) (h4 : lb < 18446744073709551616) :
  ((((ha + 18446744073709551616 - hb - (if la < lb + 0 then 1 else 0)) % 18446744073709551616 : Nat) : Int) * B64 + ((la + 18446744073709551616 - lb - 0) % 18446744073709551616 : Nat)) % B128 = ((ha : Int) * B64 + la - ((hb : Int) * B64 + lb)) % B128:=by
 have key : ∀ (x y k : Int),x = y + B128 * k → x % B128 = y % B128:=fun x y k h => by rw [h,Int.add_mul_emod_self_left]
 have nm : ∀ x : Nat,x < 18446744073709551616 → (x + 18446744073709551616) % 18446744073709551616 = x:=fun x h => by rw [Nat.add_mod_right,Nat.mod_eq_of_lt h]
 by_cases hl : la < lb
 ·rw [if_pos (by omega : la < lb + 0),show (la + 18446744073709551616 - lb - 0) % 18446744073709551616 = la + 18446744073709551616 - lb from Nat.mod_eq_of_lt (by omega)]
  by_cases hh : ha < hb + 1
  ·rw [show (ha + 18446744073709551616 - hb - 1) % 18446744073709551616 = ha + 18446744073709551616 - hb - 1 from Nat.mod_eq_of_lt (by omega)]
   exact key _ _ 1 (by unfold B64 B128; omega)
  ·rw [show ha + 18446744073709551616 - hb - 1 = (ha - hb - 1) + 18446744073709551616 by omega,nm _ (by omega)]
   exact key _ _ 0 (by unfold B64 B128; omega)
 ·rw [if_neg (by omega : ¬ la < lb + 0),show la + 18446744073709551616 - lb - 0 = (la - lb) + 18446744073709551616 by omega,nm _ (by omega)]
  by_cases hh : ha < hb
  ·rw [show (ha + 18446744073709551616 - hb - 0) % 18446744073709551616 = ha + 18446744073709551616 - hb from Nat.mod_eq_of_lt (by omega)]
   exact key _ _ 1 (by unfold B64 B128; omega)
  ·rw [show ha + 18446744073709551616 - hb - 0 = (ha - hb) + 18446744073709551616 by omega,nm _ (by omega)]
   exact key _ _ 0 (by unfold B64 B128; omega)
theorem wide_sub (a b : Int) : wL (a - b) = (wL a + 18446744073709551616 - wL b - 0) % 18446744073709551616 ∧ wH (a - b) = (wH a + 18446744073709551616 - wH b - (if wL a < wL b + 0 then 1 else 0)) % 18446744073709551616:=by
 have:=wide_eq (z:=a - b) (h:=(wH a + 18446744073709551616 - wH b - (if wL a < wL b + 0 then 1 else 0)) % 18446744073709551616) (l:=(wL a + 18446744073709551616 - wL b - 0) % 18446744073709551616) (Nat.mod_lt _ (by decide)) (Nat.mod_lt _ (by decide)) (by
  rw [Int.sub_emod a b,← wide_val a,← wide_val b]
  exact sub_core (wH_lt a) (wH_lt b) (wL_lt a) (wL_lt b))
 exact ⟨this.2,this.1⟩
theorem wide_not (a : Int) : wH (-a - 1) = 18446744073709551615 - wH a ∧ wL (-a - 1) = 18446744073709551615 - wL a:=by
 have h1:=wide_val a
 have la:=wL_lt a; have ha:=wH_lt a
 exact wide_eq (by omega) (by omega) (by
  unfold B64 B128 at *
  omega)
theorem wide_mul (a b : Int) : wL (a * b) = (wL a * wL b) % 18446744073709551616 ∧ wH (a * b) = (wL a * wL b / 18446744073709551616 + wH a * wL b + wL a * wH b) % 18446744073709551616:=by
 have h1:=wide_val a
 have h2:=wide_val b
 have:=wide_eq (z:=a * b) (h:=(wL a * wL b / 18446744073709551616 + wH a * wL b + wL a * wH b) % 18446744073709551616) (l:=(wL a * wL b) % 18446744073709551616) (Nat.mod_lt _ (by decide)) (Nat.mod_lt _ (by decide)) (by
  rw [Int.mul_emod a b,← h1,← h2]
  have e : ((wH a : Int) * B64 + wL a) * ((wH b : Int) * B64 + wL b) = B128 * (wH a * wH b) + ((wH a * wL b : Nat) + (wL a * wH b : Nat)) * B64 + (wL a * wL b : Nat):=by
   unfold B64 B128
   push_cast
   grind
  rw [e]
  generalize wH a * wL b = p
  generalize wL a * wH b = q
  generalize wL a * wL b = r
  generalize (wH a : Int) * wH b = s
  unfold B64 B128
  omega)
 exact ⟨this.2,this.1⟩
def InW (z : Int) : Prop:=-170141183460469231731687303715884105728 ≤ z ∧ z < 170141183460469231731687303715884105728
theorem wide_zero {z : Int} (h : InW z) : (wH z = 0 ∧ wL z = 0) ↔ z = 0:=by unfold InW wH wL B128 B64 at *; omega
end Go.Eng
namespace Go.Eng
section
variable {P : Program} {t : TypeId} {x y : Operand} {p q : Int}
theorem run_shlN {k : IntKind} (n : Nat) (hq : q = (n : Int)) (hn : n ≤ 64) : pureRun P (do eqGuard .shl t x y (.int .u64 p) (.int k q); binOp .shl t (.int .u64 p) (.int k q)) = some (.int .u64 ((p * 2 ^ n) % B64)):=by
 subst hq; exact run_shlU hn
theorem run_shrN {k : IntKind} (n : Nat) (hq : q = (n : Int)) (hn : n ≤ 64) : pureRun P (do eqGuard .shr t x y (.int .u64 p) (.int k q); binOp .shr t (.int .u64 p) (.int k q)) = some (.int .u64 (p / 2 ^ n)):=by
 subst hq; exact run_shrU hn
theorem run_orE {p q : Int} (n m k : Nat) (hp : p = (k : Int)) (hq : q = ((2 ^ n * m : Nat) : Int)) (hm : 2 ^ n * m < 18446744073709551616) (hk : k < 2 ^ n) (hk2 : k < 18446744073709551616) :
  pureRun P (do eqGuard .or t x y (.int .u64 p) (.int .u64 q); binOp .or t (.int .u64 p) (.int .u64 q)) = some (.int .u64 (p + q)):=by
 subst hp
 subst hq
 rw [run_orU hk2 hm,Nat.or_comm,← Nat.two_pow_add_eq_or_of_lt hk m,Nat.add_comm]
 rfl
end
section
variable {P : Program} {t : TypeId} {x y : Operand} {p q : Int}
end
theorem wL_nat (a : Nat) : wL (a : Int) = a % 18446744073709551616:=by unfold wL B64; omega
theorem wH_nat {a : Nat} (h : a < 340282366920938463463374607431768211456) : wH (a : Int) = a / 18446744073709551616:=by unfold wH B128 B64; omega
theorem pow_split {n : Nat} (hn : n ≤ 64) : 2 ^ (64 - n) * 2 ^ n = 18446744073709551616:=by
 rw [← Nat.pow_add,show 64 - n + n = 64 by omega]
theorem mul_lt_pow {a n : Nat} (h : a * 2 ^ n < 340282366920938463463374607431768211456) : a < 340282366920938463463374607431768211456 :=
 Nat.lt_of_le_of_lt (Nat.le_mul_of_pos_right a (Nat.two_pow_pos n)) h
theorem left_nat {a n : Nat} (hn : n ≤ 64) (h : a * 2 ^ n < 340282366920938463463374607431768211456) :
  a * 2 ^ n / 18446744073709551616 = a / 18446744073709551616 * 2 ^ n + a % 18446744073709551616 / 2 ^ (64 - n) ∧ a / 18446744073709551616 * 2 ^ n + a % 18446744073709551616 / 2 ^ (64 - n) < 18446744073709551616
   ∧ a % 18446744073709551616 / 2 ^ (64 - n) < 2 ^ n ∧ a * 2 ^ n % 18446744073709551616 = a % 18446744073709551616 * 2 ^ n % 18446744073709551616:=by
 have e:=pow_split hn
 have h1 : a % 18446744073709551616 / 2 ^ (64 - n) = (a % 18446744073709551616) * 2 ^ n / 18446744073709551616:=by
  rw [← e,Nat.mul_div_mul_right _ _ (Nat.two_pow_pos n)]
 have h2 : a * 2 ^ n = (a / 18446744073709551616 * 2 ^ n) * 18446744073709551616 + a % 18446744073709551616 * 2 ^ n:=by
  conv => lhs; rw [← Nat.div_add_mod a 18446744073709551616]
  rw [Nat.add_mul,Nat.mul_assoc,Nat.mul_comm 18446744073709551616]
 have h3 : a % 18446744073709551616 / 2 ^ (64 - n) < 2 ^ n:=by
  rw [Nat.div_lt_iff_lt_mul (Nat.two_pow_pos _),Nat.mul_comm,e]
  exact Nat.mod_lt _ (by decide)
 refine ⟨?_,?_,h3,?_⟩
 ·rw [h1,h2]; omega
 ·rw [h1]; omega
 ·rw [h2]; omega
theorem right_nat {a n : Nat} (hn : n ≤ 64) (_h : a < 340282366920938463463374607431768211456) :
  a / 2 ^ n / 18446744073709551616 = a / 18446744073709551616 / 2 ^ n ∧ a % 18446744073709551616 / 2 ^ n < 2 ^ (64 - n)
   ∧ a / 18446744073709551616 * 2 ^ (64 - n) % 18446744073709551616 = 2 ^ (64 - n) * (a / 18446744073709551616 % 2 ^ n)
   ∧ a / 2 ^ n % 18446744073709551616 = a % 18446744073709551616 / 2 ^ n + 2 ^ (64 - n) * (a / 18446744073709551616 % 2 ^ n):=by
 have e:=pow_split hn
 have hp:=Nat.two_pow_pos n
 have h3 : a % 18446744073709551616 / 2 ^ n < 2 ^ (64 - n):=by
  rw [Nat.div_lt_iff_lt_mul hp,e]
  exact Nat.mod_lt _ (by decide)
 have h4 : a / 18446744073709551616 * 2 ^ (64 - n) % 18446744073709551616 = 2 ^ (64 - n) * (a / 18446744073709551616 % 2 ^ n):=by
  have k : ∀ x p q m : Nat,p * q = m → x * p % m = p * (x % q):=fun x p q m hm => by rw [← hm,Nat.mul_comm x p,Nat.mul_mod_mul_left]
  exact k _ _ _ _ e
 refine ⟨by rw [Nat.div_div_eq_div_mul,Nat.div_div_eq_div_mul,Nat.mul_comm],h3,h4,?_⟩
 have h5 : a / 2 ^ n = a / 18446744073709551616 * 2 ^ (64 - n) + a % 18446744073709551616 / 2 ^ n:=by
  conv => lhs; rw [← Nat.div_add_mod a 18446744073709551616]
  rw [← e,Nat.mul_right_comm,Nat.mul_comm _ (2 ^ n),Nat.mul_add_div hp,Nat.mul_comm (2 ^ (64 - n)) (a / _)]
 have h6 : a % 18446744073709551616 / 2 ^ n + 2 ^ (64 - n) * (a / 18446744073709551616 % 2 ^ n) < 18446744073709551616:=by
  have : a / 18446744073709551616 % 2 ^ n < 2 ^ n:=Nat.mod_lt _ hp
  have h7 : 2 ^ (64 - n) * (a / 18446744073709551616 % 2 ^ n + 1) ≤ 2 ^ (64 - n) * 2 ^ n:=Nat.mul_le_mul_left _ this
  rw [e,Nat.mul_add] at h7
  omega
 have h8 : a / 18446744073709551616 * 2 ^ (64 - n) = 18446744073709551616 * (a / 18446744073709551616 * 2 ^ (64 - n) / 18446744073709551616) + 2 ^ (64 - n) * (a / 18446744073709551616 % 2 ^ n):=by
  rw [← h4]; exact (Nat.div_add_mod _ _).symm
 rw [h5]
 generalize a / 18446744073709551616 * 2 ^ (64 - n) = X at *
 generalize 2 ^ (64 - n) * (a / 18446744073709551616 % 2 ^ n) = Y at *
 generalize a % 18446744073709551616 / 2 ^ n = Z at *
 clear h5 h4 h3 e hp
 omega
def bitN (a i : Nat) : Nat:=a / 2 ^ i % 2
def lenN (a : Nat) : Nat:=if a < 18446744073709551616 then Lib.bitLen a else 64 + Lib.bitLen (a / 18446744073709551616)
theorem bitLen_two {x : Nat} (h : x < 18446744073709551616) : x < 2 ^ Lib.bitLen x ∧ (x ≠ 0 → 1 ≤ Lib.bitLen x ∧ 2 ^ (Lib.bitLen x - 1) ≤ x):=by
 by_cases h0 : x = 0
 ·subst h0; decide
 ·obtain ⟨a,b,c⟩:=Lib.bitLenAux_bounds 64 x h h0
  exact ⟨c,fun _ => ⟨a,b⟩⟩
theorem lenN_spec {a : Nat} (h : a < 340282366920938463463374607431768211456) : a < 2 ^ lenN a ∧ (a ≠ 0 → 1 ≤ lenN a ∧ 2 ^ (lenN a - 1) ≤ a) ∧ lenN a ≤ 128:=by
 unfold lenN
 split
 ·rename_i hl
  obtain ⟨b1,b2⟩:=bitLen_two hl
  exact ⟨b1,b2,Nat.le_trans (Lib.bitLen_le a 64 (nLr _) hl) (by decide)⟩
 ·rename_i hl
  have hq : a / 18446744073709551616 < 18446744073709551616:=by omega
  obtain ⟨b1,b2⟩:=bitLen_two hq
  obtain ⟨b3,b4⟩:=b2 (by omega)
  have hle:=Lib.bitLen_le (a / 18446744073709551616) 64 (nLr _) hq
  generalize Lib.bitLen (a / 18446744073709551616) = L at *
  refine ⟨?_,fun _ => ⟨by omega,?_⟩,by omega⟩
  ·rw [Nat.pow_add,show (2 : Nat) ^ 64 = 18446744073709551616 from rfl]; omega
  ·rw [show 64 + L - 1 = 64 + (L - 1) by omega,Nat.pow_add,show (2 : Nat) ^ 64 = 18446744073709551616 from rfl]; omega
def zerN (a : Nat) : Nat:=if a % 18446744073709551616 = 0 then 64 + Lib.ctz 64 (a / 18446744073709551616) else Lib.ctz 64 (a % 18446744073709551616)
theorem ctz_two {x : Nat} (h0 : x ≠ 0) (h : x < 18446744073709551616) : ∃ m,x = 2 ^ Lib.ctz 64 x * (2 * m + 1) ∧ Lib.ctz 64 x < 64:=by
 unfold Lib.ctz
 rw [if_neg h0]
 exact Lib.ctzFrom_spec 64 x (by omega) h
theorem zerN_spec {a : Nat} (h0 : a ≠ 0) (h : a < 340282366920938463463374607431768211456) : ∃ m,a = 2 ^ zerN a * (2 * m + 1) ∧ zerN a < 128:=by
 unfold zerN
 split
 ·rename_i hl
  obtain ⟨m,hm,hz⟩:=ctz_two (x:=a / 18446744073709551616) (by omega) (by omega)
  generalize Lib.ctz 64 (a / 18446744073709551616) = z at *
  refine ⟨m,?_,by omega⟩
  rw [Nat.pow_add,Nat.mul_assoc,← hm,show (2 : Nat) ^ 64 = 18446744073709551616 from rfl]
  omega
 ·rename_i hl
  obtain ⟨m,hm,hz⟩:=ctz_two (x:=a % 18446744073709551616) (by omega) (Nat.mod_lt _ (by decide))
  generalize Lib.ctz 64 (a % 18446744073709551616) = z at *
  have e:=pow_split (n:=z) (by omega)
  refine ⟨a / 18446744073709551616 * 2 ^ (63 - z) + m,?_,by omega⟩
  have e2 : (2 : Nat) ^ (64 - z) = 2 * 2 ^ (63 - z):=by rw [show 64 - z = (63 - z) + 1 by omega,Nat.pow_succ,Nat.mul_comm]
  conv => lhs; rw [← Nat.div_add_mod a 18446744073709551616,hm]
  rw [← e,e2]
  grind
theorem gcd_odd {a b z : Nat} (ha : a % 2 = 1) : Nat.gcd a (2 ^ z * b) = Nat.gcd a b:=by
 have : Nat.Coprime a (2 ^ z):=by
  apply Nat.Coprime.pow_right
  have h:=Nat.gcd_dvd_left a 2
  have h2:=Nat.gcd_dvd_right a 2
  have h3 : Nat.gcd a 2 = 1 ∨ Nat.gcd a 2 = 2:=by
   have:=Nat.le_of_dvd (by decide) h2
   have : 0 < Nat.gcd a 2:=Nat.gcd_pos_of_pos_right _ (by decide)
   omega
  rcases h3 with h3 | h3
  ·exact h3
  ·rw [h3] at h; omega
 exact Nat.Coprime.gcd_mul_left_cancel_right b this.symm
theorem gcd_sub {a b : Nat} (h : a ≤ b) : Nat.gcd a (b - a) = Nat.gcd a b:=by
 conv => rhs; rw [show b = (b - a) + a by omega]
 simp
theorem gcd_twos {i j u v : Nat} (hu : u % 2 = 1) (hv : v % 2 = 1) : Nat.gcd (2 ^ i * u) (2 ^ j * v) = 2 ^ (min i j) * Nat.gcd u v:=by
 by_cases h : i ≤ j
 ·rw [Nat.min_eq_left h,show j = i + (j - i) by omega,Nat.pow_add,Nat.mul_assoc,Nat.gcd_mul_left,gcd_odd hu]
 ·rw [Nat.min_eq_right (by omega),show i = j + (i - j) by omega,Nat.pow_add,Nat.mul_assoc,Nat.gcd_mul_left,Nat.gcd_comm,gcd_odd hv,Nat.gcd_comm]
end Go.Eng
namespace Go.Eng
section
variable {P : Program} {t : TypeId} {x y : Operand} {p q : Int}
theorem run_remT (hq : q ≠ 0) : pureRun P (do eqGuard .rem t x y (.int .i64 p) (.int .i64 q); binOp .rem t (.int .i64 p) (.int .i64 q)) = some (.int .i64 (p.tmod q)):=by
 rw [eqGuard_rem,binOp_rem]
 unfold pureRun
 simp [Op.intDiv,hq]; rfl
end
def RB (q : Rat) : Prop:=q.num.natAbs ≤ 1152921504606846976 ∧ q.den ≤ 1152921504606846976
instance (q : Rat) : Decidable (RB q):=by unfold RB; infer_instance
def FOk (n d : Int) : Prop:=1 ≤ d ∧ d ≤ 1152921504606846976 ∧ -1152921504606846976 ≤ n ∧ n ≤ 1152921504606846976 ∧ Nat.gcd n.natAbs d.natAbs = 1
instance (n d : Int) : Decidable (FOk n d):=by unfold FOk; infer_instance
def fracV (n d : Int) : Value:=.agg #[.int .i64 n,.int .i64 d]
def ratV (q : Rat) : Value:=fracV q.num q.den
def redN (q : Rat) : Int:=if RB q then q.num else 0
def redD (q : Rat) : Int:=if RB q then q.den else 0
def redE (q : Rat) : Int:=if RB q then 0 else 14
def redV (q : Rat) : Value:=.tuple #[.agg #[.int .i64 (redN q),.int .i64 (redD q)],.int .i64 (redE q)]
theorem redV_pos {q : Rat} (h : RB q) : redV q = .tuple #[ratV q,.int .i64 0]:=by
 unfold redV redN redD redE
 rw [if_pos h,if_pos h,if_pos h]; rfl
theorem redV_neg {q : Rat} (h : ¬RB q) : redV q = .tuple #[fracV 0 0,.int .i64 14]:=by
 unfold redV redN redD redE
 rw [if_neg h,if_neg h,if_neg h]; rfl
theorem FOk.rat {n d : Int} (h : FOk n d) : ∃ q : Rat,q.num = n ∧ (q.den : Int) = d ∧ RB q:=by
 obtain ⟨h1,h2,h3,h4,h5⟩:=h
 refine ⟨⟨n,d.natAbs,by omega,h5⟩,rfl,?_,?_⟩
 ·show ((d.natAbs : Nat) : Int) = d
  omega
 ·show n.natAbs ≤ 1152921504606846976 ∧ d.natAbs ≤ 1152921504606846976
  omega
theorem RB.fok {q : Rat} (h : RB q) : FOk q.num q.den:=by
 have h0:=q.den_pos
 have hr:=q.reduced
 unfold RB at h
 refine ⟨by omega,by omega,by omega,by omega,?_⟩
 rw [Int.natAbs_natCast]
 exact hr
theorem div_parts (z : Int) {D : Nat} (hD : 0 < D) : (Rat.divInt z D).den = D / Nat.gcd D z.natAbs ∧ (Rat.divInt z D).num.natAbs = z.natAbs / Nat.gcd D z.natAbs ∧ (Rat.divInt z D).num = ((z.natAbs / Nat.gcd D z.natAbs : Nat) : Int) * z.sign:=by
 have hg : Int.gcd (D : Int) z = Nat.gcd D z.natAbs:=rfl
 have hg0 : 0 < Nat.gcd D z.natAbs:=Nat.gcd_pos_of_pos_left _ hD
 obtain ⟨k,hk⟩:=Nat.gcd_dvd_right D z.natAbs
 have hkd : z.natAbs / Nat.gcd D z.natAbs = k:=by
  conv => lhs; arg 1; rw [hk]
  exact Nat.mul_div_cancel_left _ hg0
 have hs : (D : Int).sign = 1:=Int.sign_eq_one_of_pos (by omega)
 have hz : z = (Nat.gcd D z.natAbs : Int) * ((k : Int) * z.sign):=by
  have h1 : z = (z.natAbs : Int) * z.sign:=by rw [Int.mul_comm]; exact (Int.sign_mul_natAbs z).symm
  conv => lhs; rw [h1,hk]
  rw [Int.natCast_mul,Int.mul_assoc]
 have hnum : (Rat.divInt z D).num = (k : Int) * z.sign:=by
  rw [Rat.num_divInt,hs,Int.one_mul,hg]
  conv => lhs; arg 1; rw [hz]
  exact Int.mul_ediv_cancel_left _ (by omega)
 rw [hkd]
 refine ⟨?_,?_,hnum⟩
 ·rw [Rat.den_divInt,if_neg (by omega),hg,Int.natAbs_natCast]
 ·rw [hnum,Int.natAbs_mul]
  by_cases h0 : z = 0
  ·subst h0
   have : k = 0:=by
    rw [← hkd]; simp
   simp [this]
  ·rw [Int.natAbs_sign_of_ne_zero h0]
   simp
def opV (n d m e : Int) (q : Rat) : Value:=if FOk n d ∧ FOk m e then redV q else .tuple #[fracV 0 0,.int .i64 11]
theorem opV_congr {n d m e : Int} {p q : Rat} (h : FOk n d ∧ FOk m e → p = q) : opV n d m e p = opV n d m e q:=by
 unfold opV
 split
 ·rename_i h'; rw [h h']
 ·rfl
def divV (n d m e : Int) : Value:=if FOk n d ∧ FOk m e then (if m = 0 then .tuple #[fracV 0 0,.int .i64 18] else redV (Rat.divInt n d / Rat.divInt m e)) else .tuple #[fracV 0 0,.int .i64 11]
theorem rat_div_eq (n d m e : Int) : Rat.divInt n d / Rat.divInt m e = Rat.divInt (n * e) (d * m):=by
 rw [Rat.div_def,Rat.inv_divInt,Rat.divInt_mul_divInt]
end Go.Eng
namespace Go.Eng
open Go.Sort (grow)
def strV (l : List UInt8) : Value:=.string ⟨l.toArray⟩
section
variable {P : Program} {t : TypeId} {x y : Operand} {a b : List UInt8}
theorem run_streq (w : World) : (do eqGuard .eql t x y (.string ⟨a.toArray⟩) (.string ⟨b.toArray⟩); binOp .eql t (.string ⟨a.toArray⟩) (.string ⟨b.toArray⟩)).run P w = .ok (.bool (a == b)) w:=by
 rw [eqGuard_at_string,binOp_string_eql,ByteArray.toList_mk,ByteArray.toList_mk]
 rfl
theorem run_boolne {t : TypeId} {x y : Operand} (ht : P.underlying t = some .bool) (b c : Bool) (w : World) : (do eqGuard .neq t x y (.bool b) (.bool c); binOp .neq t (.bool b) (.bool c)).run P w = .ok (.bool (!(b == c))) w:=by
 rw [eqGuard_at_bool]
 show (do pure (Value.bool (!(← Op.equal t (.bool b) (.bool c)))) : Sem Value).run P w = _
 rw [Sem.run_bind,run_equal_bool w t b c ht]; rfl
end
end Go.Eng
namespace Go.Eng
open Go.Instr
structure KeyEnc (P : Program) (kt : TypeId) {κ : Type} [DecidableEq κ] (g : κ → Value) : Prop where
 same : ∃ kind,P.underlying kt = some kind ∧ ∀ a b,sameNow kind (g a) (g b) = some (decide (a = b))
 check : ∀ (em : Bool) (a : κ) (w : World),(checkKey em 10000 kt (g a)).run P w = .ok () w
 bits : ∀ a,sameBits 10000 (g a) (g a) = true
theorem KeyEnc.int {P : Program} {kt : TypeId} {k : IntKind} (h : P.underlying kt = some (.int k)) : KeyEnc P kt (fun x : Int => Value.int k x):=by
 refine ⟨⟨_,h,fun a b => ?_⟩,fun em a w => ?_,fun a => by simp [sameBits]⟩
 ·simp only [sameNow,if_pos]
  by_cases hab : a = b <;> simp [hab]
 ·unfold checkKey
  rw [Sem.run_bind,run_underlying h,Result.andThen_ok]
  rfl
section
variable {κ α : Type} [DecidableEq κ] {g : κ → Value} {f : α → Value}
def mfindI : List (κ × α) → κ → Nat → Option (Nat × α)
 | [],_,_ => none
 | (k',v) :: r,k,i => if k = k' then some (i,v) else mfindI r k (i + 1)
def mget : List (κ × α) → κ → Option α
 | [],_ => none
 | (k',v) :: r,k => if k = k' then some v else mget r k
def mset : List (κ × α) → κ → α → List (κ × α)
 | [],k,v => [(k,v)]
 | (k',v') :: r,k,v => if k = k' then (k',v) :: r else (k',v') :: mset r k v
theorem mfindI_get : ∀ (l : List (κ × α)) (k : κ) (i : Nat),(mfindI l k i).map (·.2) = mget l k
 | [],_,_ => rfl
 | (k',v) :: r,k,i => by
  unfold mfindI mget
  split
  ·rfl
  ·exact mfindI_get r k (i + 1)
theorem mget_set (l : List (κ × α)) (k k' : κ) (v : α) : mget (mset l k v) k' = if k' = k then some v else mget l k':=by
 induction l with
 | nil =>
  simp only [mset,mget]
 | cons p r ih =>
  obtain ⟨q,u⟩:=p
  simp only [mset]
  by_cases h : k = q
  ·rw [if_pos h]
   simp only [mget]
   by_cases h2 : k' = q
   ·rw [if_pos h2,if_pos (h2.trans h.symm)]
   ·rw [if_neg h2,if_neg (by rw [h]; exact h2),if_neg h2]
  ·rw [if_neg h]
   simp only [mget]
   by_cases h2 : k' = q
   ·rw [if_pos h2,if_pos h2,if_neg (by rw [h2]; exact fun h3 => h h3.symm)]
   ·rw [if_neg h2,if_neg h2,ih]
def entOk (g : κ → Value) (f : α → Value) (es : List MapEntry) (l : List (κ × α)) : Prop:=es.map (fun e => (e.key,e.val)) = l.map fun p => (g p.1,f p.2)
theorem findNow_ent {kind : TypeDesc} (hs : ∀ a b,sameNow kind (g a) (g b) = some (decide (a = b))) {k : κ} : ∀ {es : List MapEntry} {l : List (κ × α)} (i : Nat),entOk g f es l → findNow kind (g k) es i = some ((mfindI l k i).map fun p => (p.1,f p.2))
 | [],[],i,_ => rfl
 | [],_ :: _,i,h => by simp [entOk] at h
 | _ :: _,[],i,h => by simp [entOk] at h
 | e :: es,(q,u) :: l,i,h => by
  simp only [entOk,List.map_cons,List.cons.injEq,Prod.mk.injEq] at h
  obtain ⟨⟨h1,h2⟩,h3⟩:=h
  unfold findNow
  rw [h1,hs]
  unfold mfindI
  by_cases hk : k = q
  ·simp [hk,h2]
  ·simp only [hk,decide_false]
   exact findNow_ent hs (i + 1) h3
theorem modify_ent {k : κ} {v v0 : α} : ∀ {es : List MapEntry} {l : List (κ × α)} {i j : Nat},entOk g f es l → mfindI l k i = some (j,v0) → i ≤ j ∧ j - i < es.length ∧ entOk g f (es.modify (j - i) fun e => { e with key:=g k,val:=f v }) (mset l k v)
 | [],[],i,j,_,h => by simp [mfindI] at h
 | [],_ :: _,i,j,h,_ => by simp [entOk] at h
 | _ :: _,[],i,j,h,_ => by simp [entOk] at h
 | e :: es,(q,u) :: l,i,j,h,hf => by
  simp only [entOk,List.map_cons,List.cons.injEq,Prod.mk.injEq] at h
  obtain ⟨⟨h1,h2⟩,h3⟩:=h
  unfold mfindI at hf
  unfold mset
  by_cases hk : k = q
  ·rw [if_pos hk] at hf ⊢
   simp only [Option.some.injEq,Prod.mk.injEq] at hf
   obtain ⟨rfl,rfl⟩:=hf
   refine ⟨nLr _,by simp,?_⟩
   rw [Nat.sub_self]
   simp only [entOk,List.modify_zero_cons,List.map_cons,List.cons.injEq,Prod.mk.injEq]
   exact ⟨⟨by rw [hk],trivial⟩,h3⟩
  ·rw [if_neg hk] at hf ⊢
   obtain ⟨a1,a2,a3⟩:=modify_ent (v:=v) h3 hf
   refine ⟨by omega,by simp; omega,?_⟩
   rw [show j - i = (j - (i + 1)) + 1 by omega]
   simp only [entOk,List.modify_succ_cons,List.map_cons,List.cons.injEq,Prod.mk.injEq]
   exact ⟨⟨h1,h2⟩,a3⟩
theorem push_ent {k : κ} {v : α} : ∀ {es : List MapEntry} {l : List (κ × α)} {i : Nat} {e : MapEntry},entOk g f es l → mfindI l k i = none → e.key = g k → e.val = f v → entOk g f (es ++ [e]) (mset l k v)
 | [],[],i,e,_,_,h1,h2 => by simp [entOk,mset,h1,h2]
 | [],_ :: _,i,e,h,_,_,_ => by simp [entOk] at h
 | _ :: _,[],i,e,h,_,_,_ => by simp [entOk] at h
 | x :: es,(q,u) :: l,i,e,h,hf,he1,he2 => by
  simp only [entOk,List.map_cons,List.cons.injEq,Prod.mk.injEq] at h
  obtain ⟨⟨h1,h2⟩,h3⟩:=h
  unfold mfindI at hf
  by_cases hk : k = q
  ·rw [if_pos hk] at hf; cases hf
  ·rw [if_neg hk] at hf
   unfold mset
   rw [if_neg hk]
   simp only [entOk,List.cons_append,List.map_cons,List.cons.injEq,Prod.mk.injEq]
   exact ⟨⟨h1,h2⟩,push_ent h3 hf he1 he2⟩
def MapR (g : κ → Value) (f : α → Value) (b : Nat) (l : List (κ × α)) : Res:=fun m => ∃ es clock,m b = some (.map es clock) ∧ entOk g f es.toList l
theorem run_findKey_ent {P : Program} {kt : TypeId} (K : KeyEnc P kt g) {es : List MapEntry} {l : List (κ × α)} (h : entOk g f es l) (k : κ) (w : World) : (findKey kt (g k) es).run P w = .ok ((mfindI l k 0).map fun p => (p.1,f p.2)) w:=by
 obtain ⟨kind,hk,hs⟩:=K.same
 unfold findKey
 rw [Sem.run_bind,run_underlying hk,Result.andThen_ok,findNow_ent hs 0 h]
 rfl
theorem run_lookup_ent {P : Program} {t kt et : TypeId} {b clock : Nat} {es : Array MapEntry} {l : List (κ × α)} {w : World} {z : α} (K : KeyEnc P kt g) (ht : P.underlying t = some (.map kt et)) (hz : (zeroValue et).run P w = .ok (f z) w) (hb : w.heap[b]? = some (.map es clock)) (h : entOk g f es.toList l) (k : κ) (ok : Bool) :
  (Instr.lookup t (.map (some b)) (g k) ok).run P w = .ok (if ok then .tuple #[f ((mget l k).getD z),.bool (mget l k).isSome] else f ((mget l k).getD z)) w:=by
 have hg:=mfindI_get l k 0
 unfold Instr.lookup
 rw [Sem.run_bind,run_underlying ht,Result.andThen_ok]
 simp only [Sem.run_bind,MapKept.run_getObj_map hb,Result.andThen_ok,Sem.run_pure,K.check,run_findKey_ent K h]
 cases hm : mfindI l k 0 with
 | none =>
  rw [hm] at hg
  simp only [Option.map_none,Sem.run_bind,hz,Result.andThen_ok,Sem.run_pure]
  rw [← hg]
  cases ok <;> rfl
 | some p =>
  rw [hm] at hg
  simp only [Option.map_some,Sem.run_bind,Result.andThen_ok,Sem.run_pure]
  rw [← hg]
  cases ok <;> rfl
theorem run_update_ent {P : Program} {t kt et : TypeId} {b clock : Nat} {es : Array MapEntry} {l : List (κ × α)} {w : World} (K : KeyEnc P kt g) (ht : P.underlying t = some (.map kt et)) (hb : w.heap[b]? = some (.map es clock)) (h : entOk g f es.toList l) (k : κ) (v : α) :
  ∃ es' clock',(Instr.mapUpdate t (.map (some b)) (g k) (f v)).run P w = .ok () { w with heap:=w.heap.setIfInBounds b (.map es' clock') } ∧ entOk g f es'.toList (mset l k v):=by
 unfold Instr.mapUpdate
 cases hm : mfindI l k 0 with
 | none =>
  refine ⟨es.push ⟨g k,f v,clock⟩,clock + 1,?_,by rw [Array.toList_push]; exact push_ent h hm rfl rfl⟩
  rw [Sem.run_bind,run_underlying ht,Result.andThen_ok]
  simp only [Sem.run_bind,MapKept.run_getObj_map hb,Result.andThen_ok,K.check,run_findKey_ent K h,hm,Option.map_none,MapKept.run_setObj_map _ hb]
 | some p =>
  obtain ⟨j,v0⟩:=p
  obtain ⟨_,hlt,hmod⟩:=modify_ent (v:=v) h hm
  rw [Nat.sub_zero] at hlt hmod
  have hkey : es[j]?.map (·.key) = some (g k):=by
   have key : ∀ {es : List MapEntry} {l : List (κ × α)} {i : Nat},entOk g f es l → mfindI l k i = some (j,v0) → i ≤ j ∧ (es[j - i]?).map (·.key) = some (g k):=by
    intro es
    induction es with
    | nil => intro l i h1 h2; cases l with
     | nil => simp [mfindI] at h2
     | cons _ _ => simp [entOk] at h1
    | cons e es ih =>
     intro l i h1 h2
     cases l with
     | nil => simp [entOk] at h1
     | cons q l =>
      obtain ⟨q,u⟩:=q
      simp only [entOk,List.map_cons,List.cons.injEq,Prod.mk.injEq] at h1
      obtain ⟨⟨a1,a2⟩,a3⟩:=h1
      unfold mfindI at h2
      by_cases hk : k = q
      ·rw [if_pos hk] at h2
       simp only [Option.some.injEq,Prod.mk.injEq] at h2
       obtain ⟨rfl,rfl⟩:=h2
       refine ⟨nLr _,?_⟩
       rw [Nat.sub_self]
       simp [a1,hk]
      ·rw [if_neg hk] at h2
       obtain ⟨b1,b2⟩:=ih a3 h2
       refine ⟨by omega,?_⟩
       rw [show j - i = (j - (i + 1)) + 1 by omega,List.getElem?_cons_succ]
       exact b2
   have:=(key h hm).2
   rw [Nat.sub_zero] at this
   rw [← Array.getElem?_toList]
   exact this
  refine ⟨es.modify j fun e => { e with key:=g k,val:=f v },clock,?_,by rw [Array.toList_modify]; exact hmod⟩
  rw [Sem.run_bind,run_underlying ht,Result.andThen_ok]
  simp only [Sem.run_bind,MapKept.run_getObj_map hb,Result.andThen_ok,K.check,run_findKey_ent K h,hm,Option.map_some,hkey,Option.getD_some,keyThatStays,K.bits,if_true,Sem.run_pure,MapKept.run_setObj_map _ hb]
end
section
variable {C : Cx} {e e' : Env} {I : PH} {R R' R0 : List Res} {K K' : Act → World → Prop} {Q : Exit → Act → World → Prop} {W : World}
variable {d : Nat} {ty t : TypeId} {pos : String} {after : Array Edge} {gd : Option (Nat × Bool)} {x y z : Operand} {dst : Option Tmp}
variable {κ α : Type}
theorem Nx.makeMap (g : κ → Value) (f : α → Value) (hlt : Nat.blt d C.n = true)
  (h : ∀ b,Nx C ((d,.map (some b)) :: e) I (MapR g f b [] :: R) K) : Nx C e I R (opK C.P ⟨some d,.makeMap t none,ty,pos,after,gd⟩ K Q) :=
 Nx.op_new (v:=fun b => .map (some b)) (ob:=.map #[] 0) rfl hlt (fun a w ha hw => by
  simp only [execOp,Option.map_none]
  exact run_v rfl) (fun b => (h b).ent (Ent.head fun m hm => ⟨#[],0,hm,rfl⟩))
theorem MapR.held {g : κ → Value} {f : α → Value} {b : Nat} {l : List (κ × α)} {w : World} (h : St W I (MapR g f b l :: R) w) : ∃ es clock,w.heap[b]? = some (.map es clock) ∧ entOk g f es.toList l:=by
 obtain ⟨⟨m,⟨m1,m2,_,rfl,⟨es,clock,hb,he⟩,_⟩,hs⟩,_⟩:=h
 exact ⟨es,clock,hs.own _ _ (PH.le_or_left _ _ _ _ hb),he⟩
variable [DecidableEq κ]
theorem Nx.mapSet (i : Nat) (g : κ → Value) (f : α → Value) {kt et : TypeId} {b : Nat} {l : List (κ × α)} {k : κ} {v : α} {op : Op} (hop : op = .insert t x y z ∨ op = .mapUpdate t x y z) (hx : evo e x = some (.map (some b))) (hy : evo e y = some (g k)) (hz : evo e z = some (f v))
  (KE : KeyEnc C.P kt g) (ht : C.P.underlying t = some (.map kt et)) (hk : nthL R i = some (MapR g f b l)) (h : Nx C e I (MapR g f b (mset l k v) :: R.eraseIdx i) K) : Nx C e I R (opK C.P ⟨none,op,ty,pos,after,gd⟩ K Q):=by
 refine Nx.ent (Ent.pull i R _ (nthL_eq.symm.trans hk)) ?_
 intro a w ha hw
 obtain ⟨es,clock,hb,he⟩:=MapR.held hw
 obtain ⟨es',clock',hr,he'⟩:=run_update_ent KE ht hb he k v
 unfold opK Oper.wp
 have hrun : (execOp a.eval ⟨none,op,ty,pos,after,gd⟩).run C.P w = .ok .skip { w with heap:=w.heap.setIfInBounds b (.map es' clock') }:=by
  rcases hop with rfl | rfl <;>
  ·simp only [execOp,ha.eval hx,ha.eval hy,ha.eval hz]
   rw [Sem.run_bind,hr]
   rfl
 rw [hrun]
 have hlt:=(Array.getElem?_eq_some_iff.1 hb).1
 refine h _ _ ha (hw.upd (o:=.map es' clock') (b:=b) (fun m hm => ?_) (by simp [hlt]) (fun j hne o' ho => ?_) ⟨rfl,rfl,rfl,by simp,nLr _⟩)
 ·obtain ⟨es1,clock1,h1,_⟩:=hm
  exact ⟨by rw [h1]; rfl,es',clock',by simp,he'⟩
 ·simp only
  rw [Array.getElem?_setIfInBounds_ne (fun h => hne h.symm)]
  exact ho
theorem Nx.mapGet (i : Nat) (g : κ → Value) (f : α → Value) {kt et : TypeId} {b : Nat} {l : List (κ × α)} {k : κ} {z : α} {ok : Bool} {ti : TypeInfo} (hx : evo e x = some (.map (some b))) (hy : evo e y = some (g k))
  (KE : KeyEnc C.P kt g) (ht : C.P.underlying t = some (.map kt et)) (hi : C.P.info? et = some ti) (hz : ti.zero = some (f z)) (hlt : Nat.blt d C.n = true) (hk : nthL R i = some (MapR g f b l))
  (h : Nx C ((d,if ok then .tuple #[f ((mget l k).getD z),.bool (mget l k).isSome] else f ((mget l k).getD z)) :: e) I R K) : Nx C e I R (opK C.P ⟨some d,.lookup t x y ok,ty,pos,after,gd⟩ K Q) :=
 Nx.op_run rfl hlt (fun a w ha hw => by
  obtain ⟨es,clock,hb,he⟩:=MapR.held (hw.ent (Ent.pull i R _ (nthL_eq.symm.trans hk)))
  simp only [execOp,ha.eval hx,ha.eval hy]
  exact run_v (run_lookup_ent KE ht (by simp [zeroValue,typeInfo,hi,hz]) hb he k ok)) h
end
end Go.Eng
namespace Go.Eng
open Go.Lib (strCells)
open Go.Instr
variable {C : Cx} {e e' : Env} {I : PH} {R R' : List Res} {K K' : Act → World → Prop} {Q : Exit → Act → World → Prop}
variable {d : Nat} {ty t u el : TypeId} {pos : String} {after : Array Edge} {g : Option (Nat × Bool)} {x y z : Operand} {v vx vy vz : Value} {A : Option Addr} {n c : Nat}
def byteV (b : UInt8) : Value:=.int .u8 b.toNat
theorem strCells_mk (l : List UInt8) : strCells ⟨l.toArray⟩ = l.map byteV:=by simp [strCells,byteV]
theorem append_str_run {P : Program} {w : World} {xs : List Value} {s : ByteArray} {i : TypeInfo} (ht : P.underlying t = some (.slice el)) (hu : P.underlying u = some .string) (hi : P.info? el = some i) (hz : i.zero = some (.int .u8 0))
  (hsize : i.size = 1) (hby : i.bytes = 1) (hown : w.ownsRow 0 el 1 (.slice A n c) n xs) (h63 : n + s.size ≤ maxLen) (hbytes : n + s.size ≤ 140737488355328) :
  ∃ v' w',(Builtin.append_ #[t,u] ty #[.slice A n c,.string s]).run P w = .ok v' w' ∧ w'.ownsRow 0 el 1 v' (n + s.size) (xs ++ strCells s) ∧ w.grownBy w' (Value.slice A n c).ownBlock ∧
   (v'.ownBlock = (Value.slice A n c).ownBlock ∨ v'.ownBlock = some w.heap.size):=by
 have hsmall : n + s.size ≤ 9223372036854775807:=by simp only [maxLen] at h63; omega
 have hxl : xs.length = n:=by simpa using hown.1
 have hlen : (xs ++ strCells s).length = (n + s.size) * 1:=by rw [lAp,hxl,Lib.strCells_length,Nat.mul_one]
 have grown : ∀ (old : Nat),old < n + s.size → ∀ (row : Option Nat),
   (w.drew.alloc (.cells (xs.toArray ++ (strCells s).toArray ++ Builtin.zeroCells (Value.int .u8 0).cells (grownCap w (n + s.size) old el - (n + s.size))) el)).ownsRow 0 el 1
    (.slice (some ⟨w.heap.size,0,none⟩) (n + s.size) (grownCap w (n + s.size) old el)) (n + s.size) (xs ++ strCells s) ∧
   w.grownBy (w.drew.alloc (.cells (xs.toArray ++ (strCells s).toArray ++ Builtin.zeroCells (Value.int .u8 0).cells (grownCap w (n + s.size) old el - (n + s.size))) el)) row:=by
  intro old ho row
  have hge:=grownCap_ge w (n + s.size) old el
  have hcm : grownCap w (n + s.size) old el ≤ maxLen:=grownCap_le_maxLen w (n + s.size) old el h63
  refine ⟨⟨hlen,.inr ⟨w.heap.size,_,_,rfl,nZl _,heap_alloc_new w.drew _,hge,hcm,?_,?_⟩⟩,⟨rfl,rfl,rfl,by simp,fun k hk _ => by first | exact heap_alloc_old w.drew _ k hk | exact heap_alloc_old w.drew _ hk⟩⟩
  ·have hz1 : (Value.int IntKind.u8 0).cells.size = 1:=rfl
   simp only [Array.size_append,List.size_toArray,size_zeroCells,hz1,hxl,Lib.strCells_length]
   omega
  ·simp only [Array.toList_append,List.append_assoc]
   rw [← List.append_assoc,← hlen]
   exact List.take_left
 rcases hown.2 with ⟨hv,rfl⟩ | ⟨g,cap,cur,hv,hbg,hg,hnc,hcm,hcs,htake⟩
 ·have hx : xs = []:=List.eq_nil_of_length_eq_zero hxl
  subst hx
  cases hv
  by_cases hm : s.size = 0
  ·have hn : strCells s = []:=List.eq_nil_of_length_eq_zero (by rw [Lib.strCells_length]; exact hm)
   refine ⟨.slice none 0 0,w,?_,by rw [hm,hn]; exact World.ownsRow_nil w 0 el 1,⟨rfl,rfl,rfl,nLr _,fun _ _ _ => rfl⟩,.inl rfl⟩
   have hf:=Lib.run_firstCells_string (P:=P) w 1 s
   rw [hm] at hf
   simp [Builtin.append_,run_underlying ht,run_underlying hu,sizeOf,typeInfo,hi,hsize,Builtin.lenOf,hm,hf]
  ·have hr:=run_append_nil_string (P:=P) w t u ty el i (.int .u8 0) ht hu hi hz s (by omega) (by omega) (by rw [hby]; omega)
   have hgr:=grown 0 (by omega) (Value.ownBlock (.slice none 0 0))
   simp only [Nat.zero_add,List.nil_append,Array.empty_append] at hgr ⊢
   have e1 : (s.data.map fun b => Value.int .u8 b.toNat) = (strCells s).toArray:=by
    apply Array.ext'
    simp [strCells]
   rw [e1] at hr
   exact ⟨_,_,hr,hgr.1,hgr.2,.inr rfl⟩
 ·cases hv
  by_cases hroom : n + s.size ≤ c
  ·have hcs' : cur.size = c:=by simpa using hcs
   have hr:=Lib.run_append_room_string (P:=P) w t u ty el i ht hu hi hsize g n c cur hg s hroom (by omega)
   refine ⟨_,_,hr,⟨hlen,.inr ⟨g,c,_,rfl,hbg,setRow_heap w g cur _ el _ hg,hroom,hcm,?_,?_⟩⟩,⟨rfl,rfl,rfl,by simp,fun k _ hk => setRow_other w g k _ (fun e => hk (by simp [Value.ownBlock,e]))⟩,.inl rfl⟩
   ·simp only [List.size_toArray,lAp,lTk,List.length_drop,Array.length_toList,Lib.strCells_length]
    omega
   ·have ht' : cur.toList.take n = xs:=by simpa using htake
    rw [ht',← hlen]
    exact List.take_left
  ·have holds : ∀ j u,xs[j]? = some u → w.cell? ((⟨g,0,none⟩ : Addr).add j) = some u:=hown.cells (g:=g) rfl
   have hr:=Lib.run_append_grow_string (P:=P) w t u ty el i (.int .u8 0) ht hu hi hz ⟨g,0,none⟩ n c xs (by rw [hsize]; simpa using hxl) holds s (by omega) (by omega) (by rw [hby]; exact growslice_fits (by omega) (by omega))
   have hgr:=grown c (by omega) (Value.ownBlock (.slice (some ⟨g,0,none⟩) n c))
   exact ⟨_,_,hr,hgr.1,hgr.2,.inr rfl⟩
def byteTy (P : Program) (el : TypeId) : Bool:=match P.info? el with
 | some i => (match i.zero with | some (.int .u8 z) => decide (z = 0) | _ => false) && Nat.beq i.size 1 && Nat.beq i.bytes 1
 | none => false
theorem byteTy_ok {P : Program} (h : byteTy P el = true) : ∃ i,P.info? el = some i ∧ i.zero = some (.int .u8 0) ∧ i.size = 1 ∧ i.bytes = 1:=by
 unfold byteTy at h
 split at h
 ·rename_i i hi
  simp only [Bool.and_eq_true] at h
  obtain ⟨⟨h1,h2⟩,h3⟩:=h
  refine ⟨i,hi,?_,Nat.eq_of_beq_eq_true h2,Nat.eq_of_beq_eq_true h3⟩
  split at h1
  ·rename_i z hz
   rw [hz,of_decide_eq_true h1]
  ·cases h1
 ·cases h
theorem Nx.append_str {tys : Array TypeId} {l : List UInt8} {xs : List Value} (hx : evo e x = some (.slice A n c)) (hy : evo e y = some (strV l)) (hty : tys = #[t,u]) (ht : C.P.underlying t = some (.slice el)) (hu : C.P.underlying u = some .string) (hel : byteTy C.P el = true)
  (hlt : Nat.blt d C.n = true) (h63 : n + l.length ≤ 34359738368)
  (h : ∀ A' c',Nx C ((d,.slice A' (n + l.length) c') :: e) I (Vec el 1 A' (n + l.length) c' (xs ++ l.map byteV) :: R) K) : Nx C e I (Vec el 1 A n c xs :: R) (opK C.P ⟨some d,.call { callee:=.builtin .append,args:=#[x,y],argTypes:=tys },ty,pos,after,g⟩ K Q):=by
 subst hty
 intro a w ha hw
 obtain ⟨⟨m,⟨m1,m2,hd,rfl,hv,h2⟩,hs⟩,hst⟩:=id hw
 obtain ⟨i,hi,hz,hsize,hby⟩:=byteTy_ok hel
 have hsz : (ByteArray.mk l.toArray).size = l.length:=by simp [ByteArray.size]
 have h63m : n + l.length ≤ maxLen:=by unfold maxLen; omega
 obtain ⟨v',w',hr,hown',hg,hat⟩:=append_str_run (ty:=ty) (s:=⟨l.toArray⟩) ht hu hi hz hsize hby (hv.owns hs.own) (by rw [hsz]; exact h63m) (by rw [hsz]; omega)
 rw [hsz,strCells_mk] at hown'
 obtain ⟨A',c',rfl,hst'⟩:=St.append hw hown' hg hat (run_drawn _ _ hr)
 unfold opK Oper.wp
 have hrun : (execOp a.eval ⟨some d,.call { callee:=.builtin .append,args:=#[x,y],argTypes:=#[t,u] },ty,pos,after,g⟩).run C.P w = .ok (.value (.slice A' (n + l.length) c')) w':=by
  obtain ⟨cs,hcs⟩:=run_builtin (P:=C.P) (w:=w) (ρ:=a.eval) (b:=.append) (args:=#[x,y]) (dst:=some d) (ty:=ty) (pos:=pos) (after:=after) (g:=g) (tys:=#[t,u]) (show [x,y].map a.eval = [Value.slice A n c,strV l] from by simp only [List.map_cons,List.map_nil,ha.eval hx,ha.eval hy])
  rw [hcs]
  exact run_v hr
 rw [hrun]
 exact h A' c' _ w' (ha.put hlt _) hst'
theorem Nx.append_strB (k : Nat) {tys : Array TypeId} {l l2 : List UInt8} (hx : evo e x = some (.slice A l.length c)) (hy : evo e y = some (strV l2)) (hty : tys = #[t,u]) (ht : C.P.underlying t = some (.slice el)) (hu : C.P.underlying u = some .string) (hel : byteTy C.P el = true)
  (hlt : Nat.blt d C.n = true) (hk : nthL R k = some (Vec el 1 A l.length c (l.map byteV))) (h63 : l.length + l2.length ≤ 34359738368)
  (h : ∀ A' c',Nx C ((d,.slice A' (l ++ l2).length c') :: e) I (Vec el 1 A' (l ++ l2).length c' ((l ++ l2).map byteV) :: R.eraseIdx k) K) : Nx C e I R (opK C.P ⟨some d,.call { callee:=.builtin .append,args:=#[x,y],argTypes:=tys },ty,pos,after,g⟩ K Q):=by
 refine Nx.pull k (nthL_eq.symm.trans hk) (Nx.append_str hx hy hty ht hu hel hlt h63 fun A' c' => ?_)
 have:=h A' c'
 rw [lAp,mAp] at this
 exact this
theorem Nx.append_bytes (k : Nat) {tys : Array TypeId} {l l2 : List UInt8} {m c2 b : Nat} {cs : List Value} (hx : evo e x = some (.slice A l.length c)) (hy : evo e y = some (.slice (some ⟨b,0,none⟩) m c2)) (hty : tys = #[t,t]) (ht : C.P.underlying t = some (.slice el)) (hel : elemIs C.P el 1 = true)
  (hlt : Nat.blt d C.n = true) (hk : nthL R k = some (Vec el 1 A l.length c (l.map byteV))) (hcs : cs = l2.map byteV) (hl : Nat.beq cs.length (m * 1) = true) (h1 : cs.all Value.oneCell' = true) (h63 : l.length + m ≤ 34359738368)
  (h : ∀ A' c',Nx C ((d,.slice A' (l ++ l2).length c') :: e) I (Vec el 1 A' (l ++ l2).length c' ((l ++ l2).map byteV) :: R.eraseIdx k) K) : Nx C e I (Blk b el cs :: R) (opK C.P ⟨some d,.call { callee:=.builtin .append,args:=#[x,y],argTypes:=tys },ty,pos,after,g⟩ K Q):=by
 have hm : m = l2.length:=by
  have:=Nat.eq_of_beq_eq_true hl
  rw [hcs,lMp] at this; omega
 subst hm
 refine Nx.append_lit k hx hy hty ht hel hlt hk hl h1 h63 fun A' c' => ?_
 have:=h A' c'
 rw [lAp,mAp,← hcs] at this
 exact this
theorem Nx.len_strV {tys : Array TypeId} {l : List UInt8} (hx : evo e x = some (strV l)) (hty : tys = #[t]) (ht : C.P.underlying t = some .string) (hlt : Nat.blt d C.n = true)
  (h : Nx C ((d,.int .i64 l.length) :: e) I R K) : Nx C e I R (opK C.P ⟨some d,.call { callee:=.builtin .len,args:=#[x],argTypes:=tys },ty,pos,after,g⟩ K Q):=by
 refine Nx.len_str (s:=⟨l.toArray⟩) hx hty ht hlt ?_
 rw [show ((ByteArray.mk l.toArray).size : Int) = l.length by simp [ByteArray.size]]
 exact h
theorem Nx.slice_str {k k' : IntKind} {l : List UInt8} {i j : Nat} (hx : evo e x = some (strV l)) (hy : evo e y = some (.int k (i : Int))) (hz : evo e z = some (.int k' (j : Int))) (ht : C.P.underlying t = some .string)
  (hlt : Nat.blt d C.n = true) (h1 : i ≤ j) (h2 : j ≤ l.length) (hk : Nx C ((d,strV ((l.drop i).take (j - i))) :: e) I R K) : Nx C e I R (opK C.P ⟨some d,.slice t x (some y) (some z) none,ty,pos,after,g⟩ K Q) :=
 Nx.op_run rfl hlt (fun a w ha _ => by
  simp only [execOp,ha.eval hx,ha.eval hy,ha.eval hz,Option.map_some,Option.map_none]
  refine run_v ?_
  have h3:=run_slice_string (P:=C.P) w t ⟨l.toArray⟩ k k' (i : Int) (j : Int) ht (by omega) (by omega) (by simp [ByteArray.size]; omega)
  rw [nCt,nCt,ByteArray.extract_mk] at h3
  rw [run_sliceAt_string w t (strV l) _ _ _ ht]
  exact h3) hk
theorem run_index_str {P : Program} {k : IntKind} {l : List UInt8} {i : Nat} (ht : P.underlying t = some .string) (hi : i < l.length) (w : World) : (Instr.index t (strV l) (.int k (i : Int))).run P w = .ok (byteV (l.getD i default)) w:=by
 have h:=run_index_string (P:=P) w t ⟨l.toArray⟩ k (i : Int) ht
 have hs : (ByteArray.mk l.toArray).size = l.length:=by simp [ByteArray.size]
 rw [dif_pos ⟨by omega,by rw [hs]; omega⟩] at h
 have he : (ByteArray.mk l.toArray)[(i : Int).toNat]'(by rw [hs]; omega) = l.getD i default:=by
  rw [gEl,gEq hi]
  show (l.toArray)[(i : Int).toNat]'_ = _
  simp
 rw [he] at h
 exact h
theorem Nx.index_str {k : IntKind} {l : List UInt8} {i : Nat} (hx : evo e x = some (strV l)) (hy : evo e y = some (.int k (i : Int))) (ht : C.P.underlying t = some .string)
  (hlt : Nat.blt d C.n = true) (hi : i < l.length) (hk : Nx C ((d,byteV (l.getD i default)) :: e) I R K) : Nx C e I R (opK C.P ⟨some d,.index t x y,ty,pos,after,g⟩ K Q) :=
 Nx.op_run rfl hlt (fun a w ha _ => by
  simp only [execOp,ha.eval hx,ha.eval hy]
  exact run_v (run_index_str ht hi w)) hk
theorem run_bytes_str {P : Program} {W w : World} {I : PH} {R : List Res} {l : List UInt8} (hs : P.underlying t = some (.slice el)) (he : P.underlying el = some (.int .u8)) (hd : P.underlying u = some .string) (hst : St W I R w)
  (hA : l ≠ [] → A.isSome = true) (hr : ∀ j v,(l.map byteV)[j]? = some v → Rd W I R ((ad A).add j) v) : (convert t u (.slice A l.length c)).run P w = .ok (strV l) w:=by
 by_cases hl : l = []
 ·subst hl
  cases A with
  | none =>
   have h0:=run_convert_bytes_string (P:=P) w t u el none 0 c hs he hd
   rw [show ([] : List UInt8).length = 0 from rfl,h0]
   simp [Conv.bytesToString]; rfl
  | some a => exact run_convert_bytes_back w t u el a c [] hs he hd (fun j hj => absurd hj (Nat.not_lt_zero _))
 ·cases A with
  | none => exact absurd (hA hl) (by simp)
  | some a => exact run_convert_bytes_back w t u el a c l hs he hd (fun j hj => hr j _ (by simp [gEq hj]; rfl) w hst)
theorem Nx.bytes_str {l : List UInt8} (hx : evo e x = some (.slice A l.length c)) (hs : C.P.underlying t = some (.slice el)) (he : C.P.underlying el = some (.int .u8)) (hd : C.P.underlying u = some .string) (hlt : Nat.blt d C.n = true)
  (hA : l ≠ [] → A.isSome = true) (hr : ∀ j v,(l.map byteV)[j]? = some v → Rd C.W I R ((ad A).add j) v) (hk : Nx C ((d,strV l) :: e) I R K) : Nx C e I R (opK C.P ⟨some d,.convert t u x,ty,pos,after,g⟩ K Q) :=
 Nx.op_run rfl hlt (fun a w ha hw => by
  simp only [execOp,ha.eval hx]
  exact run_v (run_bytes_str hs he hd hw hA hr)) hk
theorem Nx.vec_str (k : Nat) {l : List UInt8} (hx : evo e x = some (.slice A n c)) (hn : n = l.length) (hs : C.P.underlying t = some (.slice el)) (he : C.P.underlying el = some (.int .u8)) (hd : C.P.underlying u = some .string) (hlt : Nat.blt d C.n = true)
  (hk : nthL R k = some (Vec el 1 A n c (l.map byteV))) (h : Nx C ((d,strV l) :: e) I R K) : Nx C e I R (opK C.P ⟨some d,.convert t u x,ty,pos,after,g⟩ K Q):=by
 intro a w ha hw
 have hA : l ≠ [] → A.isSome = true:=fun hl => by
  obtain ⟨⟨m,hm,hs⟩,hst⟩:=id hw
  obtain ⟨m',hle,hv⟩:=Stars.get k hm hk
  rcases hv.2 with ⟨_,h0,_⟩ | ⟨b,cur,rfl,_⟩
  ·exact absurd (List.eq_nil_of_length_eq_zero (hn.symm.trans h0)) hl
  ·rfl
 subst hn
 exact Nx.bytes_str hx hs he hd hlt hA (fun j v hj => Rd.ent (Ent.pull k R _ (nthL_eq.symm.trans hk)) (Rd.vec hj)) h a w ha hw
def BlkZ (b : Nat) (t : TypeId) (cs : List Value) : Res:=fun m => ∃ fz rest,m b = some (.cells (cs ++ rest).toArray t fz)
theorem BlkZ.sliceOf {α : Type} {f : α → Value} {b : Nat} {m I' : PH} {l : List α} {cap : Nat} (hm : PH.le m I') (h : BlkZ b t (l.map f) m) (hc : l.length ≤ cap) (hl : cap ≤ maxLen) : SliceOf f I' (some ⟨b,0,none⟩) cap l:=by
 obtain ⟨fz,rest,hb⟩:=h
 refine ⟨fun j u hj => ⟨rfl,?_⟩,hc,hl⟩
 have hlt:=(List.getElem?_eq_some_iff.1 hj).1
 rw [ad_some,Addr.add_lit,Nat.zero_add]
 simp only [cellH,hm _ _ hb,Option.isSome_none,Bool.false_eq_true,if_false]
 rw [List.getElem?_toArray,List.getElem?_append_left hlt]
 exact hj
theorem Nx.str_bytes {l : List UInt8} (hx : evo e x = some (strV l)) (hs : C.P.underlying t = some .string) (hd : C.P.underlying u = some (.slice el)) (he : C.P.underlying el = some (.int .u8)) (hlt : Nat.blt d C.n = true) (hl : l.length ≤ 34359738368)
  (h : ∀ b cap,l.length ≤ cap → cap ≤ maxLen → Nx C ((d,.slice (some ⟨b,0,none⟩) l.length cap) :: e) I (BlkZ b el (l.map byteV) :: R) K) : Nx C e I R (opK C.P ⟨some d,.convert t u x,ty,pos,after,g⟩ K Q):=by
 intro a w ha hw
 have hsz : (ByteArray.mk l.toArray).size = l.length:=by simp [ByteArray.size]
 have hr:=run_bytes_of_string (P:=C.P) w t u el ⟨l.toArray⟩ hs hd he
 rw [hsz] at hr
 unfold opK Oper.wp
 have hrun : (execOp a.eval ⟨some d,.convert t u x,ty,pos,after,g⟩).run C.P w = .ok (.value (.slice (some ⟨w.heap.size,0,none⟩) l.length (grownCap w l.length 0 el))) (w.drew.alloc (.cells (bytesRow ⟨l.toArray⟩ (grownCap w l.length 0 el)) el ((bytesRow ⟨l.toArray⟩ (grownCap w l.length 0 el)).size,(bytesRow ⟨l.toArray⟩ (grownCap w l.length 0 el)).size + 1))):=by
  simp only [execOp,ha.eval hx]
  exact run_v hr
 rw [hrun]
 refine h w.heap.size (grownCap w l.length 0 el) (grownCap_ge w _ _ _) (grownCap_le_maxLen w _ _ _ (by unfold maxLen; omega)) _ _ (ha.put hlt _) ?_
 have h1:=(St.drew hw).alloc (.cells (bytesRow ⟨l.toArray⟩ (grownCap w l.length 0 el)) el ((bytesRow ⟨l.toArray⟩ (grownCap w l.length 0 el)).size,(bytesRow ⟨l.toArray⟩ (grownCap w l.length 0 el)).size + 1))
 have : bytesRow ⟨l.toArray⟩ (grownCap w l.length 0 el) = (l.map byteV ++ List.replicate (grownCap w l.length 0 el - l.length) (Value.int .u8 0)).toArray:=by
  unfold bytesRow
  rw [hsz]
  apply Array.ext'
  simp [byteV]
 refine h1.ent (Ent.head fun m hm => ⟨((bytesRow ⟨l.toArray⟩ (grownCap w l.length 0 el)).size,(bytesRow ⟨l.toArray⟩ (grownCap w l.length 0 el)).size + 1),List.replicate (grownCap w l.length 0 el - l.length) (.int .u8 0),?_⟩)
 rw [← this]
 exact hm
section
variable {cd : Code}
theorem Nx.p_bool_t {b : Bool} (hk : ck cd = 4) (hc : evo e (ccnd cd) = some (.bool b)) (hp : b = true) (h : Nx C e I R ((cl cd).wp C.P Q)) : Nx C e I R (cd.wp C.P Q):=Nx.p_bool hk hc (fun _ => h) (fun hn => by rw [hp] at hn; cases hn)
end
theorem strV_eq {a b : List UInt8} : (ByteArray.mk a.toArray == ByteArray.mk b.toArray) = decide (a = b):=by
 rw [Bool.eq_iff_iff,MapKept.bytes_beq,decide_eq_true_eq]
 exact ⟨fun he => by have:=congrArg (fun x : ByteArray => x.data.toList) he; simpa using this,fun h => by rw [h]⟩
theorem KeyEnc.str {P : Program} {kt : TypeId} (h : P.underlying kt = some .string) : KeyEnc P kt strV:=by
 refine ⟨⟨_,h,fun a b => ?_⟩,fun em a w => ?_,fun a => by show (ByteArray.mk a.toArray == ByteArray.mk a.toArray) = true; rw [strV_eq]; simp⟩
 ·show some (ByteArray.mk a.toArray == ByteArray.mk b.toArray) = _
  rw [strV_eq]
 ·unfold Instr.checkKey
  rw [Sem.run_bind,run_underlying h,Result.andThen_ok]
  rfl
def strLt (a b : List UInt8) : Bool:=Op.bytesLess a b
section
variable {P : Program} {a b : List UInt8}
theorem run_eql_c (w : World) : (do eqGuard .eql t x y (strV a) (.string ⟨b.toArray⟩); binOp .eql t (strV a) (.string ⟨b.toArray⟩)).run P w = .ok (.bool (a == b)) w:=run_streq w
end
end Go.Eng
namespace Go.Eng
def isSq (c : Code) (id : Nat) : Bool:=Nat.beq (ck c) 3 && Nat.beq (ck (cl c)) 3 && (Nat.beq (ck (cl (cl c))) 1 || Nat.beq (ck (cl (cl c))) 2) && Nat.beq (cid (cl (cl c))) id
theorem Nx.p_stops {C : Cx} {e : Env} {I : PH} {R : List Res} {Q : Exit → Act → World → Prop} {c : Code} (id : Nat) (hi : isSq c id = true) (h : Nx C e I R (Stop (c.wp C.P Q))) : Nx C e I R (c.wp C.P Q):=have _:=hi; h
theorem Ent.unstars {B R : List Res} : Ent (Stars B :: R) (B ++ R):=by
 rintro m ⟨m1,m2,hd,rfl,h1,h2⟩
 obtain ⟨k,hk,hkS⟩:=Stars.join hd h1 h2
 exact ⟨k,hk,hkS⟩
theorem Ent.stars {B R : List Res} : Ent (B ++ R) (Stars B :: R):=by
 intro m hm
 obtain ⟨m1,m2,hd,rfl,h1,h2⟩:=Stars.append hm
 exact ⟨_,PH.le_refl _,m1,m2,hd,rfl,h1,h2⟩
theorem Ent.push : ∀ (k : Nat) (R : List Res) (r : Res),R[k]? = some r → Ent (r :: R.eraseIdx k) R
 | 0,r' :: R,r,h => by simp at h; subst h; exact Ent.refl _
 | k + 1,r' :: R,r,h => (Ent.swap _ _ _).trans (Ent.pick 0 rfl (Ent.push k R r (by simpa using h)))
 | k,[],r,h => by simp at h
theorem Ent.takeOut (k : Nat) {B R : List Res} {r : Res} (h : B[k]? = some r) : Ent (Stars B :: R) (r :: Stars (B.eraseIdx k) :: R):=by
 have hk:=(List.getElem?_eq_some_iff.1 h).1
 refine Ent.unstars.trans ((Ent.pull k (B ++ R) r (by rw [List.getElem?_append_left hk]; exact h)).trans ?_)
 rw [List.eraseIdx_append_of_lt_length hk]
 exact Ent.pick 0 rfl Ent.stars
theorem Ent.putIn (k : Nat) {B R : List Res} {r : Res} (hk : k < B.length) : Ent (r :: Stars (B.eraseIdx k) :: R) (Stars (B.set k r) :: R):=by
 have e : (B.set k r).eraseIdx k = B.eraseIdx k:=List.eraseIdx_set_eq
 have hk2 : k < (B.set k r).length:=by rw [List.length_set]; exact hk
 have h1 : Ent (r :: Stars (B.eraseIdx k) :: R) (r :: (B.eraseIdx k ++ R)):=Ent.pick 0 rfl Ent.unstars
 refine h1.trans (Ent.trans ?_ Ent.stars)
 rw [← e,← List.eraseIdx_append_of_lt_length hk2]
 exact Ent.push k _ r (by rw [List.getElem?_append_left hk2,List.getElem?_set_self hk])
section
variable {C : Cx} {e : Env} {I : PH} {R : List Res} {K : Act → World → Prop} {Q : Exit → Act → World → Prop} {S : World → Prop} {d : Nat} {dst : Option Tmp} {ty t u : TypeId} {pos : String} {after : Array Edge} {g : Option (Nat × Bool)} {x y : Operand} {a b : List UInt8}
theorem QRun.fld {k o : Nat} {A : Addr} (hx : evo e x = some (.pointer (some A))) (ho : fieldOff C.P t k = some o) : QRun C e S ⟨dst,.fieldAddr t x k,ty,pos,after,g⟩ (.pointer (some (A.add o))):=fun a w ha _ => by
 simp only [execOp,ha.eval hx]
 exact run_v (fieldOff_run ho A w)
end
theorem flat_len {α : Type} {f : α → List Value} {sz : Nat} (hf : ∀ x,(f x).length = sz) (l : List α) : (l.flatMap f).length = l.length * sz:=by
 induction l with
 | nil => simp
 | cons x l ih => rw [List.flatMap_cons,lAp,ih,hf,List.length_cons,Nat.succ_mul]; omega
section
variable {α : Type} [Inhabited α] {f : α → List Value} {sz : Nat}
theorem flat_set (hf : ∀ x,(f x).length = sz) : ∀ {l : List α} {k j : Nat} {v : Value} {x' : α},k < l.length → j < sz → f x' = (f (l.getD k default)).set j v → (l.flatMap f).set (k * sz + j) v = (l.set k x').flatMap f
 | [],k,j,v,x',h,_,_ => by simp at h
 | x :: l,0,j,v,x',h,hj,he => by
  rw [List.flatMap_cons,List.set_cons_zero,List.flatMap_cons,Nat.zero_mul,Nat.zero_add,List.set_append_left _ _ (by rw [hf]; exact hj),he]
  rfl
 | x :: l,k + 1,j,v,x',h,hj,he => by
  rw [List.getD_cons_succ] at he
  have e : (k + 1) * sz + j - sz = k * sz + j:=by rw [Nat.succ_mul]; omega
  rw [List.flatMap_cons,List.set_cons_succ,List.flatMap_cons,List.set_append_right _ _ (by rw [hf,Nat.succ_mul]; omega),hf,e,flat_set hf (by simpa using h) hj he]
theorem Rds.vecN {W : World} {I : PH} {R : List Res} {t : TypeId} {A : Option Addr} {n c : Nat} {l : List α} (k : Nat) {i : Nat} (hf : ∀ x,(f x).length = sz) (hk : nthL R k = some (Vec t sz A n c (l.flatMap f))) (hi : i < l.length) : Rds W I R ((ad A).add (i * sz)) (f (l.getD i default)):=by
 intro j u hj
 have hfl:=flatMap_at (f:=f) (sz:=sz) (fun x _ => hf x) hi
 have hjl : j < sz:=by have:=(List.getElem?_eq_some_iff.1 hj).1; rw [hf] at this; exact this
 rw [← hfl,List.getElem?_take,if_pos hjl,List.getElem?_drop] at hj
 rw [Addr.add_add]
 exact Rd.vecAt k hk (by rw [nthL_eq]; exact hj)
theorem SliceN.fld {c k : Nat} {l : List α} {I : PH} {R : List Res} {W : World} {A : Option Addr} {v : Value} (h : SliceN f sz I A c l) (hk : k < l.length) (j : Nat) (hj : nthL (f (l.getD k default)) j = some v) : Rd W I R (((ad A).add (k * sz)).add j) v :=
 h.rds hk j v (nthL_eq.symm.trans hj)
end
end Go.Eng
namespace Go.Eng
section
variable {C : Cx} {e : Env} {S : World → Prop} {ty t u : TypeId} {pos : String} {after : Array Edge} {g : Option (Nat × Bool)} {x : Operand} {dst : Option Tmp}
theorem QRun.un {op : UnOp} {vx v : Value} (hx : evo e x = some vx) (hv : pureRun C.P (Op.unary op vx) = some v) : QRun C e S ⟨dst,.unOp op t x,ty,pos,after,g⟩ v :=
 fun a w ha _ => by simp only [execOp,ha.eval hx]; exact run_v (run_of_pureRun hv w)
theorem QRun.neg {p : Int} (hx : evo e x = some (.int .i64 p)) (hr : I64 (-p)) : QRun C e S ⟨dst,.unOp .neg t x,ty,pos,after,g⟩ (.int .i64 (-p)) :=
 QRun.un hx (by rw [← wrap_i64 hr,← Int.zero_sub]; rfl)
theorem Nx.unstop {I : PH} {R : List Res} {K : Act → World → Prop} (h : Nx C e I R K) : Nx C e I R (Stop K):=h
end
end Go.Eng
namespace Go.Eng
def NoG (Q : Exit → Act → World → Prop) : Prop:=∀ l a w,¬ Q (.goto l) a w
theorem NoG.fn {P : Program} {fn : Func} {I : PH} {F : Res} {W : World} {Post : Value → List Res → Prop} : NoG (fnPost P fn I F W Post):=fun _ _ _ h => h
section
variable {C : Cx} {e : Env} {I : PH} {R : List Res} {Q : Exit → Act → World → Prop} {c : Code}
theorem Nx.p_scope (hk : ck c = 10) (hg : NoG Q) (h : Nx C e I R ((cl c).wp C.P Q)) : Nx C e I R (c.wp C.P Q):=by
 have key : ∀ d : Code,Nx C e I R (d.wp C.P Q) → Nx C e I R ((Code.scope d).wp C.P Q):=fun d hd a w ha hw => wp_scope_straight (wp_mono (hd a w ha hw) fun ex a1 w1 hq => by
  cases ex <;> first | exact hq | exact absurd hq (hg _ _ _))
 cases c <;> first | exact key _ h | (simp [ck] at hk; done) | (rename_i d; cases d <;> simp [ck] at hk)
end
end Go.Eng
namespace Go.Eng
def FnSpecP (P : Program) (f : FuncId) (args : List Value) (I : PH) (Rpre : List Res) (Post : Value → List Res → Prop) (Pan : List PanicEntry → List Res → Prop) : Prop :=
 ∀ (w : World) (F : Res),St w I (Rpre ++ [F]) w → Calls P f args.toArray w fun e w' => (∃ v R',e = .returned v ∧ Post v R' ∧ St w I (R' ++ [F]) w') ∨ (∃ ch R',e = .panicked ch ∧ Pan ch R' ∧ St w I (R' ++ [F]) w')
def fnPostP (P : Program) (fn : Func) (I : PH) (F : Res) (W : World) (Post : Value → List Res → Prop) (Pan : List PanicEntry → List Res → Prop) : Exit → Act → World → Prop :=
 bodyPost P fn fun e w' => (∃ v R',e = .returned v ∧ Post v R' ∧ St W I (R' ++ [F]) w') ∨ (∃ ch R',e = .panicked ch ∧ Pan ch R' ∧ St W I (R' ++ [F]) w')
theorem FnSpecP.enterP {P : Program} {f : FuncId} {fn : Func} {args : List Value} {I : PH} {Rpre : List Res} {Post : Value → List Res → Prop} {Pan : List PanicEntry → List Res → Prop} {n : Nat}
  (hf : P.funcs[f]? = some fn) (hb : fn.body.isSome = true) (hn : fn.ntmps = n) (hle : Nat.ble args.length n = true)
  (h : ∀ w F,Nx ⟨P,n,w⟩ (argEnv args 0) I (Rpre ++ [F]) ((bodyOf fn).wp P (fnPostP P fn I F w Post Pan))) : FnSpecP P f args I Rpre Post Pan:=by
 obtain ⟨c,hc⟩:=Option.isSome_iff_exists.1 hb
 have : bodyOf fn = c:=by unfold bodyOf; rw [hc]
 rw [this] at h
 intro w F hw
 have hle:=Nat.le_of_ble_eq_true hle
 refine calls_of_wp hf hc (h w F _ w ⟨?_,rfl,fun t v ht => ?_⟩ hw)
 ·simp [hn]; omega
 ·obtain ⟨_,h2⟩:=argEnv_lk args 0 t v ht
  have hlt : t < args.length:=by
   rcases Nat.lt_or_ge t args.length with h' | h'
   ·exact h'
   ·rw [Nat.sub_zero,List.getElem?_eq_none h'] at h2; cases h2
  rw [Array.getElem?_append_left (by simpa using hlt)]
  simpa using h2
theorem PanicOk.fnP {P : Program} {fn : Func} {I : PH} {F : Res} {W : World} {Post : Value → List Res → Prop} {Pan : List PanicEntry → List Res → Prop} : PanicOk (fnPostP P fn I F W Post Pan):=by
 intro c d v a w h
 have hd : (Act.put a d v).defers = a.defers:=by cases d <;> rfl
 obtain ⟨h1,h2⟩:=h
 exact ⟨hd ▸ h1,h2⟩
section
variable {C : Cx} {e : Env} {I : PH} {R : List Res} {K : Act → World → Prop} {Q : Exit → Act → World → Prop}
variable {d : Nat} {ty : TypeId} {pos : String} {after : Array Edge} {g : Option (Nat × Bool)} {x : Operand} {dst : Option Tmp}
theorem Nx.ret_fnP {fn : Func} {F : Res} {Post : Value → List Res → Prop} {Pan : List PanicEntry → List Res → Prop} {v : Value} (hv : resV e fn.results.toList = some v) (R' : List Res) (hp : Post v R') (hR : Ent R (R' ++ [F])) : Nx C e I R (fnPostP C.P fn I F C.W Post Pan .ret) :=
 fun _ _ ha hw => ⟨ha.defers,v,resV_run ha hv,.inl ⟨v,R',rfl,hp,hw.ent hR⟩⟩
theorem Nx.end_fnP {fn : Func} {F : Res} {Post : Value → List Res → Prop} {Pan : List PanicEntry → List Res → Prop} {v : Value} (hv : resV e fn.results.toList = some v) (R' : List Res) (hp : Post v R') (hR : Ent R (R' ++ [F])) : Nx C e I R (fnPostP C.P fn I F C.W Post Pan .normal) :=
 fun _ _ ha hw => ⟨ha.defers,v,resV_run ha hv,.inl ⟨v,R',rfl,hp,hw.ent hR⟩⟩
theorem Nx.pan_fnP {fn : Func} {F : Res} {Post : Value → List Res → Prop} {Pan : List PanicEntry → List Res → Prop} {ch : List PanicEntry} (R' : List Res) (hp : Pan ch R') (hR : Ent R (R' ++ [F])) : Nx C e I R (fnPostP C.P fn I F C.W Post Pan (.panic ch)) :=
 fun _ _ ha hw => ⟨ha.defers,.inr ⟨ch,R',rfl,hp,hw.ent hR⟩⟩
theorem Nx.then_panic {ch : List PanicEntry} (h : Nx C e I R (Q (.panic ch))) : Nx C e I R (Exit.then K Q (.panic ch)):=h
theorem Nx.in_panic {ch : List PanicEntry} {id : Nat} (h : Nx C e I R (Q (.panic ch))) : Nx C e I R (Exit.inBlock id Q (.panic ch)):=h
theorem Nx.panic_ {t : TypeId} {v : Value} (hx : evo e x = some (.iface t v)) (h : Nx C e I R (Q (.panic [{ v:=.iface t v,recovered:=false }]))) : Nx C e I R (opK C.P ⟨dst,.panic x,ty,pos,after,g⟩ K Q):=by
 intro a w ha hw
 unfold opK Oper.wp
 have hr : (execOp a.eval ⟨dst,.panic x,ty,pos,after,g⟩).run C.P w = .halt (.panic (.iface t v)) w:=by
  simp only [execOp,ha.eval hx]
  rfl
 rw [hr]
 exact h a w ha hw
end
def L (ds : List Deferred) (K : Act → World → Prop) : Act → World → Prop:=fun a w => K { a with defers:=ds } w
def LQ (ds : List Deferred) (Q : Exit → Act → World → Prop) : Exit → Act → World → Prop:=fun ex a w => Q ex { a with defers:=ds } w
def plainOp (o : Oper) : Bool:=match o.op with
 | .move _ | .assign _ | .alloc _ | .build .. | .buildSlice .. | .load .. | .store .. | .unOp .. | .convert .. | .makeInterface .. | .makeFunc .. | .fieldAddr .. | .indexAddr .. | .extract .. => true
 | _ => false
theorem run_v_kind {s : Sem Value} {P : Program} {w w' : World} {n : Next} (h : Sem.run P (do pure (Next.value (← s))) w = .ok n w') : ∃ v,n = .value v:=by
 rw [Sem.run_bind] at h
 cases hs : s.run P w with
 | ok v w1 => rw [hs] at h; cases h; exact ⟨v,rfl⟩
 | halt r w1 => rw [hs] at h; cases h
theorem run_u_kind {s : Sem Unit} {P : Program} {w w' : World} {n : Next} (h : Sem.run P (do s; pure Next.skip) w = .ok n w') : n = .skip:=by
 rw [Sem.run_bind] at h
 cases hs : s.run P w with
 | ok v w1 => rw [hs] at h; cases h; rfl
 | halt r w1 => rw [hs] at h; cases h
theorem plain_run {o : Oper} (hp : plainOp o = true) {ρ : Operand → Value} {P : Program} {w w' : World} {n : Next} (h : (execOp ρ o).run P w = .ok n w') : (∃ v,n = .value v) ∨ n = .skip:=by
 obtain ⟨dst,op,ty,pos,after,g⟩:=o
 cases op <;> simp only [plainOp,Bool.false_eq_true] at hp <;> first
  | exact False.elim hp
  | exact .inl (run_v_kind h)
  | exact .inr (run_u_kind h)
  | (cases h; exact .inl ⟨_,rfl⟩)
section
variable {C : Cx} {e : Env} {I : PH} {R : List Res} {K : Act → World → Prop} {Q : Exit → Act → World → Prop} {ds : List Deferred} {ops : Array Oper} {i : Nat} {o : Oper} {c : Code}
theorem NxL.at_op (ho : opAt ops.toList i = some o) (hg : o.guard = none) (h : Nx C e I R (L ds (opK C.P o (wpAt C.P ops Q (i + 1)) Q))) : Nx C e I R (L ds (wpAt C.P ops Q i)):=by
 intro a w ha hw
 have h1:=h a w ha hw
 unfold L wpAt at *
 rw [drop_of (opAt_arr ho)]
 unfold wpList
 rw [if_pos (by simp [Region.wanted,hg])]
 exact .inl h1
theorem NxL.at_end (ho : opAt ops.toList i = none) (h : Nx C e I R (L ds (Q .normal))) : Nx C e I R (L ds (wpAt C.P ops Q i)):=by
 intro a w ha hw
 have h1:=h a w ha hw
 unfold L wpAt at *
 rw [List.drop_eq_nil_of_le (by have:=Array.getElem?_eq_none_iff.1 (opAt_arr ho); simpa using this)]
 exact h1
theorem NxL.p_region (hk : ck c = 1) (h : Nx C e I R (L ds (wpAt C.P (cops c) Q 0))) : Nx C e I R (L ds (c.wp C.P Q)):=by
 cases c <;> first | (simp [ck] at hk; done) | skip
 rename_i id ops d
 cases d with
 | true => simp [ck] at hk
 | false =>
  intro a w ha hw
  have h1:=h a w ha hw
  unfold L wpAt at h1
  rw [List.drop_zero] at h1
  exact wp_region_list h1
theorem NxL.p_seq (hk : ck c = 3) (h : Nx C e I R (L ds ((cl c).wp C.P (Exit.then ((cr c).wp C.P Q) Q)))) : Nx C e I R (L ds (c.wp C.P Q)):=by
 cases c <;> first | exact fun a w ha hw => wp_seq (h a w ha hw) | (simp [ck] at hk; done) | (rename_i d; cases d <;> simp [ck] at hk)
theorem NxL.then_normal (h : Nx C e I R (L ds K)) : Nx C e I R (L ds (Exit.then K Q .normal)):=h
theorem put_defers (a : Act) (dst : Option Tmp) (v : Value) : { a.put dst v with defers:=ds } = ({ a with defers:=ds } : Act).put dst v:=by cases dst <;> rfl
theorem NxL.op (hp : plainOp o = true) (h : Nx C e I R (opK C.P o (L ds K) (LQ ds Q))) : Nx C e I R (L ds (opK C.P o K Q)):=by
 intro a w ha hw
 have h1:=h a w ha hw
 unfold L
 unfold opK Oper.wp at h1 ⊢
 have he : ({ a with defers:=ds } : Act).eval = a.eval:=rfl
 rw [he]
 cases hr : (execOp a.eval o).run C.P w with
 | ok n w' =>
  rw [hr] at h1
  rcases plain_run hp hr with ⟨v,rfl⟩ | rfl
  ·show K _ _
   have h2 : K { a.put o.dst v with defers:=ds } w':=h1
   rw [put_defers] at h2
   exact h2
  ·show K _ _
   have h2 : K { a.put o.dst undef with defers:=ds } w':=h1
   rw [put_defers] at h2
   exact h2
 | halt s w' =>
  rw [hr] at h1
  cases s <;> first | exact h1 | exact h1.elim
variable {d : Nat} {ty : TypeId} {pos : String} {after : Array Edge} {g : Option (Nat × Bool)}
theorem Nx.defer_ {fx : Operand} {args : Array Operand} {tys : Array TypeId} {f : FuncId} {c1 c2 : Array Value} {vs : List Value} (hfx : evo e fx = some (.func (.func f) c1 c2)) (hvs : evs e args.toList = some vs)
  (h : Nx C e I R (L [{ target:=.fn (.func f) c2,args:=c1 ++ vs.toArray }] K)) : Nx C e I R (opK C.P ⟨none,.defer { callee:=.value fx,args,argTypes:=tys },ty,pos,after,g⟩ K Q):=by
 intro a w ha hw
 unfold opK Oper.wp
 have e1 : args.map a.eval = vs.toArray:=by
  apply Array.ext'
  rw [Array.toList_map]
  exact ha.evals hvs
 have hr : (execOp a.eval ⟨none,.defer { callee:=.value fx,args,argTypes:=tys },ty,pos,after,g⟩).run C.P w = .ok (.defer { target:=.fn (.func f) c2,args:=c1 ++ vs.toArray }) w:=by
  simp only [execOp,resolve,ha.eval hfx,Deferred.ofValue,e1]
  rfl
 rw [hr]
 have hd:=ha.defers
 show K ({ a with defers:=_ :: a.defers } : Act) w
 rw [hd]
 exact h a w ha hw
def fnPostD (P : Program) (fn : Func) (I : PH) (F : Res) (W : World) (Post : Value → List Res → Prop) : Exit → Act → World → Prop :=
 bodyPostD P fn fun e w' => ∃ v R',e = .returned v ∧ Post v R' ∧ St W I (R' ++ [F]) w'
theorem FnSpec.enterD {P : Program} {f : FuncId} {fn : Func} {args : List Value} {I : PH} {Rpre : List Res} {Post : Value → List Res → Prop} {n : Nat}
  (hf : P.funcs[f]? = some fn) (hb : fn.body.isSome = true) (hn : fn.ntmps = n) (hle : Nat.ble args.length n = true)
  (h : ∀ w F,Nx ⟨P,n,w⟩ (argEnv args 0) I (Rpre ++ [F]) ((bodyOf fn).wp P (fnPostD P fn I F w Post))) : FnSpec P f args I Rpre Post:=by
 obtain ⟨c,hc⟩:=Option.isSome_iff_exists.1 hb
 have : bodyOf fn = c:=by unfold bodyOf; rw [hc]
 rw [this] at h
 intro w F hw
 have hle:=Nat.le_of_ble_eq_true hle
 refine calls_of_wp_defers hf hc (h w F _ w ⟨?_,rfl,fun t v ht => ?_⟩ hw)
 ·simp [hn]; omega
 ·obtain ⟨_,h2⟩:=argEnv_lk args 0 t v ht
  have hlt : t < args.length:=by
   rcases Nat.lt_or_ge t args.length with h' | h'
   ·exact h'
   ·rw [Nat.sub_zero,List.getElem?_eq_none h'] at h2; cases h2
  rw [Array.getElem?_append_left (by simpa using hlt)]
  simpa using h2
theorem NxL.ret_D {fn : Func} {F : Res} {Post : Value → List Res → Prop} {v : Value} {q : FuncId} {cap dargs : Array Value} {al : List Value} (hv : resV e fn.results.toList = some v) (hal : dargs.toList ++ cap.toList = al) (hc : callable C.P q = true)
  (hd : ∀ w,CallsD C.P q al.toArray .returning w fun en u' w' => (∃ z,en = .returned z) ∧ u' = .returning ∧ w' = w) (R' : List Res) (hp : Post v R') (hR : Ent R (R' ++ [F])) : Nx C e I R (L [{ target:=.fn (.func q) cap,args:=dargs }] (fnPostD C.P fn I F C.W Post .ret)):=by
 intro a w ha hw
 have e1 : dargs ++ cap = al.toArray:=by rw [← hal]; apply Array.ext'; simp
 refine leaves_cons (f:=q) (args:=al.toArray) (by simp) (by show (callFunc q (dargs ++ cap)).run C.P w = _; rw [e1]; exact run_callFunc hc _ w) ?_
 refine (hd w).mono ?_
 rintro en u' w' ⟨⟨z,rfl⟩,rfl,rfl⟩
 exact ⟨v,resV_run ha hv,v,R',rfl,hp,hw.ent hR⟩
end
end Go.Eng
namespace Go.Proofs.YtpcnapidlhpbkaaGreatDoor
open Go.Eng Go.Sol
attribute [local irreducible] opK wpList Code.wp Exit.then Exit.inBlock fnPost bodyPost Nx Calls Oper.wp Rd Rds Wr Ent Stars Blk Again Vec FnSpec wpMix QRun Stop Upto wpAt
abbrev iR (A : Option Addr) (c : Nat) (l : List Int) : Res:=Vec 3 1 A l.length c (l.map (Value.int .i64))
abbrev PT : TypeId:=176
structure Pl where
 b : Nat
 tv : Value
 iv : Value
 Ar : Option Addr
 cr : Nat
 Ao : Option Addr
 co : Nat
 At : Option Addr
 ct : Nat
def Pl.blk (p : Pl) (n k : Nat) : Res:=Blk p.b PT [p.tv,p.iv,.slice p.Ar k p.cr,.slice p.Ao k p.co,.slice p.At n p.ct]
def inL (l : List Eqn) (c : Nat) : List Int:=((List.range l.length).filter fun i => decide (c ∈ (l.getD i default).1)).map Int.ofNat
structure InI (I : PH) (p : Pl) (n : Nat) (l : List Eqn) : Prop where
 ex : ∃ (Ai : Option Addr) (ci : Nat) (ins : List Row),p.iv = .slice Ai n ci ∧ ins.length = n ∧ SliceOf rowV I Ai ci ins ∧ (∀ r ∈ ins,Ints I r.1 r.2.1 r.2.2) ∧ ∀ c,c < n → (ins.getD c default).2.2 = inL l c
theorem InI.mono {I I' : PH} {p : Pl} {n : Nat} {l : List Eqn} (hle : PH.le I I') (h : InI I p n l) : InI I' p n l:=by
 obtain ⟨Ai,ci,ins,h1,h2,h3,h4,h5⟩:=h.ex
 exact ⟨Ai,ci,ins,h1,h2,h3.mono hle,fun r hr => (h4 r hr).mono hle,h5⟩
theorem inL_at {l : List Eqn} {c k : Nat} (hk : k < (inL l c).length) : ∃ i : Nat,(inL l c).getD k default = (i : Int) ∧ i < l.length ∧ c ∈ (l.getD i default).1:=by
 have hm : (inL l c).getD k default ∈ inL l c:=by rw [gEl,gEq hk]; exact List.getElem_mem _
 generalize (inL l c).getD k default = z at hm
 unfold inL at hm
 obtain ⟨i,hi,rfl⟩:=List.mem_map.1 hm
 obtain ⟨h1,h2⟩:=List.mem_filter.1 hi
 exact ⟨i,rfl,List.mem_range.1 h1,of_decide_eq_true h2⟩
theorem mem_inL {l : List Eqn} {c i : Nat} : (i : Int) ∈ inL l c ↔ i < l.length ∧ c ∈ (l.getD i default).1:=by
 unfold inL
 rw [List.mem_map]
 constructor
 ·rintro ⟨j,hj,he⟩
  obtain rfl : j = i:=Int.ofNat.inj he
  obtain ⟨h1,h2⟩:=List.mem_filter.1 hj
  exact ⟨List.mem_range.1 h1,of_decide_eq_true h2⟩
 ·rintro ⟨h1,h2⟩
  exact ⟨i,List.mem_filter.2 ⟨List.mem_range.2 h1,decide_eq_true h2⟩,rfl⟩
theorem inL_nd (l : List Eqn) (c : Nat) : (inL l c).Nodup:=by
 unfold inL
 exact List.Pairwise.map Int.ofNat (fun a b h e => h (Int.ofNat.inj e)) (List.nodup_range.filter _)
theorem inL_len (l : List Eqn) (c : Nat) : (inL l c).length ≤ l.length:=by
 unfold inL
 rw [lMp]
 exact Nat.le_trans (List.length_filter_le _ _) (by simp)
def restL (l : List Eqn) (t : List Int) : List Int:=l.map (restQ t)
def openL (l : List Eqn) (U : List Nat) : List Int:=l.map fun q => (openQ U q : Int)
theorem restL_len (l : List Eqn) (t : List Int) : (restL l t).length = l.length:=lMp _
theorem openL_len (l : List Eqn) (U : List Nat) : (openL l U).length = l.length:=lMp _
theorem restL_at {l : List Eqn} {t : List Int} {i : Nat} (hi : i < l.length) : (restL l t).getD i default = restQ t (l.getD i default):=by
 unfold restL
 rw [gEl,gMp,gEl,gEq hi]; rfl
theorem openL_at {l : List Eqn} {U : List Nat} {i : Nat} (hi : i < l.length) : (openL l U).getD i default = (openQ U (l.getD i default) : Int):=by
 unfold openL
 rw [gEl,gMp,gEl,gEq hi]; rfl
def lowK (rest opn ix : List Int) : Nat → Int
 | 0 => 0
 | k + 1 => if opn.getD (ix.getD k default).toNat default = 1 then max (lowK rest opn ix k) (rest.getD (ix.getD k default).toNat default) else lowK rest opn ix k
def highK (rest ix : List Int) : Nat → Int
 | 0 => 1000000
 | k + 1 => min (highK rest ix k) (rest.getD (ix.getD k default).toNat default)
theorem lowK_le {rest opn ix : List Int} {v : Int} : ∀ {k : Nat},lowK rest opn ix k ≤ v ↔ 0 ≤ v ∧ ∀ j,j < k → opn.getD (ix.getD j default).toNat default = 1 → rest.getD (ix.getD j default).toNat default ≤ v
 | 0 => by simp [lowK]
 | k + 1 => by
  unfold lowK
  have key : (∀ j,j < k + 1 → opn.getD (ix.getD j default).toNat default = 1 → rest.getD (ix.getD j default).toNat default ≤ v) ↔ (∀ j,j < k → opn.getD (ix.getD j default).toNat default = 1 → rest.getD (ix.getD j default).toNat default ≤ v) ∧ (opn.getD (ix.getD k default).toNat default = 1 → rest.getD (ix.getD k default).toNat default ≤ v) :=
   ⟨fun h => ⟨fun j hj => h j (by omega),h k (by omega)⟩,fun h j hj => by
    by_cases hjk : j = k
    ·rw [hjk]; exact h.2
    ·exact h.1 j (by omega)⟩
  rw [key]
  split
  ·rename_i h1
   rw [Int.max_le,lowK_le]
   exact ⟨fun ⟨⟨a,b⟩,c⟩ => ⟨a,b,fun _ => c⟩,fun ⟨a,b,c⟩ => ⟨⟨a,b⟩,c h1⟩⟩
  ·rename_i h1
   rw [lowK_le]
   exact ⟨fun ⟨a,b⟩ => ⟨a,b,fun h => absurd h h1⟩,fun ⟨a,b,_⟩ => ⟨a,b⟩⟩
theorem le_highK {rest ix : List Int} {v : Int} : ∀ {k : Nat},v ≤ highK rest ix k ↔ v ≤ 1000000 ∧ ∀ j,j < k → v ≤ rest.getD (ix.getD j default).toNat default
 | 0 => by simp [highK]
 | k + 1 => by
  unfold highK
  rw [Int.le_min,le_highK]
  constructor
  ·rintro ⟨⟨h1,h2⟩,h3⟩
   refine ⟨h1,fun j hj => ?_⟩
   by_cases hjk : j = k
   ·rw [hjk]; exact h3
   ·exact h2 j (by omega)
  ·rintro ⟨h1,h2⟩
   exact ⟨⟨h1,fun j hj => h2 j (by omega)⟩,h2 k (by omega)⟩
theorem all_in {l : List Eqn} {c : Nat} {Q : Eqn → Prop} : (∀ j,j < (inL l c).length → Q (l.getD ((inL l c).getD j default).toNat default)) ↔ ∀ q ∈ l,c ∈ q.1 → Q q:=by
 constructor
 ·intro h q hq hc
  obtain ⟨i,hi,rfl⟩:=List.mem_iff_getElem.1 hq
  have e : l.getD i default = l[i]:=by rw [gEl,gEq hi]; rfl
  obtain ⟨j,hj,he⟩:=List.mem_iff_getElem.1 (mem_inL.2 ⟨hi,by rw [e]; exact hc⟩)
  have:=h j hj
  rw [show (inL l c).getD j default = (i : Int) by rw [gEl,gEq hj]; exact he,nCt,e] at this
  exact this
 ·intro h j hj
  obtain ⟨i,he,hi,hc⟩:=inL_at hj
  rw [he,nCt]
  exact h _ (by rw [gEl,gEq hi]; exact List.getElem_mem _) hc
theorem lowK_all {l : List Eqn} {c : Nat} {t : List Int} {U : List Nat} : lowK (restL l t) (openL l U) (inL l c) (inL l c).length = lowF t U c l:=by
 have h : ∀ v,lowK (restL l t) (openL l U) (inL l c) (inL l c).length ≤ v ↔ lowF t U c l ≤ v:=fun v => by
  rw [lowK_le,lowF_le,← all_in (Q:=fun q => openQ U q = 1 → restQ t q ≤ v)]
  constructor
  ·rintro ⟨h1,h2⟩
   refine ⟨h1,fun j hj ho => ?_⟩
   obtain ⟨i,he,hi,_⟩:=inL_at hj
   have:=h2 j hj
   rw [he,nCt,restL_at hi,openL_at hi] at this
   rw [he,nCt] at ho ⊢
   exact this (by rw [ho]; rfl)
  ·rintro ⟨h1,h2⟩
   refine ⟨h1,fun j hj ho => ?_⟩
   obtain ⟨i,he,hi,_⟩:=inL_at hj
   have:=h2 j hj
   rw [he,nCt] at this ho ⊢
   rw [restL_at hi]
   rw [openL_at hi] at ho
   exact this (by omega)
 exact Int.le_antisymm ((h _).2 (Int.le_refl _)) ((h _).1 (Int.le_refl _))
theorem highK_all {l : List Eqn} {c : Nat} {t : List Int} : highK (restL l t) (inL l c) (inL l c).length = highF 1000000 t c l:=by
 have h : ∀ v,v ≤ highK (restL l t) (inL l c) (inL l c).length ↔ v ≤ highF 1000000 t c l:=fun v => by
  rw [le_highK,le_highF,← all_in (Q:=fun q => v ≤ restQ t q)]
  constructor
  ·rintro ⟨h1,h2⟩
   refine ⟨h1,fun j hj => ?_⟩
   obtain ⟨i,he,hi,_⟩:=inL_at hj
   have:=h2 j hj
   rw [he,nCt,restL_at hi] at this
   rw [he,nCt]
   exact this
  ·rintro ⟨h1,h2⟩
   refine ⟨h1,fun j hj => ?_⟩
   obtain ⟨i,he,hi,_⟩:=inL_at hj
   have:=h2 j hj
   rw [he,nCt] at this ⊢
   rw [restL_at hi]
   exact this
 exact Int.le_antisymm ((h _).1 (Int.le_refl _)) ((h _).2 (Int.le_refl _))
theorem span_spec (p : Pl) (n : Nat) (l : List Eqn) (rest opn t : List Int) (I : PH) (hin : InI I p n l) (c : Nat) (hc : c < n) (hr : rest.length = l.length) (ho : opn.length = l.length) (ht : t.length = n) (hl9 : l.length ≤ 100000) :
  FnSpec Tryz.prog 188 [.pointer (some ⟨p.b,0,none⟩),.int .i64 (c : Int)] I [p.blk n l.length,iR p.Ar p.cr rest,iR p.Ao p.co opn,iR p.At p.ct t]
   (fun v R' => v = .tuple #[.int .i64 (lowK rest opn (inL l c) (inL l c).length),.int .i64 (highK rest (inL l c) (inL l c).length)] ∧ R' = [p.blk n l.length,iR p.Ar p.cr rest,iR p.Ao p.co opn,iR p.At p.ct t]):=by
 obtain ⟨Ai,ci,ins,hiv,hil,hio,hir,hic⟩:=hin.ex
 have hinl:=hio.len
 have hrow:=hir _ (show ins.getD c default ∈ ins by rw [gEl,gEq (by omega)]; exact List.getElem_mem _)
 have hix:=hic c hc
 have hrd : ∀ (W : World) (R : List Res),Rd W I R ((ad Ai).add (c * 1)) (rowV (ins.getD c default)):=fun W R => hio.rd (by omega)
 generalize ins.getD c default = rw' at hrow hix hrd
 obtain ⟨Ax,cx,ix⟩:=rw'
 dsimp only at hrow hix
 replace hrd : ∀ (W : World) (R : List Res),Rd W I R ((ad Ai).add (c * 1)) (.slice Ax ix.length cx):=hrd
 have hixl:=hrow.len
 have hixb:=inL_len l c
 rw [← hix] at hixb ⊢
 refine FnSpec.enterP Tryz.func188 rfl Tryz.ntmps188 rfl fun w F => ?_
 unfold Pl.blk
 rw [hiv]
 repeat' first | refine kW ?_ | (refine Nx.zo ?_; first | refine kP ?_ | refine Nx.indexAddr_nat (A:=Ai) (i:=c) (sz:=1) rfl rfl rfl rfl rfl (by omega) (hio.isSome (by omega)) ?_ | refine Nx.load rfl rfl rfl (hrd _ _) ?_) | refine kS ?_ | refine kB fun bx => ?_ | refine kA fun A2 c2 => ?_ | refine kX (fun hc => ?_) fun hc => ?_ | fail
 refine Nx.ent (R':=[Vec 3 1 p.Ar l.length p.cr (rest.map (Value.int .i64)),Vec 3 1 p.Ao l.length p.co (opn.map (Value.int .i64)),Blk p.b PT [p.tv,.slice Ai n ci,.slice p.Ar l.length p.cr,.slice p.Ao l.length p.co,.slice p.At n p.ct],iR p.At p.ct t,F]) (by unfold iR; rw [hr,ho]; (exact zE)) ?_
 refine Nx.vec_fact fun hv1 hv2 hv3 hAr => ?_
 refine Nx.ent (R':=[Vec 3 1 p.Ao l.length p.co (opn.map (Value.int .i64)),Vec 3 1 p.Ar l.length p.cr (rest.map (Value.int .i64)),Blk p.b PT [p.tv,.slice Ai n ci,.slice p.Ar l.length p.cr,.slice p.Ao l.length p.co,.slice p.At n p.ct],iR p.At p.ct t,F]) (by exact zE) ?_
 refine Nx.vec_fact fun hv4 hv5 hv6 hAo => ?_
 refine Nx.p_loop (σ:=Nat) (fun k => [(0,.pointer (some ⟨p.b,0,none⟩)),(16,.slice Ax ix.length cx),(17,.int .i64 ix.length),(18,.int .i64 (k : Int)),(6,.int .i64 (lowK rest opn ix k)),(7,.int .i64 (highK rest ix k))])
  (fun _ => [Blk p.b PT [p.tv,.slice Ai n ci,.slice p.Ar l.length p.cr,.slice p.Ao l.length p.co,.slice p.At n p.ct],Vec 3 1 p.Ar l.length p.cr (rest.map (Value.int .i64)),Vec 3 1 p.Ao l.length p.co (opn.map (Value.int .i64)),iR p.At p.ct t,F]) (fun k => k ≤ ix.length) (fun k => ix.length - k) 0 rfl (nZl _) zR (by exact zE) ?_
 intro k hk
 have hk : k ≤ ix.length:=hk
 by_cases hkl : k < ix.length
 case neg =>
  obtain rfl : k = ix.length:=by omega
  repeat' first | refine kS ?_ | refine kB fun bx => ?_ | refine kA fun A2 c2 => ?_ | refine kX (fun hc => ?_) fun hc => ?_ | fail
  exact Nx.ret_fn rfl [_,_,_,_] ⟨rfl,rfl⟩ (by unfold iR; rw [hr,ho]; (exact zE))
 obtain ⟨i,he,hil',_⟩:=inL_at (l:=l) (c:=c) (k:=k) (by rw [← hix]; exact hkl)
 rw [← hix] at he
 have hixr : ∀ (W : World) (R : List Res),Rd W I R ((ad Ax).add (k * 1)) (.int .i64 (i : Int)):=fun W R => by rw [← he]; exact hrow.rd hkl
 have hlow : lowK rest opn ix (k + 1) = if opn.getD i default = 1 then max (lowK rest opn ix k) (rest.getD i default) else lowK rest opn ix k:=by rw [lowK,he,nCt]
 have hhigh : highK rest ix (k + 1) = min (highK rest ix k) (rest.getD i default):=by rw [highK,he,nCt]
 by_cases h1 : opn.getD i default = 1
 ·rw [if_pos h1] at hlow
  repeat' first | refine kW ?_ | (refine Nx.zo ?_; first | refine kP ?_ | refine Nx.indexAddr_nat (A:=Ax) (i:=k) (sz:=1) rfl rfl rfl rfl rfl (by omega) (hrow.isSome (by omega)) ?_ | refine Nx.load rfl rfl rfl (hixr _ _) ?_ | refine Nx.indexAddr_nat (A:=p.Ar) (i:=i) (sz:=1) rfl rfl rfl rfl rfl (by omega) (hAr (by omega)) ?_ | refine Nx.load rfl rfl rfl (Rd.vecEl 1 (f:=Value.int .i64) (l:=rest) (i:=i) rfl (by omega)) ?_ | refine Nx.indexAddr_nat (A:=p.Ao) (i:=i) (sz:=1) rfl rfl rfl rfl rfl (by omega) (hAo (by omega)) ?_ | refine Nx.load rfl rfl rfl (Rd.vecEl 2 (f:=Value.int .i64) (l:=opn) (i:=i) rfl (by omega)) ?_) | refine kS ?_ | refine kB fun bx => ?_ | refine kA fun A2 c2 => ?_ | refine kX (fun hc => ?_) fun hc => ?_ | fail
  exact Nx.again (k + 1) hkl (by omega) ⟨rfl,rfl,rfl,rfl,by rw [hlow]; rfl,by rw [hhigh]; rfl,trivial⟩ (by exact zE)
 ·rw [if_neg h1] at hlow
  repeat' first | refine kW ?_ | (refine Nx.zo ?_; first | refine kP ?_ | refine Nx.indexAddr_nat (A:=Ax) (i:=k) (sz:=1) rfl rfl rfl rfl rfl (by omega) (hrow.isSome (by omega)) ?_ | refine Nx.load rfl rfl rfl (hixr _ _) ?_ | refine Nx.indexAddr_nat (A:=p.Ar) (i:=i) (sz:=1) rfl rfl rfl rfl rfl (by omega) (hAr (by omega)) ?_ | refine Nx.load rfl rfl rfl (Rd.vecEl 1 (f:=Value.int .i64) (l:=rest) (i:=i) rfl (by omega)) ?_ | refine Nx.indexAddr_nat (A:=p.Ao) (i:=i) (sz:=1) rfl rfl rfl rfl rfl (by omega) (hAo (by omega)) ?_ | refine Nx.load rfl rfl rfl (Rd.vecEl 2 (f:=Value.int .i64) (l:=opn) (i:=i) rfl (by omega)) ?_) | refine kS ?_ | refine kB fun bx => ?_ | refine kA fun A2 c2 => ?_ | refine kX (fun hc => ?_) fun hc => ?_ | fail
  exact Nx.again (k + 1) hkl (by omega) ⟨rfl,rfl,rfl,rfl,by rw [hlow]; rfl,by rw [hhigh]; rfl,trivial⟩ (by exact zE)
end Go.Proofs.YtpcnapidlhpbkaaGreatDoor
