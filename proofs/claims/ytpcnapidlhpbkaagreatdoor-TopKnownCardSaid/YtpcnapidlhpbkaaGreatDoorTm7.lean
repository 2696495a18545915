/- Contracts of functions of the given program, and lemmas. -/
import Derived.Maps.RangeRun
import Derived.Test.YtpcnapidlhpbkaaGreatDoorTm6
set_option maxHeartbeats 32000000
set_option maxRecDepth 10000
namespace Go.Proofs.YtpcnapidlhpbkaaGreatDoor
open Go.Eng Go.Sol
attribute [local irreducible] opK wpList Code.wp Exit.then Exit.inBlock fnPost bodyPost Nx Calls Oper.wp Rd Rds Wr Ent Stars Blk Again Vec FnSpec wpMix QRun Stop Upto wpAt
theorem badA_spec (z : Int) (I : PH) : FnSpec Tryz.prog 71 [.int .i64 z] I [] (fun v R' => v = .bool (!decide (0 ≤ z ∧ z ≤ 1000000)) ∧ R' = []):=by
 refine FnSpec.enterP Tryz.func71 rfl Tryz.ntmps71 rfl fun w F => ?_
 have hv:=value_spec z I
 generalize decide (0 ≤ z ∧ z ≤ 1000000) = b at hv ⊢
 repeat' first | refine kW ?_ | (refine Nx.zo ?_; first | refine kP ?_ | refine kV hv ?_) | refine kS ?_ | refine kB fun bx => ?_ | refine kA fun A2 c2 => ?_ | refine kX (fun hc => ?_) fun hc => ?_ | fail
 exact kT
theorem sumC_takeK (t : List Int) (l : List Int) {j : Nat} (hj : j < l.length) : sumC t ((l.take (j + 1)).map Int.toNat) = sumC t ((l.take j).map Int.toNat) + t.getD (l.getD j default).toNat 0:=by
 have e : l.getD j default = l[j]:=by rw [gEl,gEq hj]; rfl
 rw [tSu hj,mAp,e]
 show sumC t (List.map Int.toNat (l.take j) ++ [l[j].toNat]) = _
 generalize List.map Int.toNat (l.take j) = xs
 induction xs with
 | nil => rw [List.nil_append]; show t.getD _ 0 + 0 = 0 + t.getD _ 0; omega
 | cons x xs ih => rw [List.cons_append,sumC,sumC,ih]; omega
theorem Agrees_spec (A At : Option Addr) (c ct N : Nat) (t : List Int) (qs : List EqR) (I : PH) (hq : Eqs I A c qs) (ht : Ints I At ct t) (htn : t.length = N) (htb : ∀ j,j < t.length → 0 ≤ t.getD j default ∧ t.getD j default ≤ 1000) (hN : N ≤ 1000) (hg : ∀ q ∈ qs,GoodE N q) (hs : ∀ q ∈ qs,sumC t (eqn q).1 = q.2) :
  FnSpec Tryz.prog 24 [.slice A qs.length c,.slice At t.length ct] I [] (fun u R' => u = .bool true ∧ R' = []):=by
 have hC:=ContainsFunc_spec 71 (fun z => !decide (0 ≤ z ∧ z ≤ 1000000)) At ct t I ht (by kernel_rfl) (fun z => badA_spec z I)
 have hany : (t.any fun z => !decide (0 ≤ z ∧ z ≤ 1000000)) = false:=by
  rw [List.any_eq_false]
  intro z hz
  obtain ⟨j,hj,he⟩:=mem_getDI hz
  have:=htb j hj
  rw [he] at this
  rw [decide_eq_true (show 0 ≤ z ∧ z ≤ 1000000 by omega)]
  decide
 rw [hany] at hC
 refine FnSpec.enterP Tryz.func24 rfl Tryz.ntmps24 rfl fun w F => ?_
 have hql:=hq.len
 repeat' first | refine kW ?_ | (refine Nx.zo ?_; first | refine kP ?_ | refine kV hC ?_) | refine kS ?_ | refine kB fun bx => ?_ | refine kA fun A2 c2 => ?_ | refine kX (fun hc => ?_) fun hc => ?_ | fail
 refine Nx.p_loop (σ:=Nat) (fun i => [(1,.slice At t.length ct),(12,.slice A qs.length c),(13,.int .i64 qs.length),(14,.int .i64 (i : Int))])
  (fun _ => [F]) (fun i => i ≤ qs.length) (fun i => qs.length - i) 0 rfl (nZl _) zR (by exact zE) ?_
 intro i hi
 have hi : i ≤ qs.length:=hi
 by_cases hil : i < qs.length
 case neg =>
  repeat' first | refine kS ?_ | refine kB fun bx => ?_ | refine kA fun A2 c2 => ?_ | refine kX (fun hc => ?_) fun hc => ?_ | fail
  exact kT
 have hqm : qs.getD i default ∈ qs:=getD_memQ hil
 have hrds : ∀ (W : World) (R : List Res),Rds W I R ((ad A).add (i * 2)) (eqC (qs.getD i default)):=fun W R => hq.outer.rds hil
 have hAs:=hq.outer.isSome (by omega) (by omega)
 have hin:=hq.inner _ hqm
 have hgi:=hg _ hqm
 have hsi:=hs _ hqm
 generalize qs.getD i default = q at hrds hin hgi hsi hqm
 have hlt:=hgi.lt
 have hcl:=good_len hgi
 obtain ⟨⟨Aq,cq,l⟩,z⟩:=q
 dsimp only at hin hlt hcl
 replace hsi : sumC t (l.map Int.toNat) = z:=hsi
 replace hrds : ∀ (W : World) (R : List Res),Rds W I R ((ad A).add (i * 2)) [.slice Aq l.length cq,.int .i64 z]:=hrds
 have hll:=hin.len
 repeat' first | refine kW ?_ | (refine Nx.zo ?_; first | refine kP ?_ | refine Nx.indexAddr_nat (A:=A) rfl rfl rfl rfl rfl hil hAs ?_ | refine Nx.loads rfl rfl rfl rfl (hrds _ _) rfl ?_) | refine kS ?_ | refine kB fun bx => ?_ | refine kA fun A2 c2 => ?_ | refine kX (fun hc => ?_) fun hc => ?_ | fail
 revert bx; intro b6
 refine Nx.p_loop (σ:=Nat) (fun j => [(1,.slice At t.length ct),(6,.pointer (some ⟨b6,0,none⟩)),(7,.int .i64 (sumC t ((l.take j).map Int.toNat))),(12,.slice A qs.length c),(13,.int .i64 qs.length),(14,.int .i64 (i : Int)),(19,.slice Aq l.length cq),(20,.int .i64 l.length),(21,.int .i64 (j : Int))])
  (fun _ => [Blk b6 46 [.slice Aq l.length cq,.int .i64 z],F]) (fun j => j ≤ l.length ∧ 0 ≤ sumC t ((l.take j).map Int.toNat) ∧ sumC t ((l.take j).map Int.toNat) ≤ 1000 * j) (fun j => l.length - j) 0 rfl ⟨nZl _,Int.le_refl _,Int.le_refl _⟩ zR (by exact zE) ?_
 rintro j ⟨hj,hs0,hs1⟩
 dsimp only at hj hs0 hs1 ⊢
 by_cases hjl : j < l.length
 case neg =>
  obtain rfl : j = l.length:=by omega
  rw [tLn,hsi]
  repeat' first | refine kS ?_ | refine kB fun bx => ?_ | refine kA fun A2 c2 => ?_ | refine kX (fun hc => ?_) fun hc => ?_ | fail
  exact Nx.again (i + 1) hil (by omega) zR (by exact zE)
 have hsc:=sumC_takeK t l hjl
 have hlj:=hlt _ (getD_memI hjl)
 have hrd : ∀ (W : World) (R : List Res),Rd W I R ((ad Aq).add (j * 1)) (.int .i64 (l.getD j default)):=fun W R => hin.rd hjl
 have hAq:=hin.isSome (by omega)
 generalize l.getD j default = x at hsc hlj hrd
 obtain ⟨k,rfl⟩ : ∃ k : Nat,x = k:=⟨x.toNat,by omega⟩
 rw [nCt] at hsc
 have hkt : k < t.length:=by omega
 have htk:=htb k hkt
 have hrt : ∀ (W : World) (R : List Res),Rd W I R ((ad At).add (k * 1)) (.int .i64 (t.getD k default)):=fun W R => ht.rd hkt
 have hAt:=ht.isSome (by omega)
 replace hsc : sumC t ((l.take (j + 1)).map Int.toNat) = sumC t ((l.take j).map Int.toNat) + t.getD k default:=hsc
 generalize t.getD k default = y at hsc htk hrt
 have hnew : (0 ≤ sumC t ((l.take (j + 1)).map Int.toNat)) ∧ sumC t ((l.take (j + 1)).map Int.toNat) ≤ 1000 * ((j + 1 : Nat) : Int):=by omega
 generalize sumC t ((l.take j).map Int.toNat) = s0 at hsc hs0 hs1 ⊢
 have htl:=ht.len
 repeat' first | refine kW ?_ | (refine Nx.zo ?_; first | refine kP ?_ | refine Nx.indexAddr_nat (A:=Aq) (i:=j) rfl rfl rfl rfl rfl hjl hAq ?_ | refine Nx.indexAddr_nat (A:=At) (i:=k) rfl rfl rfl rfl rfl hkt hAt ?_ | refine Nx.load rfl rfl rfl (hrd _ _) ?_ | refine Nx.load rfl rfl rfl (hrt _ _) ?_) | refine kS ?_ | refine kB fun bx => ?_ | refine kA fun A2 c2 => ?_ | refine kX (fun hc => ?_) fun hc => ?_ | fail
 exact Nx.again (j + 1) ⟨hjl,hnew⟩ (by omega) ⟨rfl,rfl,by rw [hsc]; rfl,rfl,rfl,rfl,rfl,rfl,rfl,trivial⟩ (by exact zE)
theorem allN_spec (N : Nat) (hN : N ≤ 1000) (I : PH) :
  FnSpec Tryz.prog 29 [.int .i64 (N : Int)] I [] (fun u R' => ∃ (A' : Option Addr) (c' : Nat),u = .slice A' ((List.range N).map Int.ofNat).length c' ∧ R' = [iR A' c' ((List.range N).map Int.ofNat)]):=by
 refine FnSpec.enterP Tryz.func29 rfl Tryz.ntmps29 rfl fun w F => ?_
 repeat' first | refine kS ?_ | refine kB fun bx => ?_ | refine kA fun A2 c2 => ?_ | refine kX (fun hc => ?_) fun hc => ?_ | fail
 refine Nx.p_loop (σ:=Nat × Option Addr × Nat) (fun s => [(0,.int .i64 (N : Int)),(3,.slice s.2.1 ((List.range s.1).map Int.ofNat).length s.2.2),(4,.int .i64 (s.1 : Int))])
  (fun s => [iR s.2.1 s.2.2 ((List.range s.1).map Int.ofNat),F]) (fun s => s.1 ≤ N) (fun s => N - s.1) (0,none,0) rfl (nZl _) zR ((Ent.vec_nil _ _ _).trans (by exact zE)) ?_
 rintro ⟨k,A,c⟩ hk
 dsimp only at hk ⊢
 by_cases hkN : k < N
 ·have hlen : ((List.range k).map Int.ofNat).length = k:=by simp
  have hsn : (List.range (k + 1)).map Int.ofNat = (List.range k).map Int.ofNat ++ [(k : Int)]:=by rw [List.range_succ,mAp]; rfl
  generalize (List.range k).map Int.ofNat = xs at hlen hsn ⊢
  repeat' first | refine kS ?_ | refine kB fun bx => ?_ | refine kA fun A2 c2 => ?_ | refine kX (fun hc => ?_) fun hc => ?_ | fail
  exact Nx.again (k + 1,_,_) hkN (by dsimp only; omega) ⟨rfl,by dsimp only; rw [hsn,lAp]; rfl,rfl,trivial⟩ (by dsimp only; rw [hsn]; unfold iR; rw [lAp,mAp]; (exact zE))
 ·obtain rfl : k = N:=by omega
  repeat' first | refine kS ?_ | refine kB fun bx => ?_ | refine kA fun A2 c2 => ?_ | refine kX (fun hc => ?_) fun hc => ?_ | fail
  exact Nx.ret_fn rfl [_] ⟨_,_,rfl,rfl⟩ (by exact zE)
end Go.Proofs.YtpcnapidlhpbkaaGreatDoor
namespace Go.Eng
open Go.Instr Go.ChangeMaps
def Stamped (es : Array MapEntry) (clock : Nat) : Prop:=(∀ x ∈ es.toList,x.born < clock) ∧ (es.toList.map (·.born)).Nodup
section
variable {κ α : Type} {g : κ → Value} {f : α → Value}
theorem stamped_nil : Stamped #[] 0:=⟨fun x hx => by simp at hx,by simp⟩
theorem stamped_push {es : Array MapEntry} {clock : Nat} (h : Stamped es clock) (k v : Value) : Stamped (es.push ⟨k,v,clock⟩) (clock + 1):=by
 obtain ⟨h1,h2⟩:=h
 refine ⟨fun x hx => ?_,?_⟩
 ·rw [Array.toList_push,List.mem_append,List.mem_singleton] at hx
  rcases hx with hx | rfl
  ·have:=h1 x hx; omega
  ·exact Nat.lt_succ_self _
 ·rw [Array.toList_push,mAp,List.nodup_append]
  refine ⟨h2,by simp,fun a ha b hb => ?_⟩
  obtain ⟨x,hx,rfl⟩:=List.mem_map.1 ha
  simp only [List.map_cons,List.map_nil,List.mem_singleton] at hb
  have:=h1 x hx
  omega
theorem map_modify {es : List MapEntry} {j : Nat} {k v : Value} : ((es.modify j fun e => { e with key:=k,val:=v }).map (·.born)) = es.map (·.born):=by
 induction es generalizing j with
 | nil => simp
 | cons x es ih =>
  cases j with
  | zero => simp
  | succ j => simp only [List.modify_succ_cons,List.map_cons,ih]
theorem stamped_modify {es : Array MapEntry} {clock : Nat} (h : Stamped es clock) (j : Nat) (k v : Value) : Stamped (es.modify j fun e => { e with key:=k,val:=v }) clock:=by
 obtain ⟨h1,h2⟩:=h
 have hm : (es.modify j fun e => { e with key:=k,val:=v }).toList.map (·.born) = es.toList.map (·.born):=by rw [Array.toList_modify,map_modify]
 refine ⟨fun x hx => ?_,by rw [hm]; exact h2⟩
 have : x.born ∈ (es.modify j fun e => { e with key:=k,val:=v }).toList.map (·.born):=List.mem_map.2 ⟨x,hx,rfl⟩
 rw [hm] at this
 obtain ⟨y,hy,he⟩:=List.mem_map.1 this
 rw [← he]
 exact h1 y hy
def MapS (g : κ → Value) (f : α → Value) (b : Nat) (l : List (κ × α)) : Res:=fun m => ∃ es clock,m b = some (.map es clock) ∧ entOk g f es.toList l ∧ Stamped es clock
def IterR (g : κ → Value) (f : α → Value) (b r : Nat) (l left : List (κ × α)) : Res:=fun m => ∃ es clock,∃ seen : Array Nat,∃ c0,∃ L : List MapEntry,m b = some (.map es clock) ∧ m r = some (.mapIter (some b) clock seen c0) ∧ entOk g f es.toList l ∧ Stamped es clock ∧ clock ≤ c0 ∧ L.Perm (leftOf es seen).toList ∧ entOk g f L left
def IterAt (g : κ → Value) (f : α → Value) (b r : Nat) (l rest : List (κ × α)) (p : κ × α) : Res:=fun m => ∃ es clock,∃ seen : Array Nat,∃ e : MapEntry,∃ L : List MapEntry,m b = some (.map es clock) ∧ m r = some (.mapIter (some b) clock (seen.push e.born) clock) ∧ entOk g f es.toList l ∧ Stamped es clock ∧ e ∈ es.toList ∧ e.key = g p.1 ∧ e.val = f p.2 ∧ L.Perm (leftOf es (seen.push e.born)).toList ∧ entOk g f L rest
theorem Ent.iterAt {b r : Nat} {l rest : List (κ × α)} {p : κ × α} {R : List Res} : Ent (IterAt g f b r l rest p :: R) (IterR g f b r l rest :: R) :=
 Ent.head fun _ ⟨es,clock,seen,e,L,h1,h2,h3,h4,_,_,_,h5,h6⟩ => ⟨es,clock,seen.push e.born,clock,L,h1,h2,h3,h4,nLr _,h5,h6⟩
theorem entOk_split : ∀ {L1 : List MapEntry} {e : MapEntry} {L2 : List MapEntry} {left : List (κ × α)},entOk g f (L1 ++ e :: L2) left → ∃ a p c,left = a ++ p :: c ∧ e.key = g p.1 ∧ e.val = f p.2 ∧ entOk g f (L1 ++ L2) (a ++ c)
 | [],e,L2,[],h => by simp [entOk] at h
 | [],e,L2,p :: c,h => by
  simp only [entOk,List.nil_append,List.map_cons,List.cons.injEq,Prod.mk.injEq] at h
  exact ⟨[],p,c,rfl,h.1.1,h.1.2,h.2⟩
 | x :: L1,e,L2,[],h => by simp [entOk] at h
 | x :: L1,e,L2,q :: left,h => by
  simp only [entOk,List.cons_append,List.map_cons,List.cons.injEq] at h
  obtain ⟨a,p,c,rfl,h1,h2,h3⟩:=entOk_split h.2
  refine ⟨q :: a,p,c,rfl,h1,h2,?_⟩
  simp only [entOk,List.cons_append,List.map_cons,List.cons.injEq]
  exact ⟨h.1,h3⟩
theorem leftOf_nil (es : Array MapEntry) : leftOf es #[] = es:=by
 unfold leftOf
 exact Array.filter_eq_self.2 fun _ _ => by simp
theorem left_push (es : Array MapEntry) (seen : Array Nat) (b : Nat) : (leftOf es (seen.push b)).toList = (leftOf es seen).toList.filter fun e => !(e.born == b):=by
 unfold leftOf
 rw [Array.toList_filter,Array.toList_filter,List.filter_filter]
 congr 1
 funext e
 rw [contains_push]
 cases seen.contains e.born <;> cases (e.born == b) <;> rfl
theorem filter_out {L1 : List MapEntry} {e : MapEntry} {L2 : List MapEntry} (h : ((L1 ++ e :: L2).map (·.born)).Nodup) : (L1 ++ e :: L2).filter (fun x => !(x.born == e.born)) = L1 ++ L2:=by
 rw [mAp,List.map_cons,List.nodup_append,List.nodup_cons] at h
 obtain ⟨_,⟨h1,_⟩,h2⟩:=h
 rw [List.filter_append,List.filter_cons]
 have ha : L1.filter (fun x => !(x.born == e.born)) = L1:=List.filter_eq_self.2 fun x hx => by
  have:=h2 x.born (List.mem_map.2 ⟨x,hx,rfl⟩) e.born (by simp)
  simp [this]
 have hc : L2.filter (fun x => !(x.born == e.born)) = L2:=List.filter_eq_self.2 fun x hx => by
  have : x.born ≠ e.born:=fun he => h1 (he ▸ List.mem_map.2 ⟨x,hx,rfl⟩)
  simp [this]
 rw [ha,hc]
 simp
end
section
variable {C : Cx} {e e' : Env} {I : PH} {R R' R0 : List Res} {K K' : Act → World → Prop} {Q : Exit → Act → World → Prop} {W : World}
variable {d : Nat} {ty t : TypeId} {pos : String} {after : Array Edge} {gd : Option (Nat × Bool)} {x y z : Operand} {dst : Option Tmp}
variable {κ α : Type}
theorem Nx.makeMapS (g : κ → Value) (f : α → Value) (hlt : Nat.blt d C.n = true)
  (h : ∀ b,Nx C ((d,.map (some b)) :: e) I (MapS g f b [] :: R) K) : Nx C e I R (opK C.P ⟨some d,.makeMap t none,ty,pos,after,gd⟩ K Q) :=
 Nx.op_new (v:=fun b => .map (some b)) (ob:=.map #[] 0) rfl hlt (fun a w ha hw => by
  simp only [execOp,Option.map_none]
  exact run_v rfl) (fun b => (h b).ent (Ent.head fun m hm => ⟨#[],0,hm,rfl,stamped_nil⟩))
theorem Nx.mapRange (i : Nat) (g : κ → Value) (f : α → Value) {kt et : TypeId} {b : Nat} {l : List (κ × α)} (hx : evo e x = some (.map (some b))) (ht : C.P.underlying t = some (.map kt et)) (hlt : Nat.blt d C.n = true) (hk : nthL R i = some (MapS g f b l))
  (h : ∀ r,Nx C ((d,.pointer (some ⟨r,0,none⟩)) :: e) I (IterR g f b r l l :: R.eraseIdx i) K) : Nx C e I R (opK C.P ⟨some d,.range t x,ty,pos,after,gd⟩ K Q):=by
 refine Nx.ent (Ent.pull i R _ (nthL_eq.symm.trans hk)) ?_
 intro a w ha hw
 obtain ⟨⟨m,⟨m1,m2,hd,rfl,⟨es,clock,hb,he,hs1⟩,h2⟩,hs⟩,hst⟩:=hw
 have hw0 : St C.W I ((fun m => m b = some (.map es clock)) :: R.eraseIdx i) w:=⟨⟨_,⟨m1,m2,hd,rfl,hb,h2⟩,hs⟩,hst⟩
 have hbw : w.heap[b]? = some (.map es clock):=hs.own _ _ (PH.le_or_left _ _ _ _ hb)
 have hrun : (execOp a.eval ⟨some d,.range t x,ty,pos,after,gd⟩).run C.P w = .ok (.value (.pointer (some ⟨w.heap.size,0,none⟩))) (w.alloc (.mapIter (some b) clock #[] clock)):=by
  simp only [execOp,ha.eval hx]
  exact run_v (run_range_map w t kt et b es clock ht hbw)
 unfold opK Oper.wp
 rw [hrun]
 refine h w.heap.size _ _ (ha.put hlt _) ((hw0.alloc (.mapIter (some b) clock #[] clock)).ent ?_)
 rintro m ⟨n1,n',hd1,rfl,hn1,n2,n3,hd2,rfl,hn2,hn3⟩
 obtain ⟨hd12,hd13⟩:=PH.dis_or.1 hd1
 refine ⟨_,PH.le_refl _,n1.or n2,n3,?_,(PH.or_assoc _ _ _).symm,?_,hn3⟩
 ·exact (PH.dis_or.2 ⟨hd13.symm,hd2.symm⟩).symm
 ·refine ⟨es,clock,#[],clock,es.toList,PH.le_or_right hd12 _ _ hn2,PH.le_or_left _ _ _ _ hn1,he,hs1,nLr _,?_,he⟩
  rw [leftOf_nil]
theorem Nx.mapNext (i : Nat) {g : κ → Value} {f : α → Value} {b r : Nat} {l left : List (κ × α)} (hx : evo e x = some (.pointer (some ⟨r,0,none⟩))) (hlt : Nat.blt d C.n = true) (hk : nthL R i = some (IterR g f b r l left))
  (h0 : left = [] → Nx C ((d,.tuple #[.bool false]) :: e) I R K)
  (h1 : ∀ a p c,left = a ++ p :: c → Nx C ((d,.tuple #[.bool true,g p.1,f p.2]) :: e) I (IterAt g f b r l (a ++ c) p :: R.eraseIdx i) K) : Nx C e I R (opK C.P ⟨some d,.next x false,ty,pos,after,gd⟩ K Q):=by
 intro a w ha hw
 have hwe:=hw.ent (Ent.pull i R _ (nthL_eq.symm.trans hk))
 obtain ⟨⟨m,⟨m1,m2,hd,rfl,⟨es,clock,seen,c0,L,hb,hr,he,hs1,hc0,hp,hL⟩,h2⟩,hs⟩,hst⟩:=hwe
 have hw0 : St C.W I ((fun m => m b = some (.map es clock) ∧ m r = some (.mapIter (some b) clock seen c0)) :: R.eraseIdx i) w:=⟨⟨_,⟨m1,m2,hd,rfl,⟨hb,hr⟩,h2⟩,hs⟩,hst⟩
 have hbw : w.heap[b]? = some (.map es clock):=hs.own _ _ (PH.le_or_left _ _ _ _ hb)
 have hrw : w.heap[r]? = some (.mapIter (some b) clock seen c0):=hs.own _ _ (PH.le_or_left _ _ _ _ hr)
 have hne : r ≠ b:=fun h => by rw [h,hbw] at hrw; cases hrw
 rcases run_next_at (P:=C.P) w ty r b clock c0 seen es clock hrw hbw hs1.1 hc0 with ⟨hz,hrun⟩ | ⟨en,hen,w1,hal,hrun⟩
 ·have hLn : L = []:=List.eq_nil_of_length_eq_zero (by rw [hp.length_eq,Array.length_toList]; exact hz)
  have hln : left = []:=by
   rw [hLn] at hL
   cases left with
   | nil => rfl
   | cons q c => simp [entOk] at hL
  have hrun' : (execOp a.eval ⟨some d,.next x false,ty,pos,after,gd⟩).run C.P w = .ok (.value (.tuple #[.bool false])) w:=by
   simp only [execOp,ha.eval hx]
   exact run_v hrun
  unfold opK Oper.wp
  rw [hrun']
  exact h0 hln _ _ (ha.put hlt _) hw
 ·have hem:=hp.mem_iff.2 hen
  obtain ⟨L1,L2,rfl⟩:=List.append_of_mem hem
  obtain ⟨pa,pp,pc,hleft,hk1,hk2,hk3⟩:=entOk_split hL
  have hnd : ((L1 ++ en :: L2).map (·.born)).Nodup:=by
   refine (hp.map (·.born)).nodup_iff.2 ?_
   unfold leftOf
   rw [Array.toList_filter]
   exact hs1.2.sublist (List.filter_sublist.map _)
  have hperm : (L1 ++ L2).Perm (leftOf es (seen.push en.born)).toList:=by
   rw [left_push,← filter_out hnd]
   exact hp.filter _
  have hrun' : (execOp a.eval ⟨some d,.next x false,ty,pos,after,gd⟩).run C.P w = .ok (.value (.tuple #[.bool true,g pp.1,f pp.2])) (setBlock w1 r (.mapIter (some b) clock (seen.push en.born) clock)):=by
   simp only [execOp,ha.eval hx]
   rw [hk1,hk2] at hrun
   exact run_v hrun
  unfold opK Oper.wp
  rw [hrun']
  have hr1 : w1.heap[r]? = some (.mapIter (some b) clock seen c0):=by rcases hal with rfl | rfl <;> exact hrw
  have hset:=MapKept.heap_set (o':=.mapIter (some b) clock (seen.push en.born) clock) hr1
  have hheap : w1.heap = w.heap:=by rcases hal with rfl | rfl <;> rfl
  refine h1 pa pp pc hleft _ _ (ha.put hlt _) (hw0.upd (o:=.mapIter (some b) clock (seen.push en.born) clock) (b:=r) (fun m hm => ?_) hset.1 (fun j hj o' ho => ?_) ?_)
  ·obtain ⟨hmb,hmr⟩:=hm
   refine ⟨by rw [hmr]; rfl,es,clock,seen,en,L1 ++ L2,?_,if_pos rfl,he,hs1,(mem_left hen).1,hk1,hk2,hperm,hk3⟩
   exact (if_neg (fun h : b = r => hne h.symm)).trans hmb
  ·exact (hset.2 j hj).trans (by rw [hheap]; exact ho)
  ·rcases hal with rfl | rfl
   ·exact ⟨rfl,rfl,rfl,by simp [setBlock],Nat.le_refl _⟩
   ·exact ⟨rfl,rfl,rfl,by simp [setBlock],Nat.le_succ _⟩
theorem Nx.mapEntry (i : Nat) {g : κ → Value} {f : α → Value} {b r : Nat} {l rest : List (κ × α)} {p : κ × α} (hx : evo e x = some (.pointer (some ⟨r,0,none⟩))) (hlt : Nat.blt d C.n = true) (hk : nthL R i = some (IterAt g f b r l rest p))
  (h : Nx C ((d,.tuple #[g p.1,f p.2]) :: e) I R K) : Nx C e I R (opK C.P ⟨some d,.entry x,ty,pos,after,gd⟩ K Q) :=
 Nx.op_run rfl hlt (fun a w ha hw => by
  obtain ⟨⟨m,⟨m1,m2,hd,rfl,⟨es,clock,seen,en,L,hb,hr,he,hs1,hen,hk1,hk2,_,_⟩,h2⟩,hs⟩,hst⟩:=hw.ent (Ent.pull i R _ (nthL_eq.symm.trans hk))
  have hbw : w.heap[b]? = some (.map es clock):=hs.own _ _ (PH.le_or_left _ _ _ _ hb)
  have hrw : w.heap[r]? = some (.mapIter (some b) clock (seen.push en.born) clock):=hs.own _ _ (PH.le_or_left _ _ _ _ hr)
  simp only [execOp,ha.eval hx]
  rw [← hk1,← hk2]
  exact run_v (run_entry_at w r b clock seen es clock en hrw hbw hen hs1.2)) h
variable [DecidableEq κ]
theorem findI_key {g : κ → Value} {f : α → Value} {k : κ} {j : Nat} {v0 : α} : ∀ {es : List MapEntry} {l : List (κ × α)} {i : Nat},entOk g f es l → mfindI l k i = some (j,v0) → i ≤ j ∧ (es[j - i]?).map (·.key) = some (g k)
 | [],[],i,_,h2 => by simp [mfindI] at h2
 | [],_ :: _,i,h1,_ => by simp [entOk] at h1
 | e :: es,[],i,h1,_ => by simp [entOk] at h1
 | e :: es,(q,u) :: l,i,h1,h2 => by
  simp only [entOk,List.map_cons,List.cons.injEq,Prod.mk.injEq] at h1
  obtain ⟨⟨a1,a2⟩,a3⟩:=h1
  unfold mfindI at h2
  by_cases hk : k = q
  ·rw [if_pos hk] at h2
   simp only [Option.some.injEq,Prod.mk.injEq] at h2
   obtain ⟨rfl,rfl⟩:=h2
   refine ⟨nLr _,?_⟩
   rw [Nat.sub_self]
   simp [a1,hk]
  ·rw [if_neg hk] at h2
   obtain ⟨b1,b2⟩:=findI_key a3 h2
   refine ⟨by omega,?_⟩
   rw [show j - i = (j - (i + 1)) + 1 by omega,List.getElem?_cons_succ]
   exact b2
theorem run_update_entS {g : κ → Value} {f : α → Value} {P : Program} {t kt et : TypeId} {b clock : Nat} {es : Array MapEntry} {l : List (κ × α)} {w : World} (K : KeyEnc P kt g) (ht : P.underlying t = some (.map kt et)) (hb : w.heap[b]? = some (.map es clock)) (h : entOk g f es.toList l) (hs : Stamped es clock) (k : κ) (v : α) :
  ∃ es' clock',(Instr.mapUpdate t (.map (some b)) (g k) (f v)).run P w = .ok () { w with heap:=w.heap.setIfInBounds b (.map es' clock') } ∧ entOk g f es'.toList (mset l k v) ∧ Stamped es' clock':=by
 obtain ⟨es1,clock1,hr1,he1⟩:=run_update_ent K ht hb h k v
 have hlt:=(Array.getElem?_eq_some_iff.1 hb).1
 have tell : ∀ es2 clock2,(Instr.mapUpdate t (.map (some b)) (g k) (f v)).run P w = .ok () { w with heap:=w.heap.setIfInBounds b (.map es2 clock2) } → es1 = es2 ∧ clock1 = clock2:=fun es2 clock2 h2 => by
  rw [hr1] at h2
  have hw:=(Result.ok.inj h2).2
  have hh : (w.heap.setIfInBounds b (.map es1 clock1))[b]? = (w.heap.setIfInBounds b (.map es2 clock2))[b]?:=congrArg (fun W : World => W.heap[b]?) hw
  simp [hlt] at hh
  exact hh
 refine ⟨es1,clock1,hr1,he1,?_⟩
 cases hm : mfindI l k 0 with
 | none =>
  obtain ⟨rfl,rfl⟩:=tell (es.push ⟨g k,f v,clock⟩) (clock + 1) (by
   unfold Instr.mapUpdate
   rw [Sem.run_bind,run_underlying ht,Result.andThen_ok]
   simp only [Sem.run_bind,MapKept.run_getObj_map hb,Result.andThen_ok,K.check,run_findKey_ent K h,hm,Option.map_none,MapKept.run_setObj_map _ hb])
  exact stamped_push hs _ _
 | some p =>
  obtain ⟨j,v0⟩:=p
  have hkey:=findI_key h hm
  rw [Nat.sub_zero] at hkey
  have hkey : es[j]?.map (·.key) = some (g k):=by rw [← Array.getElem?_toList]; exact hkey.2
  have hk : ∃ k0 v',(Instr.mapUpdate t (.map (some b)) (g k) (f v)).run P w = .ok () { w with heap:=w.heap.setIfInBounds b (.map (es.modify j fun e => { e with key:=k0,val:=v' }) clock) }:=by
   unfold Instr.mapUpdate
   rw [Sem.run_bind,run_underlying ht,Result.andThen_ok]
   simp only [Sem.run_bind,MapKept.run_getObj_map hb,Result.andThen_ok,K.check,run_findKey_ent K h,hm,Option.map_some,hkey,Option.getD_some,keyThatStays,K.bits,if_true,Sem.run_pure,MapKept.run_setObj_map _ hb]
   exact ⟨_,_,rfl⟩
  obtain ⟨k0,v',hk⟩:=hk
  obtain ⟨rfl,rfl⟩:=tell _ _ hk
  exact stamped_modify hs _ _ _
theorem Nx.mapSetS (i : Nat) (g : κ → Value) (f : α → Value) {kt et : TypeId} {b : Nat} {l : List (κ × α)} {k : κ} {v : α} {op : Op} (hop : op = .insert t x y z ∨ op = .mapUpdate t x y z) (hx : evo e x = some (.map (some b))) (hy : evo e y = some (g k)) (hz : evo e z = some (f v))
  (KE : KeyEnc C.P kt g) (ht : C.P.underlying t = some (.map kt et)) (hk : nthL R i = some (MapS g f b l)) (h : Nx C e I (MapS g f b (mset l k v) :: R.eraseIdx i) K) : Nx C e I R (opK C.P ⟨none,op,ty,pos,after,gd⟩ K Q):=by
 refine Nx.ent (Ent.pull i R _ (nthL_eq.symm.trans hk)) ?_
 intro a w ha hw
 obtain ⟨⟨m,⟨m1,m2,hd,rfl,⟨es,clock,hb1,he,hs1⟩,h2⟩,hs⟩,hst⟩:=hw
 have hw0 : St C.W I ((fun m => m b = some (.map es clock)) :: R.eraseIdx i) w:=⟨⟨_,⟨m1,m2,hd,rfl,hb1,h2⟩,hs⟩,hst⟩
 have hb : w.heap[b]? = some (.map es clock):=hs.own _ _ (PH.le_or_left _ _ _ _ hb1)
 obtain ⟨es',clock',hr,he',hs'⟩:=run_update_entS KE ht hb he hs1 k v
 unfold opK Oper.wp
 have hrun : (execOp a.eval ⟨none,op,ty,pos,after,gd⟩).run C.P w = .ok .skip { w with heap:=w.heap.setIfInBounds b (.map es' clock') }:=by
  rcases hop with rfl | rfl <;>
  ·simp only [execOp,ha.eval hx,ha.eval hy,ha.eval hz]
   rw [Sem.run_bind,hr]
   rfl
 rw [hrun]
 have hlt:=(Array.getElem?_eq_some_iff.1 hb).1
 refine h _ _ ha (hw0.upd (o:=.map es' clock') (b:=b) (fun m hm => ⟨by rw [hm]; rfl,es',clock',by simp,he',hs'⟩) (by simp [hlt]) (fun j hne o' ho => ?_) ⟨rfl,rfl,rfl,by simp,Nat.le_refl _⟩)
 simp only
 rw [Array.getElem?_setIfInBounds_ne (fun h => hne h.symm)]
 exact ho
end
end Go.Eng
namespace Go.Proofs.YtpcnapidlhpbkaaGreatDoor
open Go.Eng Go.Sol
def prodD : List Int → Int
 | [] => 1
 | s :: S => s * prodD S
def numD : List Int → List Int → Int
 | _ :: S,d :: D => d * prodD S + numD S D
 | _,_ => 0
def InD : List Int → List Int → Prop
 | [],[] => True
 | s :: S,d :: D => (0 ≤ d ∧ d < s) ∧ InD S D
 | _,_ => False
def nextD : List Int → List Int → Option (List Int)
 | s :: S,d :: D => match nextD S D with
  | some D' => some (d :: D')
  | none => if d + 1 < s then some ((d + 1) :: D.map fun _ => 0) else none
 | _,_ => none
theorem InD.len : ∀ {S D : List Int},InD S D → D.length = S.length
 | [],[],_ => rfl
 | [],_ :: _,h => h.elim
 | _ :: _,[],h => h.elim
 | _ :: S,_ :: D,h => by rw [List.length_cons,List.length_cons,InD.len h.2]
theorem InD.at : ∀ {S D : List Int},InD S D → ∀ {j : Nat},j < S.length → 0 ≤ D.getD j 0 ∧ D.getD j 0 < S.getD j 0
 | _ :: S,_ :: D,h,0,_ => h.1
 | _ :: S,_ :: D,h,j + 1,hj => InD.at h.2 (j:=j) (by simpa using hj)
theorem InD.of : ∀ {S D : List Int},D.length = S.length → (∀ j,j < S.length → 0 ≤ D.getD j 0 ∧ D.getD j 0 < S.getD j 0) → InD S D
 | [],[],_,_ => trivial
 | [],_ :: _,h,_ => by simp at h
 | _ :: _,[],h,_ => by simp at h
 | s :: S,d :: D,h,hj => ⟨hj 0 (by simp),InD.of (by simpa using h) fun j hjl => hj (j + 1) (by simpa using hjl)⟩
theorem numD_bd : ∀ {S D : List Int},InD S D → 0 ≤ numD S D ∧ numD S D < prodD S
 | [],[],_ => by simp [numD,prodD]
 | [],_ :: _,h => h.elim
 | _ :: _,[],h => h.elim
 | s :: S,d :: D,⟨⟨h1,h2⟩,h⟩ => by
  obtain ⟨h3,h4⟩:=numD_bd h
  rw [numD,prodD]
  have h5 : 0 ≤ d * prodD S:=Int.mul_nonneg h1 (by omega)
  have h6 : (d + 1) * prodD S ≤ s * prodD S:=Int.mul_le_mul_of_nonneg_right (by omega) (by omega)
  rw [Int.add_mul,Int.one_mul] at h6
  constructor <;> omega
theorem zeros_in : ∀ {S D : List Int},InD S D → InD S (D.map fun _ => 0) ∧ numD S (D.map fun _ => 0) = 0
 | [],[],_ => ⟨trivial,rfl⟩
 | [],_ :: _,h => h.elim
 | _ :: _,[],h => h.elim
 | s :: S,d :: D,⟨h1,h⟩ => by
  obtain ⟨h2,h3⟩:=zeros_in h
  refine ⟨⟨⟨Int.le_refl _,by show (0 : Int) < s; omega⟩,h2⟩,?_⟩
  rw [List.map_cons,numD,h3,Int.zero_mul]; rfl
theorem nextD_some : ∀ {S D D' : List Int},InD S D → nextD S D = some D' → InD S D' ∧ numD S D' = numD S D + 1
 | [],[],_,_,h => by simp [nextD] at h
 | [],_ :: _,_,h,_ => h.elim
 | _ :: _,[],_,h,_ => h.elim
 | s :: S,d :: D,D',⟨h1,h⟩,hn => by
  unfold nextD at hn
  cases hx : nextD S D with
  | some E =>
   rw [hx] at hn
   obtain rfl:=Option.some.inj hn
   obtain ⟨h2,h3⟩:=nextD_some h hx
   exact ⟨⟨h1,h2⟩,by rw [numD,numD,h3]; omega⟩
  | none =>
   rw [hx] at hn
   dsimp only at hn
   split at hn
   ·rename_i hlt
    obtain rfl:=Option.some.inj hn
    obtain ⟨z1,z2⟩:=zeros_in h
    refine ⟨⟨⟨by omega,hlt⟩,z1⟩,?_⟩
    have hN : numD S D = prodD S - 1:=nextD_none h hx
    rw [numD,numD,z2,hN,Int.add_mul,Int.one_mul]; omega
   ·cases hn
where nextD_none : ∀ {S D : List Int},InD S D → nextD S D = none → numD S D = prodD S - 1
 | [],[],_,_ => rfl
 | [],_ :: _,h,_ => h.elim
 | _ :: _,[],h,_ => h.elim
 | s :: S,d :: D,⟨h1,h⟩,hn => by
  unfold nextD at hn
  cases hx : nextD S D with
  | some E => rw [hx] at hn; cases hn
  | none =>
   rw [hx] at hn
   dsimp only at hn
   split at hn
   ·cases hn
   ·have hd : d = s - 1:=by omega
    rw [numD,prodD,nextD_none h hx,hd,Int.sub_mul,Int.one_mul]; omega
theorem nextD_end {S D : List Int} (h : InD S D) (hn : nextD S D = none) : numD S D = prodD S - 1:=nextD_some.nextD_none h hn
theorem numD_inj : ∀ {S D E : List Int},InD S D → InD S E → numD S D = numD S E → D = E
 | [],[],[],_,_,_ => rfl
 | [],_ :: _,_,h,_,_ => h.elim
 | [],[],_ :: _,_,h,_ => h.elim
 | _ :: _,[],_,h,_,_ => h.elim
 | _ :: _,_ :: _,[],_,h,_ => h.elim
 | s :: S,d :: D,e :: E,⟨h1,h⟩,⟨k1,k⟩,he => by
  obtain ⟨a1,a2⟩:=numD_bd h
  obtain ⟨b1,b2⟩:=numD_bd k
  rw [numD,numD] at he
  have hde : d = e:=by
   rcases Int.lt_trichotomy d e with hlt | heq | hgt
   ·have h6 : (d + 1) * prodD S ≤ e * prodD S:=Int.mul_le_mul_of_nonneg_right (by omega) (by omega)
    rw [Int.add_mul,Int.one_mul] at h6
    omega
   ·exact heq
   ·have h6 : (e + 1) * prodD S ≤ d * prodD S:=Int.mul_le_mul_of_nonneg_right (by omega) (by omega)
    rw [Int.add_mul,Int.one_mul] at h6
    omega
  subst hde
  rw [numD_inj h k (by omega)]
theorem nextD_go : ∀ {S D : List Int} {j : Nat},D.length = S.length → j < D.length → nextD (S.drop (j + 1)) (D.drop (j + 1)) = none → D.getD j 0 + 1 < S.getD j 0 → nextD S D = some (D.take j ++ (D.getD j 0 + 1) :: (D.drop (j + 1)).map fun _ => 0)
 | [],D,j,hl,hj,_,_ => by rw [List.length_nil] at hl; omega
 | _ :: _,[],j,hl,hj,_,_ => by simp at hj
 | s :: S,d :: D,0,hl,hj,hn,hlt => by
  simp only [List.drop_succ_cons,List.drop_zero] at hn
  unfold nextD
  rw [hn]
  dsimp only
  rw [if_pos (by simpa using hlt)]
  rfl
 | s :: S,d :: D,j + 1,hl,hj,hn,hlt => by
  have:=nextD_go (S:=S) (D:=D) (j:=j) (by simpa using hl) (by simpa using hj) (by simpa using hn) (by simpa using hlt)
  unfold nextD
  rw [this]
  rfl
theorem nextD_stop {S D : List Int} {j : Nat} (hl : D.length = S.length) (hj : j < D.length) (hn : nextD (S.drop (j + 1)) (D.drop (j + 1)) = none) (hlt : ¬ D.getD j 0 + 1 < S.getD j 0) : nextD (S.drop j) (D.drop j) = none:=by
 rw [List.drop_eq_getElem_cons (show j < S.length by omega),List.drop_eq_getElem_cons hj]
 rw [gEl,gEl,gEq hj,gEq (show j < S.length by omega)] at hlt
 unfold nextD
 rw [hn]
 exact if_neg hlt
def zerD (D : List Int) (j : Nat) : List Int:=D.take j ++ (D.drop j).map fun _ => 0
theorem zerD_len (D : List Int) (j : Nat) : (zerD D j).length = D.length:=by unfold zerD; rw [lAp,lMp,← lAp,List.take_append_drop]
theorem zerD_all (D : List Int) : zerD D D.length = D:=by unfold zerD; rw [tLn,List.drop_length,List.map_nil,List.append_nil]
theorem zerD_at {D : List Int} {i : Nat} (hi : i < D.length) : (zerD D (i + 1)).getD i 0 = D.getD i 0:=by
 unfold zerD
 rw [gEl,List.getElem?_append_left (by rw [lTk]; omega),List.getElem?_take_of_lt (by omega),← gEl]
theorem zerD_set {D : List Int} {i : Nat} (v : Int) (hi : i < D.length) : (zerD D (i + 1)).set i v = D.take i ++ v :: (D.drop (i + 1)).map fun _ => 0:=by
 unfold zerD
 rw [List.set_append_left _ _ (by rw [lTk]; omega),tSu hi,List.set_append_right _ _ (by rw [lTk]; omega),lTk,show i - min i D.length = 0 by omega]
 simp
theorem zerD_succ {D : List Int} {i : Nat} (hi : i < D.length) : (zerD D (i + 1)).set i 0 = zerD D i:=by
 rw [zerD_set 0 hi]
 unfold zerD
 rw [List.drop_eq_getElem_cons hi]
 rfl
def tabD (n : Nat) (U : List Nat) (D : List Int) : List Int:=(List.range n).map fun c => if c ∈ U then D.getD (U.idxOf c) 0 else 0
theorem tabD_len (n : Nat) (U : List Nat) (D : List Int) : (tabD n U D).length = n:=by simp [tabD]
theorem tabD_get {n c : Nat} {U : List Nat} {D : List Int} (hc : c < n) : (tabD n U D).getD c 0 = if c ∈ U then D.getD (U.idxOf c) 0 else 0:=by
 unfold tabD
 rw [gEl,gMp,List.getElem?_range hc]; rfl
theorem tabD_out {n c : Nat} {U : List Nat} {D : List Int} (hc : c ∉ U) : (tabD n U D).getD c 0 = 0:=by
 by_cases hn : c < n
 ·rw [tabD_get hn,if_neg hc]
 ·exact getD_ge (by rw [tabD_len]; omega)
theorem idx_at {U : List Nat} (hn : U.Nodup) {i : Nat} (hi : i < U.length) : U.getD i 0 ∈ U ∧ U.idxOf (U.getD i 0) = i:=by
 rw [gEl,gEq hi]
 exact ⟨List.getElem_mem _,hn.idxOf_getElem i hi⟩
theorem tabD_at {n : Nat} {U : List Nat} {D : List Int} (hn : U.Nodup) {i : Nat} (hi : i < U.length) (hc : U.getD i 0 < n) : (tabD n U D).getD (U.getD i 0) 0 = D.getD i 0:=by
 obtain ⟨h1,h2⟩:=idx_at hn hi
 rw [tabD_get hc,if_pos h1,h2]
theorem tabD_set {n : Nat} {U : List Nat} {D : List Int} (hn : U.Nodup) {i : Nat} (hi : i < U.length) (hl : D.length = U.length) (hc : U.getD i 0 < n) (v : Int) : (tabD n U D).set (U.getD i 0) v = tabD n U (D.set i v):=by
 obtain ⟨h1,h2⟩:=idx_at hn hi
 refine ext_len (by rw [List.length_set,tabD_len,tabD_len]) fun c => ?_
 rw [getD_setI (by rw [tabD_len]; exact hc)]
 by_cases h : c = U.getD i 0
 ·rw [if_pos h,h,tabD_get hc,if_pos h1,h2,gEl,List.getElem?_set_self (by omega)]; rfl
 ·rw [if_neg h]
  by_cases hm : c ∈ U
  ·by_cases hcn : c < n
   ·rw [tabD_get hcn,tabD_get hcn,if_pos hm,if_pos hm,gEl,gEl,List.getElem?_set_ne]
    intro he
    apply h
    have h4:=List.getElem_idxOf (List.idxOf_lt_length_of_mem hm)
    subst he
    rw [gEl,gEq hi]
    exact h4.symm
   ·rw [getD_ge (by rw [tabD_len]; omega),getD_ge (by rw [tabD_len]; omega)]
  ·rw [tabD_out hm,tabD_out hm]
theorem room_lt : ∀ {L : List Eqn} {c : Nat} {v : Int},v < roomOf L c ↔ v < 1000001 ∧ ∀ q ∈ L,c ∈ q.1 → v ≤ q.2:=by
 have key : ∀ (L : List Eqn) (c : Nat) (v a : Int),v < L.foldl (fun a q => if c ∈ q.1 then min a (q.2 + 1) else a) a ↔ v < a ∧ ∀ q ∈ L,c ∈ q.1 → v ≤ q.2:=by
  intro L
  induction L with
  | nil => intro c v a; simp
  | cons q L ih =>
   intro c v a
   rw [List.foldl_cons,ih]
   by_cases hc : c ∈ q.1
   ·rw [if_pos hc]
    constructor
    ·rintro ⟨h1,h2⟩
     refine ⟨by omega,fun p hp hpc => ?_⟩
     rcases List.mem_cons.1 hp with rfl | hp
     ·omega
     ·exact h2 p hp hpc
    ·rintro ⟨h1,h2⟩
     have:=h2 q (by simp) hc
     exact ⟨by omega,fun p hp => h2 p (by simp [hp])⟩
   ·rw [if_neg hc]
    constructor
    ·rintro ⟨h1,h2⟩
     refine ⟨h1,fun p hp hpc => ?_⟩
     rcases List.mem_cons.1 hp with rfl | hp
     ·exact absurd hpc hc
     ·exact h2 p hp hpc
    ·rintro ⟨h1,h2⟩
     exact ⟨h1,fun p hp => h2 p (by simp [hp])⟩
 intro L c v
 exact key L c v 1000001
theorem sumC_le {t : List Int} : ∀ {cs : List Nat} {c : Nat},(∀ x ∈ cs,0 ≤ t.getD x 0) → c ∈ cs → t.getD c 0 ≤ sumC t cs
 | x :: cs,c,h,hc => by
  have h0:=h x (by simp)
  have hs : 0 ≤ sumC t cs:=sumC_nonneg fun y hy => h y (by simp [hy])
  rw [sumC]
  rcases List.mem_cons.1 hc with rfl | hc
  ·omega
  ·have:=sumC_le (fun y hy => h y (by simp [hy])) hc
   omega
theorem rooms_get {n j : Nat} {L : List Eqn} (hj : j < (touch n L).length) : (roomsOf n L).getD j 0 = roomOf L ((touch n L).getD j 0):=by
 unfold roomsOf
 rw [gEl,gMp,gEl,gEq hj]; rfl
theorem rooms_len (n : Nat) (L : List Eqn) : (roomsOf n L).length = (touch n L).length:=lMp _
theorem tab_sol {n : Nat} {l : List EqR} (hg : ∀ q ∈ l,GoodE n q) {D : List Int} (hD : InD (roomsOf n (eqns l)) D) (hs : ∀ q ∈ eqns l,sumC (tabD n (touch n (eqns l)) D) q.1 = q.2) : tabD n (touch n (eqns l)) D ∈ solsOf n (eqns l):=by
 refine (mem_sols hg).2 ⟨tabD_len _ _ _,fun c hc => ?_,fun c hc => ?_,hs⟩
 ·rw [tabD_out hc,zeros_at]
 ·obtain ⟨i,hi,rfl⟩:=List.mem_iff_getElem.1 hc
  have e : (touch n (eqns l))[i] = (touch n (eqns l)).getD i 0:=by rw [gEl,gEq hi]; rfl
  have hc2:=(mem_touch.1 hc).1
  rw [e] at hc2 ⊢
  rw [tabD_at (touch_nd _ _) hi hc2]
  have h:=hD.at (j:=i) (by rw [rooms_len]; exact hi)
  rw [rooms_get hi] at h
  have:=(room_lt.1 h.2).1
  omega
theorem sol_tab {n : Nat} {l : List EqR} (hg : ∀ q ∈ l,GoodE n q) {s : List Int} (hs : s ∈ solsOf n (eqns l)) : ∃ D,InD (roomsOf n (eqns l)) D ∧ s = tabD n (touch n (eqns l)) D:=by
 obtain ⟨h1,h2,h3,h4⟩:=(mem_sols hg).1 hs
 have hat : ∀ i,i < (touch n (eqns l)).length → ((touch n (eqns l)).map fun c => s.getD c 0).getD i 0 = s.getD ((touch n (eqns l)).getD i 0) 0:=fun i hi => by
  rw [gEl,gMp,gEl (l:=touch n (eqns l)),gEq hi]; rfl
 have hmem : ∀ i,i < (touch n (eqns l)).length → (touch n (eqns l)).getD i 0 ∈ touch n (eqns l):=fun i hi => (idx_at (touch_nd _ _) hi).1
 refine ⟨(touch n (eqns l)).map fun c => s.getD c 0,InD.of (by rw [lMp,rooms_len]) fun j hj => ?_,ext_len (by rw [h1,tabD_len]) fun c => ?_⟩
 ·rw [rooms_len] at hj
  rw [hat j hj,rooms_get hj]
  have hm:=hmem j hj
  refine ⟨(h3 _ hm).1,room_lt.2 ⟨by have:=(h3 _ hm).2; omega,fun q hq hc => ?_⟩⟩
  rw [← h4 q hq]
  refine sumC_le (fun x hx => ?_) hc
  by_cases hxn : x ∈ touch n (eqns l)
  ·exact (h3 x hxn).1
  ·rw [h2 x hxn,zeros_at]; exact Int.le_refl _
 ·by_cases hc : c ∈ touch n (eqns l)
  ·obtain ⟨i,hi,rfl⟩:=List.mem_iff_getElem.1 hc
   have e : (touch n (eqns l))[i] = (touch n (eqns l)).getD i 0:=by rw [gEl,gEq hi]; rfl
   have hc2:=(mem_touch.1 hc).1
   rw [e] at hc2 ⊢
   rw [tabD_at (touch_nd _ _) hi hc2,hat i hi]
  ·rw [tabD_out hc,h2 c hc,zeros_at]
def valsOf (n : Nat) (L : List Eqn) (k : Nat) : List Int:=Lib.compact (srtL ((solsOf n L).map fun s => s.getD k 0))
theorem vals_set (n : Nat) (L : List Eqn) (k : Nat) : IsSet (valsOf n L k) (fun z => ∃ s ∈ solsOf n L,s.getD k 0 = z):=by
 have h:=set_of ((solsOf n L).map fun s => s.getD k 0)
 exact ⟨h.asc,fun z => by rw [show valsOf n L k = Lib.compact (srtL ((solsOf n L).map fun s => s.getD k 0)) from rfl,h.mem,List.mem_map]⟩
theorem srt_vals {n : Nat} {L : List Eqn} {k : Nat} {xs : List Int} (hn : xs.Nodup) (hm : ∀ z,z ∈ xs ↔ ∃ s ∈ solsOf n L,s.getD k 0 = z) : srtL xs = valsOf n L k:=by
 have hv:=vals_set n L k
 refine asc_ext ?_ hv.asc fun z => by rw [srtL_mem,hm,hv.mem]
 have h1:=srtL_sorted xs
 have h2 : (srtL xs).Nodup:=(List.mergeSort_perm xs _).nodup_iff.2 hn
 exact (h1.and h2).imp fun h => Int.lt_iff_le_and_ne.2 h
theorem mset_keys {xs : List (Int × Unit)} {k z : Int} : z ∈ (mset xs k ()).map (·.1) ↔ z = k ∨ z ∈ xs.map (·.1):=by
 induction xs with
 | nil => simp [mset]
 | cons p xs ih =>
  obtain ⟨q,u⟩:=p
  unfold mset
  by_cases h : k = q
  ·rw [if_pos h,h]; simp
  ·rw [if_neg h,List.map_cons,List.mem_cons,ih,List.map_cons,List.mem_cons]
   constructor
   ·rintro (h | h | h)
    ·exact .inr (.inl h)
    ·exact .inl h
    ·exact .inr (.inr h)
   ·rintro (h | h | h)
    ·exact .inr (.inl h)
    ·exact .inl h
    ·exact .inr (.inr h)
theorem mset_nodup {xs : List (Int × Unit)} {k : Int} (h : (xs.map (·.1)).Nodup) : ((mset xs k ()).map (·.1)).Nodup:=by
 induction xs with
 | nil => simp [mset]
 | cons p xs ih =>
  obtain ⟨q,u⟩:=p
  unfold mset
  by_cases hk : k = q
  ·rw [if_pos hk]; exact h
  ·rw [if_neg hk]
   rw [List.map_cons,List.nodup_cons] at h ⊢
   exact ⟨fun hm => (mset_keys.1 hm).elim (fun e => hk e.symm) h.1,ih h.2⟩
attribute [local irreducible] opK wpList Code.wp Exit.then Exit.inBlock fnPost bodyPost Nx Calls Oper.wp Rd Rds Wr Ent Stars Blk Again Vec FnSpec wpMix QRun Stop Upto wpAt
attribute [local irreducible] wpForkF
abbrev natI (U : List Nat) : List Int:=U.map Int.ofNat
theorem dstart_r1 (w : World) (K : Act → World → Prop) (Q : Exit → Act → World → Prop) (hQ : PanicOk Q) (F : Res) (A : Option Addr) (c : Nat) (l : List EqR) (n : Nat) (I : PH) (hl : Eqs I A c l) (hg : ∀ q ∈ l,GoodE n q) (hn : n ≤ 4096) (h9 : (allC l).length ≤ 1000000)
  (h : ∀ At ct bt b,Nx ⟨Tryz.prog,55,w⟩ [(0,.int .i64 (n : Int)),(1,.slice A l.length c),(5,.pointer (some ⟨b,0,none⟩))] I [Blk b 235 [.slice At (touch n (eqns l)).length ct,.slice none 0 0,.slice (some ⟨bt,0,none⟩) n n],iR At ct (natI (touch n (eqns l))),Vec 3 1 (some ⟨bt,0,none⟩) n n ((List.replicate n (0 : Int)).map (Value.int .i64)),F] K) :
  Nx ⟨Tryz.prog,55,w⟩ [(0,.int .i64 (n : Int)),(1,.slice A l.length c)] I [F] (Code.wp Tryz.prog (cl (cr (bodyOf Tryz.f206))) (Exit.then K Q)):=by
 have hlen:=hl.len
 have hT:=Touched_spec A c l n I hl hg h9
 refine Nx.p_forkF (id:=1) rfl [5,6,7] [5,6,7] [6] [] rfl rfl (by kernel_rfl) (by kernel_rfl) (PanicOk.then_ hQ) (Ent.nil _) ?_
 refine Nx.forkF_qs [0,1,3] 5 rfl (by kernel_rfl) ?_
 repeat' first | refine kS ?_ | refine kB fun bx => ?_ | refine kA fun A2 c2 => ?_ | refine kX (fun hc => ?_) fun hc => ?_ | fail
 refine Nx.forkF2 (i:=2) (j:=4) (by kernel_rfl) rfl rfl rfl rfl ?_ ?_
 ·refine kC hT ?_
  rintro _ _ ⟨At,ct,rfl,rfl⟩
  refine Nx.mix_S (Ent.nil _) ?_
  refine Nx.forkF1 (i:=4) (by kernel_rfl) rfl rfl ?_
  refine Nx.makeInts rfl rfl rfl rfl rfl rfl rfl rfl (by omega) (fun bt => ?_)
  refine Nx.mix_S (Ent.nil _) ?_
  refine Nx.forkF_fin (by kernel_rfl) (by kernel_rfl) rfl ?_
  repeat' first | refine kS ?_ | refine kB fun bx => ?_ | refine kA fun A2 c2 => ?_ | refine kX (fun hc => ?_) fun hc => ?_ | fail
  exact Nx.weak (by exact zR) (by unfold iR; (exact zE)) (h At ct bt _)
 ·refine Nx.makeInts rfl rfl rfl rfl rfl rfl rfl rfl (by omega) (fun bt => ?_)
  refine Nx.mix_S (Ent.nil _) ?_
  refine Nx.forkF1 (i:=2) (by kernel_rfl) rfl rfl ?_
  refine kC hT ?_
  rintro _ _ ⟨At,ct,rfl,rfl⟩
  refine Nx.mix_S (Ent.nil _) ?_
  refine Nx.forkF_fin (by kernel_rfl) (by kernel_rfl) rfl ?_
  repeat' first | refine kS ?_ | refine kB fun bx => ?_ | refine kA fun A2 c2 => ?_ | refine kX (fun hc => ?_) fun hc => ?_ | fail
  exact Nx.weak (by exact zR) (by unfold iR; (exact zE)) (h At ct bt _)
theorem nat_at {U : List Nat} {i : Nat} (hi : i < U.length) : (natI U).getD i default = ((U.getD i 0 : Nat) : Int):=by
 unfold natI
 rw [gEl,gMp,gEq hi,gEl,gEq hi]; rfl
def DStartPost (n : Nat) (l : List EqR) (v : Value) (R' : List Res) : Prop :=
 ∃ (b : Nat) (At : Option Addr) (ct : Nat) (As : Option Addr) (cs bt : Nat),v = .pointer (some ⟨b,0,none⟩) ∧ R' = [Blk b 235 [.slice At (touch n (eqns l)).length ct,.slice As (roomsOf n (eqns l)).length cs,.slice (some ⟨bt,0,none⟩) n n],iR At ct (natI (touch n (eqns l))),iR As cs (roomsOf n (eqns l)),Vec 3 1 (some ⟨bt,0,none⟩) n n ((List.replicate n (0 : Int)).map (Value.int .i64))]
theorem dstart_spec (A : Option Addr) (c : Nat) (l : List EqR) (n : Nat) (I : PH) (hl : Eqs I A c l) (hg : ∀ q ∈ l,GoodE n q) (hn : n ≤ 4096) (h9 : (allC l).length ≤ 1000000) :
  FnSpec Tryz.prog 206 [.int .i64 (n : Int),.slice A l.length c] I [] (DStartPost n l):=by
 have hlen:=hl.len
 refine FnSpec.enterP Tryz.func206 rfl Tryz.ntmps206 rfl fun w F => ?_
 repeat' first | refine kS ?_ | refine kB fun bx => ?_ | refine kA fun A2 c2 => ?_ | refine kX (fun hc => ?_) fun hc => ?_ | fail
 refine Nx.weak (by exact ⟨rfl,rfl,trivial⟩) (by exact zE) (dstart_r1 w _ _ PanicOk.auto F A c l n I hl hg hn h9 fun At ct bt b => ?_)
 have hul : (touch n (eqns l)).length ≤ n:=by unfold touch; exact Nat.le_trans (List.length_filter_le _ _) (by simp)
 have hin : ∀ i,i < (touch n (eqns l)).length → (touch n (eqns l)).getD i 0 < n:=fun i hi => (mem_touch.1 (idx_at (touch_nd _ _) hi).1).1
 have hrl:=rooms_len n (eqns l)
 have hrg : ∀ i,i < (touch n (eqns l)).length → (roomsOf n (eqns l)).getD i default = roomOf (eqns l) ((touch n (eqns l)).getD i 0):=fun i hi => rooms_get hi
 unfold DStartPost
 generalize touch n (eqns l) = U at hul hin hrl hrg
 generalize roomsOf n (eqns l) = rs at hrl hrg
 refine Nx.ent (R':=[iR At ct (natI U),Blk b 235 [.slice At U.length ct,.slice none 0 0,.slice (some ⟨bt,0,none⟩) n n],Vec 3 1 (some ⟨bt,0,none⟩) n n ((List.replicate n (0 : Int)).map (Value.int .i64)),F]) (by exact zE) ?_
 repeat' first | refine kS ?_ | refine kB fun bx => ?_ | refine kA fun A2 c2 => ?_ | refine kX (fun hc => ?_) fun hc => ?_ | fail
 refine Nx.p_loop (σ:=Nat × Option Addr × Nat) (fun s => [(1,.slice A l.length c),(5,.pointer (some ⟨b,0,none⟩)),(21,.slice At U.length ct),(22,.int .i64 U.length),(23,.int .i64 (s.1 : Int))])
  (fun s => [iR At ct (natI U),iR s.2.1 s.2.2 (rs.take s.1),Blk b 235 [.slice At U.length ct,.slice s.2.1 (rs.take s.1).length s.2.2,.slice (some ⟨bt,0,none⟩) n n],Vec 3 1 (some ⟨bt,0,none⟩) n n ((List.replicate n (0 : Int)).map (Value.int .i64)),F]) (fun s => s.1 ≤ U.length) (fun s => U.length - s.1) (0,none,0) rfl (nZl _) zR ((Ent.vec_nil 3 1 _).trans (by exact zE)) ?_
 rintro ⟨k,As,cs⟩ hk
 dsimp only at hk ⊢
 by_cases hkl : k < U.length
 case neg =>
  rw [List.take_of_length_le (by omega)]
  repeat' first | refine kS ?_ | refine kB fun bx => ?_ | refine kA fun A2 c2 => ?_ | refine kX (fun hc => ?_) fun hc => ?_ | fail
  exact Nx.ret_fn rfl [_,_,_,_] ⟨b,At,ct,As,cs,bt,rfl,rfl⟩ (by exact zE)
 have hik:=hin k hkl
 have hrk:=hrg k hkl
 have hcr : ∀ (W : World) (R : List Res),Rd W I (iR At ct (natI U) :: R) ((ad At).add (k * 1)) (.int .i64 ((U.getD k 0 : Nat) : Int)):=fun W R => by
  have h:=Rd.vecEl (W:=W) (I:=I) (R:=iR At ct (natI U) :: R) 0 (f:=Value.int .i64) (l:=natI U) (i:=k) rfl (by rw [lMp]; exact hkl)
  rw [nat_at hkl] at h
  exact h
 generalize U.getD k 0 = y at hik hrk hcr
 have hts:=take_snocJ (l:=rs) (k:=k) (by omega)
 rw [hrk] at hts
 have htl : (rs.take k).length = k:=by rw [lTk]; omega
 refine Nx.vec_fact fun _ hv2 _ hAt => ?_
 rw [lMp] at hv2 hAt
 repeat' first | refine kW ?_ | (refine Nx.zo ?_; first | refine kP ?_ | refine Nx.indexAddr_nat rfl rfl rfl rfl rfl hkl (hAt (by omega)) ?_ | refine Nx.load rfl rfl rfl (hcr _ _) ?_) | refine kS ?_ | refine kB fun bx => ?_ | refine kA fun A2 c2 => ?_ | refine kX (fun hc => ?_) fun hc => ?_ | fail
 refine Nx.p_loop (σ:=Nat) (fun j => [(1,.slice A l.length c),(5,.pointer (some ⟨b,0,none⟩)),(21,.slice At U.length ct),(22,.int .i64 U.length),(23,.int .i64 (k : Int)),(7,.int .i64 (y : Int)),(8,.int .i64 (roomOf (eqns (l.take j)) y)),(27,.slice A l.length c),(28,.int .i64 l.length),(29,.int .i64 (j : Int))])
  (fun _ => [iR At ct (natI U),iR As cs (rs.take k),Blk b 235 [.slice At U.length ct,.slice As (rs.take k).length cs,.slice (some ⟨bt,0,none⟩) n n],Vec 3 1 (some ⟨bt,0,none⟩) n n ((List.replicate n (0 : Int)).map (Value.int .i64)),F]) (fun j => j ≤ l.length) (fun j => l.length - j) 0 rfl (nZl _) zR (by exact zE) ?_
 intro j hj
 have hj : j ≤ l.length:=hj
 by_cases hjl : j < l.length
 ·have hinq:=hl.inner _ (getD_memQ hjl)
  have hgq:=hg _ (getD_memQ hjl)
  have hes:=eqns_snoc hjl
  have hrds : ∀ (W : World) (R : List Res),Rds W I R ((ad A).add (j * 2)) (eqC (l.getD j default)):=fun W R => hl.outer.rds hjl
  have hrb:=room_bd (L:=eqns (l.take j)) (c:=y) (fun q hq => by
   obtain ⟨x,hx,rfl⟩:=List.mem_map.1 hq
   exact (hg x (List.mem_of_mem_take hx)).val.1)
  generalize l.getD j default = q at hinq hgq hes hrds
  obtain ⟨⟨Ax,cx,ix⟩,z⟩:=q
  dsimp only at hinq
  replace hrds : ∀ (W : World) (R : List Res),Rds W I R ((ad A).add (j * 2)) [.slice Ax ix.length cx,.int .i64 z]:=hrds
  have hz:=hgq.val
  dsimp only at hz
  have hCn:=ContainsI_spec Ax cx ix (y : Int) I hinq
  have hms:=mem_eqn hgq (c:=y)
  dsimp only at hms
  have hrs : roomOf (eqns (l.take (j + 1))) y = if (y : Int) ∈ ix then min (roomOf (eqns (l.take j)) y) (z + 1) else roomOf (eqns (l.take j)) y:=by
   rw [hes,room_snoc]
   by_cases hm : (y : Int) ∈ ix
   ·rw [if_pos hm,if_pos (hms.2 hm)]; rfl
   ·rw [if_neg hm,if_neg fun h => hm (hms.1 h)]
  by_cases hm : (y : Int) ∈ ix
  ·rw [if_pos hm] at hrs
   rw [decide_eq_true hm] at hCn
   repeat' first | refine kW ?_ | (refine Nx.zo ?_; first | refine kP ?_ | refine Nx.indexAddr_nat rfl rfl rfl rfl rfl (by omega) (hl.outer.isSome (by omega) (by omega)) ?_ | refine Nx.loads rfl rfl rfl rfl (hrds _ _) rfl ?_ | refine kV hCn ?_) | refine kS ?_ | refine kB fun bx => ?_ | refine kA fun A2 c2 => ?_ | refine kX (fun hc => ?_) fun hc => ?_ | fail
   exact Nx.again (j + 1) hjl (by omega) ⟨rfl,rfl,rfl,rfl,rfl,rfl,by rw [hrs]; rfl,rfl,rfl,rfl,trivial⟩ (by exact zE)
  ·rw [if_neg hm] at hrs
   rw [decide_eq_false hm] at hCn
   repeat' first | refine kW ?_ | (refine Nx.zo ?_; first | refine kP ?_ | refine Nx.indexAddr_nat rfl rfl rfl rfl rfl (by omega) (hl.outer.isSome (by omega) (by omega)) ?_ | refine Nx.loads rfl rfl rfl rfl (hrds _ _) rfl ?_ | refine kV hCn ?_) | refine kS ?_ | refine kB fun bx => ?_ | refine kA fun A2 c2 => ?_ | refine kX (fun hc => ?_) fun hc => ?_ | fail
   exact Nx.again (j + 1) hjl (by omega) ⟨rfl,rfl,rfl,rfl,rfl,rfl,by rw [hrs]; rfl,rfl,rfl,rfl,trivial⟩ (by exact zE)
 obtain rfl : j = l.length:=by omega
 rw [tLn]
 repeat' first | refine kS ?_ | refine kB fun bx => ?_ | refine kA fun A2 c2 => ?_ | refine kX (fun hc => ?_) fun hc => ?_ | fail
 refine Nx.again (k + 1,A2,c2) hkl (by dsimp only; omega) zR ?_
 dsimp only
 rw [hts,lAp (bs:=[_]),List.length_singleton]
 unfold iR
 rw [lAp (bs:=[_]),List.length_singleton,mAp]
 (exact zE)
abbrev digR (b : Nat) (At As : Option Addr) (ct cs bt n : Nat) (U : List Nat) (rs : List Int) : Res:=Blk b 235 [.slice At U.length ct,.slice As rs.length cs,.slice (some ⟨bt,0,none⟩) n n]
abbrev tabR (bt n : Nat) (t : List Int) : Res:=Vec 3 1 (some ⟨bt,0,none⟩) n n (t.map (Value.int .i64))
def NextPost (b : Nat) (At As : Option Addr) (ct cs bt n : Nat) (U : List Nat) (rs D : List Int) (v : Value) (R' : List Res) : Prop :=
 (∃ D',nextD rs D = some D' ∧ v = .bool true ∧ R' = [digR b At As ct cs bt n U rs,tabR bt n (tabD n U D')]) ∨ (nextD rs D = none ∧ v = .bool false ∧ R' = [digR b At As ct cs bt n U rs,tabR bt n (tabD n U (zerD D 0))])
theorem next_spec (b : Nat) (At As : Option Addr) (ct cs bt n : Nat) (U : List Nat) (rs D : List Int) (I : PH) (hc : Ints I At ct (natI U)) (hs : Ints I As cs rs) (hD : InD rs D) (hlen : rs.length = U.length) (hU : U.Nodup) (hin : ∀ i,i < U.length → U.getD i 0 < n) (hr : ∀ i,i < rs.length → rs.getD i 0 ≤ 1000001) :
  FnSpec Tryz.prog 207 [.pointer (some ⟨b,0,none⟩)] I [digR b At As ct cs bt n U rs,tabR bt n (tabD n U D)] (NextPost b At As ct cs bt n U rs D):=by
 have hcl:=hc.len
 have hsl:=hs.len
 have hnl : (natI U).length = U.length:=lMp _
 rw [hnl] at hcl
 have hDl:=hD.len
 unfold NextPost
 refine FnSpec.enterP Tryz.func207 rfl Tryz.ntmps207 rfl fun w F => ?_
 unfold digR tabR
 repeat' first | refine kS ?_ | refine kB fun bx => ?_ | refine kA fun A2 c2 => ?_ | refine kX (fun hc => ?_) fun hc => ?_ | fail
 refine Nx.p_loop (σ:=Nat) (fun j => [(0,.pointer (some ⟨b,0,none⟩)),(3,.int .i64 ((j : Int) - 1))])
  (fun j => [Blk b 235 [.slice At U.length ct,.slice As rs.length cs,.slice (some ⟨bt,0,none⟩) n n],Vec 3 1 (some ⟨bt,0,none⟩) n n ((tabD n U (zerD D j)).map (Value.int .i64)),F]) (fun j => j ≤ U.length ∧ nextD (rs.drop j) (D.drop j) = none) (fun j => j) U.length rfl ⟨nLr _,by rw [List.drop_eq_nil_of_le (by omega),List.drop_eq_nil_of_le (by omega)]; rfl⟩ ⟨rfl,rfl,trivial⟩ (by rw [show zerD D U.length = D by rw [← hlen,← hDl]; exact zerD_all D]; (exact zE)) ?_
 rintro j ⟨hj,hjn⟩
 cases j with
 | zero =>
  rw [List.drop_zero,List.drop_zero] at hjn
  repeat' first | refine kS ?_ | refine kB fun bx => ?_ | refine kA fun A2 c2 => ?_ | refine kX (fun hc => ?_) fun hc => ?_ | fail
  exact Nx.ret_fn rfl [_,_] (.inr ⟨hjn,rfl,rfl⟩) (by exact zE)
 | succ i =>
  have hiU : i < U.length:=hj
  have hiD : i < D.length:=by omega
  rw [show (((i + 1 : Nat) : Int) - 1) = (i : Int) by omega]
  have hyn:=hin i hiU
  have hDi:=hD.at (j:=i) (by omega)
  have hri:=hr i (by omega)
  have hcr : ∀ (W : World) (R : List Res),Rd W I R ((ad At).add (i * 1)) (.int .i64 ((U.getD i 0 : Nat) : Int)):=fun W R => by rw [← nat_at hiU]; exact hc.rd (by omega)
  have hsr : ∀ (W : World) (R : List Res),Rd W I R ((ad As).add (i * 1)) (.int .i64 (rs.getD i 0)):=fun W R => hs.rd (by omega)
  have htl:=tabD_len n U (zerD D (i + 1))
  have hta : (tabD n U (zerD D (i + 1))).getD (U.getD i 0) default = D.getD i 0:=by
   show (tabD n U (zerD D (i + 1))).getD (U.getD i 0) 0 = _
   rw [tabD_at hU hiU hyn,zerD_at hiD]
  have hset : ∀ v,(tabD n U (zerD D (i + 1))).set (U.getD i 0) v = tabD n U (D.take i ++ v :: (D.drop (i + 1)).map fun _ => 0):=fun v => by
   rw [tabD_set hU hiU (by rw [zerD_len]; omega) hyn,zerD_set v hiD]
  have hset0 : (tabD n U (zerD D (i + 1))).set (U.getD i 0) 0 = tabD n U (zerD D i):=by
   rw [tabD_set hU hiU (by rw [zerD_len]; omega) hyn,zerD_succ hiD]
  have hgo:=nextD_go (S:=rs) (D:=D) (j:=i) hDl hiD hjn
  have hstop:=nextD_stop (S:=rs) (D:=D) (j:=i) hDl hiD hjn
  generalize tabD n U (zerD D (i + 1)) = T at htl hta hset hset0
  generalize U.getD i 0 = y at hyn hcr hta hset hset0
  generalize D.getD i 0 = d at hDi hta hgo hstop
  generalize rs.getD i 0 = s at hDi hri hsr hgo hstop
  have htg : ∀ v,(T.set y v).getD y default = v:=fun v => by rw [gEl,List.getElem?_set_self (by omega)]; rfl
  have hrv : ∀ (v : Int) (W : World) (R : List Res) (r0 : Res),Rd W I (Vec 3 1 (some ⟨bt,0,none⟩) n n ((T.set y v).map (Value.int .i64)) :: r0 :: R) ((ad (some ⟨bt,0,none⟩)).add (y * 1)) (.int .i64 v):=fun v W R r0 => by
   have h:=Rd.vecEl (W:=W) (I:=I) (R:=Vec 3 1 (some ⟨bt,0,none⟩) n n ((T.set y v).map (Value.int .i64)) :: r0 :: R) 0 (f:=Value.int .i64) (l:=T.set y v) (i:=y) rfl (by rw [List.length_set]; omega)
   rw [htg] at h
   exact h
  have hrv1 : ∀ (W : World) (R : List Res) (r0 : Res),Rd W I (r0 :: Vec 3 1 (some ⟨bt,0,none⟩) n n (T.map (Value.int .i64)) :: R) ((ad (some ⟨bt,0,none⟩)).add (y * 1)) (.int .i64 d):=fun W R r0 => by
   have h:=Rd.vecEl (W:=W) (I:=I) (R:=r0 :: Vec 3 1 (some ⟨bt,0,none⟩) n n (T.map (Value.int .i64)) :: R) 1 (f:=Value.int .i64) (l:=T) (i:=y) rfl (by omega)
   rw [hta] at h
   exact h
  by_cases hlt : d + 1 < s
  ·have hgo:=hgo hlt
   repeat' first | ((with_reducible refine Nx.is_wp ?_); first | refine Nx.wo ?_ | refine kD 6 [0,1,2,3,4,5,6,7,8,9,10,11,12,13,14] [] ?_) | (refine Nx.zo ?_; first | refine kP ?_ | refine Nx.indexAddr_nat (A:=At) (i:=i) (sz:=1) rfl rfl rfl rfl rfl (by omega) (hc.isSome (by omega)) ?_ | refine Nx.load rfl rfl rfl (hcr _ _) ?_ | refine Nx.indexAddr_nat (A:=some ⟨bt,0,none⟩) (i:=y) (sz:=1) rfl rfl rfl rfl rfl hyn rfl ?_ | refine Nx.load rfl rfl rfl (hrv1 _ _ _) ?_ | refine Nx.store_ints 1 (A:=some ⟨bt,0,none⟩) (i:=y) (l:=T) rfl rfl rfl rfl (by omega) ?_) | refine kS ?_ | refine kB fun bx => ?_ | refine kA fun A2 c2 => ?_ | ((with_reducible refine Nx.is_mix ?_); refine kQ rfl rfl rfl rfl (by first | exact .inl rfl | exact .inr ⟨_,_,_,rfl,rfl,rfl⟩) (by first | exact QRun.opr rfl | exact QRun.idx (A:=some ⟨bt,0,none⟩) (i:=y) (sz:=1) rfl rfl rfl rfl hyn rfl | exact QRun.idx (A:=As) (i:=i) (sz:=1) rfl rfl rfl rfl (by omega) (hs.isSome (by omega)) | exact QRun.load rfl rfl (hrv _ _ _ _) | exact QRun.load rfl rfl (hsr _ _)) ?_) | refine kX (fun hc => ?_) fun hc => ?_ | fail
   exact Nx.ret_fn rfl [_,_] (.inl ⟨_,hgo,rfl,rfl⟩) (by rw [← hset]; (exact zE))
  ·have hstop:=hstop hlt
   have hss : ∀ v,(T.set y v).set y 0 = tabD n U (zerD D i):=fun v => by rw [List.set_set,hset0]
   repeat' first | ((with_reducible refine Nx.is_wp ?_); first | refine Nx.wo ?_ | refine kD 6 [0,1,2,3,4,5,6,7,8,9,10,11,12,13,14] [] ?_) | (refine Nx.zo ?_; first | refine kP ?_ | refine Nx.indexAddr_nat (A:=At) (i:=i) (sz:=1) rfl rfl rfl rfl rfl (by omega) (hc.isSome (by omega)) ?_ | refine Nx.load rfl rfl rfl (hcr _ _) ?_ | refine Nx.indexAddr_nat (A:=some ⟨bt,0,none⟩) (i:=y) (sz:=1) rfl rfl rfl rfl rfl hyn rfl ?_ | refine Nx.load rfl rfl rfl (hrv1 _ _ _) ?_ | refine Nx.store_ints 1 (A:=some ⟨bt,0,none⟩) (i:=y) (l:=T) rfl rfl rfl rfl (by omega) ?_ | refine Nx.store_ints 0 (A:=some ⟨bt,0,none⟩) (i:=y) (l:=T.set y (d + 1)) rfl rfl rfl rfl (by omega) ?_) | refine kS ?_ | refine kB fun bx => ?_ | refine kA fun A2 c2 => ?_ | ((with_reducible refine Nx.is_mix ?_); refine kQ rfl rfl rfl rfl (by first | exact .inl rfl | exact .inr ⟨_,_,_,rfl,rfl,rfl⟩) (by first | exact QRun.opr rfl | exact QRun.idx (A:=some ⟨bt,0,none⟩) (i:=y) (sz:=1) rfl rfl rfl rfl hyn rfl | exact QRun.idx (A:=As) (i:=i) (sz:=1) rfl rfl rfl rfl (by omega) (hs.isSome (by omega)) | exact QRun.load rfl rfl (hrv _ _ _ _) | exact QRun.load rfl rfl (hsr _ _)) ?_) | refine kX (fun hc => ?_) fun hc => ?_ | fail
   exact Nx.again i ⟨by omega,hstop⟩ (by omega) ⟨rfl,rfl,trivial⟩ (by rw [← hss (d + 1)]; (exact zE))
abbrev SeenE:=Option (Nat × List (Int × Unit))
def seenV : SeenE → Value
 | none => .map none
 | some p => .map (some p.1)
abbrev mapB (b : Nat) (l : List (Int × Unit)) : Res:=MapS (Value.int .i64) (fun _ : Unit => Value.bool true) b l
def seenR : SeenE → Res
 | none => Stars []
 | some p => mapB p.1 p.2
def CellOk (o : SeenE) (Q : Int → Prop) : Prop:=match o with
 | none => ∀ z,¬ Q z
 | some p => (p.2.map (·.1)).Nodup ∧ ∀ z,z ∈ p.2.map (·.1) ↔ Q z
theorem CellOk.congr {o : SeenE} {Q Q' : Int → Prop} (h : CellOk o Q) (hq : ∀ z,Q' z ↔ Q z) : CellOk o Q':=by
 cases o with
 | none => exact fun z hz => h z ((hq z).1 hz)
 | some p => exact ⟨h.1,fun z => (h.2 z).trans (hq z).symm⟩
theorem CellOk.fresh {Q Q' : Int → Prop} (b : Nat) {v : Int} (h : CellOk none Q) (hq : ∀ z,Q' z ↔ z = v ∨ Q z) : CellOk (some (b,mset [] v ())) Q' :=
 ⟨mset_nodup (by simp),fun z => by
  rw [mset_keys,hq]
  have:=h z
  simp [this]⟩
theorem CellOk.more {Q Q' : Int → Prop} {b : Nat} {l : List (Int × Unit)} {v : Int} (h : CellOk (some (b,l)) Q) (hq : ∀ z,Q' z ↔ z = v ∨ Q z) : CellOk (some (b,mset l v ())) Q' :=
 ⟨mset_nodup h.1,fun z => by rw [mset_keys,hq,h.2]⟩
def Vis (n : Nat) (U : List Nat) (rs : List Int) (S : List (List Int)) (cur : Int) (t : List Int) : Prop:=t ∈ S ∧ ∃ E,InD rs E ∧ numD rs E < cur ∧ t = tabD n U E
theorem vis_step {n : Nat} {U : List Nat} {rs D : List Int} {S : List (List Int)} (hD : InD rs D) (t : List Int) : Vis n U rs S (numD rs D + 1) t ↔ Vis n U rs S (numD rs D) t ∨ (t ∈ S ∧ t = tabD n U D):=by
 constructor
 ·rintro ⟨h1,E,h2,h3,h4⟩
  by_cases he : numD rs E = numD rs D
  ·right
   rw [h4,numD_inj h2 hD he]
   exact ⟨by rw [← numD_inj h2 hD he,← h4]; exact h1,rfl⟩
  ·exact .inl ⟨h1,E,h2,by omega,h4⟩
 ·rintro (⟨h1,E,h2,h3,h4⟩ | ⟨h1,h2⟩)
  ·exact ⟨h1,E,h2,by omega,h4⟩
  ·exact ⟨h1,D,hD,by omega,h2⟩
structure GoodS (n : Nat) (st : List SeenE) (fd : Bool) (V : List Int → Prop) : Prop where
 len : st.length = n
 cell : ∀ j,j < n → CellOk (st.getD j default) (fun z => ∃ t,V t ∧ t.getD j 0 = z)
 found : fd = true ↔ ∃ t,V t
theorem GoodS.congr {n : Nat} {st : List SeenE} {fd : Bool} {V V' : List Int → Prop} (h : GoodS n st fd V) (hv : ∀ t,V' t ↔ V t) : GoodS n st fd V':=by
 obtain rfl : V' = V:=funext fun t => propext (hv t)
 exact h
theorem seen_get {st : List SeenE} {k : Nat} (hk : k < st.length) : (st.map seenR)[k]? = some (seenR (st.getD k default)):=by
 rw [gMp,gEl,gEq hk]; rfl
theorem seen_set (st : List SeenE) (k : Nat) (x : SeenE) : (st.map seenR).set k (seenR x) = (st.set k x).map seenR:=by rw [List.map_set]
theorem sumC_bd {t : List Int} {M : Int} (hM : 0 ≤ M) (h : ∀ c,0 ≤ t.getD c 0 ∧ t.getD c 0 ≤ M) : ∀ cs : List Nat,0 ≤ sumC t cs ∧ sumC t cs ≤ cs.length * M
 | [] => by simp [sumC]
 | c :: cs => by
  obtain ⟨h1,h2⟩:=sumC_bd hM h cs
  have:=h c
  rw [sumC,List.length_cons,Int.natCast_succ,Int.add_mul,Int.one_mul]
  constructor <;> omega
theorem tabD_bd {n : Nat} {U : List Nat} {rs D : List Int} (hD : InD rs D) (hlen : rs.length = U.length) (hr : ∀ i,i < rs.length → rs.getD i 0 ≤ 1000001) (c : Nat) : 0 ≤ (tabD n U D).getD c 0 ∧ (tabD n U D).getD c 0 ≤ 1000000:=by
 by_cases hn : c < n
 ·rw [tabD_get hn]
  split
  ·rename_i hm
   have hi:=List.idxOf_lt_length_of_mem hm
   have h1:=hD.at (j:=U.idxOf c) (by omega)
   have h2:=hr (U.idxOf c) (by omega)
   omega
  ·decide
 ·rw [getD_ge (by rw [tabD_len]; omega)]; decide
theorem Rd.vecAt (k : Nat) {W : World} {I : PH} {R : List Res} {t : TypeId} {A : Option Addr} {n c : Nat} {l : List Int} {i : Nat} {v : Int} (hk : nthL R k = some (Vec t 1 A n c (l.map (Value.int .i64)))) (hi : i < l.length) (hv : l.getD i 0 = v) : Rd W I R ((ad A).add (i * 1)) (.int .i64 v):=by
 subst hv
 exact Rd.vecEl k (f:=Value.int .i64) hk hi
abbrev seenA (bs n : Nat) (st : List SeenE) : Res:=Vec 236 1 (some ⟨bs,0,none⟩) n n (st.map seenV)
theorem nil_seen (n : Nat) {R : List Res} : Ent R (Stars (List.replicate n (seenR none)) :: R):=by
 induction n with
 | zero => exact Ent.stars_nil _
 | succ n ih =>
  rw [List.replicate_succ']
  exact ih.trans ((Ent.stars_nil _).trans Ent.bundle)
theorem seen_put {st : List SeenE} {k b : Nat} {l : List (Int × Unit)} {R : List Res} (hk : k < st.length) : Ent (mapB b l :: Stars (st.map seenR) :: R) (Stars ((st.set k (some (b,l))).map seenR) :: R):=by
 have h1:=Ent.takeOut k (R:=mapB b l :: R) (seen_get hk)
 have h2:=Ent.putIn k (B:=st.map seenR) (R:=R) (r:=mapB b l) (by rw [lMp]; exact hk)
 rw [show (st.map seenR).set k (mapB b l) = (st.set k (some (b,l))).map seenR from seen_set st k (some (b,l))] at h2
 exact (Ent.swap _ _ _).trans (h1.trans ((Ent.drop (Ent.swap _ _ _)).trans h2))
theorem seen_back {st : List SeenE} {k b : Nat} {l : List (Int × Unit)} {R : List Res} (hk : k < st.length) : Ent (mapB b l :: Stars ((st.map seenR).eraseIdx k) :: R) (Stars ((st.set k (some (b,l))).map seenR) :: R):=by
 have h2:=Ent.putIn k (B:=st.map seenR) (R:=R) (r:=mapB b l) (by rw [lMp]; exact hk)
 rw [show (st.map seenR).set k (mapB b l) = (st.set k (some (b,l))).map seenR from seen_set st k (some (b,l))] at h2
 exact h2
theorem seenV_set {st : List SeenE} {k b : Nat} {l l' : List (Int × Unit)} (hk : k < st.length) (h : st.getD k default = some (b,l)) : (st.set k (some (b,l'))).map seenV = st.map seenV:=by
 rw [List.map_set]
 have e : (st.map seenV)[k]'(by rw [lMp]; exact hk) = seenV (some (b,l')):=by
  rw [List.getElem_map]
  rw [gEl,gEq hk] at h
  rw [show st[k] = some (b,l) from h]; rfl
 rw [← e]
 exact List.set_getElem_self _
def ValsPost (n : Nat) (L : List Eqn) (v : Value) (R' : List Res) : Prop :=
 ∃ (A' : Option Addr) (c' : Nat) (o : List Row),o.map (·.2.2) = (if solsOf n L = [] then [] else (List.range n).map (valsOf n L)) ∧ v = .slice A' o.length c' ∧ R' = rowsR A' c' o
theorem keys_len {xs : List Int} (hn : xs.Nodup) (hz : ∀ z ∈ xs,0 ≤ z ∧ z < 1000001) : xs.length ≤ 1000001:=by
 have h1:=srtL_sorted xs
 have h2 : (srtL xs).Nodup:=(List.mergeSort_perm xs _).nodup_iff.2 hn
 have h3:=asc_room ((h1.and h2).imp fun h => Int.lt_iff_le_and_ne.2 h) (a:=0) (b:=1000001) fun x hx => hz x (srtL_mem xs x |>.1 hx)
 rw [srtL_len] at h3
 omega
theorem row_set {o : List Row} {k : Nat} (x : Row) : (o.map rwR).set k (rwR x) = (o.set k x).map rwR:=by rw [List.map_set]
theorem row_getw {o : List Row} {k : Nat} (hk : k < o.length) : (o.map rwR)[k]? = some (rwR (o.getD k default)):=by
 rw [gMp,gEl,gEq hk]; rfl
theorem values_end (w : World) (F : Res) (n bs : Nat) (L : List Eqn) (fd : Bool) (st : List SeenE) (I0 I : PH) (hle : PH.le I0 I) (hn1 : 1 ≤ n) (hn : n ≤ 4096) (hG : GoodS n st fd (fun t => t ∈ solsOf n L)) (hb : ∀ s ∈ solsOf n L,∀ j,0 ≤ s.getD j 0 ∧ s.getD j 0 ≤ 1000000) :
  Nx ⟨Tryz.prog,115,w⟩ [(0,.int .i64 (n : Int)),(5,.slice (some ⟨bs,0,none⟩) n n),(6,.bool fd)] I [seenA bs n st,Stars (st.map seenR),F]
   (Code.wp Tryz.prog (cr (cr (cr (cr (cr (cl (cr (bodyOf Tryz.f150)))))))) (fnPost Tryz.prog Tryz.f150 I0 F w (ValsPost n L))):=by
 unfold ValsPost
 cases fd with
 | false =>
  have hnil : solsOf n L = []:=by
   cases hS : solsOf n L with
   | nil => rfl
   | cons t T =>
    have:=hG.found.2 ⟨t,by rw [hS]; simp⟩
    cases this
  rw [if_pos hnil]
  repeat' first | refine kS ?_ | refine kB fun bx => ?_ | refine kA fun A2 c2 => ?_ | refine kX (fun hc => ?_) fun hc => ?_ | fail
  exact Nx.imm_le hle (Nx.ret_fn rfl [_,_] ⟨none,0,[],rfl,rfl,rfl⟩ ((Ent.vec_nil 31 1 _).trans ((Ent.stars_nil _).trans (by exact zE))))
 | true =>
  obtain ⟨t0,ht0⟩:=hG.found.1 rfl
  rw [if_neg (fun h => by rw [h] at ht0; cases ht0)]
  have hsome : ∀ j,j < n → ∃ b ps,st.getD j default = some (b,ps) ∧ (ps.map (·.1)).Nodup ∧ (∀ z,z ∈ ps.map (·.1) ↔ ∃ s ∈ solsOf n L,s.getD j 0 = z) ∧ ps.length ≤ 1000001:=fun j hj => by
   have hc:=hG.cell j hj
   cases hs : st.getD j default with
   | none => rw [hs] at hc; exact absurd ⟨t0,ht0,rfl⟩ (hc (t0.getD j 0))
   | some p =>
    obtain ⟨b,ps⟩:=p
    rw [hs] at hc
    refine ⟨b,ps,rfl,hc.1,fun z => (hc.2 z).trans ⟨fun ⟨t,h1,h2⟩ => ⟨t,h1,h2⟩,fun ⟨t,h1,h2⟩ => ⟨t,h1,h2⟩⟩,?_⟩
    rw [← lMp (f:=(·.1))]
    refine keys_len hc.1 fun z hz => ?_
    obtain ⟨t,h1,rfl⟩:=(hc.2 z).1 hz
    have:=hb t h1 j
    omega
  have hstl:=hG.len
  clear hG hb
  repeat' first | refine kW ?_ | (refine Nx.zo ?_; first | refine kP ?_ | refine Nx.makeSlice (by_:=24) rfl rfl rfl rfl rfl rfl rfl rfl rfl (by omega) (by unfold maxLen; omega) (fun bo => ?_)) | refine kS ?_ | refine kB fun bx => ?_ | refine kA fun A2 c2 => ?_ | refine kX (fun hc => ?_) fun hc => ?_ | fail
  refine Nx.p_loop (σ:=Nat × List Row) (fun s => [(16,.slice (some ⟨bo,0,none⟩) n n),(85,.slice (some ⟨bs,0,none⟩) n n),(86,.int .i64 (n : Int)),(87,.int .i64 (s.1 : Int))])
   (fun s => [Vec 31 1 (some ⟨bo,0,none⟩) n n (s.2.map rowV),Stars (s.2.map rwR),seenA bs n st,Stars ((st.drop s.1).map seenR),F]) (fun s => s.1 ≤ n ∧ s.2.length = n ∧ (∀ i,i < s.1 → (s.2.getD i default).2.2 = valsOf n L i) ∧ ∀ i,s.1 ≤ i → i < n → s.2.getD i default = (none,0,[])) (fun s => n - s.1) (0,List.replicate n (none,0,[])) rfl ⟨Nat.zero_le _,List.length_replicate,fun i hi => absurd hi (Nat.not_lt_zero _),fun i _ hi => by rw [List.getD_eq_getElem?_getD,List.getElem?_replicate,if_pos hi]; rfl⟩ zR ((nil_rwR n).trans (by simp only [List.map_replicate,List.drop_zero,rowV,List.length_nil]; (exact zE))) ?_
  rintro ⟨k,o⟩ ⟨hk,hol,hdone,hnil⟩
  dsimp only at hk hol hdone hnil ⊢
  by_cases hkn : k < n
  case neg =>
   obtain rfl : k = n:=by omega
   repeat' first | refine kS ?_ | refine kB fun bx => ?_ | refine kA fun A2 c2 => ?_ | refine kX (fun hc => ?_) fun hc => ?_ | fail
   refine Nx.imm_le hle (Nx.ret_fn rfl [_,_] ⟨some ⟨bo,0,none⟩,k,o,?_,by rw [hol],rfl⟩ (by rw [hol]; (exact zE)))
   refine List.ext_getElem? fun i => ?_
   rw [gMp,gMp]
   by_cases hi : i < k
   ·have h3:=hdone i hi
    rw [gEq (show i < o.length by omega),List.getElem?_range hi]
    rw [gEl,gEq (show i < o.length by omega)] at h3
    exact congrArg some h3
   ·rw [List.getElem?_eq_none (show o.length ≤ i by omega),List.getElem?_eq_none (show (List.range k).length ≤ i by rw [List.length_range]; omega)]
    rfl
  obtain ⟨bk,ps,hst,hnd,hmem,hpl⟩:=hsome k hkn
  have hok0:=hnil k (nLr _) hkn
  have hsr : ∀ (W : World) (R : List Res) (r0 r1 : Res),Rd W I (r0 :: r1 :: seenA bs n st :: R) ((ad (some ⟨bs,0,none⟩)).add (k * 1)) (.map (some bk)):=fun W R r0 r1 => by
   have h:=Rd.vecEl (W:=W) (I:=I) (R:=r0 :: r1 :: seenA bs n st :: R) 2 (f:=seenV) (l:=st) (i:=k) rfl (by omega)
   rw [hst] at h
   exact h
  have hdr : (st.drop k).map seenR = seenR (some (bk,ps)) :: (st.drop (k + 1)).map seenR:=by
   rw [List.drop_eq_getElem_cons (show k < st.length by omega),List.map_cons]
   rw [gEl,gEq (show k < st.length by omega)] at hst
   rw [show st[k] = some (bk,ps) from hst]
  rw [hdr]
  refine Nx.ent (R':=[Vec 31 1 (some ⟨bo,0,none⟩) n n (o.map rowV),Stars (o.map rwR),seenA bs n st,Stars (mapB bk ps :: (st.drop (k + 1)).map seenR),F]) (by unfold mapB seenR; (exact zE)) ?_
  refine Nx.ent (R':=[mapB bk ps,rwR (none,0,[]),seenA bs n st,Vec 31 1 (some ⟨bo,0,none⟩) n n (o.map rowV),Stars ((o.map rwR).eraseIdx k),Stars ((st.drop (k + 1)).map seenR),F]) ?_ ?_
  ·refine Ent.trans (R':=[Stars (mapB bk ps :: (st.drop (k + 1)).map seenR),Stars (o.map rwR),Vec 31 1 (some ⟨bo,0,none⟩) n n (o.map rowV),seenA bs n st,F]) (by exact zE) ((Ent.takeOut 0 rfl).trans ?_)
   have hgo:=row_getw (o:=o) (k:=k) (by omega)
   rw [hok0] at hgo
   refine Ent.trans (R':=[Stars (o.map rwR),mapB bk ps,Stars ((st.drop (k + 1)).map seenR),Vec 31 1 (some ⟨bo,0,none⟩) n n (o.map rowV),seenA bs n st,F]) (by rw [List.eraseIdx_cons_zero]; (exact zE)) ((Ent.takeOut k hgo).trans (by exact zE))
  repeat' first | refine kW ?_ | (refine Nx.zo ?_; first | refine kP ?_ | refine Nx.indexAddr_nat (A:=some ⟨bs,0,none⟩) (i:=k) (sz:=1) rfl rfl rfl rfl rfl hkn rfl ?_ | refine Nx.load rfl rfl rfl (hsr _ _ _ _) ?_ | refine Nx.mapRange 0 (Value.int .i64) (fun _ : Unit => Value.bool true) rfl rfl rfl rfl (fun r => ?_)) | refine kS ?_ | refine kB fun bx => ?_ | refine kA fun A2 c2 => ?_ | refine kX (fun hc => ?_) fun hc => ?_ | fail
  have hos0 : o.set k (none,0,[]) = o:=by
   rw [← hok0,gEl,gEq (show k < o.length by omega)]
   exact List.set_getElem_self _
  refine Nx.p_loop (σ:=Row × List (Int × Unit)) (fun s => [(16,.slice (some ⟨bo,0,none⟩) n n),(17,.int .i64 (k : Int)),(85,.slice (some ⟨bs,0,none⟩) n n),(86,.int .i64 (n : Int)),(87,.int .i64 (k : Int)),(93,.pointer (some ⟨r,0,none⟩))])
   (fun s => [IterR (Value.int .i64) (fun _ : Unit => Value.bool true) bk r ps s.2,rwR s.1,seenA bs n st,Vec 31 1 (some ⟨bo,0,none⟩) n n ((o.set k s.1).map rowV),Stars ((o.map rwR).eraseIdx k),Stars ((st.drop (k + 1)).map seenR),F]) (fun s => (s.1.2.2 ++ s.2.map (·.1)).Perm (ps.map (·.1))) (fun s => s.2.length) ((none,0,[]),ps) rfl (List.Perm.refl _) zR (by dsimp only; rw [hos0]; (exact zE)) ?_
  rintro ⟨⟨Ar,cr',xs⟩,left⟩ hp
  dsimp only at hp ⊢
  have hxl : xs.length + left.length ≤ 1000001:=by
   have:=hp.length_eq
   rw [lAp,lMp,lMp] at this
   omega
  have hol2 : (o.set k (Ar,cr',xs)).length = n:=by rw [List.length_set]; exact hol
  have hrv : ∀ (W : World) (R : List Res) (r0 r1 r2 : Res),Rd W I (r0 :: r1 :: r2 :: Vec 31 1 (some ⟨bo,0,none⟩) n n ((o.set k (Ar,cr',xs)).map rowV) :: R) ((ad (some ⟨bo,0,none⟩)).add (k * 1)) (.slice Ar xs.length cr'):=fun W R r0 r1 r2 => by
   have h:=Rd.vecEl (W:=W) (I:=I) (R:=r0 :: r1 :: r2 :: Vec 31 1 (some ⟨bo,0,none⟩) n n ((o.set k (Ar,cr',xs)).map rowV) :: R) 3 (f:=rowV) (l:=o.set k (Ar,cr',xs)) (i:=k) rfl (by omega)
   rw [show (o.set k (Ar,cr',xs)).getD k default = (Ar,cr',xs) by rw [gEl,List.getElem?_set_self (by omega)]; rfl] at h
   exact h
  have hSo:=Sort_spec Ar cr' xs I (by omega)
  repeat' first | refine kW ?_ | (refine Nx.zo ?_; first | refine kP ?_ | refine Nx.mapNext 0 rfl rfl rfl (fun hl0 => ?_) (fun pa p pc hl1 => ?_) | refine Nx.mapEntry 0 rfl rfl rfl ?_ | refine Nx.indexAddr_nat (A:=some ⟨bo,0,none⟩) (i:=k) (sz:=1) rfl rfl rfl rfl rfl hkn rfl ?_ | refine Nx.load rfl rfl rfl (hrv _ _ _ _ _) ?_ | refine Nx.append_lit 1 rfl rfl rfl rfl (by kernel_rfl) rfl rfl rfl rfl (by omega) (fun A8 c8 => ?_) | refine Nx.store_of 3 rowV (z:=(A8,c8,xs ++ [p.1])) rfl (by unfold rowV; dsimp only; rw [lAp]; rfl) rfl rfl rfl rfl (by omega) ?_ | (refine Nx.call rfl rfl rfl (by kernel_rfl) rfl hSo (by unfold rwR iR; (exact zE)) ?_; rintro _ _ ⟨rfl,rfl⟩)) | refine kS ?_ | refine kB fun bx => ?_ | refine kA fun A2 c2 => ?_ | refine kX (fun hc => ?_) fun hc => ?_ | fail
  ·subst hl0
   rw [List.map_nil,List.append_nil] at hp
   have hsv:=srt_vals (hp.nodup_iff.2 hnd) fun z => (hp.mem_iff).trans (hmem z)
   refine Nx.again (k + 1,o.set k (Ar,cr',srtL xs)) ⟨hkn,by dsimp only; rw [List.length_set]; exact hol,fun i hi => ?_,fun i hi1 hi2 => ?_⟩ (by dsimp only; omega) zR ?_
   ·dsimp only at hi ⊢
    by_cases hik : i = k
    ·subst hik
     rw [gEl,List.getElem?_set_self (by omega)]
     exact hsv
    ·rw [gEl,List.getElem?_set_ne (Ne.symm hik),← gEl]
     exact hdone i (by omega)
   ·dsimp only at hi1 ⊢
    rw [gEl,List.getElem?_set_ne (by omega),← gEl]
    exact hnil i (by omega) hi2
   ·dsimp only
    have hV : (o.set k (Ar,cr',xs)).map rowV = (o.set k (Ar,cr',srtL xs)).map rowV:=by
     rw [List.map_set,List.map_set]
     congr 1
     unfold rowV; dsimp only; rw [srtL_len]
    rw [← row_set,← hV]
    refine Ent.trans (R':=[rwR (Ar,cr',srtL xs),Stars ((o.map rwR).eraseIdx k),Vec 31 1 (some ⟨bo,0,none⟩) n n ((o.set k (Ar,cr',xs)).map rowV),seenA bs n st,Stars ((st.drop (k + 1)).map seenR),F]) (by unfold rwR iR; (exact zE)) ((Ent.putIn k (by rw [lMp]; omega)).trans (by exact zE))
  ·subst hl1
   refine Nx.again ((A8,c8,xs ++ [p.1]),pa ++ pc) ?_ (by simp) zR ?_
   ·dsimp only
    rw [mAp,List.append_assoc]
    rw [mAp,List.map_cons] at hp
    exact (List.Perm.append_left xs (List.perm_middle (l₁:=pa.map (·.1)) (a:=p.1) (l₂:=pc.map (·.1))).symm).trans hp
   ·dsimp only
    refine Ent.trans ?_ (Ent.iterAt (p:=p))
    rw [List.set_set]
    unfold rwR iR
    dsimp only
    rw [lAp (bs:=[_]),mAp]
    (exact zE)
theorem values_spec (A : Option Addr) (c : Nat) (l : List EqR) (n : Nat) (I : PH) (hl : Eqs I A c l) (hg : ∀ q ∈ l,GoodE n q) (hn1 : 1 ≤ n) (hn : n ≤ 4096) (h9 : (allC l).length ≤ 1000000) :
  FnSpec Tryz.prog 150 [.int .i64 (n : Int),.slice A l.length c] I [] (ValsPost n (eqns l)):=by
 have hlen:=hl.len
 have hSt:=dstart_spec A c l n I hl hg hn h9
 unfold DStartPost at hSt
 refine FnSpec.enterP Tryz.func150 rfl Tryz.ntmps150 rfl fun w F => ?_
 repeat' first | refine Nx.p_scope rfl (by repeat first | exact NoG.fn | refine NoG.then_ ?_ | refine NoG.inB ?_) ?_ | ((with_reducible refine Nx.is_wp ?_); first | refine Nx.p_stopr 4 rfl ?_ | refine Nx.wo ?_) | (refine Nx.zo ?_; first | refine kP ?_ | refine Nx.makeSlice (by_:=8) rfl rfl rfl rfl rfl rfl rfl rfl rfl (by omega) (by unfold maxLen; omega) (fun bs => ?_) | (refine kC hSt ?_; rintro _ _ ⟨b,At,ct,As,cs,bt,rfl,rfl⟩)) | refine kS ?_ | refine kB fun bx => ?_ | refine kA fun A2 c2 => ?_ | refine kX (fun hc => ?_) fun hc => ?_ | fail
 refine Nx.unstop ?_
 refine Nx.weak (e':=[(0,.int .i64 (n : Int)),(1,.slice A l.length c),(5,.slice (some ⟨bs,0,none⟩) n n),(6,.bool false),(7,.pointer (some ⟨b,0,none⟩))]) (R':=[iR At ct (natI (touch n (eqns l))),iR As cs (roomsOf n (eqns l)),digR b At As ct cs bt n (touch n (eqns l)) (roomsOf n (eqns l)),tabR bt n (List.replicate n 0),Vec 236 1 (some ⟨bs,0,none⟩) n n (List.replicate n (Value.map none)),F]) zR (by exact zE) ?_
 refine Nx.freezeAt 0 rfl fun I1 m1 hI1 hm1 h1 => ?_
 refine Nx.freezeAt 0 rfl fun I2 m2 hI2 hm2 h2 => ?_
 have hle:=hI1.trans hI2
 have hc : Ints I2 At ct (natI (touch n (eqns l))):=SliceOf.mono hI2 (Vec.sliceOf hm1 h1)
 have hs : Ints I2 As cs (roomsOf n (eqns l)):=Vec.sliceOf hm2 h2
 replace hl:=hl.mono hle
 have hU:=touch_nd n (eqns l)
 have hin : ∀ i,i < (touch n (eqns l)).length → (touch n (eqns l)).getD i 0 < n:=fun i hi => (mem_touch.1 (idx_at (touch_nd _ _) hi).1).1
 have hrl:=rooms_len n (eqns l)
 have hval : ∀ q ∈ eqns l,0 ≤ q.2:=fun q hq => by
  obtain ⟨x,hx,rfl⟩:=List.mem_map.1 hq
  exact (hg x hx).val.1
 have hrr : ∀ i,i < (roomsOf n (eqns l)).length → 1 ≤ (roomsOf n (eqns l)).getD i 0 ∧ (roomsOf n (eqns l)).getD i 0 ≤ 1000001:=fun i hi => by
  rw [rooms_get (by omega)]
  exact room_bd hval
 have htsol : ∀ D,InD (roomsOf n (eqns l)) D → (∀ q ∈ eqns l,sumC (tabD n (touch n (eqns l)) D) q.1 = q.2) → tabD n (touch n (eqns l)) D ∈ solsOf n (eqns l):=fun D hD h => tab_sol hg hD h
 have hsolt : ∀ s ∈ solsOf n (eqns l),∃ D,InD (roomsOf n (eqns l)) D ∧ s = tabD n (touch n (eqns l)) D:=fun s hs => sol_tab hg hs
 have hssum : ∀ s ∈ solsOf n (eqns l),∀ q ∈ eqns l,sumC s q.1 = q.2:=fun s hs => ((mem_sols hg).1 hs).sum
 have hz0 : tabD n (touch n (eqns l)) ((roomsOf n (eqns l)).map fun _ => 0) = List.replicate n 0:=by
  refine ext_len (by rw [tabD_len,List.length_replicate]) fun c => ?_
  rw [zeros_at]
  by_cases hcn : c < n
  ·rw [tabD_get hcn]
   split
   ·rename_i hm
    have hi:=List.idxOf_lt_length_of_mem hm
    rw [gEl,gMp,gEq (by omega)]; rfl
   ·rfl
  ·exact getD_ge (by rw [tabD_len]; omega)
 have hin0 : InD (roomsOf n (eqns l)) ((roomsOf n (eqns l)).map fun _ => 0):=InD.of (lMp _) fun j hj => by
  rw [gEl,gMp,gEq hj]
  have:=hrr j hj
  exact ⟨Int.le_refl _,by show (0 : Int) < _; omega⟩
 have hnum0 : numD (roomsOf n (eqns l)) ((roomsOf n (eqns l)).map fun _ => 0) = 0:=by
  have:=(zeros_in hin0).2
  rw [List.map_map] at this
  exact this
 rw [← hz0]
 unfold ValsPost
 generalize touch n (eqns l) = U at hc hU hin hrl htsol hsolt hz0 ⊢
 generalize roomsOf n (eqns l) = rs at hs hrl hrr htsol hsolt hz0 hin0 hnum0 ⊢
 rw [show (List.replicate n (Value.map none)) = (List.replicate n (none : SeenE)).map seenV by rw [List.map_replicate]; rfl]
 have hNx:=fun D hD => next_spec b At As ct cs bt n U rs D I2 hc hs hD hrl hU hin fun i hi => (hrr i hi).2
 unfold NextPost at hNx
 repeat' first | refine kS ?_ | refine kB fun bx => ?_ | refine kA fun A2 c2 => ?_ | refine kX (fun hc => ?_) fun hc => ?_ | fail
 refine Nx.p_loop (σ:=List Int × Int × Bool × Bool × List SeenE) (fun s => [(0,.int .i64 (n : Int)),(1,.slice A l.length c),(5,.slice (some ⟨bs,0,none⟩) n n),(6,.bool s.2.2.2.1),(7,.pointer (some ⟨b,0,none⟩)),(8,.bool s.2.2.1)])
  (fun s => [digR b At As ct cs bt n U rs,tabR bt n (tabD n U s.1),seenA bs n s.2.2.2.2,Stars (s.2.2.2.2.map seenR),F])
  (fun s => InD rs s.1 ∧ GoodS n s.2.2.2.2 s.2.2.2.1 (Vis n U rs (solsOf n (eqns l)) s.2.1) ∧ (s.2.2.1 = true → s.2.1 = numD rs s.1) ∧ (s.2.2.1 = false → s.2.1 = prodD rs)) (fun s => (prodD rs - s.2.1).toNat) (rs.map fun _ => 0,0,true,false,List.replicate n none) rfl ⟨hin0,?_,fun _ => hnum0.symm,fun h => (by cases h)⟩ zR ?_ ?_
 ·have hno : ∀ t,¬ Vis n U rs (solsOf n (eqns l)) 0 t:=fun t ⟨_,E,h1,h2,_⟩ => by have:=(numD_bd h1).1; omega
  exact ⟨List.length_replicate,fun j hj => by
   rw [gEl,List.getElem?_replicate,if_pos hj]
   exact fun z ⟨t,h1,_⟩ => hno t h1,⟨fun h => (by cases h),fun ⟨t,ht⟩ => absurd ht (hno t)⟩⟩
 ·dsimp only
  rw [List.map_replicate (f:=seenR)]
  exact (nil_seen n).trans (by unfold digR tabR seenA; (exact zE))
 rintro ⟨D,cur,more,fd,st⟩ ⟨hD,hG,hmt,hmf⟩
 dsimp only at hD hG hmt hmf ⊢
 cases more with
 | false =>
  have hcur:=hmf rfl
  subst hcur
  clear hmt hmf
  have hall : ∀ t,t ∈ solsOf n (eqns l) ↔ Vis n U rs (solsOf n (eqns l)) (prodD rs) t:=fun t => ⟨fun h => by
   obtain ⟨E,h1,h2⟩:=hsolt t h
   exact ⟨h,E,h1,(numD_bd h1).2,h2⟩,fun h => h.1⟩
  have hbd : ∀ s ∈ solsOf n (eqns l),∀ j,0 ≤ s.getD j 0 ∧ s.getD j 0 ≤ 1000000:=fun s h j => by
   obtain ⟨E,h1,rfl⟩:=hsolt s h
   exact tabD_bd h1 hrl (fun i hi => (hrr i hi).2) j
  repeat' first | ((with_reducible refine Nx.is_wp ?_); first | refine Nx.p_stops 26 rfl ?_ | refine Nx.wo ?_) | refine kS ?_ | refine kB fun bx => ?_ | refine kA fun A2 c2 => ?_ | refine kX (fun hc => ?_) fun hc => ?_ | fail
  refine Nx.unstop ?_
  refine Nx.weak ?_ ?_ (values_end w F n bs (eqns l) fd st I I2 hle hn1 hn (hG.congr hall) hbd)
  ·exact zR
  ·(exact zE)
 | true =>
  have hcur:=hmt rfl
  subst hcur
  clear hmt hmf
  have hnx:=hNx D hD
  have hnb:=numD_bd hD
  have hns:=fun D' (h : nextD rs D = some D') => nextD_some hD h
  have hne:=fun (h : nextD rs D = none) => nextD_end hD h
  have hz : InD rs (zerD D 0):=(zeros_in hD).1
  have hvs:=fun t => vis_step (n:=n) (U:=U) (S:=solsOf n (eqns l)) hD t
  have hTs:=htsol D hD
  have hTb:=tabD_bd (n:=n) hD hrl (fun i hi => (hrr i hi).2)
  have hTl:=tabD_len n U D
  generalize tabD n U D = T at hnx hvs hTs hTb hTl
  repeat' first | refine kS ?_ | refine kB fun bx => ?_ | refine kA fun A2 c2 => ?_ | refine kX (fun hc => ?_) fun hc => ?_ | fail
  refine Nx.p_loop (σ:=Nat) (fun i => [(0,.int .i64 (n : Int)),(1,.slice A l.length c),(5,.slice (some ⟨bs,0,none⟩) n n),(6,.bool fd),(7,.pointer (some ⟨b,0,none⟩)),(28,.slice A l.length c),(29,.int .i64 l.length),(30,.int .i64 (i : Int))])
   (fun _ => [digR b At As ct cs bt n U rs,tabR bt n T,seenA bs n st,Stars (st.map seenR),F]) (fun i => i ≤ l.length ∧ ∀ q ∈ l.take i,sumC T (eqn q).1 = q.2) (fun i => l.length - i) 0 rfl ⟨nZl _,by simp⟩ zR (by exact zE) ?_
  rintro i ⟨hi,hsum⟩
  by_cases hil : i < l.length
  ·have hinq:=hl.inner _ (getD_memQ hil)
   have hmq:=getD_memQ hil
   have hgq:=hg _ hmq
   have hes:=take_snocQ hil
   have hrds : ∀ (W : World) (R : List Res),Rds W I2 R ((ad A).add (i * 2)) (eqC (l.getD i default)):=fun W R => hl.outer.rds hil
   have hqs : T ∈ solsOf n (eqns l) → sumC T (eqn (l.getD i default)).1 = (l.getD i default).2:=fun h => hssum T h _ (List.mem_map.2 ⟨_,hmq,rfl⟩)
   have hlq:=good_len hgq
   generalize l.getD i default = q at hinq hgq hes hrds hqs hlq
   obtain ⟨⟨Ax,cx,ix⟩,z⟩:=q
   dsimp only at hinq hqs hlq
   replace hrds : ∀ (W : World) (R : List Res),Rds W I2 R ((ad A).add (i * 2)) [.slice Ax ix.length cx,.int .i64 z]:=hrds
   repeat' first | refine kW ?_ | (refine Nx.zo ?_; first | refine kP ?_ | refine Nx.indexAddr_nat rfl rfl rfl rfl rfl hil (hl.outer.isSome (by omega) (by omega)) ?_ | refine Nx.loads rfl rfl rfl rfl (hrds _ _) rfl ?_) | refine kS ?_ | refine kB fun bx => ?_ | refine kA fun A2 c2 => ?_ | refine kX (fun hc => ?_) fun hc => ?_ | fail
   revert bx; intro b10
   refine Nx.p_loop (σ:=Nat) (fun j => [(0,.int .i64 (n : Int)),(1,.slice A l.length c),(5,.slice (some ⟨bs,0,none⟩) n n),(6,.bool fd),(7,.pointer (some ⟨b,0,none⟩)),(28,.slice A l.length c),(29,.int .i64 l.length),(30,.int .i64 (i : Int)),(10,.pointer (some ⟨b10,0,none⟩)),(11,.int .i64 (sumC T ((ix.take j).map Int.toNat))),(35,.slice Ax ix.length cx),(36,.int .i64 ix.length),(37,.int .i64 (j : Int))])
    (fun _ => [Blk b10 46 [.slice Ax ix.length cx,.int .i64 z],digR b At As ct cs bt n U rs,tabR bt n T,seenA bs n st,Stars (st.map seenR),F]) (fun j => j ≤ ix.length) (fun j => ix.length - j) 0 rfl (nZl _) zR (by exact zE) ?_
   intro j hj
   have hj : j ≤ ix.length:=hj
   have hsb:=sumC_bd (M:=1000000) (by omega) hTb ((ix.take j).map Int.toNat)
   rw [lMp,lTk,Nat.min_eq_left hj] at hsb
   by_cases hjl : j < ix.length
   ·have hxl:=hgq.lt (ix.getD j default) (getD_memI hjl)
    have hts:=take_snocJ hjl
    have hxr : ∀ (W : World) (R : List Res),Rd W I2 R ((ad Ax).add (j * 1)) (.int .i64 (ix.getD j default)):=fun W R => hinq.rd hjl
    generalize ix.getD j default = x at hxl hts hxr
    obtain ⟨y,rfl⟩ : ∃ y : Nat,x = y:=⟨x.toNat,by omega⟩
    have hyn : y < n:=by omega
    have hss : sumC T ((ix.take (j + 1)).map Int.toNat) = sumC T ((ix.take j).map Int.toNat) + T.getD y 0:=by
     rw [hts,mAp,sumC_appC]
     show _ + (T.getD (y : Int).toNat 0 + 0) = _
     rw [nCt]; omega
    have hTy:=hTb y
    have hrv : ∀ (W : World) (R : List Res) (r0 r1 : Res),Rd W I2 (r0 :: r1 :: tabR bt n T :: R) ((ad (some ⟨bt,0,none⟩)).add (y * 1)) (.int .i64 (T.getD y 0)):=fun W R r0 r1 => Rd.vecAt 2 rfl (by omega) rfl
    generalize sumC T ((ix.take j).map Int.toNat) = sm at hsb hss
    generalize T.getD y 0 = v at hTy hrv hss
    repeat' first | refine kW ?_ | (refine Nx.zo ?_; first | refine kP ?_ | refine Nx.indexAddr_nat (A:=Ax) (i:=j) (sz:=1) rfl rfl rfl rfl rfl hjl (hinq.isSome (by omega)) ?_ | refine Nx.load rfl rfl rfl (hxr _ _) ?_ | refine Nx.indexAddr_nat (A:=some ⟨bt,0,none⟩) (i:=y) (sz:=1) rfl rfl rfl rfl rfl hyn rfl ?_ | refine Nx.load rfl rfl rfl (hrv _ _ _ _) ?_) | refine kS ?_ | refine kB fun bx => ?_ | refine kA fun A2 c2 => ?_ | refine kX (fun hc => ?_) fun hc => ?_ | fail
    exact Nx.again (j + 1) hjl (by omega) ⟨rfl,rfl,rfl,rfl,rfl,rfl,rfl,rfl,rfl,by rw [hss]; rfl,rfl,rfl,rfl,trivial⟩ (by exact zE)
   obtain rfl : j = ix.length:=by omega
   rw [tLn] at hsb ⊢
   replace hqs : T ∈ solsOf n (eqns l) → sumC T (ix.map Int.toNat) = z:=hqs
   have hone : sumC T (eqn ((Ax,cx,ix),z)).1 = sumC T (ix.map Int.toNat):=rfl
   generalize sumC T (ix.map Int.toNat) = sm at hsb hqs hone
   by_cases hsz : sm = z
   ·repeat' first | refine kS ?_ | refine kB fun bx => ?_ | refine kA fun A2 c2 => ?_ | refine kX (fun hc => ?_) fun hc => ?_ | fail
    refine Nx.again (i + 1) ⟨hil,fun q hq => ?_⟩ (by omega) zR (by exact zE)
    rw [hes] at hq
    rcases List.mem_append.1 hq with hq | hq
    ·exact hsum q hq
    ·rw [List.mem_singleton.1 hq,hone]; exact hsz
   ·have hG' : GoodS n st fd (Vis n U rs (solsOf n (eqns l)) (numD rs D + 1)):=hG.congr fun t => (hvs t).trans ⟨fun h => h.elim id fun h => absurd (hqs (h.2 ▸ h.1)) hsz,.inl⟩
    repeat' first | refine kW ?_ | (refine Nx.zo ?_; first | refine kP ?_ | (refine Nx.call rfl rfl rfl (by kernel_rfl) rfl hnx (by unfold digR tabR; (exact zE)) ?_; rintro _ _ (⟨D',hn',rfl,rfl⟩ | ⟨hn',rfl,rfl⟩))) | refine kS ?_ | refine kB fun bx => ?_ | refine kA fun A2 c2 => ?_ | refine kX (fun hc => ?_) fun hc => ?_ | fail
    ·obtain ⟨h1,h2⟩:=hns D' hn'
     exact Nx.again (D',numD rs D + 1,true,fd,st) ⟨h1,hG',fun _ => h2.symm,fun h => (by cases h)⟩ (by dsimp only; omega) zR (by exact zE)
    ·have h2:=hne hn'
     exact Nx.again (zerD D 0,prodD rs,false,fd,st) ⟨hz,by rw [show prodD rs = numD rs D + 1 by omega]; exact hG',fun h => (by cases h),fun _ => rfl⟩ (by dsimp only; omega) zR (by exact zE)
  obtain rfl : i = l.length:=by omega
  rw [tLn] at hsum
  have hT:=hTs fun q hq => by
   obtain ⟨x,hx,rfl⟩:=List.mem_map.1 hq
   exact hsum x hx
  have hGl:=hG.len
  repeat' first | refine kS ?_ | refine kB fun bx => ?_ | refine kA fun A2 c2 => ?_ | refine kX (fun hc => ?_) fun hc => ?_ | fail
  refine Nx.p_loop (σ:=Nat × List SeenE) (fun s => [(0,.int .i64 (n : Int)),(1,.slice A l.length c),(5,.slice (some ⟨bs,0,none⟩) n n),(6,.bool true),(7,.pointer (some ⟨b,0,none⟩)),(59,.slice (some ⟨bt,0,none⟩) n n),(60,.int .i64 (n : Int)),(61,.int .i64 (s.1 : Int))])
   (fun s => [digR b At As ct cs bt n U rs,tabR bt n T,seenA bs n s.2,Stars (s.2.map seenR),F]) (fun s => s.1 ≤ n ∧ s.2.length = n ∧ ∀ j,j < n → CellOk (s.2.getD j default) (fun z => (j < s.1 ∧ z = T.getD j 0) ∨ ∃ t,Vis n U rs (solsOf n (eqns l)) (numD rs D) t ∧ t.getD j 0 = z)) (fun s => n - s.1) (0,st) rfl ⟨nZl _,hGl,fun j hj => (hG.cell j hj).congr fun z => ⟨fun h => h.elim (fun h => absurd h.1 (Nat.not_lt_zero _)) id,.inr⟩⟩ zR (by exact zE) ?_
  rintro ⟨k,sq⟩ ⟨hk,hsl,hcell⟩
  dsimp only at hk hsl hcell ⊢
  by_cases hkn : k < n
  case neg =>
   obtain rfl : k = n:=by omega
   have hG' : GoodS k sq true (Vis k U rs (solsOf k (eqns l)) (numD rs D + 1)):=⟨hsl,fun j hj => (hcell j hj).congr fun z => ⟨fun ⟨t,h1,h2⟩ => ((hvs t).1 h1).elim (fun h => .inr ⟨t,h,h2⟩) (fun h => .inl ⟨hj,by rw [← h2,h.2]⟩),fun h => h.elim (fun h => ⟨T,(hvs T).2 (.inr ⟨hT,rfl⟩),h.2.symm⟩) fun ⟨t,h1,h2⟩ => ⟨t,(hvs t).2 (.inl h1),h2⟩⟩,⟨fun _ => ⟨T,(hvs T).2 (.inr ⟨hT,rfl⟩)⟩,fun _ => rfl⟩⟩
   repeat' first | refine kW ?_ | (refine Nx.zo ?_; first | refine kP ?_ | (refine Nx.call rfl rfl rfl (by kernel_rfl) rfl hnx (by unfold digR tabR; (exact zE)) ?_; rintro _ _ (⟨D',hn',rfl,rfl⟩ | ⟨hn',rfl,rfl⟩))) | refine kS ?_ | refine kB fun bx => ?_ | refine kA fun A2 c2 => ?_ | refine kX (fun hc => ?_) fun hc => ?_ | fail
   ·obtain ⟨h1,h2⟩:=hns D' hn'
    exact Nx.again (D',numD rs D + 1,true,true,sq) ⟨h1,hG',fun _ => h2.symm,fun h => (by cases h)⟩ (by dsimp only; omega) zR (by exact zE)
   ·have h2:=hne hn'
    exact Nx.again (zerD D 0,prodD rs,false,true,sq) ⟨hz,by rw [show prodD rs = numD rs D + 1 by omega]; exact hG',fun h => (by cases h),fun _ => rfl⟩ (by dsimp only; omega) zR (by exact zE)
  have hck:=hcell k hkn
  have hnew : ∀ z,((k < k + 1 ∧ z = T.getD k 0) ∨ ∃ t,Vis n U rs (solsOf n (eqns l)) (numD rs D) t ∧ t.getD k 0 = z) ↔ z = T.getD k 0 ∨ ((k < k ∧ z = T.getD k 0) ∨ ∃ t,Vis n U rs (solsOf n (eqns l)) (numD rs D) t ∧ t.getD k 0 = z):=fun z => ⟨fun h => h.elim (fun h => .inl h.2) fun h => .inr (.inr h),fun h => h.elim (fun h => .inl ⟨Nat.lt_succ_self k,h⟩) fun h => h.elim (fun h => absurd h.1 (Nat.lt_irrefl k)) .inr⟩
  have hold : ∀ (x : SeenE),CellOk x (fun z => (k < k + 1 ∧ z = T.getD k 0) ∨ ∃ t,Vis n U rs (solsOf n (eqns l)) (numD rs D) t ∧ t.getD k 0 = z) → ∀ j,j < n → CellOk ((sq.set k x).getD j default) (fun z => (j < k + 1 ∧ z = T.getD j 0) ∨ ∃ t,Vis n U rs (solsOf n (eqns l)) (numD rs D) t ∧ t.getD j 0 = z):=fun x hx j hj => by
   by_cases hjk : j = k
   ·subst hjk
    rw [gEl,List.getElem?_set_self (by omega)]
    exact hx
   ·rw [gEl,List.getElem?_set_ne (Ne.symm hjk),← gEl]
    exact (hcell j hj).congr fun z => ⟨fun h => h.elim (fun h => .inl ⟨by omega,h.2⟩) .inr,fun h => h.elim (fun h => .inl ⟨by omega,h.2⟩) .inr⟩
  cases hsk : sq.getD k default with
  | none =>
   rw [hsk] at hck
   have hfr:=fun bm => hold _ (hck.fresh bm hnew)
   have htr : ∀ (W : World) (R : List Res) (r0 : Res),Rd W I2 (r0 :: tabR bt n T :: R) ((ad (some ⟨bt,0,none⟩)).add (k * 1)) (.int .i64 (T.getD k 0)):=fun W R r0 => Rd.vecAt 1 rfl (by omega) rfl
   have hsr0 : ∀ (W : World) (R : List Res) (r0 r1 : Res),Rd W I2 (r0 :: r1 :: seenA bs n sq :: R) ((ad (some ⟨bs,0,none⟩)).add (k * 1)) (.map none):=fun W R r0 r1 => by
    have h:=Rd.vecEl (W:=W) (I:=I2) (R:=r0 :: r1 :: seenA bs n sq :: R) 2 (f:=seenV) (l:=sq) (i:=k) rfl (by omega)
    rw [hsk] at h
    exact h
   have hsr1 : ∀ (bm : Nat) (W : World) (R : List Res),Rd W I2 (seenA bs n (sq.set k (some (bm,[]))) :: R) ((ad (some ⟨bs,0,none⟩)).add (k * 1)) (.map (some bm)):=fun bm W R => by
    have h:=Rd.vecEl (W:=W) (I:=I2) (R:=seenA bs n (sq.set k (some (bm,[]))) :: R) 0 (f:=seenV) (l:=sq.set k (some (bm,[]))) (i:=k) rfl (by rw [List.length_set]; omega)
    rw [show (sq.set k (some (bm,[]))).getD k default = some (bm,[]) by rw [gEl,List.getElem?_set_self (by omega)]; rfl] at h
    exact h
   generalize T.getD k 0 = v at htr hfr
   repeat' first | refine kW ?_ | (refine Nx.zo ?_; first | refine kP ?_ | refine Nx.indexAddr_nat (A:=some ⟨bt,0,none⟩) (i:=k) (sz:=1) rfl rfl rfl rfl rfl hkn rfl ?_ | refine Nx.load rfl rfl rfl (htr _ _ _) ?_ | refine Nx.indexAddr_nat (A:=some ⟨bs,0,none⟩) (i:=k) (sz:=1) rfl rfl rfl rfl rfl hkn rfl ?_ | refine Nx.load rfl rfl rfl (hsr0 _ _ _ _) ?_ | refine Nx.makeMapS (Value.int .i64) (fun _ : Unit => Value.bool true) rfl (fun bm => ?_) | refine Nx.store_of 3 seenV (A:=some ⟨bs,0,none⟩) (i:=k) (l:=sq) (z:=some (bm,[])) rfl rfl rfl rfl rfl rfl (by omega) ?_ | refine Nx.load rfl rfl rfl (hsr1 _ _ _) ?_ | refine Nx.mapSetS 1 (Value.int .i64) (fun _ : Unit => Value.bool true) (k:=v) (v:=()) (.inr rfl) rfl rfl rfl (KeyEnc.int Tryz.underlying3) rfl rfl ?_) | refine kS ?_ | refine kB fun bx => ?_ | refine kA fun A2 c2 => ?_ | refine kX (fun hc => ?_) fun hc => ?_ | fail
   refine Nx.again (k + 1,sq.set k (some (bm,mset [] v ()))) ⟨hkn,by dsimp only; rw [List.length_set]; exact hsl,hfr bm⟩ (by dsimp only; omega) zR ?_
   dsimp only
   refine Ent.trans (R':=mapB bm (mset [] v ()) :: Stars (sq.map seenR) :: [digR b At As ct cs bt n U rs,tabR bt n T,Vec 236 1 (some ⟨bs,0,none⟩) n n ((sq.set k (some (bm,[]))).map seenV),F]) (by exact zE) ((seen_put (k:=k) (by omega)).trans ?_)
   rw [show (sq.set k (some (bm,[]))).map seenV = (sq.set k (some (bm,mset [] v ()))).map seenV by rw [List.map_set,List.map_set]; rfl]
   (exact zE)
  | some p =>
   obtain ⟨bk,ps⟩:=p
   rw [hsk] at hck
   have hfr:=hold _ (hck.more hnew)
   have htr : ∀ (W : World) (R : List Res) (r0 r1 : Res),Rd W I2 (r0 :: r1 :: tabR bt n T :: R) ((ad (some ⟨bt,0,none⟩)).add (k * 1)) (.int .i64 (T.getD k 0)):=fun W R r0 r1 => Rd.vecAt 2 rfl (by omega) rfl
   have hsr : ∀ (W : World) (R : List Res) (r0 r1 r2 : Res),Rd W I2 (r0 :: r1 :: r2 :: seenA bs n sq :: R) ((ad (some ⟨bs,0,none⟩)).add (k * 1)) (.map (some bk)):=fun W R r0 r1 r2 => by
    have h:=Rd.vecEl (W:=W) (I:=I2) (R:=r0 :: r1 :: r2 :: seenA bs n sq :: R) 3 (f:=seenV) (l:=sq) (i:=k) rfl (by omega)
    rw [hsk] at h
    exact h
   have hsv:=fun l' => seenV_set (l':=l') (by omega : k < sq.length) hsk
   have hgt:=seen_get (st:=sq) (k:=k) (by omega)
   rw [hsk] at hgt
   generalize T.getD k 0 = v at htr hfr
   refine Nx.ent (R':=[mapB bk ps,digR b At As ct cs bt n U rs,tabR bt n T,seenA bs n sq,Stars ((sq.map seenR).eraseIdx k),F]) (Ent.trans (R':=[Stars (sq.map seenR),digR b At As ct cs bt n U rs,tabR bt n T,seenA bs n sq,F]) (by exact zE) ((Ent.takeOut k hgt).trans (by unfold mapB seenR; (exact zE)))) ?_
   repeat' first | refine kW ?_ | (refine Nx.zo ?_; first | refine kP ?_ | refine Nx.indexAddr_nat (A:=some ⟨bt,0,none⟩) (i:=k) (sz:=1) rfl rfl rfl rfl rfl hkn rfl ?_ | refine Nx.load rfl rfl rfl (htr _ _ _ _) ?_ | refine Nx.indexAddr_nat (A:=some ⟨bs,0,none⟩) (i:=k) (sz:=1) rfl rfl rfl rfl rfl hkn rfl ?_ | refine Nx.load rfl rfl rfl (hsr _ _ _ _ _) ?_ | refine Nx.mapSetS 0 (Value.int .i64) (fun _ : Unit => Value.bool true) (k:=v) (v:=()) (.inr rfl) rfl rfl rfl (KeyEnc.int Tryz.underlying3) rfl rfl ?_) | refine kS ?_ | refine kB fun bx => ?_ | refine kA fun A2 c2 => ?_ | refine kX (fun hc => ?_) fun hc => ?_ | fail
   refine Nx.again (k + 1,sq.set k (some (bk,mset ps v ()))) ⟨hkn,by dsimp only; rw [List.length_set]; exact hsl,hfr⟩ (by dsimp only; omega) zR ?_
   dsimp only
   refine Ent.trans (R':=mapB bk (mset ps v ()) :: Stars ((sq.map seenR).eraseIdx k) :: [digR b At As ct cs bt n U rs,tabR bt n T,Vec 236 1 (some ⟨bs,0,none⟩) n n (sq.map seenV),F]) (by exact zE) ((seen_back (k:=k) (by omega)).trans ?_)
   rw [← hsv (mset ps v ())]
   (exact zE)
def canonE (p : List Int × Int) : EqR:=((none,0,p.1),p.2)
def qsOf (l : List Int) (rs : List Rel) : List EqR:=(rs.flatMap (told l)).map canonE
theorem cont_eqns {qs : List EqR} {L : List (List Int × Int)} (h : qs.map cont = L) : eqns qs = eqns (L.map canonE):=by
 subst h
 unfold eqns
 rw [List.map_map,List.map_map]
 rfl
theorem cont_valid {qs : List EqR} {L : List (List Int × Int)} (h : qs.map cont = L) (n : Int) : validB n qs = validB n (L.map canonE):=by
 subst h
 unfold validB
 rw [lMp,lMp,List.all_map,List.all_map]
 rfl
theorem cont_chk {qs : List EqR} {L : List (List Int × Int)} (h : qs.map cont = L) (n : Int) : chkQ n qs = chkQ n (L.map canonE):=by
 unfold chkQ
 rw [cont_valid h,cont_eqns h]
theorem cont_reach {qs : List EqR} {L : List (List Int × Int)} (h : qs.map cont = L) (n : Int) : reachR n qs = reachR n (L.map canonE):=by
 unfold reachR
 rw [cont_chk h,cont_eqns h]
theorem cont_good {N : Nat} {qs : List EqR} {L : List (List Int × Int)} (h : qs.map cont = L) (hg : ∀ q ∈ L.map canonE,GoodE N q) : ∀ q ∈ qs,GoodE N q:=fun q hq => by
 have:=hg (canonE (cont q)) (List.mem_map.2 ⟨cont q,by rw [← h]; exact List.mem_map.2 ⟨q,hq,rfl⟩,rfl⟩)
 exact ⟨this.ne,this.val,this.asc,this.lt⟩
theorem told_good {l : List Int} {rs : List Rel} (hs : Sizes l) (hV : RelsV l rs) : ∀ q ∈ qsOf l rs,GoodE (prod l).toNat q:=fun q hq => by
 obtain ⟨p,hp,rfl⟩:=List.mem_map.1 hq
 obtain ⟨r,hr,hp⟩:=List.mem_flatMap.1 hp
 obtain ⟨i,hi,he⟩:=List.mem_iff_getElem.1 hr
 have hri : rs.getD i default = r:=by rw [gEl,gEq hi,he]; rfl
 have h:=(hV.each i hi).1
 rw [hri] at h
 unfold told at hp
 obtain ⟨j,hj,hne,rfl⟩:=mem_toldK.1 hp
 have hP:=h.len
 have hvj:=h.each j hj
 exact memK_good hs h.view ⟨by omega,by omega⟩ (hvj.elim (fun h => absurd h hne) id)
theorem toldK_len {l : List Int} {v : List Row} {vs : List Int} : ∀ n,(toldK l v vs n).length ≤ n
 | 0 => nLr _
 | n + 1 => by
  have:=toldK_len (l:=l) (v:=v) (vs:=vs) n
  rw [toldK,lAp]
  split <;> simp <;> omega
theorem qs_len {l : List Int} : ∀ {rs : List Rel},(∀ r ∈ rs,r.val.2.2.length ≤ 48) → (rs.flatMap (told l)).length ≤ rs.length * 48
 | [],_ => by simp
 | r :: rs,h => by
  have ih:=qs_len (l:=l) (rs:=rs) fun x hx => h x (List.mem_cons_of_mem _ hx)
  have h1:=toldK_len (l:=l) (v:=r.v) (vs:=r.val.2.2) r.val.2.2.length
  have h2:=h r List.mem_cons_self
  rw [List.flatMap_cons,lAp,List.length_cons,Nat.succ_mul]
  unfold told at ih ⊢
  omega
theorem RelsV.lens {l : List Int} {rs : List Rel} (hs : Sizes l) (hV : RelsV l rs) : ∀ r ∈ rs,r.val.2.2.length ≤ 48:=fun r hr => by
 obtain ⟨i,hi,he⟩:=List.mem_iff_getElem.1 hr
 have hri : rs.getD i default = r:=by rw [gEl,gEq hi,he]; rfl
 have h:=(hV.each i hi).1
 rw [hri] at h
 have:=(h.view.sizes hs).cells
 have:=h.len
 omega
theorem RelsV.qlen {l : List Int} {rs : List Rel} (hs : Sizes l) (hV : RelsV l rs) : (qsOf l rs).length ≤ 1152:=by
 have h1:=qs_len (l:=l) (hV.lens hs)
 have h2:=hV.len
 unfold qsOf
 rw [lMp]
 omega
theorem size_ok {l : List Int} (hs : Sizes l) : 1 ≤ (prod l).toNat ∧ (prod l).toNat ≤ 48 ∧ ((prod l).toNat : Int) = prod l:=by
 have h:=hs.bound (k:=l.length) (nLr _)
 rw [tLn] at h
 have:=hs.cells
 omega
theorem allC_told {l : List Int} {rs : List Rel} {qs : List EqR} (hs : Sizes l) (hV : RelsV l rs) (h : qs.map cont = rs.flatMap (told l)) : (allC qs).length ≤ 100000:=by
 have hg:=cont_good (N:=(prod l).toNat) h (told_good hs hV)
 have h1:=allC_good hg
 have h2 : qs.length ≤ 1152:=by
  have:=hV.qlen hs
  unfold qsOf at this
  rw [lMp,← h,lMp] at this
  exact this
 have h3:=(size_ok hs).2.1
 have h4:=Nat.mul_le_mul h2 h3
 omega
def rchD (l : List Int) (rs : List Rel) : List Rch × Int:=if relsE l rs = 0 then reachR (prod l) (qsOf l rs) else ([],relsE l rs)
theorem reaches_spec (A As : Option Addr) (c cs : Nat) (l : List Int) (rs : List Rel) (I : PH) (hl : Ints I A c l) (hs : Sizes l) (hr : Rels I As cs rs) (hw : ∀ r ∈ rs,Viewed l r.v) :
  FnSpec Tryz.prog 84 [.agg #[.slice A l.length c],.slice As rs.length cs] I []
   (fun u R' => ∃ (A' : Option Addr) (c' : Nat),u = .tuple #[.slice A' (rchD l rs).1.length c',.int .i64 (rchD l rs).2] ∧ R' = [rcR A' c' (rchD l rs).1]):=by
 have hA:=EAll_spec A As c cs l rs I hl hs hr hw
 have hiff:=relsE_iff hs hw
 refine FnSpec.enterP Tryz.func84 rfl Tryz.ntmps84 rfl fun w F => ?_
 unfold rchD
 by_cases h0 : relsE l rs = 0
 case neg =>
  rw [if_neg h0]
  generalize relsE l rs = er at h0 hA
  repeat' first | refine kW ?_ | (refine Nx.zo ?_; first | refine kP ?_ | (refine kC hA ?_; rintro _ _ ⟨Am,cm,qs,rfl,hqs,hql,rfl⟩)) | refine kS ?_ | refine kB fun bx => ?_ | refine kA fun A2 c2 => ?_ | refine kX (fun hc => ?_) fun hc => ?_ | fail
  exact Nx.ret_fn rfl [_] ⟨none,0,rfl,rfl⟩ ((Ent.vec_nil 73 3 _).trans (by exact zE))
 have hV:=hiff.1 h0
 rw [if_pos h0] at hA
 rw [if_pos h0]
 rw [h0] at hA
 repeat' first | ((with_reducible refine Nx.is_wp ?_); first | refine Nx.p_stopr 4 rfl ?_ | refine Nx.wo ?_) | (refine Nx.zo ?_; first | refine kP ?_ | (refine kC hA ?_; rintro _ _ ⟨Am,cm,qs,rfl,hqs,hql,rfl⟩)) | refine kS ?_ | refine kB fun bx => ?_ | refine kA fun A2 c2 => ?_ | refine kX (fun hc => ?_) fun hc => ?_ | fail
 refine Nx.unstop ?_
 refine Nx.freezeAt 0 rfl fun I1 m1 hI1 hm1 h1 => ?_
 refine Nx.freezeAt 0 rfl fun I2 m2 hI2 hm2 h2 => ?_
 have hq : Eqs I2 Am cm qs:=⟨(Vec.sliceN hm1 h1 fun x _ => eqC_len x).mono hI2,fun q hq => by
  obtain ⟨k,hk,he⟩:=List.mem_iff_getElem.1 hq
  obtain ⟨m3,h3le,h3⟩:=Stars.get k (r:=rowR q.1) h2 (by rw [nthL_eq,gMp,gEq hk,he]; rfl)
  exact Vec.sliceOf (h3le.trans hm2) h3⟩
 have hR:=Reaches_spec (prod l) Am cm qs I2 hq (allC_told hs hV hqs)
 rw [show reachR (prod l) qs = reachR (prod l) (qsOf l rs) from cont_reach hqs _] at hR
 repeat' first | refine kW ?_ | (refine Nx.zo ?_; first | refine kP ?_ | refine kV (Count_spec A c l I2 (hl.mono (hI1.trans hI2)) hs) ?_ | (refine kC hR ?_; rintro _ _ ⟨A',c',rfl,rfl⟩)) | refine kS ?_ | refine kB fun bx => ?_ | refine kA fun A2 c2 => ?_ | refine kX (fun hc => ?_) fun hc => ?_ | fail
 exact Nx.imm_le (hI1.trans hI2) (Nx.ret_fn rfl [_] ⟨A',c',rfl,rfl⟩ (by exact zE))
theorem IndexFuncC_spec (f : FuncId) (cap : Value) (p : Int → Bool) (A : Option Addr) (cp : Nat) (l : List Int) (I : PH) (hl : Ints I A cp l) (hcall : callable Tryz.prog f = true)
  (hp : ∀ x,FnSpec Tryz.prog f [.int .i64 x,cap] I [] (fun v R' => v = .bool (p x) ∧ R' = [])) :
  FnSpec Tryz.prog 126 [.slice A l.length cp,.func (.func f) #[] #[cap]] I []
   (fun v R' => ∃ i : Int,v = .int .i64 i ∧ (decide (0 ≤ i) = l.any p) ∧ R' = []):=by
 refine FnSpec.enterP Tryz.func126 rfl Tryz.ntmps126 rfl fun w F => ?_
 repeat' first | refine kS ?_ | refine kB fun bx => ?_ | refine kA fun A2 c2 => ?_ | refine kX (fun hc => ?_) fun hc => ?_ | fail
 have hlen:=hl.len
 refine Nx.p_loop (σ:=Nat) (fun k => [(0,.slice A l.length cp),(1,.func (.func f) #[] #[cap]),(7,.int .i64 l.length),(8,.int .i64 (k : Int))])
  (fun _ => [F]) (fun k => k ≤ l.length ∧ (l.take k).any p = false) (fun k => l.length - k) 0 rfl ⟨nZl _,by simp⟩ zR (Ent.refl _) ?_
 rintro k ⟨hk,hnone⟩
 repeat' first | refine kW ?_ | (refine Nx.zo ?_; first | refine kP ?_ | refine Nx.indexAddr_nat rfl rfl rfl rfl rfl (by omega) (hl.isSome (by omega)) ?_ | refine Nx.load rfl rfl rfl (hl.rd (by omega)) ?_ | refine Nx.callv rfl rfl rfl hcall rfl (hp _) ?_) | refine kS ?_ | refine kB fun bx => ?_ | refine kA fun A2 c2 => ?_ | refine kX (fun hc => ?_) fun hc => ?_ | fail
 ·refine Nx.ret_fn rfl [] ⟨_,rfl,?_,rfl⟩ (Ent.refl _)
  rw [show decide ((0 : Int) ≤ k) = true by simp,Eq.comm,List.any_eq_true]
  exact ⟨l.getD k default,by rw [gEl,gEq (by omega)]; exact List.getElem_mem _,hc⟩
 ·refine Nx.again (k + 1) ⟨by omega,?_⟩ (by omega) zR (Ent.refl _)
  rw [tSu (by omega),List.any_append,hnone]
  have : l[k]'(by omega) = l.getD k default:=by rw [gEl,gEq (by omega)]; rfl
  simp only [this,List.any_cons,List.any_nil,hc,Bool.or_self]
 ·obtain rfl : k = l.length:=by omega
  refine Nx.ret_fn rfl [] ⟨_,rfl,?_,rfl⟩ (Ent.refl _)
  rw [tLn] at hnone
  rw [hnone]; rfl
theorem ContainsFuncC_spec (f : FuncId) (cap : Value) (p : Int → Bool) (A : Option Addr) (cp : Nat) (l : List Int) (I : PH) (hl : Ints I A cp l) (hcall : callable Tryz.prog f = true)
  (hp : ∀ x,FnSpec Tryz.prog f [.int .i64 x,cap] I [] (fun v R' => v = .bool (p x) ∧ R' = [])) :
  FnSpec Tryz.prog 70 [.slice A l.length cp,.func (.func f) #[] #[cap]] I []
   (fun v R' => v = .bool (l.any p) ∧ R' = []):=by
 refine FnSpec.enterP Tryz.func70 rfl Tryz.ntmps70 rfl fun w F => ?_
 repeat' first | refine kS ?_ | refine kB fun bx => ?_ | refine kA fun A2 c2 => ?_ | refine kX (fun hc => ?_) fun hc => ?_ | fail
 refine Nx.at_op rfl rfl ?_
 refine Nx.call rfl rfl rfl (by kernel_rfl) rfl (IndexFuncC_spec f cap p A cp l I hl hcall hp) (Ent.refl _) ?_
 rintro v R' ⟨i,rfl,hi,rfl⟩
 repeat' first | refine kS ?_ | refine kB fun bx => ?_ | refine kA fun A2 c2 => ?_ | refine kX (fun hc => ?_) fun hc => ?_ | fail
 exact Nx.ret_fn rfl [] ⟨by rw [← hi],rfl⟩ (Ent.refl _)
def tolE (l : List Int) (rs : List Rel) : Int:=if relsE l rs = 0 then chkQ (prod l) (qsOf l rs) else relsE l rs
theorem first_err (n : Int) (l : List EqR) : (firstOf n l).2.2 = chkQ n l:=by
 unfold firstOf
 split
 ·rename_i h; exact h.symm
 ·rfl
theorem tolE_ok {l : List Int} {rs : List Rel} (h : tolE l rs = 0) : relsE l rs = 0 ∧ chkQ (prod l) (qsOf l rs) = 0:=by
 unfold tolE at h
 split at h
 ·rename_i h0; exact ⟨h0,h⟩
 ·rename_i h0; exact absurd h h0
def ToldPost (l : List Int) (rs : List Rel) (v : Value) (R' : List Res) : Prop :=
 ∃ (Am : Option Addr) (cm : Nat) (qs : List EqR),v = .tuple #[.slice Am qs.length cm,.int .i64 (if tolE l rs = 0 then prod l else 0),.int .i64 (tolE l rs)] ∧ (tolE l rs = 0 → qs.map cont = rs.flatMap (told l)) ∧ (tolE l rs ≠ 0 → qs = []) ∧ R' = eqsR Am cm qs
theorem nil_eqs {R : List Res} : Ent R (eqsR none 0 [] ++ R):=(Ent.stars_nil _).trans (Ent.vec_nil 46 2 _)
theorem atold_spec (A As : Option Addr) (c cs : Nat) (l : List Int) (rs : List Rel) (I : PH) (hl : Ints I A c l) (hs : Sizes l) (hr : Rels I As cs rs) (hw : ∀ r ∈ rs,Viewed l r.v) :
  FnSpec Tryz.prog 81 [.agg #[.slice A l.length c],.slice As rs.length cs] I [] (ToldPost l rs):=by
 have hA:=EAll_spec A As c cs l rs I hl hs hr hw
 have hiff:=relsE_iff hs hw
 refine FnSpec.enterP Tryz.func81 rfl Tryz.ntmps81 rfl fun w F => ?_
 unfold ToldPost tolE
 by_cases h0 : relsE l rs = 0
 case neg =>
  rw [if_neg h0,if_neg h0]
  generalize relsE l rs = er at h0 hA
  repeat' first | refine kW ?_ | (refine Nx.zo ?_; first | refine kP ?_ | (refine kC hA ?_; rintro _ _ ⟨Am,cm,qs,rfl,hqs,hql,rfl⟩)) | refine kS ?_ | refine kB fun bx => ?_ | refine kA fun A2 c2 => ?_ | refine kX (fun hc => ?_) fun hc => ?_ | fail
  exact Nx.ret_fn rfl _ ⟨none,0,[],rfl,fun h => absurd h h0,fun _ => rfl,rfl⟩ (nil_eqs.trans (by exact zE))
 have hV:=hiff.1 h0
 rw [if_pos h0] at hA
 rw [if_pos h0]
 rw [h0] at hA
 repeat' first | ((with_reducible refine Nx.is_wp ?_); first | refine Nx.p_stopr 4 rfl ?_ | refine Nx.wo ?_) | (refine Nx.zo ?_; first | refine kP ?_ | (refine kC hA ?_; rintro _ _ ⟨Am,cm,qs,rfl,hqs,hql,rfl⟩)) | refine kS ?_ | refine kB fun bx => ?_ | refine kA fun A2 c2 => ?_ | refine kX (fun hc => ?_) fun hc => ?_ | fail
 refine Nx.unstop ?_
 have hF:=fun (m I' : PH) (hle : PH.le I I') (hm : PH.le m I') (hv : Stars (eqsR Am cm qs) m) => (by
  obtain ⟨a0,ha0,b0⟩:=Stars.get 0 hv rfl
  obtain ⟨a1,ha1,b1⟩:=Stars.get 1 hv rfl
  exact First_spec (prod l) Am cm qs I' (eqs_of hm b0 ha0 b1 ha1) (allC_told hs hV hqs) : FnSpec Tryz.prog 73 [.int .i64 (prod l),.slice Am qs.length cm] I' [] (fun v R' => ∃ (A' : Option Addr) (c' : Nat),v = .tuple #[.slice A' (firstOf (prod l) qs).1.length c',.bool (firstOf (prod l) qs).2.1,.int .i64 (firstOf (prod l) qs).2.2] ∧ R' = [iR A' c' (firstOf (prod l) qs).1]))
 rw [first_err,cont_chk hqs] at hF
 have hqe : qsOf l rs = (rs.flatMap (told l)).map canonE:=rfl
 rw [← hqe] at hF
 generalize chkQ (prod l) (qsOf l rs) = ck at hF
 by_cases hc : ck = 0
 ·subst hc
  rw [if_pos rfl]
  repeat' first | refine kW ?_ | (refine Nx.zo ?_; first | refine kP ?_ | refine Nx.callv rfl rfl rfl (by kernel_rfl) rfl (Count_spec A c l _ hl hs) ?_ | (refine Nx.call rfl rfl rfl (by kernel_rfl) rfl (FnSpec.keep (eqsR Am cm qs) hF) (by exact zE) ?_; rintro _ _ ⟨_,⟨A',c',rfl,rfl⟩,rfl⟩)) | refine kS ?_ | refine kB fun bx => ?_ | refine kA fun A2 c2 => ?_ | refine kX (fun hc => ?_) fun hc => ?_ | fail
  exact Nx.ret_fn rfl _ ⟨Am,cm,qs,rfl,fun _ => hqs,fun h => absurd rfl h,rfl⟩ (by exact zE)
 ·rw [if_neg hc]
  repeat' first | refine kW ?_ | (refine Nx.zo ?_; first | refine kP ?_ | refine Nx.callv rfl rfl rfl (by kernel_rfl) rfl (Count_spec A c l _ hl hs) ?_ | (refine Nx.call rfl rfl rfl (by kernel_rfl) rfl (FnSpec.keep (eqsR Am cm qs) hF) (by exact zE) ?_; rintro _ _ ⟨_,⟨A',c',rfl,rfl⟩,rfl⟩)) | refine kS ?_ | refine kB fun bx => ?_ | refine kA fun A2 c2 => ?_ | refine kX (fun hc => ?_) fun hc => ?_ | fail
  exact Nx.ret_fn rfl _ ⟨none,0,[],rfl,fun h => absurd h hc,fun _ => rfl,rfl⟩ (nil_eqs.trans (by exact zE))
theorem rows_vals {n : Nat} {f : Nat → List Int} {o : List Row} (h : o.map (·.2.2) = (List.range n).map f) : o.length = n ∧ ∀ k,k < n → (o.getD k default).2.2 = f k:=by
 have hl : o.length = n:=by have:=congrArg List.length h; simpa using this
 refine ⟨hl,fun k hk => ?_⟩
 have:=congrArg (·[k]?) h
 simp only [List.getElem?_map,List.getElem?_range hk,List.getElem?_eq_getElem (show k < o.length by omega),Option.map_some,Option.some.injEq] at this
 rw [gEl,gEq (show k < o.length by omega)]
 exact this
def certU (n : Nat) (L : List Eqn) (U : List Nat) : List Int:=natI (U.filter fun k => decide ((valsOf n L k).length = 1))
def certL (n : Nat) (L : List Eqn) : List Int:=certU n L (touch n L)
def certF (n : Nat) (L : List Eqn) : List Int × Int:=if solsOf n L = [] then ([],52) else (certL n L,0)
theorem certU_snoc {n : Nat} {L : List Eqn} {U : List Nat} {k : Nat} (hk : k < U.length) : certU n L (U.take (k + 1)) = certU n L (U.take k) ++ if (valsOf n L (U.getD k 0)).length = 1 then [((U.getD k 0 : Nat) : Int)] else []:=by
 unfold certU natI
 rw [tSu hk,List.filter_append,mAp,gEl,gEq hk]
 congr 1
 show List.map Int.ofNat (List.filter _ [U[k]]) = _
 by_cases h : (valsOf n L U[k]).length = 1
 ·rw [if_pos (by exact h),List.filter_cons_of_pos (by exact decide_eq_true h)]; rfl
 ·rw [if_neg (by exact h),List.filter_cons_of_neg (by rw [decide_eq_true_eq]; exact h)]; rfl
theorem certU_len {n : Nat} {L : List Eqn} (U : List Nat) : (certU n L U).length ≤ U.length:=by unfold certU natI; rw [lMp]; exact List.length_filter_le _ _
theorem certain_spec (A : Option Addr) (c : Nat) (l : List EqR) (n : Nat) (I : PH) (hl : Eqs I A c l) (hg : ∀ q ∈ l,GoodE n q) (hn1 : 1 ≤ n) (hn : n ≤ 4096) (h9 : (allC l).length ≤ 1000000) :
  FnSpec Tryz.prog 82 [.int .i64 (n : Int),.slice A l.length c] I [] (fun u R' => ∃ (A' : Option Addr) (c' : Nat),u = .tuple #[.slice A' (certF n (eqns l)).1.length c',.int .i64 (certF n (eqns l)).2] ∧ R' = [iR A' c' (certF n (eqns l)).1]):=by
 have hV:=values_spec A c l n I hl hg hn1 hn h9
 unfold ValsPost at hV
 have hlen:=hl.len
 refine FnSpec.enterP Tryz.func82 rfl Tryz.ntmps82 rfl fun w F => ?_
 unfold certF
 by_cases hS : solsOf n (eqns l) = []
 ·rw [if_pos hS] at hV ⊢
  repeat' first | refine kW ?_ | (refine Nx.zo ?_; first | refine kP ?_ | (refine kC hV ?_; rintro _ _ ⟨Av,cv,o,ho,rfl,rfl⟩; obtain rfl : o = []:=List.map_eq_nil_iff.1 ho)) | refine kS ?_ | refine kB fun bx => ?_ | refine kA fun A2 c2 => ?_ | refine kX (fun hc => ?_) fun hc => ?_ | fail
  exact Nx.ret_fn rfl [_] ⟨none,0,rfl,rfl⟩ ((Ent.vec_nil 3 1 _).trans (by exact zE))
 rw [if_neg hS] at hV ⊢
 repeat' first | ((with_reducible refine Nx.is_wp ?_); first | refine Nx.p_stopr 4 rfl ?_ | refine Nx.wo ?_) | (refine Nx.zo ?_; first | refine kP ?_ | (refine kC hV ?_; rintro _ _ ⟨Av,cv,o,ho,rfl,rfl⟩; obtain ⟨hol,hov⟩:=rows_vals ho)) | refine kS ?_ | refine kB fun bx => ?_ | refine kA fun A2 c2 => ?_ | refine kX (fun hc => ?_) fun hc => ?_ | fail
 refine Nx.unstop ?_
 refine Nx.giveRows (A:=Av) (c:=cv) (o:=o) (RR:=[F]) (Ent.stars) fun I1 hI1 hro => ?_
 have hT:=Touched_spec A c l n I1 (hl.mono hI1) hg h9
 have hmem:=fun k (hk : k < (touch n (eqns l)).length) => (mem_touch.1 (idx_at (touch_nd n (eqns l)) hk).1).1
 have hul : (touch n (eqns l)).length ≤ n:=touch_len n (eqns l)
 unfold certL
 generalize touch n (eqns l) = U at hT hmem hul
 repeat' first | refine kW ?_ | (refine Nx.zo ?_; first | refine kP ?_ | (refine kC hT ?_; rintro _ _ ⟨At,ct,rfl,rfl⟩)) | refine kS ?_ | refine kB fun bx => ?_ | refine kA fun A2 c2 => ?_ | refine kX (fun hc => ?_) fun hc => ?_ | fail
 refine Nx.p_loop (σ:=Nat × Option Addr × Nat) (fun s => [(6,.slice Av o.length cv),(7,.slice s.2.1 (certU n (eqns l) (U.take s.1)).length s.2.2),(18,.slice At U.length ct),(19,.int .i64 U.length),(20,.int .i64 (s.1 : Int))])
  (fun s => [iR At ct (natI U),iR s.2.1 s.2.2 (certU n (eqns l) (U.take s.1)),F]) (fun s => s.1 ≤ U.length) (fun s => U.length - s.1) (0,none,0) rfl (nZl _) zR ((Ent.vec_nil 3 1 _).trans (by exact zE)) ?_
 rintro ⟨k,A1,c1⟩ hk
 dsimp only at hk ⊢
 by_cases hkl : k < U.length
 case neg =>
  rw [List.take_of_length_le (by omega)]
  repeat' first | refine kS ?_ | refine kB fun bx => ?_ | refine kA fun A2 c2 => ?_ | refine kX (fun hc => ?_) fun hc => ?_ | fail
  exact Nx.imm_le hI1 (Nx.ret_fn rfl [_] ⟨A1,c1,rfl,rfl⟩ (by exact zE))
 have hyn:=hmem k hkl
 have hcr : ∀ (W : World) (R : List Res),Rd W I1 (iR At ct (natI U) :: R) ((ad At).add (k * 1)) (.int .i64 ((U.getD k 0 : Nat) : Int)):=fun W R => by
  have h:=Rd.vecEl (W:=W) (I:=I1) (R:=iR At ct (natI U) :: R) 0 (f:=Value.int .i64) (l:=natI U) (i:=k) rfl (by rw [lMp]; exact hkl)
  rw [nat_at hkl] at h
  exact h
 have hsn:=certU_snoc (n:=n) (L:=eqns l) hkl
 have hcl:=certU_len (n:=n) (L:=eqns l) (U.take k)
 rw [lTk] at hcl
 generalize U.getD k 0 = y at hyn hcr hsn
 have hoy:=hov y hyn
 have hrr : ∀ (W : World) (R : List Res),Rd W I1 R ((ad Av).add (y * 1)) (rowV (o.getD y default)):=fun W R => hro.outer.rd (by omega)
 generalize o.getD y default = rw' at hoy hrr
 obtain ⟨Ay,cy,row⟩:=rw'
 dsimp only at hoy
 replace hrr : ∀ (W : World) (R : List Res),Rd W I1 R ((ad Av).add (y * 1)) (.slice Ay row.length cy):=hrr
 subst hoy
 generalize valsOf n (eqns l) y = vy at hrr hsn
 generalize certU n (eqns l) (U.take k) = ac at hsn hcl ⊢
 refine Nx.vec_fact fun _ hv2 _ hAt => ?_
 rw [lMp] at hv2 hAt
 by_cases h1 : vy.length = 1
 ·rw [if_pos h1] at hsn
  repeat' first | refine kW ?_ | (refine Nx.zo ?_; first | refine kP ?_ | refine Nx.indexAddr_nat (A:=At) (i:=k) (sz:=1) rfl rfl rfl rfl rfl hkl (hAt (by omega)) ?_ | refine Nx.load rfl rfl rfl (hcr _ _) ?_ | refine Nx.indexAddr_nat (A:=Av) (i:=y) (sz:=1) rfl rfl rfl rfl rfl (by omega) (hro.outer.isSome (by omega)) ?_ | refine Nx.load rfl rfl rfl (hrr _ _) ?_) | refine kS ?_ | refine kB fun bx => ?_ | refine kA fun A2 c2 => ?_ | refine kX (fun hc => ?_) fun hc => ?_ | fail
  refine Nx.again (k + 1,A2,c2) hkl (by dsimp only; omega) ⟨rfl,by dsimp only; rw [hsn,lAp]; rfl,rfl,rfl,rfl,trivial⟩ ?_
  dsimp only
  rw [hsn]
  unfold iR
  rw [lAp (bs:=[_]),List.length_singleton,mAp]
  (exact zE)
 ·rw [if_neg h1,List.append_nil] at hsn
  repeat' first | refine kW ?_ | (refine Nx.zo ?_; first | refine kP ?_ | refine Nx.indexAddr_nat (A:=At) (i:=k) (sz:=1) rfl rfl rfl rfl rfl hkl (hAt (by omega)) ?_ | refine Nx.load rfl rfl rfl (hcr _ _) ?_ | refine Nx.indexAddr_nat (A:=Av) (i:=y) (sz:=1) rfl rfl rfl rfl rfl (by omega) (hro.outer.isSome (by omega)) ?_ | refine Nx.load rfl rfl rfl (hrr _ _) ?_) | refine kS ?_ | refine kB fun bx => ?_ | refine kA fun A2 c2 => ?_ | refine kX (fun hc => ?_) fun hc => ?_ | fail
  exact Nx.again (k + 1,A1,c1) hkl (by dsimp only; omega) ⟨rfl,by dsimp only; rw [hsn]; rfl,rfl,rfl,rfl,trivial⟩ (by dsimp only; rw [hsn]; (exact zE))
def cerD (l : List Int) (rs : List Rel) : List Int × Int:=if tolE l rs = 0 then certF (prod l).toNat (eqns (qsOf l rs)) else ([],tolE l rs)
theorem Nx.giveE {C : Cx} {e : Env} {I : PH} {R : List Res} {K : Act → World → Prop} {A : Option Addr} {c : Nat} {qs : List EqR} {RR : List Res}
  (hR : Ent R (eqsR A c qs ++ RR)) (h : ∀ I',PH.le I I' → Eqs I' A c qs → Nx C e I' RR K) : Nx C e I R K:=by
 refine Nx.ent (hR.trans Ent.stars) ?_
 refine Nx.freezeAt 0 rfl fun I1 m1 hI1 hm1 h1 => ?_
 obtain ⟨a0,ha0,b0⟩:=Stars.get 0 h1 rfl
 obtain ⟨a1,ha1,b1⟩:=Stars.get 1 h1 rfl
 exact h I1 hI1 (eqs_of hm1 b0 ha0 b1 ha1)
structure ToldQ (l : List Int) (rs : List Rel) (qs : List EqR) : Prop where
 good : ∀ q ∈ qs,GoodE (prod l).toNat q
 all : (allC qs).length ≤ 100000
 eq : eqns qs = eqns (qsOf l rs)
theorem told_q {l : List Int} {rs : List Rel} {qs : List EqR} (hs : Sizes l) (hw : ∀ r ∈ rs,Viewed l r.v) (h0 : tolE l rs = 0) (h : qs.map cont = rs.flatMap (told l)) : ToldQ l rs qs:=by
 have hV:=(relsE_iff hs hw).1 (tolE_ok h0).1
 exact ⟨cont_good h (told_good hs hV),allC_told hs hV h,cont_eqns h⟩
theorem Certain_spec (A As : Option Addr) (c cs : Nat) (l : List Int) (rs : List Rel) (I : PH) (hl : Ints I A c l) (hs : Sizes l) (hr : Rels I As cs rs) (hw : ∀ r ∈ rs,Viewed l r.v) :
  FnSpec Tryz.prog 27 [.agg #[.slice A l.length c],.slice As rs.length cs] I [] (fun u R' => ∃ (A' : Option Addr) (c' : Nat),u = .tuple #[.slice A' (cerD l rs).1.length c',.int .i64 (cerD l rs).2] ∧ R' = [iR A' c' (cerD l rs).1]):=by
 have hT:=atold_spec A As c cs l rs I hl hs hr hw
 unfold ToldPost at hT
 have hz:=size_ok hs
 have hq:=fun qs (h0 : tolE l rs = 0) => told_q (qs:=qs) hs hw h0
 refine FnSpec.enterP Tryz.func27 rfl Tryz.ntmps27 rfl fun w F => ?_
 unfold cerD
 by_cases h0 : tolE l rs = 0
 ·rw [if_pos h0]
  rw [h0] at hT
  rw [if_pos rfl] at hT
  repeat' first | ((with_reducible refine Nx.is_wp ?_); first | refine Nx.p_stopr 4 rfl ?_ | refine Nx.wo ?_) | (refine Nx.zo ?_; first | refine kP ?_ | (refine kC hT ?_; rintro _ _ ⟨Am,cm,qs,rfl,hqs,-,rfl⟩)) | refine kS ?_ | refine kB fun bx => ?_ | refine kA fun A2 c2 => ?_ | refine kX (fun hc => ?_) fun hc => ?_ | fail
  refine Nx.unstop ?_
  obtain ⟨hg,ha,he⟩:=hq qs h0 (hqs rfl)
  refine Nx.giveE (A:=Am) (c:=cm) (qs:=qs) (RR:=[F]) (by exact zE) fun I1 hI1 hE => ?_
  have hC:=certain_spec Am cm qs (prod l).toNat I1 hE hg hz.1 (by omega) (by omega)
  rw [he,hz.2.2] at hC
  repeat' first | refine kW ?_ | (refine Nx.zo ?_; first | refine kP ?_ | (refine kC hC ?_; rintro _ _ ⟨A',c',rfl,rfl⟩)) | refine kS ?_ | refine kB fun bx => ?_ | refine kA fun A2 c2 => ?_ | refine kX (fun hc => ?_) fun hc => ?_ | fail
  exact Nx.imm_le hI1 (Nx.ret_fn rfl [_] ⟨A',c',rfl,rfl⟩ (by exact zE))
 ·rw [if_neg h0]
  rw [if_neg h0] at hT
  generalize tolE l rs = er at h0 hT
  repeat' first | refine kW ?_ | (refine Nx.zo ?_; first | refine kP ?_ | (refine kC hT ?_; rintro _ _ ⟨Am,cm,qs,rfl,-,hqs,rfl⟩)) | refine kS ?_ | refine kB fun bx => ?_ | refine kA fun A2 c2 => ?_ | refine kX (fun hc => ?_) fun hc => ?_ | fail
  exact Nx.ret_fn rfl [_] ⟨none,0,rfl,rfl⟩ ((Ent.vec_nil 3 1 _).trans (by exact zE))
end Go.Proofs.YtpcnapidlhpbkaaGreatDoor
