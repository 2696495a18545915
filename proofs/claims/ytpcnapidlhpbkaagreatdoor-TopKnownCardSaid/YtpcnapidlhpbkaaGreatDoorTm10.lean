/- Contracts of functions of the given program, and lemmas. -/
import Derived.Test.YtpcnapidlhpbkaaGreatDoorTm9
set_option maxHeartbeats 32000000
set_option maxRecDepth 10000
namespace Go.Proofs.YtpcnapidlhpbkaaGreatDoor
open Go.Eng
attribute [local irreducible] opK wpList Code.wp Exit.then Exit.inBlock fnPost bodyPost Nx Calls Oper.wp Rd Rds Wr Ent Stars Blk Again Vec FnSpec wpMix QRun Stop Upto wpAt
theorem enter_spec (b : Nat) (q : Bl.Eqs) (hq : q.Small) (ta : TA) (s : Bl.Tab) (hs : Bl.Inv q s) (c : Nat → Int) (hc : ∀ k,(c k).natAbs ≤ 1) (Ac : Option Addr) (cc : Nat) (I : PH) (hT : TabI I) (h : TabQ I q ta s) (hcost : Rats I Ac cc (rl q.N (Bl.cst c))) :
  FnSpec Tryz.prog 112 [.pointer (some ⟨b,0,none⟩)] I [Blk b 193 (tabV q ta (.slice Ac q.N cc))]
   (fun v R' => ((v = .int .i64 (-1) ∧ ∀ k,k < q.cnt → Bl.gain q.m (Bl.cst c) s k ≤ 0) ∨ ∃ e : Nat,v = .int .i64 (e : Int) ∧ Bl.Ent q.m q.cnt (Bl.cst c) s e) ∧ R' = [Blk b 193 (tabV q ta (.slice Ac q.N cc))]):=by
 have h1:=hq.cnt
 have h2:=hq.m
 obtain ⟨D,hD⟩:=hs.num hq
 refine FnSpec.enterP Tryz.func112 rfl Tryz.ntmps112 rfl fun w F => ?_
 repeat' first | refine kS ?_ | refine kB fun bx => ?_ | refine kA fun A2 c2 => ?_ | refine kX (fun hc => ?_) fun hc => ?_ | fail
 refine Nx.p_loop (σ:=Nat) (fun k => [(0,.pointer (some ⟨b,0,none⟩)),(7,.int .i64 (q.cnt : Int)),(8,.int .i64 (k : Int))])
  (fun _ => [Blk b 193 (tabV q ta (.slice Ac q.N cc)),F]) (fun k => k ≤ q.cnt ∧ ∀ j,j < k → Bl.gain q.m (Bl.cst c) s j ≤ 0) (fun k => q.cnt - k) 0 rfl ⟨nZl _,fun j hj => absurd hj (Nat.not_lt_zero _)⟩ zR (by exact zE) ?_
 rintro k ⟨hk,hno⟩
 by_cases hkc : k < q.cnt
 case neg =>
  obtain rfl : k = q.cnt:=by omega
  repeat' first | refine kS ?_ | refine kB fun bx => ?_ | refine kA fun A2 c2 => ?_ | refine kX (fun hc => ?_) fun hc => ?_ | fail
  exact Nx.ret_fn rfl [_] ⟨.inl ⟨rfl,hno⟩,rfl⟩ (by exact zE)
 have hkN : k < q.N:=by show k < q.cnt + q.m; omega
 have hg:=gain_spec b q hq ta s hs c hc Ac cc I hT h hcost k hkN
 have hrb : RB (Bl.gain q.m (Bl.cst c) s k):=hD.rbs hq hkN (fun i => c (s.B i)) (fun i => hc _) (c k) (hc k) (nLr _)
 have hL:=Less_rat ((0 : Int) : Rat) (Bl.gain q.m (Bl.cst c) s k) (RB_int (by decide)) hrb I
 by_cases hpos : 0 < Bl.gain q.m (Bl.cst c) s k
 ·rw [decide_eq_true (show ((0 : Int) : Rat) < Bl.gain q.m (Bl.cst c) s k from hpos)] at hL
  repeat' first | refine kW ?_ | (refine Nx.zo ?_; first | refine kP ?_ | refine Nx.callv rfl rfl rfl (by kernel_rfl) rfl (bwhole_spec _ _) ?_ | (refine Nx.call rfl rfl rfl (by kernel_rfl) rfl hg (by exact zE) ?_; rintro _ _ ⟨rfl,rfl⟩) | refine kV hL ?_) | refine kS ?_ | refine kB fun bx => ?_ | refine kA fun A2 c2 => ?_ | refine kX (fun hc => ?_) fun hc => ?_ | fail
  exact Nx.ret_fn rfl [_] ⟨.inr ⟨k,rfl,hkc,hpos,hno⟩,rfl⟩ (by exact zE)
 ·rw [decide_eq_false (show ¬ ((0 : Int) : Rat) < Bl.gain q.m (Bl.cst c) s k from hpos)] at hL
  repeat' first | refine kW ?_ | (refine Nx.zo ?_; first | refine kP ?_ | refine Nx.callv rfl rfl rfl (by kernel_rfl) rfl (bwhole_spec _ _) ?_ | (refine Nx.call rfl rfl rfl (by kernel_rfl) rfl hg (by exact zE) ?_; rintro _ _ ⟨rfl,rfl⟩) | refine kV hL ?_) | refine kS ?_ | refine kB fun bx => ?_ | refine kA fun A2 c2 => ?_ | refine kX (fun hc => ?_) fun hc => ?_ | fail
  refine Nx.again (k + 1) ⟨hkc,fun j hj => ?_⟩ (by omega) zR (by exact zE)
  by_cases hjk : j < k
  ·exact hno j hjk
  ·obtain rfl : j = k:=by omega
   exact Rat.not_lt.1 hpos
def Best (q : Bl.Eqs) (s : Bl.Tab) (e n : Nat) : Option Nat → Prop
 | none => ∀ i,i < n → s.T i e ≤ 0
 | some r => r < n ∧ 0 < s.T r e ∧ ∀ i,i < n → 0 < s.T i e → s.T r q.N / s.T r e < s.T i q.N / s.T i e ∨ (s.T r q.N / s.T r e = s.T i q.N / s.T i e ∧ s.B r ≤ s.B i)
theorem Best.skip {q : Bl.Eqs} {s : Bl.Tab} {e n : Nat} {o : Option Nat} (h : Best q s e n o) (hn : s.T n e ≤ 0) : Best q s e (n + 1) o:=by
 cases o with
 | none =>
  intro i hi
  by_cases hin : i < n
  ·exact h i hin
  ·obtain rfl : i = n:=by omega
   exact hn
 | some r =>
  obtain ⟨h1,h2,h3⟩:=h
  refine ⟨by omega,h2,fun i hi hp => ?_⟩
  by_cases hin : i < n
  ·exact h3 i hin hp
  ·obtain rfl : i = n:=by omega
   exact absurd hp (Rat.not_lt.2 hn)
theorem Best.keep {q : Bl.Eqs} {s : Bl.Tab} {e n r : Nat} (h : Best q s e n (some r)) (hn : s.T r q.N / s.T r e < s.T n q.N / s.T n e ∨ (s.T r q.N / s.T r e = s.T n q.N / s.T n e ∧ s.B r ≤ s.B n)) : Best q s e (n + 1) (some r):=by
 obtain ⟨h1,h2,h3⟩:=h
 refine ⟨by omega,h2,fun i hi hp => ?_⟩
 by_cases hin : i < n
 ·exact h3 i hin hp
 ·obtain rfl : i = n:=by omega
  exact hn
theorem Best.first {q : Bl.Eqs} {s : Bl.Tab} {e n : Nat} (h : Best q s e n none) (hp : 0 < s.T n e) : Best q s e (n + 1) (some n):=by
 refine ⟨by omega,hp,fun i hi hpi => ?_⟩
 by_cases hin : i < n
 ·exact absurd hpi (Rat.not_lt.2 (h i hin))
 ·obtain rfl : i = n:=by omega
  exact .inr ⟨rfl,nLr _⟩
theorem Best.take {q : Bl.Eqs} {s : Bl.Tab} {e n r : Nat} (h : Best q s e n (some r)) (hp : 0 < s.T n e) (hn : s.T n q.N / s.T n e < s.T r q.N / s.T r e ∨ (s.T n q.N / s.T n e = s.T r q.N / s.T r e ∧ s.B n < s.B r)) : Best q s e (n + 1) (some n):=by
 obtain ⟨h1,h2,h3⟩:=h
 refine ⟨by omega,hp,fun i hi hpi => ?_⟩
 by_cases hin : i < n
 ·rcases h3 i hin hpi with h4 | ⟨h4,h5⟩
  ·rcases hn with h6 | ⟨h6,_⟩
   ·exact .inl (by grind)
   ·rw [h6]; exact .inl h4
  ·rcases hn with h6 | ⟨h6,h7⟩
   ·rw [← h4]; exact .inl h6
   ·exact .inr ⟨h6.trans h4,by omega⟩
 ·obtain rfl : i = n:=by omega
  exact .inr ⟨rfl,nLr _⟩
theorem eql_fracK {x y : Operand} (a b c d : Int) (r : Bool) (h : decide (a = c ∧ b = d) = r) (w : World) :
  (do eqGuard .eql 24 x y (.agg #[.int .i64 a,.int .i64 b]) (.agg #[.int .i64 c,.int .i64 d]); binOp .eql 24 (.agg #[.int .i64 a,.int .i64 b]) (.agg #[.int .i64 c,.int .i64 d])).run Tryz.prog w = .ok (.bool r) w:=by subst h; exact eql_frac a b c d w
def bestV : Option Nat → Int
 | none => -1
 | some r => r
def bestC (q : Bl.Eqs) (s : Bl.Tab) (e : Nat) : Option Nat → List Value
 | none => [.int .i64 0,.int .i64 0]
 | some r => ratC (s.T r q.N / s.T r e)
theorem rat_eq_iff {p q : Rat} : (p.num = q.num ∧ (p.den : Int) = (q.den : Int)) ↔ p = q:=⟨fun h => Rat.ext h.1 (by omega),fun h => by subst h; exact ⟨rfl,rfl⟩⟩
theorem leave_spec (b : Nat) (q : Bl.Eqs) (hq : q.Small) (ta : TA) (s : Bl.Tab) (hs : Bl.Inv q s) (vc : Value) (I : PH) (hT : TabI I) (h : TabQ I q ta s) (e : Nat) (he : e < q.cnt) :
  FnSpec Tryz.prog 113 [.pointer (some ⟨b,0,none⟩),.int .i64 (e : Int)] I [Blk b 193 (tabV q ta vc)]
   (fun v R' => ((v = .int .i64 (-1) ∧ ∀ i,i < q.m → s.T i e ≤ 0) ∨ ∃ r : Nat,v = .int .i64 (r : Int) ∧ Bl.Lea q.m q.N s e r) ∧ R' = [Blk b 193 (tabV q ta vc)]):=by
 have h1:=hq.cnt
 have h2:=hq.m
 have hN : (q.cnt : Int) + (q.m : Int) = (q.N : Int):=by show _ = ((q.cnt + q.m : Nat) : Int); omega
 have hNb : q.N ≤ 20:=by show q.cnt + q.m ≤ 20; omega
 have heN : e < q.N:=by show e < q.cnt + q.m; omega
 obtain ⟨D,hD⟩:=hs.num hq
 have hV:=value_spec' b q hq (.slice ta.Ar q.m ta.cr) (.slice ta.Ab q.m ta.cb) vc I
 rw [hN] at hV
 refine FnSpec.enterP Tryz.func113 rfl Tryz.ntmps113 rfl fun w F => ?_
 repeat' first | refine kS ?_ | refine kB fun bx => ?_ | refine kA fun A2 c2 => ?_ | refine kX (fun hc => ?_) fun hc => ?_ | fail
 revert bx; intro b6
 refine Nx.p_loop (σ:=Nat × Option Nat) (fun z => [(0,.pointer (some ⟨b,0,none⟩)),(1,.int .i64 (e : Int)),(5,.int .i64 (bestV z.2)),(6,.pointer (some ⟨b6,0,none⟩)),(13,.slice ta.Ar q.m ta.cr),(14,.int .i64 (q.m : Int)),(15,.int .i64 (z.1 : Int))])
  (fun z => [Blk b6 24 (bestC q s e z.2),Blk b 193 (tabV q ta vc),F]) (fun z => z.1 ≤ q.m ∧ Best q s e z.1 z.2) (fun z => q.m - z.1) (0,none) rfl ⟨nZl _,fun i hi => absurd hi (Nat.not_lt_zero _)⟩ zR (by exact zE) ?_
 rintro ⟨i,o⟩ ⟨hi,ho⟩
 dsimp only at hi ho ⊢
 by_cases him : i < q.m
 case neg =>
  obtain rfl : i = q.m:=by omega
  repeat' first | refine kS ?_ | refine kB fun bx => ?_ | refine kA fun A2 c2 => ?_ | refine kX (fun hc => ?_) fun hc => ?_ | fail
  cases o with
  | none => exact Nx.ret_fn rfl [_] ⟨.inl ⟨rfl,ho⟩,rfl⟩ (by exact zE)
  | some r => exact Nx.ret_fn rfl [_] ⟨.inr ⟨r,rfl,ho.1,ho.2.1,ho.2.2⟩,rfl⟩ (by exact zE)
 have hAr:=h.as (by omega)
 have hAb:=h.bs (by omega)
 have hra:=h.rs him
 have r3:=fun (W : World) (Q : List Res) => h.row (W:=W) (R:=Q) him
 have r4:=fun (W : World) (Q : List Res) => h.num (W:=W) (R:=Q) him (show e < q.N + 1 by omega)
 have hL:=Less_rat ((0 : Int) : Rat) (s.T i e) (RB_int (by decide)) (hD.rb him (Nat.le_of_lt heN)) I
 by_cases hp : 0 < s.T i e
 case neg =>
  rw [decide_eq_false (show ¬ ((0 : Int) : Rat) < s.T i e from hp)] at hL
  repeat' first | ((with_reducible refine Nx.is_wp ?_); first | refine Nx.wo ?_ | refine kF 6 [1,2,3,4,0] [0] [5,6] ?_ | refine Nx.p_poolF (id:=7) rfl [0,1,5,6,7,8,2,3,4,9] [2,9] [] [11] [11] [⟨10,9,24,_⟩] rfl rfl (by kernel_rfl) (by kernel_rfl) (by decide) (PoolFit.cons ⟨⟨_,_,_,rfl⟩,rfl,rfl⟩ PoolFit.nil) PanicOk.auto (Ent.refl _) ?_ | refine kF 8 [0,1,2,3,4,5,6,7,8,9,10,11,12,13,14,15,16,17,18,19,20,21,22,23,24,25,26,27,28] [5] [] ?_ | refine kF 9 [0,1,2] [] [3] ?_) | ((first | refine Nx.at_op rfl rfl ?_ | refine Nx.m_loud rfl rfl rfl ?_ | refine Nx.at_do rfl rfl rfl rfl ?_ | refine Nx.m_loud_do rfl rfl rfl rfl rfl ?_ | refine GoodF.loud_ rfl rfl rfl rfl (fun ex X => ?_)); first | refine kP ?_ | refine Nx.indexAddr_nat (A:=ta.Ar) (i:=i) (sz:=1) rfl rfl rfl rfl rfl him hAr ?_ | refine Nx.load rfl rfl rfl (r3 _ _) ?_ | refine Nx.callv rfl rfl rfl (by kernel_rfl) rfl (bwhole_spec _ _) ?_ | refine kV hL ?_) | refine kS ?_ | refine kB fun bx => ?_ | refine kA fun A2 c2 => ?_ | ((with_reducible refine Nx.is_mix ?_); refine kQ rfl rfl rfl rfl (by first | exact .inl rfl | exact .inr ⟨_,_,_,rfl,rfl,rfl⟩) (by first | exact QRun.opr rfl | exact QRun.idx (A:=(ta.ra i).1) (i:=e) (sz:=2) rfl rfl rfl rfl (by omega) hra | exact QRun.loads rfl rfl rfl (r4 _ _) rfl) ?_) | ((with_reducible refine GoodF.is ?_); first | refine GoodF.quiet rfl rfl rfl rfl rfl rfl (by first | exact QRun.opr rfl | exact QRun.idx (A:=(ta.ra i).1) (i:=e) (sz:=2) rfl rfl rfl rfl (by omega) hra | exact QRun.loads rfl rfl rfl (r4 _ _) rfl |  exact QRun.std) ?_ | refine GoodF.done1 rfl (fun bx => ?_) | refine GoodF.done2 rfl (fun bx by_ => ?_) | refine GoodF.done3 rfl (fun bx by_ bz => ?_)) | refine kX (fun hc => ?_) fun hc => ?_ | fail | ((fail_if_success (with_reducible refine Nx.is_at ?_)); (fail_if_success (with_reducible refine Nx.is_wp ?_)); (fail_if_success (with_reducible refine Nx.is_mix ?_)); first | refine Nx.ex ?_ | refine Nx.pool_nextF 0 rfl (by exact zE) ?_ | refine Nx.pool_nextF 1 rfl (by exact zE) ?_ | refine Nx.pool_nextF 2 rfl (by exact zE) ?_ | refine Nx.pool_nextF 3 rfl (by exact zE) ?_)
  exact Nx.again (i + 1,o) ⟨him,ho.skip (Rat.not_lt.1 hp)⟩ (by dsimp only; omega) zR (by exact zE)
 rw [decide_eq_true (show ((0 : Int) : Rat) < s.T i e from hp)] at hL
 have hne : s.T i e ≠ 0:=by grind
 have r5:=fun (W : World) (Q : List Res) => h.num (W:=W) (R:=Q) him (show q.N < q.N + 1 by omega)
 have hrq : ∀ r,r < q.m → 0 < s.T r e → RB (s.T r q.N / s.T r e):=fun r hr hpr => hD.rbq hr hr (nLr _) heN (by grind)
 have hM:=bover_spec (s.T i q.N) (s.T i e) (hD.rb him (nLr _)) (hD.rb him (Nat.le_of_lt heN)) hne (hrq i him hp) I hT
 obtain ⟨rq,hrq'⟩ : ∃ rq,rq = s.T i q.N / s.T i e:=⟨_,rfl⟩
 rw [← hrq'] at hM
 obtain ⟨xe,hxe⟩ : ∃ xe,xe = s.T i e:=⟨_,rfl⟩
 obtain ⟨xn,hxn⟩ : ∃ xn,xn = s.T i q.N:=⟨_,rfl⟩
 rw [← hxe] at hL r4
 rw [← hxe,← hxn] at hM
 rw [← hxn] at r5
 have hbc : ∃ x y : Int,bestC q s e o = [.int .i64 x,.int .i64 y]:=by
  cases o with
  | none => exact ⟨_,_,rfl⟩
  | some r => exact ⟨_,_,rfl⟩
 obtain ⟨bx1,bx2,hbx⟩:=hbc
 obtain ⟨bv,hbv⟩ : ∃ bv,bv = bestV o:=⟨_,rfl⟩
 rw [hbx,← hbv]
 repeat' first | ((with_reducible refine Nx.is_wp ?_); first | refine Nx.p_stopr 8 rfl ?_ | refine Nx.wo ?_ | refine kF 6 [1,2,3,4,0] [0] [5,6] ?_ | refine Nx.p_poolF (id:=7) rfl [0,1,5,6,7,8,2,3,4,9] [2,9] [] [11] [11] [⟨10,9,24,_⟩] rfl rfl (by kernel_rfl) (by kernel_rfl) (by decide) (PoolFit.cons ⟨⟨_,_,_,rfl⟩,rfl,rfl⟩ PoolFit.nil) PanicOk.auto (Ent.refl _) ?_ | refine kF 8 [0,1,2,3,4,5,6,7,8,9,10,11,12,13,14,15,16,17,18,19,20,21,22,23,24,25,26,27,28] [5] [] ?_ | refine kF 9 [0,1,2] [] [3] ?_) | ((first | refine Nx.at_op rfl rfl ?_ | refine Nx.m_loud rfl rfl rfl ?_ | refine Nx.at_do rfl rfl rfl rfl ?_ | refine Nx.m_loud_do rfl rfl rfl rfl rfl ?_ | refine GoodF.loud_ rfl rfl rfl rfl (fun ex X => ?_)); first | refine kP ?_ | refine Nx.indexAddr_nat (A:=ta.Ar) (i:=i) (sz:=1) rfl rfl rfl rfl rfl him hAr ?_ | refine Nx.load rfl rfl rfl (r3 _ _) ?_ | refine Nx.callv rfl rfl rfl (by kernel_rfl) rfl (bwhole_spec _ _) ?_ | refine kV hL ?_ | (refine Nx.call rfl rfl rfl (by kernel_rfl) rfl hV (by exact zE) ?_; rintro _ _ ⟨rfl,rfl⟩) | refine kV hM ?_) | refine kS ?_ | refine kB fun bx => ?_ | refine kA fun A2 c2 => ?_ | ((with_reducible refine Nx.is_mix ?_); refine kQ rfl rfl rfl rfl (by first | exact .inl rfl | exact .inr ⟨_,_,_,rfl,rfl,rfl⟩) (by first | exact QRun.opr rfl | exact QRun.idx (A:=(ta.ra i).1) (i:=e) (sz:=2) rfl rfl rfl rfl (by omega) hra | exact QRun.loads rfl rfl rfl (r4 _ _) rfl | exact QRun.idx (A:=(ta.ra i).1) (i:=q.N) (sz:=2) rfl rfl rfl rfl (by omega) hra | exact QRun.loads rfl rfl rfl (r5 _ _) rfl) ?_) | ((with_reducible refine GoodF.is ?_); first | refine GoodF.quiet rfl rfl rfl rfl rfl rfl (by first | exact QRun.opr rfl | exact QRun.idx (A:=(ta.ra i).1) (i:=e) (sz:=2) rfl rfl rfl rfl (by omega) hra | exact QRun.loads rfl rfl rfl (r4 _ _) rfl | exact QRun.idx (A:=(ta.ra i).1) (i:=q.N) (sz:=2) rfl rfl rfl rfl (by omega) hra | exact QRun.loads rfl rfl rfl (r5 _ _) rfl |  exact QRun.std) ?_ | refine GoodF.done1 rfl (fun bx => ?_) | refine GoodF.done2 rfl (fun bx by_ => ?_) | refine GoodF.done3 rfl (fun bx by_ bz => ?_)) | refine kX (fun hc => ?_) fun hc => ?_ | fail | ((fail_if_success (with_reducible refine Nx.is_at ?_)); (fail_if_success (with_reducible refine Nx.is_wp ?_)); (fail_if_success (with_reducible refine Nx.is_mix ?_)); first | refine Nx.ex ?_ | refine Nx.pool_nextF 0 rfl (by exact zE) ?_ | refine Nx.pool_nextF 1 rfl (by exact zE) ?_ | refine Nx.pool_nextF 2 rfl (by exact zE) ?_ | refine Nx.pool_nextF 3 rfl (by exact zE) ?_)
 refine Nx.unstop ?_
 revert bx; intro b9
 have hset : Best q s e (i + 1) (some i) → bestC q s e (some i) = ratC rq:=fun _ => by rw [hrq']; rfl
 cases o with
 | none =>
  have hbn:=ho.first hp
  have hsb:=hset hbn
  have hbvn : bv = -1:=hbv
  subst hbvn
  repeat' first | ((with_reducible refine Nx.is_wp ?_); first | refine Nx.wo ?_ | refine kF 6 [1,2,3,4,0] [0] [5,6] ?_ | refine Nx.p_poolF (id:=7) rfl [0,1,5,6,7,8,2,3,4,9] [2,9] [] [11] [11] [⟨10,9,24,_⟩] rfl rfl (by kernel_rfl) (by kernel_rfl) (by decide) (PoolFit.cons ⟨⟨_,_,_,rfl⟩,rfl,rfl⟩ PoolFit.nil) PanicOk.auto (Ent.refl _) ?_ | refine kF 8 [0,1,2,3,4,5,6,7,8,9,10,11,12,13,14,15,16,17,18,19,20,21,22,23,24,25,26,27,28] [5] [] ?_ | refine kF 9 [0,1,2] [] [3] ?_) | ((first | refine Nx.at_op rfl rfl ?_ | refine Nx.m_loud rfl rfl rfl ?_ | refine Nx.at_do rfl rfl rfl rfl ?_ | refine Nx.m_loud_do rfl rfl rfl rfl rfl ?_ | refine GoodF.loud_ rfl rfl rfl rfl (fun ex X => ?_)); first | refine kP ?_) | refine kS ?_ | refine kB fun bx => ?_ | refine kA fun A2 c2 => ?_ | ((with_reducible refine GoodF.is ?_); first | refine GoodF.quiet rfl rfl rfl rfl rfl rfl (by first | exact QRun.opr rfl |  exact QRun.std) ?_ | refine GoodF.done1 rfl (fun bx => ?_) | refine GoodF.done2 rfl (fun bx by_ => ?_) | refine GoodF.done3 rfl (fun bx by_ bz => ?_)) | refine kX (fun hc => ?_) fun hc => ?_ | fail | ((fail_if_success (with_reducible refine Nx.is_at ?_)); (fail_if_success (with_reducible refine Nx.is_wp ?_)); (fail_if_success (with_reducible refine Nx.is_mix ?_)); first | refine Nx.ex ?_ | refine Nx.pool_nextF 0 rfl (by exact zE) ?_ | refine Nx.pool_nextF 1 rfl (by exact zE) ?_ | refine Nx.pool_nextF 2 rfl (by exact zE) ?_ | refine Nx.pool_nextF 3 rfl (by exact zE) ?_)
  exact Nx.again (i + 1,some i) ⟨him,hbn⟩ (by dsimp only; omega) zR (by dsimp only; rw [hsb]; (exact zE))
 | some r =>
  have hr:=ho.1
  have hbvr : bv = (r : Int):=hbv
  subst hbvr
  obtain ⟨rr,hrr⟩ : ∃ rr,rr = s.T r q.N / s.T r e:=⟨_,rfl⟩
  have hRB1 : RB rq:=by rw [hrq']; exact hrq i him hp
  have hRB2 : RB rr:=by rw [hrr]; exact hrq r (by omega) ho.2.1
  have hL2:=Less_rat rq rr hRB1 hRB2 I
  have hbx2 : [Value.int .i64 bx1,Value.int .i64 bx2] = ratC rr:=by rw [← hbx,hrr]; rfl
  rw [hbx2]
  have hkeep : bestC q s e (some r) = ratC rr:=by rw [hrr]; rfl
  have b1:=fun (W : World) (Q : List Res) => h.bas (W:=W) (R:=Q) him
  have b2:=fun (W : World) (Q : List Res) => h.bas (W:=W) (R:=Q) (show r < q.m by omega)
  have hrm : r < q.m:=by omega
  have htake : rq < rr ∨ (rq = rr ∧ s.B i < s.B r) → Best q s e (i + 1) (some i):=fun hh => ho.take hp (by rw [← hrq',← hrr]; exact hh)
  have hstay : rr < rq ∨ (rr = rq ∧ s.B r ≤ s.B i) → Best q s e (i + 1) (some r):=fun hh => ho.keep (by rw [← hrq',← hrr]; exact hh)
  generalize s.B i = Bi at b1 htake hstay
  generalize s.B r = Br at b2 htake hstay
  clear hbx hbx2 hbv r3 r4 r5 hM hL hV
  by_cases hlt : rq < rr
  ·rw [decide_eq_true hlt] at hL2
   have hbn:=htake (.inl hlt)
   have hsb:=hset hbn
   repeat' first | ((with_reducible refine Nx.is_wp ?_); first | refine Nx.wo ?_ | refine kF 6 [1,2,3,4,0] [0] [5,6] ?_ | refine Nx.p_poolF (id:=7) rfl [0,1,5,6,7,8,2,3,4,9] [2,9] [] [11] [11] [⟨10,9,24,_⟩] rfl rfl (by kernel_rfl) (by kernel_rfl) (by decide) (PoolFit.cons ⟨⟨_,_,_,rfl⟩,rfl,rfl⟩ PoolFit.nil) PanicOk.auto (Ent.refl _) ?_ | refine kF 8 [0,1,2,3,4,5,6,7,8,9,10,11,12,13,14,15,16,17,18,19,20,21,22,23,24,25,26,27,28] [5] [] ?_ | refine kF 9 [0,1,2] [] [3] ?_) | ((first | refine Nx.at_op rfl rfl ?_ | refine Nx.m_loud rfl rfl rfl ?_ | refine Nx.at_do rfl rfl rfl rfl ?_ | refine Nx.m_loud_do rfl rfl rfl rfl rfl ?_ | refine GoodF.loud_ rfl rfl rfl rfl (fun ex X => ?_)); first | refine kP ?_ | refine kV hL2 ?_) | refine kS ?_ | refine kB fun bx => ?_ | refine kA fun A2 c2 => ?_ | ((with_reducible refine Nx.is_mix ?_); refine kQ rfl rfl rfl rfl (by first | exact .inl rfl | exact .inr ⟨_,_,_,rfl,rfl,rfl⟩) (by first | exact QRun.opr rfl | exact QRun.loads rfl rfl rfl (Rds.cut 0 2 rfl rfl) rfl | exact QRun.loads rfl rfl rfl (Rds.cut 1 2 rfl rfl) rfl) ?_) | ((with_reducible refine GoodF.is ?_); first | refine GoodF.quiet rfl rfl rfl rfl rfl rfl (by first | exact QRun.opr rfl | exact QRun.loads rfl rfl rfl (Rds.cut 0 2 rfl rfl) rfl | exact QRun.loads rfl rfl rfl (Rds.cut 1 2 rfl rfl) rfl |  exact QRun.std) ?_ | refine GoodF.done1 rfl (fun bx => ?_) | refine GoodF.done2 rfl (fun bx by_ => ?_) | refine GoodF.done3 rfl (fun bx by_ bz => ?_)) | refine kX (fun hc => ?_) fun hc => ?_ | fail | ((fail_if_success (with_reducible refine Nx.is_at ?_)); (fail_if_success (with_reducible refine Nx.is_wp ?_)); (fail_if_success (with_reducible refine Nx.is_mix ?_)); first | refine Nx.ex ?_ | refine Nx.pool_nextF 0 rfl (by exact zE) ?_ | refine Nx.pool_nextF 1 rfl (by exact zE) ?_ | refine Nx.pool_nextF 2 rfl (by exact zE) ?_ | refine Nx.pool_nextF 3 rfl (by exact zE) ?_)
   exact Nx.again (i + 1,some i) ⟨him,hbn⟩ (by dsimp only; omega) zR (by dsimp only; rw [hsb]; (exact zE))
  rw [decide_eq_false hlt] at hL2
  by_cases heq : rq = rr
  ·have hE:=fun {x y : Operand} (w : World) => eql_fracK (x:=x) (y:=y) rq.num rq.den rr.num rr.den true (decide_eq_true (rat_eq_iff.2 heq)) w
   by_cases hB : Bi < Br
   ·have hbn:=htake (.inr ⟨heq,hB⟩)
    have hsb:=hset hbn
    repeat' first | ((with_reducible refine Nx.is_wp ?_); first | refine Nx.wo ?_ | refine kF 6 [1,2,3,4,0] [0] [5,6] ?_ | refine Nx.p_poolF (id:=7) rfl [0,1,5,6,7,8,2,3,4,9] [2,9] [] [11] [11] [⟨10,9,24,_⟩] rfl rfl (by kernel_rfl) (by kernel_rfl) (by decide) (PoolFit.cons ⟨⟨_,_,_,rfl⟩,rfl,rfl⟩ PoolFit.nil) PanicOk.auto (Ent.refl _) ?_ | refine kF 8 [0,1,2,3,4,5,6,7,8,9,10,11,12,13,14,15,16,17,18,19,20,21,22,23,24,25,26,27,28] [5] [] ?_ | refine kF 9 [0,1,2] [] [3] ?_) | ((first | refine Nx.at_op rfl rfl ?_ | refine Nx.m_loud rfl rfl rfl ?_ | refine Nx.at_do rfl rfl rfl rfl ?_ | refine Nx.m_loud_do rfl rfl rfl rfl rfl ?_ | refine GoodF.loud_ rfl rfl rfl rfl (fun ex X => ?_)); first | refine kP ?_ | refine kV hL2 ?_) | refine kS ?_ | refine kB fun bx => ?_ | refine kA fun A2 c2 => ?_ | ((with_reducible refine Nx.is_mix ?_); refine kQ rfl rfl rfl rfl (by first | exact .inl rfl | exact .inr ⟨_,_,_,rfl,rfl,rfl⟩) (by first | exact QRun.opr rfl | exact QRun.binr rfl rfl hE | exact QRun.idx (A:=ta.Ab) (i:=i) (sz:=1) rfl rfl rfl rfl him hAb | exact QRun.idx (A:=ta.Ab) (i:=r) (sz:=1) rfl rfl rfl rfl hrm hAb | exact QRun.load rfl rfl (b1 _ _) | exact QRun.load rfl rfl (b2 _ _)) ?_) | ((with_reducible refine GoodF.is ?_); first | refine GoodF.quiet rfl rfl rfl rfl rfl rfl (by first | exact QRun.opr rfl | exact QRun.binr rfl rfl hE | exact QRun.idx (A:=ta.Ab) (i:=i) (sz:=1) rfl rfl rfl rfl him hAb | exact QRun.idx (A:=ta.Ab) (i:=r) (sz:=1) rfl rfl rfl rfl hrm hAb | exact QRun.load rfl rfl (b1 _ _) | exact QRun.load rfl rfl (b2 _ _) |  exact QRun.std) ?_ | refine GoodF.done1 rfl (fun bx => ?_) | refine GoodF.done2 rfl (fun bx by_ => ?_) | refine GoodF.done3 rfl (fun bx by_ bz => ?_)) | refine kX (fun hc => ?_) fun hc => ?_ | fail | ((fail_if_success (with_reducible refine Nx.is_at ?_)); (fail_if_success (with_reducible refine Nx.is_wp ?_)); (fail_if_success (with_reducible refine Nx.is_mix ?_)); first | refine Nx.ex ?_ | refine Nx.pool_nextF 0 rfl (by exact zE) ?_ | refine Nx.pool_nextF 1 rfl (by exact zE) ?_ | refine Nx.pool_nextF 2 rfl (by exact zE) ?_ | refine Nx.pool_nextF 3 rfl (by exact zE) ?_)
    exact Nx.again (i + 1,some i) ⟨him,hbn⟩ (by dsimp only; omega) zR (by dsimp only; rw [hsb]; (exact zE))
   ·have hbn:=hstay (.inr ⟨heq.symm,by omega⟩)
    repeat' first | ((with_reducible refine Nx.is_wp ?_); first | refine Nx.wo ?_ | refine kF 6 [1,2,3,4,0] [0] [5,6] ?_ | refine Nx.p_poolF (id:=7) rfl [0,1,5,6,7,8,2,3,4,9] [2,9] [] [11] [11] [⟨10,9,24,_⟩] rfl rfl (by kernel_rfl) (by kernel_rfl) (by decide) (PoolFit.cons ⟨⟨_,_,_,rfl⟩,rfl,rfl⟩ PoolFit.nil) PanicOk.auto (Ent.refl _) ?_ | refine kF 8 [0,1,2,3,4,5,6,7,8,9,10,11,12,13,14,15,16,17,18,19,20,21,22,23,24,25,26,27,28] [5] [] ?_ | refine kF 9 [0,1,2] [] [3] ?_) | ((first | refine Nx.at_op rfl rfl ?_ | refine Nx.m_loud rfl rfl rfl ?_ | refine Nx.at_do rfl rfl rfl rfl ?_ | refine Nx.m_loud_do rfl rfl rfl rfl rfl ?_ | refine GoodF.loud_ rfl rfl rfl rfl (fun ex X => ?_)); first | refine kP ?_ | refine kV hL2 ?_) | refine kS ?_ | refine kB fun bx => ?_ | refine kA fun A2 c2 => ?_ | ((with_reducible refine Nx.is_mix ?_); refine kQ rfl rfl rfl rfl (by first | exact .inl rfl | exact .inr ⟨_,_,_,rfl,rfl,rfl⟩) (by first | exact QRun.opr rfl | exact QRun.binr rfl rfl hE | exact QRun.idx (A:=ta.Ab) (i:=i) (sz:=1) rfl rfl rfl rfl him hAb | exact QRun.idx (A:=ta.Ab) (i:=r) (sz:=1) rfl rfl rfl rfl hrm hAb | exact QRun.load rfl rfl (b1 _ _) | exact QRun.load rfl rfl (b2 _ _)) ?_) | ((with_reducible refine GoodF.is ?_); first | refine GoodF.quiet rfl rfl rfl rfl rfl rfl (by first | exact QRun.opr rfl | exact QRun.binr rfl rfl hE | exact QRun.idx (A:=ta.Ab) (i:=i) (sz:=1) rfl rfl rfl rfl him hAb | exact QRun.idx (A:=ta.Ab) (i:=r) (sz:=1) rfl rfl rfl rfl hrm hAb | exact QRun.load rfl rfl (b1 _ _) | exact QRun.load rfl rfl (b2 _ _) |  exact QRun.std) ?_ | refine GoodF.done1 rfl (fun bx => ?_) | refine GoodF.done2 rfl (fun bx by_ => ?_) | refine GoodF.done3 rfl (fun bx by_ bz => ?_)) | refine kX (fun hc => ?_) fun hc => ?_ | fail | ((fail_if_success (with_reducible refine Nx.is_at ?_)); (fail_if_success (with_reducible refine Nx.is_wp ?_)); (fail_if_success (with_reducible refine Nx.is_mix ?_)); first | refine Nx.ex ?_ | refine Nx.pool_nextF 0 rfl (by exact zE) ?_ | refine Nx.pool_nextF 1 rfl (by exact zE) ?_ | refine Nx.pool_nextF 2 rfl (by exact zE) ?_ | refine Nx.pool_nextF 3 rfl (by exact zE) ?_)
    exact Nx.again (i + 1,some r) ⟨him,hbn⟩ (by dsimp only; omega) zR (by dsimp only; rw [hkeep]; (exact zE))
  ·have hE:=fun {x y : Operand} (w : World) => eql_fracK (x:=x) (y:=y) rq.num rq.den rr.num rr.den false (decide_eq_false fun hh => heq (rat_eq_iff.1 hh)) w
   have hbn:=hstay (.inl (by grind))
   repeat' first | ((with_reducible refine Nx.is_wp ?_); first | refine Nx.wo ?_ | refine kF 6 [1,2,3,4,0] [0] [5,6] ?_ | refine Nx.p_poolF (id:=7) rfl [0,1,5,6,7,8,2,3,4,9] [2,9] [] [11] [11] [⟨10,9,24,_⟩] rfl rfl (by kernel_rfl) (by kernel_rfl) (by decide) (PoolFit.cons ⟨⟨_,_,_,rfl⟩,rfl,rfl⟩ PoolFit.nil) PanicOk.auto (Ent.refl _) ?_ | refine kF 8 [0,1,2,3,4,5,6,7,8,9,10,11,12,13,14,15,16,17,18,19,20,21,22,23,24,25,26,27,28] [5] [] ?_ | refine kF 9 [0,1,2] [] [3] ?_) | ((first | refine Nx.at_op rfl rfl ?_ | refine Nx.m_loud rfl rfl rfl ?_ | refine Nx.at_do rfl rfl rfl rfl ?_ | refine Nx.m_loud_do rfl rfl rfl rfl rfl ?_ | refine GoodF.loud_ rfl rfl rfl rfl (fun ex X => ?_)); first | refine kP ?_ | refine kV hL2 ?_) | refine kS ?_ | refine kB fun bx => ?_ | refine kA fun A2 c2 => ?_ | ((with_reducible refine Nx.is_mix ?_); refine kQ rfl rfl rfl rfl (by first | exact .inl rfl | exact .inr ⟨_,_,_,rfl,rfl,rfl⟩) (by first | exact QRun.opr rfl | exact QRun.binr rfl rfl hE) ?_) | ((with_reducible refine GoodF.is ?_); first | refine GoodF.quiet rfl rfl rfl rfl rfl rfl (by first | exact QRun.opr rfl | exact QRun.binr rfl rfl hE |  exact QRun.std) ?_ | refine GoodF.done1 rfl (fun bx => ?_) | refine GoodF.done2 rfl (fun bx by_ => ?_) | refine GoodF.done3 rfl (fun bx by_ bz => ?_)) | refine kX (fun hc => ?_) fun hc => ?_ | fail | ((fail_if_success (with_reducible refine Nx.is_at ?_)); (fail_if_success (with_reducible refine Nx.is_wp ?_)); (fail_if_success (with_reducible refine Nx.is_mix ?_)); first | refine Nx.ex ?_ | refine Nx.pool_nextF 0 rfl (by exact zE) ?_ | refine Nx.pool_nextF 1 rfl (by exact zE) ?_ | refine Nx.pool_nextF 2 rfl (by exact zE) ?_ | refine Nx.pool_nextF 3 rfl (by exact zE) ?_)
   exact Nx.again (i + 1,some r) ⟨him,hbn⟩ (by dsimp only; omega) zR (by dsimp only; rw [hkeep]; (exact zE))
abbrev RowT:=Nat × (Nat → Rat)
def rowsL (q : Bl.Eqs) (T : Nat → Nat → Rat) : List RowT:=(List.range q.m).map fun i => (i,T i)
def rowF (q : Bl.Eqs) (ta : TA) (x : RowT) : Res:=ratsR (ta.ra x.1).1 (q.N + 1) (ta.ra x.1).2 (rl (q.N + 1) x.2)
def trowsR (q : Bl.Eqs) (ta : TA) (T : Nat → Nat → Rat) : Res:=Stars ((rowsL q T).map (rowF q ta))
def basL (q : Bl.Eqs) (B : Nat → Nat) : List Int:=(List.range q.m).map fun i => (B i : Int)
def basisR (q : Bl.Eqs) (ta : TA) (B : Nat → Nat) : Res:=Vec 3 1 ta.Ab q.m ta.cb ((basL q B).map (Value.int .i64))
theorem rowsL_len (q : Bl.Eqs) (T : Nat → Nat → Rat) : (rowsL q T).length = q.m:=by unfold rowsL; rw [lMp,List.length_range]
theorem rowsL_at {q : Bl.Eqs} {T : Nat → Nat → Rat} {i : Nat} (hi : i < q.m) : (rowsL q T).getD i default = (i,T i):=by
 unfold rowsL
 rw [gEl,gMp,List.getElem?_range hi]; rfl
theorem rowsL_set {q : Bl.Eqs} {T : Nat → Nat → Rat} {i : Nat} {f : Nat → Rat} : (rowsL q T).set i (i,f) = rowsL q (fun a => if a = i then f else T a):=by
 refine List.ext_getElem? fun j => ?_
 unfold rowsL
 rw [List.getElem?_set,gMp,lMp,List.length_range,gMp]
 by_cases hj : j < q.m
 ·rw [List.getElem?_range hj]
  by_cases h : i = j
  ·subst h; rw [if_pos rfl,if_pos hj]; show some (i,f) = some (i,if i = i then f else T i); rw [if_pos rfl]
  ·rw [if_neg h]; show some (j,T j) = some (j,if j = i then f else T j); rw [if_neg (Ne.symm h)]
 ·rw [List.getElem?_eq_none (by rw [List.length_range]; omega)]
  split
  ·rw [if_neg (by omega)]; rfl
  ·rfl
theorem basL_len (q : Bl.Eqs) (B : Nat → Nat) : (basL q B).length = q.m:=by unfold basL; rw [lMp,List.length_range]
theorem basL_at {q : Bl.Eqs} {B : Nat → Nat} {i : Nat} (hi : i < q.m) : (basL q B).getD i default = (B i : Int):=by
 unfold basL
 rw [gEl,gMp,List.getElem?_range hi]; rfl
theorem basL_set {q : Bl.Eqs} {B : Nat → Nat} {i e : Nat} : (basL q B).set i (e : Int) = basL q (fun a => if a = i then e else B a):=by
 refine List.ext_getElem? fun j => ?_
 unfold basL
 rw [List.getElem?_set,gMp,lMp,List.length_range,gMp]
 by_cases hj : j < q.m
 ·rw [List.getElem?_range hj]
  by_cases h : i = j
  ·subst h; rw [if_pos rfl,if_pos hj]; show some (e : Int) = some (((if i = i then e else B i) : Nat) : Int); rw [if_pos rfl]
  ·rw [if_neg h]; show some (B j : Int) = some (((if j = i then e else B j) : Nat) : Int); rw [if_neg (Ne.symm h)]
 ·rw [List.getElem?_eq_none (by rw [List.length_range]; omega)]
  split
  ·rw [if_neg (by omega)]; rfl
  ·rfl
def upd2 (T : Nat → Nat → Rat) (i k : Nat) (z : Rat) : Nat → Nat → Rat:=fun a => if a = i then updF (T i) k z else T a
section
variable {C : Cx} {e : Env} {I : PH} {R : List Res} {K : Act → World → Prop} {Q : Exit → Act → World → Prop} {t ty : TypeId} {pos : String} {after : Array Edge} {g : Option (Nat × Bool)} {x y : Operand} {q : Bl.Eqs} {ta : TA} {T : Nat → Nat → Rat} {i kk : Nat}
theorem num_rds {W : World} (k : Nat) (hk : nthL R k = some (trowsR q ta T)) (hi : i < q.m) (hkk : kk < q.N + 1) : Rds W I R ((ad (ta.ra i).1).add (kk * 2)) (ratC (T i kk)):=by
 have:=Rds.rowN (W:=W) (I:=I) (R:=R) (f:=ratC) (r:=rowF q ta) (bs:=rowsL q T) (j:=i) (sz:=2) (l:=rl (q.N + 1) (T i)) (i:=kk) (A:=(ta.ra i).1) (n:=q.N + 1) (c:=(ta.ra i).2) (el:=24) k ratC_len hk (by rw [rowsL_len]; exact hi) (by rw [rowsL_at hi]; rfl) (by rw [rl_len]; exact hkk)
 rwa [rl_at _ hkk] at this
theorem Nx.store_num (k : Nat) {z : Rat} (hx : evo e x = some (.pointer (some ((ad (ta.ra i).1).add (kk * 2))))) (hy : evo e y = some (ratV z)) (hn : Go.Eng.cellsIn C.P t = some 2) (hk : nthL R k = some (trowsR q ta T)) (hi : i < q.m) (hkk : kk < q.N + 1)
  (h : Nx C e I (trowsR q ta (upd2 T i kk z) :: R.eraseIdx k) K) : Nx C e I R (opK C.P ⟨none,.store t x y,ty,pos,after,g⟩ K Q):=by
 refine Nx.store_row2 (f:=ratC) (a:=fun q => .int .i64 q.num) (b:=fun q => .int .i64 q.den) (r:=rowF q ta) (bs:=rowsL q T) (j:=i) (y':=(i,updF (T i) kk z)) (l:=rl (q.N + 1) (T i)) (i:=kk) (z:=z) (A:=(ta.ra i).1) (n:=q.N + 1) (c:=(ta.ra i).2) (el:=24) k hx hy rfl (fun _ => rfl) rfl rfl hn hk (by rw [rowsL_len]; exact hi) (by rw [rowsL_at hi]; rfl) (by rw [rl_set]; rfl) (by rw [rl_len]; exact hkk) hkk ?_
 rw [rowsL_set]
 exact h
end
def T1 (T : Nat → Nat → Rat) (r : Nat) (p : Rat) (k : Nat) : Nat → Nat → Rat:=fun a j => if a = r ∧ j < k then T r j / p else T a j
theorem T1_zero (T : Nat → Nat → Rat) (r : Nat) (p : Rat) : T1 T r p 0 = T:=by
 funext a j
 unfold T1
 rw [if_neg (by omega)]
theorem T1_succ (T : Nat → Nat → Rat) (r : Nat) (p : Rat) (k : Nat) : upd2 (T1 T r p k) r k (T r k / p) = T1 T r p (k + 1):=by
 funext a j
 unfold upd2 updF T1
 by_cases ha : a = r
 ·subst ha
  rw [if_pos rfl]
  by_cases hj : j = k
  ·subst hj; rw [if_pos rfl,if_pos ⟨rfl,by omega⟩]
  ·rw [if_neg hj]
   by_cases hjk : j < k
   ·rw [if_pos ⟨rfl,hjk⟩,if_pos ⟨rfl,by omega⟩]
   ·rw [if_neg (by omega),if_neg (by omega)]
 ·rw [if_neg ha,if_neg (by omega),if_neg (by omega)]
def T2 (T : Nat → Nat → Rat) (N r e i k : Nat) : Nat → Nat → Rat:=fun a j => if a = r then (if j < N + 1 then T r j / T r e else T r j) else if (a < i ∨ (a = i ∧ j < k)) ∧ j < N + 1 then T a j - T a e * (T r j / T r e) else T a j
theorem T2_zero (T : Nat → Nat → Rat) (N r e : Nat) : T1 T r (T r e) (N + 1) = T2 T N r e 0 0:=by
 funext a j
 unfold T1 T2
 by_cases ha : a = r
 ·subst ha
  rw [if_pos rfl]
  by_cases hj : j < N + 1
  ·rw [if_pos ⟨rfl,hj⟩,if_pos hj]
  ·rw [if_neg (by omega),if_neg hj]
 ·rw [if_neg (by omega),if_neg ha,if_neg (by omega)]
theorem T2_succ (T : Nat → Nat → Rat) {N r e i k : Nat} (hi : i ≠ r) (hk : k < N + 1) : upd2 (T2 T N r e i k) i k (T i k - T i e * (T r k / T r e)) = T2 T N r e i (k + 1):=by
 funext a j
 unfold upd2 updF T2
 by_cases ha : a = i
 ·subst ha
  rw [if_pos rfl,if_neg hi,if_neg hi]
  by_cases hj : j = k
  ·subst hj; rw [if_pos rfl,if_pos ⟨.inr ⟨rfl,by omega⟩,hk⟩]
  ·rw [if_neg hj]
   by_cases hjk : j < k
   ·rw [if_pos ⟨.inr ⟨rfl,hjk⟩,by omega⟩,if_pos ⟨.inr ⟨rfl,by omega⟩,by omega⟩]
   ·rw [if_neg (by omega),if_neg (by omega)]
 ·rw [if_neg ha]
  by_cases har : a = r
  ·rw [if_pos har,if_pos har]
  ·rw [if_neg har,if_neg har]
   by_cases hai : a < i ∧ j < N + 1
   ·rw [if_pos ⟨.inl hai.1,hai.2⟩,if_pos ⟨.inl hai.1,hai.2⟩]
   ·rw [if_neg (by omega),if_neg (by omega)]
theorem T2_row (T : Nat → Nat → Rat) {N r e i : Nat} : T2 T N r e i (N + 1) = T2 T N r e (i + 1) 0:=by
 funext a j
 unfold T2
 by_cases har : a = r
 ·rw [if_pos har,if_pos har]
 ·rw [if_neg har,if_neg har]
  by_cases h : (a < i ∨ a = i) ∧ j < N + 1
  ·rw [if_pos ⟨h.1.elim .inl fun h1 => .inr ⟨h1,h.2⟩,h.2⟩,if_pos ⟨.inl (by omega),h.2⟩]
  ·rw [if_neg (by omega),if_neg (by omega)]
theorem T2_skip (T : Nat → Nat → Rat) {N r e i : Nat} (h : i = r ∨ T i e = 0) : T2 T N r e i 0 = T2 T N r e (i + 1) 0:=by
 funext a j
 unfold T2
 by_cases har : a = r
 ·rw [if_pos har,if_pos har]
 ·rw [if_neg har,if_neg har]
  by_cases hai : a = i
  ·subst hai
   have h0 : T a e = 0:=h.resolve_left har
   rw [if_neg (by omega)]
   split
   ·rw [h0]; grind
   ·rfl
  ·by_cases h1 : a < i ∧ j < N + 1
   ·rw [if_pos ⟨.inl h1.1,h1.2⟩,if_pos ⟨.inl (by omega),h1.2⟩]
   ·rw [if_neg (by omega),if_neg (by omega)]
theorem rows_congr {q : Bl.Eqs} {ta : TA} {T T' : Nat → Nat → Rat} (h : ∀ i j,i < q.m → j < q.N + 1 → T i j = T' i j) : trowsR q ta T = trowsR q ta T':=by
 unfold trowsR rowsL
 rw [List.map_map,List.map_map]
 congr 1
 refine List.map_congr_left fun i hi => ?_
 show rowF q ta (i,T i) = rowF q ta (i,T' i)
 unfold rowF
 rw [rl_congr (f:=T i) (g:=T' i) fun j hj => h i j (List.mem_range.1 hi) hj]
theorem T2_end {q : Bl.Eqs} {ta : TA} {s : Bl.Tab} {r e : Nat} : trowsR q ta (T2 s.T q.N r e q.m 0) = trowsR q ta (Bl.piv s r e).T:=rows_congr fun i j hi hj => by
 unfold T2
 rw [Bl.piv_T]
 by_cases hir : i = r
 ·rw [if_pos hir,if_pos hj,if_pos hir]
 ·rw [if_neg hir,if_pos ⟨.inl hi,hj⟩,if_neg hir]
theorem pivot_spec (b : Nat) (q : Bl.Eqs) (hq : q.Small) (ta : TA) (s : Bl.Tab) (hs : Bl.Inv q s) (r e : Nat) (hr : r < q.m) (he : e < q.cnt) (hne : s.T r e ≠ 0) (hs' : Bl.Inv q (Bl.piv s r e)) (vc : Value) (I : PH) (hT : TabI I)
  (ho : SliceOf (fun i : Nat => Value.slice (ta.ra i).1 (q.N + 1) (ta.ra i).2) I ta.Ar ta.cr (List.range q.m)) (hra : ∀ i,i < q.m → (ta.ra i).1.isSome = true) (hAb : ta.Ab.isSome = true) :
  FnSpec Tryz.prog 155 [.pointer (some ⟨b,0,none⟩),.int .i64 (r : Int),.int .i64 (e : Int)] I [Blk b 193 (tabV q ta vc),basisR q ta s.B,trowsR q ta s.T]
   (fun _ R' => R' = [Blk b 193 (tabV q ta vc),basisR q ta (Bl.piv s r e).B,trowsR q ta (Bl.piv s r e).T]):=by
 have h1:=hq.cnt
 have h2:=hq.m
 have hNb : q.N ≤ 20:=by show q.cnt + q.m ≤ 20; omega
 have heN : e < q.N:=by show e < q.cnt + q.m; omega
 obtain ⟨D,hD⟩:=hs.num hq
 obtain ⟨D',hD'⟩:=hs'.num hq
 have ror:=fun (W : World) (Q : List Res) (i : Nat) (hi : i < q.m) => (by
  have:=ho.rd (W:=W) (R:=Q) (k:=i) (by rw [List.length_range]; exact hi)
  rwa [range_getD hi] at this : Rd W I Q ((ad ta.Ar).add (i * 1)) (.slice (ta.ra i).1 (q.N + 1) (ta.ra i).2))
 have hAr : ta.Ar.isSome = true:=ho.isSome (by rw [List.length_range]; omega)
 have ro1:=fun (W : World) (Q : List Res) => ror W Q r hr
 have hrr:=hra r hr
 obtain ⟨p,hp⟩ : ∃ p,p = s.T r e:=⟨_,rfl⟩
 have hpe : ∀ {W : World} {R : List Res} (k : Nat),nthL R k = some (trowsR q ta s.T) → Rds W I R ((ad (ta.ra r).1).add (e * 2)) (ratC p):=fun k hk => by rw [hp]; exact num_rds k hk hr (by omega)
 refine FnSpec.enterP Tryz.func155 rfl Tryz.ntmps155 rfl fun w F => ?_
 repeat' first | refine kW ?_ | (refine Nx.zo ?_; first | refine kP ?_ | refine Nx.indexAddr_nat (A:=ta.Ar) (i:=r) (sz:=1) rfl rfl rfl rfl rfl hr hAr ?_ | refine Nx.load rfl rfl rfl (ro1 _ _) ?_ | refine Nx.indexAddr_nat (A:=(ta.ra r).1) (i:=e) (sz:=2) rfl rfl rfl rfl rfl (by omega) hrr ?_ | refine Nx.loads rfl rfl rfl rfl (hpe 2 rfl) rfl ?_) | refine kS ?_ | refine kB fun bx => ?_ | refine kA fun A2 c2 => ?_ | refine kX (fun hc => ?_) fun hc => ?_ | fail
 revert bx; intro b6
 have hpne : p ≠ 0:=by rw [hp]; exact hne
 have hRBp : RB p:=by rw [hp]; exact hD.rb hr (by omega)
 refine Nx.p_loop (σ:=Nat) (fun k => [(0,.pointer (some ⟨b,0,none⟩)),(1,.int .i64 (r : Int)),(2,.int .i64 (e : Int)),(6,.pointer (some ⟨b6,0,none⟩)),(30,.slice (ta.ra r).1 (q.N + 1) (ta.ra r).2),(31,.int .i64 ((q.N + 1 : Nat) : Int)),(32,.int .i64 (k : Int))])
  (fun k => [Blk b6 24 (ratC p),trowsR q ta (T1 s.T r p k),Blk b 193 (tabV q ta vc),basisR q ta s.B,F]) (fun k => k ≤ q.N + 1) (fun k => q.N + 1 - k) 0 rfl (nZl _) zR (by rw [T1_zero]; (exact zE)) ?_
 intro k hk
 have hk : k ≤ q.N + 1:=hk
 by_cases hkN : k < q.N + 1
 ·obtain ⟨xk,hxk⟩ : ∃ xk,xk = s.T r k:=⟨_,rfl⟩
  obtain ⟨qk,hqk⟩ : ∃ qk,qk = xk / p:=⟨_,rfl⟩
  have hxe : ∀ (W : World) (R : List Res) (j : Nat),nthL R j = some (trowsR q ta (T1 s.T r p k)) → Rds W I R ((ad (ta.ra r).1).add (k * 2)) (ratC xk):=fun W R j hj => by
   have:=num_rds (W:=W) (I:=I) j hj hr hkN
   rw [show T1 s.T r p k r k = xk by rw [hxk]; unfold T1; rw [if_neg (by omega)]] at this
   exact this
  have hM:=bover_spec xk p (by rw [hxk]; exact hD.rb hr (by omega)) hRBp hpne (by rw [hxk,hp]; exact hD.rbq hr hr (by omega) heN hne) I hT
  rw [← hqk] at hM
  have hup:=T1_succ s.T r p k
  rw [← hxk,← hqk] at hup
  repeat' first | ((with_reducible refine Nx.is_wp ?_); first | refine Nx.wo ?_ | refine kF 4 [0,1,2,3,4,5,6,7,8,9,10,11] [10] [12] ?_ | refine kF 14 [0,1,2,3,4,5,6,7,8,9,10] [8,9] [11] ?_) | (refine Nx.zo ?_; first | refine kP ?_ | refine Nx.indexAddr_nat (A:=(ta.ra r).1) (i:=k) (sz:=2) rfl rfl rfl rfl rfl hkN hrr ?_ | refine Nx.loads rfl rfl rfl rfl (hxe _ _ 1 rfl) rfl ?_ | refine kV hM ?_ | refine Nx.store_num 2 rfl rfl rfl rfl hr hkN ?_) | refine kS ?_ | refine kB fun bx => ?_ | refine kA fun A2 c2 => ?_ | ((with_reducible refine Nx.is_mix ?_); refine kQ rfl rfl rfl rfl (by first | exact .inl rfl | exact .inr ⟨_,_,_,rfl,rfl,rfl⟩) (by first | exact QRun.opr rfl | exact QRun.idx (A:=ta.Ar) (i:=r) (sz:=1) rfl rfl rfl rfl hr hAr | exact QRun.load rfl rfl (ro1 _ _) | exact QRun.loads rfl rfl rfl (Rds.cut 0 2 rfl rfl) rfl | exact QRun.loads rfl rfl rfl (Rds.cut 1 2 rfl rfl) rfl | exact QRun.idx (A:=(ta.ra r).1) (i:=k) (sz:=2) rfl rfl rfl rfl hkN hrr) ?_) | refine kX (fun hc => ?_) fun hc => ?_ | fail
  exact Nx.again (k + 1) hkN (by omega) zR (by rw [← hup]; (exact zE))
 obtain rfl : k = q.N + 1:=by omega
 rw [hp,T2_zero,← hp]
 clear hpe hRBp
 repeat' first | refine kS ?_ | refine kB fun bx => ?_ | refine kA fun A2 c2 => ?_ | refine kX (fun hc => ?_) fun hc => ?_ | fail
 refine Nx.p_loop (σ:=Nat) (fun i => [(0,.pointer (some ⟨b,0,none⟩)),(1,.int .i64 (r : Int)),(2,.int .i64 (e : Int)),(53,.slice ta.Ar q.m ta.cr),(54,.int .i64 (q.m : Int)),(55,.int .i64 (i : Int))])
  (fun i => [trowsR q ta (T2 s.T q.N r e i 0),Blk b 193 (tabV q ta vc),basisR q ta s.B,F]) (fun i => i ≤ q.m) (fun i => q.m - i) 0 rfl (nZl _) zR (by exact zE) ?_
 intro i hi
 have hi : i ≤ q.m:=hi
 by_cases him : i < q.m
 case neg =>
  obtain rfl : i = q.m:=by omega
  rw [T2_end]
  have hbs : (basL q s.B).set r (e : Int) = basL q (Bl.piv s r e).B:=basL_set
  repeat' first | refine kW ?_ | (refine Nx.zo ?_; first | refine kP ?_ | refine Nx.indexAddr_nat (A:=ta.Ab) (i:=r) (sz:=1) rfl rfl rfl rfl rfl hr hAb ?_ | refine Nx.store_ints 2 (A:=ta.Ab) (i:=r) (l:=basL q s.B) (z:=(e : Int)) rfl rfl rfl rfl hr ?_) | refine kS ?_ | refine kB fun bx => ?_ | refine kA fun A2 c2 => ?_ | refine kX (fun hc => ?_) fun hc => ?_ | fail
  refine Nx.end_fn rfl [_,_,_] rfl ?_
  rw [hbs]
  unfold basisR
  (exact zE)
 have roi:=fun (W : World) (Q : List Res) => ror W Q i him
 have hri:=hra i him
 obtain ⟨z,hz⟩ : ∃ z,z = T2 s.T q.N r e i 0 i e:=⟨_,rfl⟩
 have hze : ∀ (W : World) (R : List Res) (j : Nat),nthL R j = some (trowsR q ta (T2 s.T q.N r e i 0)) → Rds W I R ((ad (ta.ra i).1).add (e * 2)) (ratC z):=fun W R j hj => by
  have:=num_rds (W:=W) (I:=I) j hj him (show e < q.N + 1 by omega)
  rwa [← hz] at this
 by_cases hir : i = r
 ·subst hir
  have hsk:=T2_skip s.T (N:=q.N) (r:=i) (e:=e) (i:=i) (.inl rfl)
  repeat' first | refine kW ?_ | (refine Nx.zo ?_; first | refine kP ?_ | refine Nx.indexAddr_nat (A:=ta.Ar) (i:=i) (sz:=1) rfl rfl rfl rfl rfl him hAr ?_ | refine Nx.load rfl rfl rfl (roi _ _) ?_ | refine Nx.indexAddr_nat (A:=(ta.ra i).1) (i:=e) (sz:=2) rfl rfl rfl rfl rfl (by omega) hri ?_ | refine Nx.loads rfl rfl rfl rfl (hze _ _ 0 rfl) rfl ?_) | refine kS ?_ | refine kB fun bx => ?_ | refine kA fun A2 c2 => ?_ | refine kX (fun hc => ?_) fun hc => ?_ | fail
  exact Nx.again (i + 1) him (by omega) zR (by rw [← hsk]; (exact zE))
 have hzi : z = s.T i e:=by rw [hz]; unfold T2; rw [if_neg hir,if_neg (by omega)]
 by_cases hz0 : z = 0
 ·have hsk:=T2_skip s.T (N:=q.N) (r:=r) (e:=e) (i:=i) (.inr (by rw [← hzi]; exact hz0))
  have hn0 : z.num = 0:=by rw [hz0]; rfl
  repeat' first | refine kW ?_ | (refine Nx.zo ?_; first | refine kP ?_ | refine Nx.indexAddr_nat (A:=ta.Ar) (i:=i) (sz:=1) rfl rfl rfl rfl rfl him hAr ?_ | refine Nx.load rfl rfl rfl (roi _ _) ?_ | refine Nx.indexAddr_nat (A:=(ta.ra i).1) (i:=e) (sz:=2) rfl rfl rfl rfl rfl (by omega) hri ?_ | refine Nx.loads rfl rfl rfl rfl (hze _ _ 0 rfl) rfl ?_) | refine kS ?_ | refine kB fun bx => ?_ | refine kA fun A2 c2 => ?_ | refine kX (fun hc => ?_) fun hc => ?_ | fail
  exact Nx.again (i + 1) him (by omega) zR (by rw [← hsk]; (exact zE))
 have hn0 : z.num ≠ 0:=rat_ne hz0
 have hRBz : RB z:=by rw [hzi]; exact hD.rb him (by omega)
 repeat' first | refine kW ?_ | (refine Nx.zo ?_; first | refine kP ?_ | refine Nx.indexAddr_nat (A:=ta.Ar) (i:=i) (sz:=1) rfl rfl rfl rfl rfl him hAr ?_ | refine Nx.load rfl rfl rfl (roi _ _) ?_ | refine Nx.indexAddr_nat (A:=(ta.ra i).1) (i:=e) (sz:=2) rfl rfl rfl rfl rfl (by omega) hri ?_ | refine Nx.loads rfl rfl rfl rfl (hze _ _ 0 rfl) rfl ?_ | refine Nx.indexAddr_nat (A:=ta.Ar) (i:=r) (sz:=1) rfl rfl rfl rfl rfl hr hAr ?_ | refine Nx.load rfl rfl rfl (ro1 _ _) ?_) | refine kS ?_ | refine kB fun bx => ?_ | refine kA fun A2 c2 => ?_ | refine kX (fun hc => ?_) fun hc => ?_ | fail
 revert bx; intro b11
 refine Nx.p_loop (σ:=Nat) (fun k => [(0,.pointer (some ⟨b,0,none⟩)),(1,.int .i64 (r : Int)),(2,.int .i64 (e : Int)),(9,.int .i64 (i : Int)),(10,.slice (ta.ra i).1 (q.N + 1) (ta.ra i).2),(11,.pointer (some ⟨b11,0,none⟩)),(53,.slice ta.Ar q.m ta.cr),(54,.int .i64 (q.m : Int)),(55,.int .i64 (i : Int)),(78,.slice (ta.ra r).1 (q.N + 1) (ta.ra r).2),(79,.int .i64 ((q.N + 1 : Nat) : Int)),(80,.int .i64 (k : Int))])
  (fun k => [Blk b11 24 (ratC z),trowsR q ta (T2 s.T q.N r e i k),Blk b 193 (tabV q ta vc),basisR q ta s.B,F]) (fun k => k ≤ q.N + 1) (fun k => q.N + 1 - k) 0 rfl (nZl _) zR (by exact zE) ?_
 intro k hk
 have hk : k ≤ q.N + 1:=hk
 by_cases hkN : k < q.N + 1
 case neg =>
  obtain rfl : k = q.N + 1:=by omega
  rw [T2_row]
  repeat' first | refine kS ?_ | refine kB fun bx => ?_ | refine kA fun A2 c2 => ?_ | refine kX (fun hc => ?_) fun hc => ?_ | fail
  exact Nx.again (i + 1) him (by omega) zR (by exact zE)
 obtain ⟨qk,hqk⟩ : ∃ qk,qk = s.T r k / s.T r e:=⟨_,rfl⟩
 obtain ⟨xk,hxk⟩ : ∃ xk,xk = s.T i k:=⟨_,rfl⟩
 obtain ⟨pr,hpr⟩ : ∃ pr,pr = z * qk:=⟨_,rfl⟩
 obtain ⟨nk,hnk⟩ : ∃ nk,nk = xk - pr:=⟨_,rfl⟩
 have hqe : ∀ (W : World) (R : List Res) (j : Nat),nthL R j = some (trowsR q ta (T2 s.T q.N r e i k)) → Rds W I R ((ad (ta.ra r).1).add (k * 2)) (ratC qk):=fun W R j hj => by
  have:=num_rds (W:=W) (I:=I) j hj hr hkN
  rwa [show T2 s.T q.N r e i k r k = qk by rw [hqk]; unfold T2; rw [if_pos rfl,if_pos hkN]] at this
 have hxe : ∀ (W : World) (R : List Res) (j : Nat),nthL R j = some (trowsR q ta (T2 s.T q.N r e i k)) → Rds W I R ((ad (ta.ra i).1).add (k * 2)) (ratC xk):=fun W R j hj => by
  have:=num_rds (W:=W) (I:=I) j hj him hkN
  rwa [show T2 s.T q.N r e i k i k = xk by rw [hxk]; unfold T2; rw [if_neg hir,if_neg (by omega)]] at this
 have hRq : RB qk:=by rw [hqk]; exact hD.rbq hr hr (by omega) heN hne
 have hRp : RB pr:=by rw [hpr,hzi,hqk]; exact hD.rbt him hr (by omega) heN hne
 have hRn : RB nk:=by
  have : nk = (Bl.piv s r e).T i k:=by rw [Bl.piv_T,if_neg hir,hnk,hxk,hpr,hzi,hqk]
  rw [this]; exact hD'.rb him (by omega)
 have hM1:=btimes_spec z qk hRBz hRq (by rw [← hpr]; exact hRp) I hT
 rw [← hpr] at hM1
 have hM2:=bminus_spec xk pr (by rw [hxk]; exact hD.rb him (by omega)) hRp (by rw [← hnk]; exact hRn) I hT
 rw [← hnk] at hM2
 have hup:=T2_succ s.T (N:=q.N) (r:=r) (e:=e) (i:=i) (k:=k) hir hkN
 rw [← hxk,← hzi,← hqk,← hpr,← hnk] at hup
 clear hqk hxk hpr hnk hRq hRp hRn hze hz
 repeat' first | ((with_reducible refine Nx.is_wp ?_); first | refine Nx.wo ?_ | refine kF 4 [0,1,2,3,4,5,6,7,8,9,10,11] [10] [12] ?_ | refine kF 14 [0,1,2,3,4,5,6,7,8,9,10] [8,9] [11] ?_) | (refine Nx.zo ?_; first | refine kP ?_ | refine Nx.indexAddr_nat (A:=(ta.ra r).1) (i:=k) (sz:=2) rfl rfl rfl rfl rfl hkN hrr ?_ | refine Nx.loads rfl rfl rfl rfl (hqe _ _ 1 rfl) rfl ?_ | refine kV hM1 ?_ | refine kV hM2 ?_ | refine Nx.indexAddr_nat (A:=(ta.ra i).1) (i:=k) (sz:=2) rfl rfl rfl rfl rfl hkN hri ?_ | refine Nx.store_num 2 rfl rfl rfl rfl him hkN ?_) | refine kS ?_ | refine kB fun bx => ?_ | refine kA fun A2 c2 => ?_ | ((with_reducible refine Nx.is_mix ?_); refine kQ rfl rfl rfl rfl (by first | exact .inl rfl | exact .inr ⟨_,_,_,rfl,rfl,rfl⟩) (by first | exact QRun.opr rfl | exact QRun.idx (A:=(ta.ra i).1) (i:=k) (sz:=2) rfl rfl rfl rfl hkN hri | exact QRun.loads rfl rfl rfl (hxe _ _ 2 rfl) rfl | exact QRun.loads rfl rfl rfl (Rds.cut 0 2 rfl rfl) rfl | exact QRun.loads rfl rfl rfl (Rds.cut 1 2 rfl rfl) rfl) ?_) | refine kX (fun hc => ?_) fun hc => ?_ | fail
 exact Nx.again (k + 1) hkN (by omega) zR (by rw [← hup]; (exact zE))
theorem tab_mono {I I' : PH} (hle : PH.le I I') (h : TabI I) : TabI I':=fun W w R hw => h W w R (St.imm_le hle hw)
theorem Stars.nth : ∀ {L : List Res} {m : PH} {i : Nat} {r : Res},Stars L m → L[i]? = some r → ∃ m',PH.le m' m ∧ r m':=fun h hi => Stars.get _ h (nthL_eq.trans hi)
theorem tabq_of {q : Bl.Eqs} {ta : TA} {s : Bl.Tab} {m I' : PH} (hm : PH.le m I') (h : Stars [basisR q ta s.B,trowsR q ta s.T] m) (ho : SliceOf (fun i : Nat => Value.slice (ta.ra i).1 (q.N + 1) (ta.ra i).2) I' ta.Ar ta.cr (List.range q.m)) : TabQ I' q ta s:=by
 obtain ⟨m1,d1,h1⟩:=Stars.get 0 h rfl
 obtain ⟨m2,d2,h2⟩:=Stars.get 1 h rfl
 refine ⟨ho,fun i hi => ?_,?_⟩
 ·obtain ⟨m3,d3,h3⟩:=Stars.nth (i:=i) h2 (by rw [gMp]; unfold rowsL; rw [gMp,List.getElem?_range hi]; rfl)
  have h3 : Vec 24 2 (ta.ra i).1 (q.N + 1) (ta.ra i).2 ((rl (q.N + 1) (s.T i)).flatMap ratC) m3:=h3
  exact Vec.sliceN (t:=24) (l:=rl (q.N + 1) (s.T i)) ((d3.trans d2).trans hm) (by rw [rl_len]; exact h3) fun _ _ => rfl
 ·have h1 : Vec 3 1 ta.Ab q.m ta.cb ((basL q s.B).map (Value.int .i64)) m1:=h1
  refine Vec.sliceOf (t:=3) (d1.trans hm) ?_
  rw [List.length_range]
  unfold basL at h1
  rw [List.map_map] at h1
  exact h1
theorem improve_spec (b : Nat) (q : Bl.Eqs) (hq : q.Small) (ta : TA) (s0 : Bl.Tab) (hs0 : Bl.Inv q s0) (c : Nat → Int) (hc : ∀ k,(c k).natAbs ≤ 1) (Ac : Option Addr) (cc : Nat) (I : PH) (hT : TabI I) (hcost : Rats I Ac cc (rl q.N (Bl.cst c)))
  (ho : SliceOf (fun i : Nat => Value.slice (ta.ra i).1 (q.N + 1) (ta.ra i).2) I ta.Ar ta.cr (List.range q.m)) (hra : ∀ i,i < q.m → (ta.ra i).1.isSome = true) (hAb : 0 < q.m → ta.Ab.isSome = true) :
  FnSpec Tryz.prog 111 [.pointer (some ⟨b,0,none⟩),.func (.func 112) #[.pointer (some ⟨b,0,none⟩)] #[],.func (.func 113) #[.pointer (some ⟨b,0,none⟩)] #[]] I
   [Blk b 193 (tabV q ta (.slice Ac q.N cc)),basisR q ta s0.B,trowsR q ta s0.T]
   (fun v R' => ∃ (s' : Bl.Tab) (bo : Bool),v = .bool bo ∧ Bl.Run q.m q.N q.cnt (Bl.cst c) s0 s' bo ∧ R' = [Blk b 193 (tabV q ta (.slice Ac q.N cc)),basisR q ta s'.B,trowsR q ta s'.T]):=by
 have h1:=hq.cnt
 have h2:=hq.m
 refine FnSpec.enterP Tryz.func111 rfl Tryz.ntmps111 rfl fun w F => ?_
 repeat' first | refine kS ?_ | refine kB fun bx => ?_ | refine kA fun A2 c2 => ?_ | refine kX (fun hc => ?_) fun hc => ?_ | fail
 refine Nx.p_loop (σ:=Nat × Bl.Tab) (fun _ => [(0,.pointer (some ⟨b,0,none⟩)),(1,.func (.func 112) #[.pointer (some ⟨b,0,none⟩)] #[]),(2,.func (.func 113) #[.pointer (some ⟨b,0,none⟩)] #[])])
  (fun z => [Blk b 193 (tabV q ta (.slice Ac q.N cc)),basisR q ta z.2.B,trowsR q ta z.2.T,F]) (fun z => Bl.Gone q.m q.N q.cnt (Bl.cst c) s0 z.2 z.1 ∧ Bl.Inv q z.2) (fun z => q.N ^ q.m - z.1) (0,s0) rfl ⟨Bl.Gone.zero s0,hs0⟩ zR (by exact zE) ?_
 rintro ⟨k,s⟩ ⟨hgone,hs⟩
 dsimp only at hgone hs ⊢
 have hlt:=hgone.lt (show q.cnt ≤ q.cnt + q.m by omega) hs0.ok
 have hEn:=fun (m I' : PH) (hle : PH.le I I') (hm : PH.le m I') (hv : Stars [basisR q ta s.B,trowsR q ta s.T] m) => enter_spec b q hq ta s hs c hc Ac cc I' (tab_mono hle hT) (tabq_of hm hv (ho.mono hle)) (hcost.mono hle)
 have hLv:=fun (e : Nat) (he : e < q.cnt) (m I' : PH) (hle : PH.le I I') (hm : PH.le m I') (hv : Stars [basisR q ta s.B,trowsR q ta s.T] m) => leave_spec b q hq ta s hs (.slice Ac q.N cc) I' (tab_mono hle hT) (tabq_of hm hv (ho.mono hle)) e he
 have hPv:=fun (e r : Nat) (he : Bl.Ent q.m q.cnt (Bl.cst c) s e) (hl : Bl.Lea q.m q.N s e r) => pivot_spec b q hq ta s hs r e hl.lt he.lt (by have:=hl.pos; grind) (hs.step he hl) (.slice Ac q.N cc) I hT ho hra (hAb (by have:=hl.lt; omega))
 repeat' first | refine kW ?_ | (refine Nx.zo ?_; first | refine kP ?_ | (refine Nx.call rfl rfl rfl (by kernel_rfl) rfl (FnSpec.keep [basisR q ta s.B,trowsR q ta s.T] hEn) (by exact zE) ?_; rintro _ _ ⟨_,⟨⟨rfl,hg⟩ | ⟨e,rfl,he⟩,rfl⟩,rfl⟩) | (refine Nx.call rfl rfl rfl (by kernel_rfl) rfl (FnSpec.keep [basisR q ta s.B,trowsR q ta s.T] (hLv e he.lt)) (by exact zE) ?_; rintro _ _ ⟨_,⟨⟨rfl,hnl⟩ | ⟨r,rfl,hl⟩,rfl⟩,rfl⟩) | (refine Nx.call rfl rfl rfl (by kernel_rfl) rfl (hPv e r he hl) (by exact zE) ?_; rintro _ _ rfl)) | refine kS ?_ | refine kB fun bx => ?_ | refine kA fun A2 c2 => ?_ | refine kX (fun hc => ?_) fun hc => ?_ | fail
 ·exact Nx.ret_fn rfl [_,_,_] ⟨s,true,rfl,hgone.run (.opt hg),rfl⟩ (by exact zE)
 ·exact Nx.ret_fn rfl [_,_,_] ⟨s,false,rfl,hgone.run (.unb he hnl),rfl⟩ (by exact zE)
 ·exact Nx.again (k + 1,Bl.piv s r e) ⟨hgone.next he hl,hs.step he hl⟩ (by dsimp only; omega) zR (by exact zE)
def frC0 (x : Int × Int) : List Value:=[.int .i64 x.1,.int .i64 x.2]
theorem frC0_len (x : Int × Int) : (frC0 x).length = 2:=rfl
theorem frC0_one (l : List (Int × Int)) : ∀ v ∈ l.flatMap frC0,v.oneCell' = true:=fun u hu => by
 obtain ⟨q,_,h⟩:=List.mem_flatMap.1 hu
 simp only [frC0,List.mem_cons,List.not_mem_nil,or_false] at h
 rcases h with rfl | rfl <;> rfl
theorem rep_rl (n : Nat) (x : Rat) : (List.replicate n (ratC x)).flatten = (rl n fun _ => x).flatMap ratC:=by
 unfold rl
 induction n with
 | zero => rfl
 | succ n ih =>
  rw [List.replicate_succ',List.flatten_append,ih,List.range_succ,mAp,List.flatMap_append]
  simp
theorem RepeatF_spec (x : Rat) (b n : Nat) (hn1 : 1 ≤ n) (hn : n ≤ 4096) (I : PH) :
  FnSpec Tryz.prog 152 [.slice (some ⟨b,0,none⟩) 1 1,.int .i64 (n : Int)] I [Blk b 24 (ratC x)] (fun v R' => ∃ b',v = .slice (some ⟨b',0,none⟩) n n ∧ R' = [ratsR (some ⟨b',0,none⟩) n n (rl n fun _ => x)]):=by
 obtain ⟨cx,hcx0⟩ : ∃ cx,cx = ratC x:=⟨_,rfl⟩
 have hcx : cx.length = 2:=by rw [hcx0]; rfl
 have h1 : ∀ v ∈ cx,v.oneCell' = true:=by
  rw [hcx0]
  intro v hv
  simp only [ratC,List.mem_cons,List.not_mem_nil,or_false] at hv
  rcases hv with rfl | rfl <;> rfl
 have hfin : (List.replicate n cx).flatten = (rl n fun _ => x).flatMap ratC:=by rw [hcx0]; exact rep_rl n x
 rw [← hcx0]
 unfold ratsR
 rw [← hfin]
 clear hfin hcx0
 have hM:=mulU_spec n (by omega) I
 have hB : (n : Int) % B64 = n:=by unfold B64; omega
 have hB1 : ((1 : Nat) : Int) % B64 = 1:=by unfold B64; decide
 refine FnSpec.enterP Tryz.func152 rfl Tryz.ntmps152 rfl fun w F => ?_
 repeat' first | refine kW ?_ | (refine Nx.zo ?_; first | refine kP ?_ | (refine kC hM ?_; rintro _ _ ⟨rfl,rfl⟩) | (refine Nx.conv_u64 (p:=((1 : Nat) : Int)) rfl rfl rfl rfl ?_; rw [hB1]) | (refine Nx.conv_u64 (p:=(n : Int)) rfl rfl rfl rfl ?_; rw [hB]) | refine Nx.conv_i64 (p:=(n : Int)) rfl rfl rfl (by unfold I64; omega) rfl ?_ | refine Nx.makeStructs frC0 (0,0) (by_:=16) (m:=n) (sz:=2) rfl rfl rfl rfl rfl rfl rfl rfl rfl rfl (by omega) (by unfold maxLen; omega) (fun bx => ?_)) | refine kS ?_ | refine kB fun bx => ?_ | refine kA fun A2 c2 => ?_ | refine kX (fun hc => ?_) fun hc => ?_ | fail
 revert bx; intro b7
 generalize hx0 : (List.replicate n ((0,0) : Int × Int)).flatMap frC0 = x0
 have hx0l : x0.length = n * 2:=by rw [← hx0,flat_len frC0_len,List.length_replicate]
 have hF0 : Filled cx 2 n 1 (x0.take 0 ++ cx ++ x0.drop (0 + cx.length)):=Filled.start hcx h1 hx0l (by rw [← hx0]; exact frC0_one _) hn1
 repeat' first | refine kW ?_ | (refine Nx.zo ?_; first | refine kP ?_ | refine Nx.copy_ (k:=1) (sz:=2) (cs:=cx) rfl rfl rfl rfl rfl rfl (by show 1 = min 1 n; omega) (by omega) (Rds.at_ 1 rfl) (Wr.vecNs0 (by omega) (by omega) h1) ?_) | refine kS ?_ | refine kB fun bx => ?_ | refine kA fun A2 c2 => ?_ | refine kX (fun hc => ?_) fun hc => ?_ | fail
 refine Nx.p_loop (σ:=Nat × List Value) (fun s => [(7,.slice (some ⟨b7,0,none⟩) n n),(8,.int .i64 (s.1 : Int))]) (fun s => [Vec 24 2 (some ⟨b7,0,none⟩) n n s.2,F]) (fun s => 1 ≤ s.1 ∧ s.1 ≤ n ∧ Filled cx 2 n s.1 s.2) (fun s => n - s.1) (1,x0.take 0 ++ cx ++ x0.drop (0 + cx.length)) rfl ⟨nLr _,hn1,hF0⟩ ⟨rfl,rfl,trivial⟩ (by exact zE) ?_
 rintro ⟨m,xs⟩ ⟨hm1,hmn,hF⟩
 dsimp only at hm1 hmn hF ⊢
 by_cases hlt : m < n
 case neg =>
  obtain rfl : m = n:=by omega
  have hd:=hF.done
  subst hd
  repeat' first | refine kS ?_ | refine kB fun bx => ?_ | refine kA fun A2 c2 => ?_ | refine kX (fun hc => ?_) fun hc => ?_ | fail
  exact Nx.ret_fn rfl [_] ⟨b7,rfl,rfl⟩ (by exact zE)
 have hst:=hF.step hcx (k:=min m (n - m)) (by omega) (by omega)
 have hxl:=hF.len
 repeat' first | ((with_reducible refine Nx.is_wp ?_); first | refine Nx.wo ?_ | refine Nx.p_drawF (id:=9) rfl [0,1,2,3,4,5,6,7,8,9] [7] [] _ rfl rfl (by kernel_rfl) (by kernel_rfl) rfl PanicOk.auto (Ent.eraseK 0 _) ?_) | (refine Nx.zo ?_; first | refine kP ?_ | refine Nx.copy_ (k:=min m (n - m)) (sz:=2) (cs:=xs.take (min m (n - m) * 2)) rfl rfl rfl rfl rfl rfl rfl (by rw [lTk]; omega) Rds.vec_take (Wr.vecNs (A:=some ⟨b7,0,none⟩) (i:=m * 2) (by rw [lTk]; omega) (by rw [lTk]; omega) (fun v hv => hF.one v (List.mem_of_mem_take hv))) ?_) | refine kS ?_ | refine kB fun bx => ?_ | refine kA fun A2 c2 => ?_ | ((with_reducible refine Nx.is_mix ?_); refine kQ rfl rfl rfl rfl (by first | exact .inl rfl | exact .inr ⟨_,_,_,rfl,rfl,rfl⟩) (by first | exact QRun.opr rfl | exact QRun.slice_from (sz:=2) rfl rfl rfl rfl hlt (nLr _) | exact QRun.slice_hi (sz:=2) rfl rfl rfl rfl hmn) ?_) | refine kX (fun hc => ?_) fun hc => ?_ | fail
 exact Nx.again (m + min m (n - m),_) ⟨by dsimp only; omega,by dsimp only; omega,hst⟩ (by dsimp only; omega) ⟨rfl,rfl,trivial⟩ (by exact zE)
def cs1 (q : Bl.Eqs) (others : Int) (k : Nat) : Nat → Rat:=fun j => if q.cnt ≤ j ∧ j < k then (others : Rat) else 0
theorem cs1_succ (q : Bl.Eqs) (others : Int) {k : Nat} (hk : q.cnt ≤ k) : updF (cs1 q others k) k (others : Rat) = cs1 q others (k + 1):=by
 funext j
 unfold updF cs1
 by_cases h : j = k
 ·subst h; rw [if_pos rfl,if_pos ⟨hk,by omega⟩]
 ·rw [if_neg h]
  by_cases h2 : q.cnt ≤ j ∧ j < k
  ·rw [if_pos h2,if_pos ⟨h2.1,by omega⟩]
  ·rw [if_neg h2,if_neg (by omega)]
def aimV : Option Nat → Int
 | none => -1
 | some c => c
def aimF (q : Bl.Eqs) (factor others : Int) : Option Nat → Nat → Rat
 | none => cs1 q others q.N
 | some c => updF (cs1 q others q.N) c (factor : Rat)
theorem aim_spec (b : Nat) (q : Bl.Eqs) (hq : q.Small) (hc1 : 1 ≤ q.cnt) (vr vb vc : Value) (cell : Option Nat) (factor others : Int) (hcell : ∀ c,cell = some c → c < q.cnt) (_hf : -1 ≤ factor ∧ factor ≤ 1) (_hoth : -1 ≤ others ∧ others ≤ 1) (I : PH) :
  FnSpec Tryz.prog 110 [.pointer (some ⟨b,0,none⟩),.int .i64 (aimV cell),.int .i64 factor,.int .i64 others] I [Blk b 193 (tabC q vr vb vc)]
   (fun _ R' => ∃ b',R' = [Blk b 193 (tabC q vr vb (.slice (some ⟨b',0,none⟩) q.N q.N)),ratsR (some ⟨b',0,none⟩) q.N q.N (rl q.N (aimF q factor others cell))]):=by
 have h1:=hq.cnt
 have h2:=hq.m
 have hN : (q.cnt : Int) + (q.m : Int) = (q.N : Int):=by show _ = ((q.cnt + q.m : Nat) : Int); omega
 have hNb : q.N ≤ 20:=by show q.cnt + q.m ≤ 20; omega
 have hNc : q.cnt ≤ q.N:=Nat.le_add_right _ _
 have hV:=fun vc => value_spec' b q hq vr vb vc I
 rw [hN] at hV
 obtain ⟨cv,hcv⟩ : ∃ cv,cv = aimV cell:=⟨_,rfl⟩
 rw [← hcv]
 refine FnSpec.enterP Tryz.func110 rfl Tryz.ntmps110 rfl fun w F => ?_
 repeat' first | refine kW ?_ | (refine Nx.zo ?_; first | refine kP ?_ | refine Nx.callv rfl rfl rfl (by kernel_rfl) rfl (bwhole_spec _ _) ?_ | (refine Nx.call rfl rfl rfl (by kernel_rfl) rfl (hV vc) (by exact zE) ?_; rintro _ _ ⟨rfl,rfl⟩) | (refine Nx.call rfl rfl rfl (by kernel_rfl) rfl (RepeatF_spec ((0 : Int) : Rat) _ q.N (by omega) (by omega) I) (by exact zE) ?_; rintro _ _ ⟨b7,rfl,rfl⟩)) | refine kS ?_ | refine kB fun bx => ?_ | refine kA fun A2 c2 => ?_ | refine kX (fun hc => ?_) fun hc => ?_ | fail
 refine Nx.p_loop (σ:=Nat) (fun k => [(0,.pointer (some ⟨b,0,none⟩)),(1,.int .i64 cv),(2,.int .i64 factor),(3,.int .i64 others),(8,.int .i64 (k : Int))])
  (fun k => [ratsR (some ⟨b7,0,none⟩) q.N q.N (rl q.N (cs1 q others k)),Blk b 193 (tabC q vr vb (.slice (some ⟨b7,0,none⟩) q.N q.N)),F]) (fun k => q.cnt ≤ k ∧ k ≤ q.N) (fun k => q.N - k) q.cnt rfl ⟨nLr _,hNc⟩ zR (by rw [rl_congr (f:=cs1 q others q.cnt) (g:=fun _ => ((0 : Int) : Rat)) fun j _ => by unfold cs1; rw [if_neg (by omega)]; rfl]; (exact zE)) ?_
 rintro k ⟨hk1,hk2⟩
 by_cases hkN : k < q.N
 ·have hup:=cs1_succ q others hk1
  have hset:=rl_set (n:=q.N) (k:=k) (f:=cs1 q others k) (v:=(others : Rat))
  rw [hup] at hset
  repeat' first | ((with_reducible refine Nx.is_wp ?_); first | refine Nx.wo ?_ | refine kF 4 [0,1,2,3,4,5,6,7] [6] [8] ?_ | refine kF 6 [0,1,2,3,4,5,6,7] [6] [8] ?_) | (refine Nx.zo ?_; first | refine kP ?_ | (refine Nx.call rfl rfl rfl (by kernel_rfl) rfl (hV _) (by exact zE) ?_; rintro _ _ ⟨rfl,rfl⟩) | refine Nx.callv rfl rfl rfl (by kernel_rfl) rfl (bwhole_spec _ _) ?_ | refine Nx.indexAddr_nat (A:=some ⟨b7,0,none⟩) (i:=k) (sz:=2) rfl rfl rfl rfl rfl hkN rfl ?_ | refine Nx.store_el2 (f:=ratC) (a:=fun q => .int .i64 q.num) (b:=fun q => .int .i64 q.den) (A:=some ⟨b7,0,none⟩) (l:=rl q.N (cs1 q others k)) (i:=k) (z:=(others : Rat)) 1 rfl rfl rfl (fun _ => rfl) rfl rfl rfl rfl (by rw [rl_len]; exact hkN) hkN ?_) | refine kS ?_ | refine kB fun bx => ?_ | refine kA fun A2 c2 => ?_ | ((with_reducible refine Nx.is_mix ?_); refine kQ rfl rfl rfl rfl (by first | exact .inl rfl | exact .inr ⟨_,_,_,rfl,rfl,rfl⟩) (by first | exact QRun.opr rfl | exact QRun.idx (A:=some ⟨b7,0,none⟩) (i:=k) (sz:=2) rfl rfl rfl rfl hkN rfl) ?_) | refine kX (fun hc => ?_) fun hc => ?_ | fail
  exact Nx.again (k + 1) ⟨by omega,hkN⟩ (by omega) zR (by rw [← hset]; (exact zE))
 obtain rfl : k = q.N:=by omega
 cases cell with
 | none =>
  have hcv : cv = -1:=hcv
  subst hcv
  repeat' first | refine kW ?_ | (refine Nx.zo ?_; first | refine kP ?_ | (refine Nx.call rfl rfl rfl (by kernel_rfl) rfl (hV _) (by exact zE) ?_; rintro _ _ ⟨rfl,rfl⟩)) | refine kS ?_ | refine kB fun bx => ?_ | refine kA fun A2 c2 => ?_ | refine kX (fun hc => ?_) fun hc => ?_ | fail
  exact Nx.end_fn rfl [_,_] ⟨b7,rfl⟩ (by unfold aimF; (exact zE))
 | some c =>
  have hcc:=hcell c rfl
  have hcv : cv = (c : Int):=hcv
  subst hcv
  have hcN : c < q.N:=by omega
  have hset:=rl_set (n:=q.N) (k:=c) (f:=cs1 q others q.N) (v:=(factor : Rat))
  repeat' first | ((with_reducible refine Nx.is_wp ?_); first | refine Nx.wo ?_ | refine kF 4 [0,1,2,3,4,5,6,7] [6] [8] ?_ | refine kF 6 [0,1,2,3,4,5,6,7] [6] [8] ?_) | (refine Nx.zo ?_; first | refine kP ?_ | (refine Nx.call rfl rfl rfl (by kernel_rfl) rfl (hV _) (by exact zE) ?_; rintro _ _ ⟨rfl,rfl⟩) | refine Nx.callv rfl rfl rfl (by kernel_rfl) rfl (bwhole_spec _ _) ?_ | refine Nx.indexAddr_nat (A:=some ⟨b7,0,none⟩) (i:=c) (sz:=2) rfl rfl rfl rfl rfl hcN rfl ?_ | refine Nx.store_el2 (f:=ratC) (a:=fun q => .int .i64 q.num) (b:=fun q => .int .i64 q.den) (A:=some ⟨b7,0,none⟩) (l:=rl q.N (cs1 q others q.N)) (i:=c) (z:=(factor : Rat)) 1 rfl rfl rfl (fun _ => rfl) rfl rfl rfl rfl (by rw [rl_len]; exact hcN) hcN ?_) | refine kS ?_ | refine kB fun bx => ?_ | refine kA fun A2 c2 => ?_ | ((with_reducible refine Nx.is_mix ?_); refine kQ rfl rfl rfl rfl (by first | exact .inl rfl | exact .inr ⟨_,_,_,rfl,rfl,rfl⟩) (by first | exact QRun.opr rfl | exact QRun.idx (A:=some ⟨b7,0,none⟩) (i:=c) (sz:=2) rfl rfl rfl rfl hcN rfl) ?_) | refine kX (fun hc => ?_) fun hc => ?_ | fail
  exact Nx.end_fn rfl [_,_] ⟨b7,rfl⟩ (by unfold aimF; rw [← hset]; (exact zE))
open Go.Sol
attribute [local irreducible] wpFork
def toQ (n : Nat) (l : List EqR) : Bl.Eqs:=⟨n,l.length,fun i k => decide ((k : Int) ∈ (l.getD i default).1.2.2),fun i => (l.getD i default).2⟩
structure BEq (n : Nat) (l : List EqR) : Prop where
 cnt : 1 ≤ n ∧ n ≤ 10
 len : l.length ≤ 10
 good : ∀ q ∈ l,GoodE n q
 val : ∀ q ∈ l,q.2 ≤ 1000
theorem BEq.small {n : Nat} {l : List EqR} (h : BEq n l) : (toQ n l).Small:=⟨h.cnt.2,h.len,fun j hj => by
 have hm : l.getD j default ∈ l:=getD_memQ hj
 exact ⟨(h.good _ hm).val.1,h.val _ hm⟩⟩
def rowsN (m N1 : Nat) (ra : Nat → Option Addr × Nat) (T : Nat → Nat → Rat) : Res:=Stars ((List.range m).map fun i => ratsR (ra i).1 N1 (ra i).2 (rl N1 (T i)))
theorem rowsN_all (q : Bl.Eqs) (ta : TA) (T : Nat → Nat → Rat) : rowsN q.m (q.N + 1) ta.ra T = trowsR q ta T:=by
 unfold rowsN trowsR rowsL
 rw [List.map_map]
 rfl
theorem rowsN_succ {m N1 : Nat} {ra : Nat → Option Addr × Nat} {T : Nat → Nat → Rat} {A : Option Addr} {c : Nat} {R : List Res} : Ent (ratsR A N1 c (rl N1 (T m)) :: rowsN m N1 ra T :: R) (rowsN (m + 1) N1 (fun i => if i = m then (A,c) else ra i) T :: R):=by
 unfold rowsN
 rw [List.range_succ,mAp,List.map_cons,List.map_nil]
 dsimp only
 rw [if_pos rfl]
 rw [List.map_congr_left (f:=fun i => ratsR (if i = m then (A,c) else ra i).1 N1 (if i = m then (A,c) else ra i).2 (rl N1 (T i))) (g:=fun i => ratsR (ra i).1 N1 (ra i).2 (rl N1 (T i))) fun i hi => by
  have:=List.mem_range.1 hi
  rw [if_neg (by omega)]]
 exact Ent.bundle
def outL (m N1 : Nat) (ra : Nat → Option Addr × Nat) : List Value:=(List.range m).map fun i => .slice (ra i).1 N1 (ra i).2
theorem outL_succ {m N1 : Nat} {ra : Nat → Option Addr × Nat} {A : Option Addr} {c : Nat} : outL (m + 1) N1 (fun i => if i = m then (A,c) else ra i) = outL m N1 ra ++ [.slice A N1 c]:=by
 unfold outL
 rw [List.range_succ,mAp,List.map_cons,List.map_nil]
 dsimp only
 rw [if_pos rfl]
 congr 1
 refine List.map_congr_left fun i hi => ?_
 have:=List.mem_range.1 hi
 rw [if_neg (by omega)]
abbrev outR (m N1 : Nat) (ra : Nat → Option Addr × Nat) (A : Option Addr) (c : Nat) : Res:=Vec 25 1 A m c (outL m N1 ra)
def basN (cnt m : Nat) : List Int:=(List.range m).map fun i => ((cnt + i : Nat) : Int)
theorem basN_succ (cnt m : Nat) : basN cnt (m + 1) = basN cnt m ++ [((cnt + m : Nat) : Int)]:=by unfold basN; rw [List.range_succ,mAp]; rfl
def rowP (L : List Int) (n : Nat) : Nat → Rat:=fun k => if (k : Int) ∈ L.take n then 1 else 0
theorem rowP_zero (L : List Int) : rowP L 0 = fun _ => 0:=by
 funext k
 unfold rowP
 rw [List.take_zero,if_neg List.not_mem_nil]
theorem rowP_succ {L : List Int} {n c : Nat} (hn : n < L.length) (hc : L.getD n default = (c : Int)) : updF (rowP L n) c 1 = rowP L (n + 1):=by
 have ht : L.take (n + 1) = L.take n ++ [(c : Int)]:=by
  rw [tSu hn,← hc,gEl,gEq hn]; rfl
 funext k
 unfold updF rowP
 rw [ht]
 by_cases h : k = c
 ·subst h; rw [if_pos rfl,if_pos (by simp)]
 ·rw [if_neg h]
  by_cases h2 : (k : Int) ∈ L.take n
  ·rw [if_pos h2,if_pos (by simp [h2])]
  ·rw [if_neg h2,if_neg (by simp [h2]; omega)]
theorem row_done {n : Nat} {l : List EqR} (h : BEq n l) {i : Nat} (hi : i < l.length) : ∀ k,k < (toQ n l).N + 1 → updF (updF (rowP (l.getD i default).1.2.2 (l.getD i default).1.2.2.length) (n + i) 1) ((toQ n l).N) (((l.getD i default).2 : Int) : Rat) k = (toQ n l).s0.T i k:=fun k hk => by
 have hm:=getD_memQ hi
 have hg:=(h.good _ hm).lt
 show _ = (((toQ n l).orig i k : Int) : Rat)
 have hN : (toQ n l).N = n + l.length:=rfl
 unfold updF rowP
 rw [tLn]
 by_cases h1 : k = (toQ n l).N
 ·rw [if_pos h1,h1,show (toQ n l).N = (toQ n l).cnt + (toQ n l).m from rfl,Bl.orig_val]; rfl
 ·rw [if_neg h1]
  by_cases h2 : k = n + i
  ·rw [if_pos h2,h2,show n + i = (toQ n l).cnt + i from rfl,Bl.orig_art hi,if_pos rfl]; rfl
  ·rw [if_neg h2]
   by_cases h3 : k < n
   ·rw [Bl.orig_cell (q:=toQ n l) h3,Bl.cast_if]
    show (if (k : Int) ∈ (l.getD i default).1.2.2 then (1 : Rat) else 0) = if decide ((k : Int) ∈ (l.getD i default).1.2.2) = true then 1 else 0
    by_cases h4 : (k : Int) ∈ (l.getD i default).1.2.2
    ·rw [if_pos h4,if_pos (decide_eq_true h4)]
    ·rw [if_neg h4,if_neg (by simpa using h4)]
   ·obtain ⟨j,rfl⟩ : ∃ j,k = n + j:=⟨k - n,by omega⟩
    have hj : j < (toQ n l).m:=by show j < l.length; omega
    rw [if_neg (fun hh : ((n + j : Nat) : Int) ∈ (l.getD i default).1.2.2 => by have:=hg _ hh; omega),show n + j = (toQ n l).cnt + j from rfl,Bl.orig_art hj,if_neg (show ¬ i = j by omega)]; rfl
theorem start12 (w : World) (Q : Exit → Act → World → Prop) (hQ : PanicOk Q) (RR : List Res) (b5 i : Nat) (n : Int) (v1 v16 v17 x0 x1 vc vrow : Value) (Ar Ab : Option Addr) (car cab : Nat) (os : List Value) (bs : List Int) (I : PH) (hos : os.length = i) (hbs : bs.length = i) (hi9 : i ≤ 1000) (hn9 : 0 ≤ n ∧ n ≤ 1000) (h1r : ∃ A n c,vrow = .slice A n c)
  (h : ∀ A2 c2 A3 c3,Nx ⟨Tryz.prog,78,w⟩ [(0,.int .i64 n),(1,v1),(5,.pointer (some ⟨b5,0,none⟩)),(16,v16),(17,v17),(18,.int .i64 (i : Int))] I
   (Blk b5 193 [x0,x1,.slice A2 (i + 1) c2,.slice A3 (i + 1) c3,vc] :: Vec 25 1 A2 (i + 1) c2 (os ++ [vrow]) :: Vec 3 1 A3 (i + 1) c3 ((bs ++ [n + (i : Int)]).map (Value.int .i64)) :: RR) (Q .normal)) :
  Nx ⟨Tryz.prog,78,w⟩ [(0,.int .i64 n),(1,v1),(5,.pointer (some ⟨b5,0,none⟩)),(6,.int .i64 (i : Int)),(8,vrow),(16,v16),(17,v17),(18,.int .i64 (i : Int))] I
   (Blk b5 193 [x0,x1,.slice Ar i car,.slice Ab i cab,vc] :: Vec 25 1 Ar i car os :: Vec 3 1 Ab i cab (bs.map (Value.int .i64)) :: RR) (Code.wp Tryz.prog (cr (cr (cr (cr (cl (cl (cr (cr (cl (cl (cr (cl (cr (cr (bodyOf Tryz.f86))))))))))))))) Q):=by
 obtain ⟨Aw,nw,cw,rfl⟩:=h1r
 refine Nx.p_forkF (id:=12) rfl [1,18,19,20,21,22,23] [18,19,20,21,22,23] [20,23] [Blk b5 193 [x0,x1,.slice Ar i car,.slice Ab i cab,vc]] rfl rfl (by kernel_rfl) (by kernel_rfl) hQ (by exact zE) ?_
 refine Nx.forkF_m 1 (by kernel_rfl) ?_
 repeat' first | refine kS ?_ | refine kB fun bx => ?_ | refine kA fun A2 c2 => ?_ | refine kX (fun hc => ?_) fun hc => ?_ | fail
 refine Nx.forkF_qs [0,2,3,4,5,6,9,10,11,12,13,14,15] 10 rfl (by kernel_rfl) ?_
 repeat' first | refine kS ?_ | refine kB fun bx => ?_ | refine kA fun A2 c2 => ?_ | refine kX (fun hc => ?_) fun hc => ?_ | fail
 refine Nx.forkF2 (i:=7) (j:=16) (by kernel_rfl) rfl rfl rfl rfl ?_ ?_
 ·refine Nx.sb (fun b7 => ?_)
  refine Nx.mix_S (by exact zE) ?_
  refine Nx.forkF2 (i:=8) (j:=16) (by kernel_rfl) rfl rfl rfl rfl ?_ ?_
  ·refine Nx.sa (fun A2 c2 => ?_)
   refine Nx.mix_S (by exact zE) ?_
   refine Nx.forkF1 (i:=16) (by kernel_rfl) rfl rfl ?_
   refine Nx.sb (fun b17 => ?_)
   refine Nx.mix_S (by exact zE) ?_
   refine Nx.forkF1 (i:=17) (by kernel_rfl) rfl rfl ?_
   refine Nx.sa (fun A3 c3 => ?_)
   refine Nx.mix_S (by exact zE) ?_
   refine Nx.forkF_fin (by kernel_rfl) (by kernel_rfl) rfl ?_
   repeat' first | refine kS ?_ | refine kB fun bx => ?_ | refine kA fun A2 c2 => ?_ | refine kX (fun hc => ?_) fun hc => ?_ | fail
   exact Nx.weak (by exact zR) (by rw [mAp]; (exact zE)) (h A2 c2 A3 c3)
  ·refine Nx.sb (fun b17 => ?_)
   refine Nx.mix_S (by exact zE) ?_
   refine Nx.forkF1 (i:=8) (by kernel_rfl) rfl rfl ?_
   refine Nx.ent (Ent.swap _ _ _) ?_
   refine Nx.sa (fun A2 c2 => ?_)
   refine Nx.mix_S (by exact zE) ?_
   refine Nx.forkF1 (i:=17) (by kernel_rfl) rfl rfl ?_
   refine Nx.ent (Ent.swap _ _ _) ?_
   refine Nx.sa (fun A3 c3 => ?_)
   refine Nx.mix_S (by exact zE) ?_
   refine Nx.forkF_fin (by kernel_rfl) (by kernel_rfl) rfl ?_
   repeat' first | refine kS ?_ | refine kB fun bx => ?_ | refine kA fun A2 c2 => ?_ | refine kX (fun hc => ?_) fun hc => ?_ | fail
   exact Nx.weak (by exact zR) (by rw [mAp]; (exact zE)) (h A2 c2 A3 c3)
 ·refine Nx.sb (fun b17 => ?_)
  refine Nx.mix_S (by exact zE) ?_
  refine Nx.forkF1 (i:=7) (by kernel_rfl) rfl rfl ?_
  refine Nx.sb (fun b7 => ?_)
  refine Nx.mix_S (by exact zE) ?_
  refine Nx.forkF1 (i:=8) (by kernel_rfl) rfl rfl ?_
  refine Nx.sa (fun A2 c2 => ?_)
  refine Nx.mix_S (by exact zE) ?_
  refine Nx.forkF1 (i:=17) (by kernel_rfl) rfl rfl ?_
  refine Nx.ent (Ent.swap _ _ _) ?_
  refine Nx.sa (fun A3 c3 => ?_)
  refine Nx.mix_S (by exact zE) ?_
  refine Nx.forkF_fin (by kernel_rfl) (by kernel_rfl) rfl ?_
  repeat' first | refine kS ?_ | refine kB fun bx => ?_ | refine kA fun A2 c2 => ?_ | refine kX (fun hc => ?_) fun hc => ?_ | fail
  exact Nx.weak (by exact zR) (by rw [mAp]; (exact zE)) (h A2 c2 A3 c3)
theorem bstart_spec (n : Nat) (A : Option Addr) (c : Nat) (l : List EqR) (I : PH) (hl : Eqs I A c l) (hb : BEq n l) :
  FnSpec Tryz.prog 86 [.int .i64 (n : Int),.slice A l.length c] I []
   (fun v R' => ∃ (b : Nat) (ta : TA),v = .pointer (some ⟨b,0,none⟩) ∧ (∀ i,i < l.length → (ta.ra i).1.isSome = true ∧ (ta.ra i).2 = (toQ n l).N + 1) ∧ (0 < l.length → ta.Ab.isSome = true) ∧
    R' = [Blk b 193 (tabV (toQ n l) ta (.slice none 0 0)),basisR (toQ n l) ta (toQ n l).s0.B,trowsR (toQ n l) ta (toQ n l).s0.T,outR l.length ((toQ n l).N + 1) ta.ra ta.Ar ta.cr]):=by
 have hn:=hb.cnt
 have hlen:=hb.len
 have hq:=hb.small
 have hNN : (n : Int) + (l.length : Int) = ((toQ n l).N : Int):=by show _ = ((n + l.length : Nat) : Int); omega
 have hNb : (toQ n l).N ≤ 20:=by show n + l.length ≤ 20; omega
 obtain ⟨N1,hN1⟩ : ∃ N1,N1 = (toQ n l).N + 1:=⟨_,rfl⟩
 have hN1i : ((toQ n l).N : Int) + 1 = (N1 : Int):=by omega
 have hV:=fun (b : Nat) (vr vb vc : Value) => value_spec' b (toQ n l) hq vr vb vc I
 rw [show (((toQ n l).cnt : Nat) : Int) + (((toQ n l).m : Nat) : Int) = ((toQ n l).N : Int) from hNN] at hV
 refine FnSpec.enterP Tryz.func86 rfl Tryz.ntmps86 rfl fun w F => ?_
 repeat' first | refine kS ?_ | refine kB fun bx => ?_ | refine kA fun A2 c2 => ?_ | refine kX (fun hc => ?_) fun hc => ?_ | fail
 revert bx; intro b5
 refine Nx.p_loop (σ:=Nat × (Option Addr × Nat) × (Option Addr × Nat) × (Nat → Option Addr × Nat)) (fun z => [(0,.int .i64 (n : Int)),(1,.slice A l.length c),(5,.pointer (some ⟨b5,0,none⟩)),(16,.slice A l.length c),(17,.int .i64 (l.length : Int)),(18,.int .i64 (z.1 : Int))])
  (fun z => [Blk b5 193 (tabC (toQ n l) (.slice z.2.1.1 z.1 z.2.1.2) (.slice z.2.2.1.1 z.1 z.2.2.1.2) (.slice none 0 0)),outR z.1 N1 z.2.2.2 z.2.1.1 z.2.1.2,Vec 3 1 z.2.2.1.1 z.1 z.2.2.1.2 ((basN n z.1).map (Value.int .i64)),rowsN z.1 N1 z.2.2.2 (toQ n l).s0.T,F]) (fun z => z.1 ≤ l.length ∧ ∀ j,j < z.1 → (z.2.2.2 j).1.isSome = true ∧ (z.2.2.2 j).2 = (toQ n l).N + 1) (fun z => l.length - z.1) (0,(none,0),(none,0),fun _ => (none,0)) rfl ⟨nZl _,fun j hj => absurd hj (Nat.not_lt_zero _)⟩ zR ((Ent.vec_nil 25 1 _).trans (Ent.trans (Ent.pick 0 rfl (Ent.vec_nil 3 1 _)) (Ent.trans (Ent.pick 0 rfl (Ent.pick 0 rfl (Ent.stars_nil _))) (by unfold rowsN outR outL basN; (exact zE))))) ?_
 rintro ⟨i,⟨Ar,cr⟩,⟨Ab,cb⟩,ra⟩ ⟨hi,hra⟩
 dsimp only at hi hra ⊢
 by_cases him : i < l.length
 case neg =>
  obtain rfl : i = l.length:=by omega
  refine Nx.ent (R':=[Vec 3 1 Ab l.length cb ((basN n l.length).map (Value.int .i64)),Blk b5 193 (tabC (toQ n l) (.slice Ar l.length cr) (.slice Ab l.length cb) (.slice none 0 0)),outR l.length N1 ra Ar cr,rowsN l.length N1 ra (toQ n l).s0.T,F]) (by exact zE) ?_
  refine Nx.vec_fact fun _ _ _ hAb => ?_
  repeat' first | refine kS ?_ | refine kB fun bx => ?_ | refine kA fun A2 c2 => ?_ | refine kX (fun hc => ?_) fun hc => ?_ | fail
  refine Nx.ret_fn rfl [_,_,_,_] ⟨b5,⟨Ar,cr,Ab,cb,ra⟩,rfl,hra,hAb,rfl⟩ ?_
  rw [← rowsN_all,← hN1]
  unfold basisR basL
  (exact zE)
 have hm:=getD_memQ him
 have hgood:=hb.good _ hm
 have hval:=hb.val _ hm
 have hin:=hl.inner _ hm
 have hrds : ∀ (W : World) (R : List Res),Rds W I R ((ad A).add (i * 2)) (eqC (l.getD i default)):=fun W R => hl.outer.rds him
 have hrow:=row_done hb him
 have hpos:=hgood.val
 have hlt:=hgood.lt
 have hA:=hl.outer.isSome (by omega) (by omega)
 generalize l.getD i default = q at hval hin hrds hrow hpos hlt
 clear hgood
 obtain ⟨⟨Ax,cx,L⟩,vx⟩:=q
 dsimp only at hval hin hrow hpos hlt
 have hLl:=hin.len
 repeat' first | refine kW ?_ | (refine Nx.zo ?_; first | refine kP ?_ | refine Nx.indexAddr_nat (A:=A) (i:=i) (sz:=2) rfl rfl rfl rfl rfl him hA ?_ | refine Nx.loads rfl rfl rfl rfl (hrds _ _) rfl ?_ | refine Nx.callv rfl rfl rfl (by kernel_rfl) rfl (bwhole_spec _ _) ?_ | (refine Nx.call rfl rfl rfl (by kernel_rfl) rfl (hV b5 _ _ _) (by exact zE) ?_; rintro _ _ ⟨rfl,rfl⟩) | refine Nx.bin rfl rfl (run_addK (by unfold I64; omega) hN1i) rfl ?_ | (refine Nx.call rfl rfl rfl (by kernel_rfl) rfl (RepeatF_spec ((0 : Int) : Rat) _ N1 (by omega) (by omega) I) (by exact zE) ?_; rintro _ _ ⟨br,rfl,rfl⟩)) | refine kS ?_ | refine kB fun bx => ?_ | refine kA fun A2 c2 => ?_ | refine kX (fun hc => ?_) fun hc => ?_ | fail
 rename_i b7
 refine Nx.p_loop (σ:=Nat) (fun k => [(0,.int .i64 (n : Int)),(1,.slice A l.length c),(5,.pointer (some ⟨b5,0,none⟩)),(6,.int .i64 (i : Int)),(7,.pointer (some ⟨b7,0,none⟩)),(8,.slice (some ⟨br,0,none⟩) N1 N1),(16,.slice A l.length c),(17,.int .i64 (l.length : Int)),(18,.int .i64 (i : Int)),(30,.slice Ax L.length cx),(31,.int .i64 (L.length : Int)),(32,.int .i64 (k : Int))])
  (fun k => [ratsR (some ⟨br,0,none⟩) N1 N1 (rl N1 (rowP L k)),Blk b7 46 [.slice Ax L.length cx,.int .i64 vx],Blk b5 193 (tabC (toQ n l) (.slice Ar i cr) (.slice Ab i cb) (.slice none 0 0)),outR i N1 ra Ar cr,Vec 3 1 Ab i cb ((basN n i).map (Value.int .i64)),rowsN i N1 ra (toQ n l).s0.T,F]) (fun k => k ≤ L.length) (fun k => L.length - k) 0 rfl (nZl _) zR (by rw [rowP_zero]; (exact zE)) ?_
 intro k hk
 have hk : k ≤ L.length:=hk
 by_cases hkL : k < L.length
 ·have hrd : ∀ (W : World) (R : List Res),Rd W I R ((ad Ax).add (k * 1)) (.int .i64 (L.getD k default)):=fun W R => hin.rd hkL
  have hcb:=hlt (L.getD k default) (by rw [gEl,gEq hkL]; exact List.getElem_mem _)
  obtain ⟨cN,hcN⟩ : ∃ cN : Nat,L.getD k default = (cN : Int):=⟨(L.getD k default).toNat,by omega⟩
  have hup:=rowP_succ hkL hcN
  have hset:=rl_set (n:=N1) (k:=cN) (f:=rowP L k) (v:=(1 : Rat))
  rw [hup] at hset
  rw [hcN] at hrd hcb
  have hcN1 : cN < N1:=by
   have : (toQ n l).N = n + l.length:=rfl
   omega
  repeat' first | refine kW ?_ | (refine Nx.zo ?_; first | refine kP ?_ | refine Nx.indexAddr_nat (A:=Ax) (i:=k) (sz:=1) rfl rfl rfl rfl rfl hkL (hin.isSome (by omega)) ?_ | refine Nx.load rfl rfl rfl (hrd _ _) ?_ | refine Nx.callv rfl rfl rfl (by kernel_rfl) rfl (bwhole_spec _ _) ?_ | refine Nx.indexAddr_nat (A:=some ⟨br,0,none⟩) (i:=cN) (sz:=2) rfl rfl rfl rfl rfl hcN1 rfl ?_ | refine Nx.store_el2 (f:=ratC) (a:=fun q => .int .i64 q.num) (b:=fun q => .int .i64 q.den) (A:=some ⟨br,0,none⟩) (l:=rl N1 (rowP L k)) (i:=cN) (z:=(1 : Rat)) 0 rfl rfl rfl (fun _ => rfl) rfl rfl rfl rfl (by rw [rl_len]; exact hcN1) hcN1 ?_) | refine kS ?_ | refine kB fun bx => ?_ | refine kA fun A2 c2 => ?_ | refine kX (fun hc => ?_) fun hc => ?_ | fail
  exact Nx.again (k + 1) hkL (by omega) zR (by rw [← hset]; (exact zE))
 obtain rfl : k = L.length:=by omega
 have hni : (n : Int) + (i : Int) = ((n + i : Nat) : Int):=by omega
 have hniN : n + i < N1:=by
  have : (toQ n l).N = n + l.length:=rfl
  omega
 have hNN1 : (toQ n l).N < N1:=by omega
 have hset1:=rl_set (n:=N1) (k:=n + i) (f:=rowP L L.length) (v:=(1 : Rat))
 have hset2:=rl_set (n:=N1) (k:=(toQ n l).N) (f:=updF (rowP L L.length) (n + i) 1) (v:=(vx : Rat))
 have hrows : rl N1 (updF (updF (rowP L L.length) (n + i) 1) (toQ n l).N (vx : Rat)) = rl N1 ((toQ n l).s0.T i):=rl_congr fun k hk => hrow k (by omega)
 rw [hrows] at hset2
 have hset3 : ((rl N1 (rowP L L.length)).set (n + i) 1).set (toQ n l).N (vx : Rat) = rl N1 ((toQ n l).s0.T i):=by rw [hset1,hset2]
 repeat' first | ((with_reducible refine Nx.is_wp ?_); first | refine Nx.wo ?_ | refine Nx.p_drawF (id:=11) rfl [0,1,2,3,4,5,8,9,6,7,10,11,12,13] [6,7,10,12] [14] _ rfl rfl (by kernel_rfl) (by kernel_rfl) rfl PanicOk.auto (Ent.eraseK 0 _) ?_) | (refine Nx.zo ?_; first | refine kP ?_ | refine Nx.callv rfl rfl rfl (by kernel_rfl) rfl (bwhole_spec _ _) ?_ | (refine Nx.call rfl rfl rfl (by kernel_rfl) rfl (hV b5 _ _ _) (by exact zE) ?_; rintro _ _ ⟨rfl,rfl⟩) | refine Nx.store_el2 (f:=ratC) (a:=fun q => .int .i64 q.num) (b:=fun q => .int .i64 q.den) (A:=some ⟨br,0,none⟩) (l:=rl N1 (rowP L L.length)) (i:=n + i) (z:=(1 : Rat)) 1 rfl rfl rfl (fun _ => rfl) rfl rfl rfl rfl (by rw [rl_len]; exact hniN) hniN ?_ | refine Nx.store_el2 (f:=ratC) (a:=fun q => .int .i64 q.num) (b:=fun q => .int .i64 q.den) (A:=some ⟨br,0,none⟩) (l:=(rl N1 (rowP L L.length)).set (n + i) 1) (i:=(toQ n l).N) (z:=(vx : Rat)) 0 rfl rfl rfl (fun _ => rfl) rfl rfl rfl rfl (by rw [List.length_set,rl_len]; exact hNN1) hNN1 ?_) | refine kS ?_ | refine kB fun bx => ?_ | refine kA fun A2 c2 => ?_ | ((with_reducible refine Nx.is_mix ?_); refine kQ rfl rfl rfl rfl (by first | exact .inl rfl | exact .inr ⟨_,_,_,rfl,rfl,rfl⟩) (by first | exact QRun.opr rfl | exact QRun.bin rfl rfl (run_addK (by unfold I64; omega) hni) | exact QRun.idx (A:=some ⟨br,0,none⟩) (i:=n + i) (sz:=2) rfl rfl rfl rfl hniN rfl | exact QRun.idx (A:=some ⟨br,0,none⟩) (i:=(toQ n l).N) (sz:=2) rfl rfl rfl rfl hNN1 rfl) ?_) | refine kX (fun hc => ?_) fun hc => ?_ | fail
 have hos : (outL i N1 ra).length = i:=by unfold outL; rw [lMp,List.length_range]
 have hbs : (basN n i).length = i:=by unfold basN; rw [lMp,List.length_range]
 refine Nx.weak (by exact zR) ?_ (start12 w _ PanicOk.auto [ratsR (some ⟨br,0,none⟩) N1 N1 (rl N1 ((toQ n l).s0.T i)),rowsN i N1 ra (toQ n l).s0.T,F] b5 i (n : Int) (.slice A l.length c) (.slice A l.length c) (.int .i64 l.length) (.int .i64 ((toQ n l).cnt : Int)) (.int .i64 ((toQ n l).m : Int)) (.slice none 0 0) (.slice (some ⟨br,0,none⟩) N1 N1) Ar Ab cr cb (outL i N1 ra) (basN n i) I hos hbs (by omega) (by omega) ⟨_,_,_,rfl⟩ fun A2 c2 A3 c3 => ?_)
 ·rw [← hset3]; (exact zE)
 rw [hni,← basN_succ,← outL_succ (A:=some ⟨br,0,none⟩) (c:=N1)]
 repeat' first | refine kS ?_ | refine kB fun bx => ?_ | refine kA fun A2 c2 => ?_ | refine kX (fun hc => ?_) fun hc => ?_ | fail
 refine Nx.again (i + 1,(A2,c2),(A3,c3),fun a => if a = i then (some ⟨br,0,none⟩,N1) else ra a) ⟨him,fun j hj => ?_⟩ (by dsimp only; omega) zR ?_
 ·dsimp only
  by_cases hji : j = i
  ·rw [if_pos hji]; exact ⟨rfl,hN1⟩
  ·rw [if_neg hji]; exact hra j (by dsimp only at hj; omega)
 ·dsimp only
  refine Ent.trans (R':=[ratsR (some ⟨br,0,none⟩) N1 N1 (rl N1 ((toQ n l).s0.T i)),rowsN i N1 ra (toQ n l).s0.T,Blk b5 193 (tabC (toQ n l) (.slice A2 (i + 1) c2) (.slice A3 (i + 1) c3) (.slice none 0 0)),outR (i + 1) N1 (fun a => if a = i then (some ⟨br,0,none⟩,N1) else ra a) A2 c2,Vec 3 1 A3 (i + 1) c3 ((basN n (i + 1)).map (Value.int .i64)),F]) (by exact zE) ?_
  exact rowsN_succ.trans (by exact zE)
end Go.Proofs.YtpcnapidlhpbkaaGreatDoor
namespace Go.Proofs.YtpcnapidlhpbkaaGreatDoor
open Go.Eng Go.Sol
theorem Rds.get {W : World} {I : PH} {R : List Res} {A : Addr} {vs : List Value} {u : Value} (h : Rds W I R A vs) (j : Nat) (hj : nthL vs j = some u) : Rd W I R (A.add j) u:=h j u (nthL_eq.symm.trans hj)
attribute [local irreducible] opK wpList Code.wp Exit.then Exit.inBlock fnPost bodyPost Nx Calls Oper.wp Rd Rds Wr Ent Stars Blk Again Vec FnSpec wpMix QRun Stop Upto wpAt
theorem IndexFuncF_spec (A : Option Addr) (c : Nat) (l : List Rat) (I : PH) (hl : Rats I A c l) :
  FnSpec Tryz.prog 101 [.slice A l.length c,.func (.func 154) #[] #[]] I []
   (fun v R' => ((v = .int .i64 (-1) ∧ ∀ k,k < l.length → l.getD k default = 0) ∨ ∃ k : Nat,v = .int .i64 (k : Int) ∧ k < l.length ∧ l.getD k default ≠ 0) ∧ R' = []):=by
 have hlen:=hl.len
 refine FnSpec.enterP Tryz.func101 rfl Tryz.ntmps101 rfl fun w F => ?_
 repeat' first | refine kS ?_ | refine kB fun bx => ?_ | refine kA fun A2 c2 => ?_ | refine kX (fun hc => ?_) fun hc => ?_ | fail
 refine Nx.p_loop (σ:=Nat) (fun k => [(0,.slice A l.length c),(1,.func (.func 154) #[] #[]),(7,.int .i64 l.length),(8,.int .i64 (k : Int))])
  (fun _ => [F]) (fun k => k ≤ l.length ∧ ∀ j,j < k → l.getD j default = 0) (fun k => l.length - k) 0 rfl ⟨nZl _,fun j hj => absurd hj (Nat.not_lt_zero _)⟩ zR (Ent.refl _) ?_
 rintro k ⟨hk,hno⟩
 by_cases hkl : k < l.length
 case neg =>
  obtain rfl : k = l.length:=by omega
  repeat' first | refine kS ?_ | refine kB fun bx => ?_ | refine kA fun A2 c2 => ?_ | refine kX (fun hc => ?_) fun hc => ?_ | fail
  exact Nx.ret_fn rfl [] ⟨.inl ⟨rfl,hno⟩,rfl⟩ (by exact zE)
 have hrd : ∀ (W : World) (R : List Res),Rds W I R ((ad A).add (k * 2)) (ratC (l.getD k default)):=fun W R => hl.rds hkl
 have hA:=hl.isSome (by omega) (by omega)
 obtain ⟨x,hx⟩ : ∃ x,x = l.getD k default:=⟨_,rfl⟩
 rw [← hx] at hrd
 have hP : FnSpec Tryz.prog 154 [.agg #[.int .i64 x.num,.int .i64 x.den]] I [] (fun v R' => v = .bool (decide (x.num ≠ 0)) ∧ R' = []):=by
  refine FnSpec.enterP Tryz.func154 rfl Tryz.ntmps154 rfl fun w F => ?_
  repeat' first | refine kS ?_ | refine kB fun bx => ?_ | refine kA fun A2 c2 => ?_ | refine kX (fun hc => ?_) fun hc => ?_ | fail
  exact kT
 by_cases h0 : x = 0
 ·rw [decide_eq_false (show ¬ x.num ≠ 0 by rw [h0]; exact fun h => h rfl)] at hP
  repeat' first | refine kW ?_ | (refine Nx.zo ?_; first | refine kP ?_ | refine Nx.indexAddr_nat (A:=A) (i:=k) (sz:=2) rfl rfl rfl rfl rfl hkl hA ?_ | refine Nx.loads rfl rfl rfl rfl (hrd _ _) rfl ?_ | refine kV hP ?_) | refine kS ?_ | refine kB fun bx => ?_ | refine kA fun A2 c2 => ?_ | refine kX (fun hc => ?_) fun hc => ?_ | fail
  refine Nx.again (k + 1) ⟨hkl,fun j hj => ?_⟩ (by omega) zR (Ent.refl _)
  by_cases hjk : j < k
  ·exact hno j hjk
  ·obtain rfl : j = k:=by omega
   rw [← hx]; exact h0
 ·rw [decide_eq_true (show x.num ≠ 0 from rat_ne h0)] at hP
  repeat' first | refine kW ?_ | (refine Nx.zo ?_; first | refine kP ?_ | refine Nx.indexAddr_nat (A:=A) (i:=k) (sz:=2) rfl rfl rfl rfl rfl hkl hA ?_ | refine Nx.loads rfl rfl rfl rfl (hrd _ _) rfl ?_ | refine kV hP ?_) | refine kS ?_ | refine kB fun bx => ?_ | refine kA fun A2 c2 => ?_ | refine kX (fun hc => ?_) fun hc => ?_ | fail
  exact Nx.ret_fn rfl [] ⟨.inr ⟨k,rfl,hkl,by rw [← hx]; exact h0⟩,rfl⟩ (by exact zE)
theorem cs1_cost (q : Bl.Eqs) : rl q.N (cs1 q (-1) q.N) = rl q.N (Bl.cst (Bl.cost1 q)):=rl_congr fun k hk => by
 unfold cs1 Bl.cst Bl.cost1
 by_cases h : q.cnt ≤ k
 ·rw [if_pos ⟨h,hk⟩,if_neg (by omega)]
 ·rw [if_neg (by omega),if_pos (by omega)]; rfl
theorem Arr.pre {I : PH} {A : Option Addr} {xs ys : List Value} (h : Arr I A (xs ++ ys)) : Arr I A xs:=fun j u hj => h j u (by rw [List.getElem?_append_left (List.getElem?_eq_some_iff.1 hj).1]; exact hj)
theorem rl_pre {n m : Nat} (h : n ≤ m) (f : Nat → Rat) : ∃ l,rl m f = rl n f ++ l:=by
 obtain ⟨d,rfl⟩ : ∃ d,m = n + d:=⟨m - n,by omega⟩
 induction d with
 | zero => exact ⟨[],by rw [List.append_nil]; rfl⟩
 | succ d ih =>
  obtain ⟨l,hl⟩:=ih (by omega)
  exact ⟨l ++ [f (n + d)],by rw [← Nat.add_assoc,rl_succ,hl,List.append_assoc]⟩
theorem Rats.pre {I : PH} {A : Option Addr} {c n m : Nat} {f : Nat → Rat} (h : Rats I A c (rl m f)) (hn : n ≤ m) : Rats I A c (rl n f):=by
 obtain ⟨l,hl⟩:=rl_pre hn f
 have h1:=h.arr
 rw [hl,List.flatMap_append] at h1
 have h2:=h.cap
 rw [rl_len] at h2
 exact ⟨Arr.pre h1,by rw [rl_len]; omega,h.max,fun _ _ => rfl⟩
theorem row_frozen {q : Bl.Eqs} {ta : TA} {T : Nat → Nat → Rat} {m I' : PH} (hm : PH.le m I') (h : Stars [trowsR q ta T] m) {i : Nat} (hi : i < q.m) : Rats I' (ta.ra i).1 (ta.ra i).2 (rl (q.N + 1) (T i)):=by
 obtain ⟨m2,d2,h2⟩:=Stars.get 0 h rfl
 obtain ⟨m3,d3,h3⟩:=Stars.nth (i:=i) h2 (by rw [gMp]; unfold rowsL; rw [gMp,List.getElem?_range hi]; rfl)
 have h3 : Vec 24 2 (ta.ra i).1 (q.N + 1) (ta.ra i).2 ((rl (q.N + 1) (T i)).flatMap ratC) m3:=h3
 exact Vec.sliceN (t:=24) (l:=rl (q.N + 1) (T i)) ((d3.trans d2).trans hm) (by rw [rl_len]; exact h3) fun _ _ => rfl
theorem bas_rd {W : World} {I : PH} {R : List Res} {q : Bl.Eqs} {ta : TA} {B : Nat → Nat} {i : Nat} (k : Nat) (hk : nthL R k = some (basisR q ta B)) (hi : i < q.m) : Rd W I R ((ad ta.Ab).add (i * 1)) (.int .i64 (B i : Int)):=by
 have:=Rd.vecEl (W:=W) (I:=I) (R:=R) (f:=Value.int .i64) (l:=basL q B) (i:=i) (A:=ta.Ab) (n:=q.m) (c:=ta.cb) (t:=3) k hk (by rw [basL_len]; exact hi)
 rwa [basL_at hi] at this
theorem possible_spec (b : Nat) (q : Bl.Eqs) (hq : q.Small) (hc1 : 1 ≤ q.cnt) (ta : TA) (vc : Value) (I : PH) (hT : TabI I)
  (ho : SliceOf (fun i : Nat => Value.slice (ta.ra i).1 (q.N + 1) (ta.ra i).2) I ta.Ar ta.cr (List.range q.m)) (hra0 : ∀ i,i < q.m → (ta.ra i).1.isSome = true ∧ (ta.ra i).2 = q.N + 1) (hAb : 0 < q.m → ta.Ab.isSome = true) :
  FnSpec Tryz.prog 87 [.pointer (some ⟨b,0,none⟩)] I [Blk b 193 (tabV q ta vc),basisR q ta q.s0.B,trowsR q ta q.s0.T]
   (fun v R' => ∃ (s : Bl.Tab) (bo : Bool) (vc' : Value),v = .bool bo ∧ (bo = true ↔ ∃ x,Bl.Feas q x) ∧ (bo = true → Bl.Rdy q s) ∧ R' = [Blk b 193 (tabV q ta vc'),basisR q ta s.B,trowsR q ta s.T]):=by
 have h1:=hq.cnt
 have h2:=hq.m
 have hN : (q.cnt : Int) + (q.m : Int) = (q.N : Int):=by show _ = ((q.cnt + q.m : Nat) : Int); omega
 have hra:=fun i hi => (hra0 i hi).1
 have hA:=aim_spec b q hq hc1 (.slice ta.Ar q.m ta.cr) (.slice ta.Ab q.m ta.cb) vc none 0 (-1) (fun c h => by cases h) (by decide) (by decide) I
 refine FnSpec.enterP Tryz.func87 rfl Tryz.ntmps87 rfl fun w F => ?_
 repeat' first | ((with_reducible refine Nx.is_wp ?_); first | refine Nx.p_stopr 2 rfl ?_ | refine Nx.wo ?_) | (refine Nx.zo ?_; first | refine kP ?_ | (refine Nx.call rfl rfl rfl (by kernel_rfl) rfl hA (by exact zE) ?_; rintro _ _ ⟨bc,rfl⟩)) | refine kS ?_ | refine kB fun bx => ?_ | refine kA fun A2 c2 => ?_ | refine kX (fun hc => ?_) fun hc => ?_ | fail
 refine Nx.unstop ?_
 refine Nx.ent (R':=[ratsR (some ⟨bc,0,none⟩) q.N q.N (rl q.N (Bl.cst (Bl.cost1 q))),Blk b 193 (tabV q ta (.slice (some ⟨bc,0,none⟩) q.N q.N)),basisR q ta q.s0.B,trowsR q ta q.s0.T,F]) (by rw [← cs1_cost]; (exact zE)) ?_
 refine Nx.freezeAt 0 rfl fun I2 m2 hI2 hm2 hf2 => ?_
 have hcost : Rats I2 (some ⟨bc,0,none⟩) q.N (rl q.N (Bl.cst (Bl.cost1 q))):=Vec.sliceN (t:=24) hm2 (by rw [rl_len]; exact hf2) fun _ _ => rfl
 replace ho:=ho.mono hI2
 replace hT:=tab_mono hI2 hT
 have hIm:=improve_spec b q hq ta q.s0 (Bl.s0_inv hq) (Bl.cost1 q) (Bl.cost1_bd q) (some ⟨bc,0,none⟩) q.N I2 hT hcost ho hra hAb
 repeat' first | refine kW ?_ | (refine Nx.zo ?_; first | refine kP ?_ | refine Nx.makeFunc (v1:=[.pointer (some ⟨b,0,none⟩)]) (v2:=[]) rfl rfl rfl ?_ | (refine Nx.call rfl rfl rfl (by kernel_rfl) rfl hIm (by exact zE) ?_; rintro _ _ ⟨s1,bo1,rfl,hrun,rfl⟩)) | refine kS ?_ | refine kB fun bx => ?_ | refine kA fun A2 c2 => ?_ | refine kX (fun hc => ?_) fun hc => ?_ | fail
 have hinv:=hrun.inv2 (Bl.s0_inv2 hq)
 have hph:=Bl.phase1 hrun hq
 have ror:=fun (W : World) (Q : List Res) (i : Nat) (hi : i < q.m) => (by
  have:=ho.rd (W:=W) (R:=Q) (k:=i) (by rw [List.length_range]; exact hi)
  rwa [range_getD hi] at this : Rd W I2 Q ((ad ta.Ar).add (i * 1)) (.slice (ta.ra i).1 (q.N + 1) (ta.ra i).2))
 have hV:=fun vc => value_spec' b q hq (.slice ta.Ar q.m ta.cr) (.slice ta.Ab q.m ta.cb) vc I2
 rw [hN] at hV
 refine Nx.p_loop (σ:=Nat) (fun i => [(0,.pointer (some ⟨b,0,none⟩)),(19,.slice ta.Ab q.m ta.cb),(20,.int .i64 (q.m : Int)),(21,.int .i64 (i : Int))])
  (fun _ => [Blk b 193 (tabV q ta (.slice (some ⟨bc,0,none⟩) q.N q.N)),basisR q ta s1.B,trowsR q ta s1.T,F]) (fun i => i ≤ q.m ∧ ∀ j,j < i → q.cnt ≤ s1.B j → s1.T j q.N = 0) (fun i => q.m - i) 0 rfl ⟨nZl _,fun j hj => absurd hj (Nat.not_lt_zero _)⟩ zR (by exact zE) ?_
 rintro i ⟨hi,hz⟩
 by_cases him : i < q.m
 ·have hAb':=hAb (by omega)
  have hbr:=fun (W : World) (R : List Res) (j : Nat) (hj : nthL R j = some (basisR q ta s1.B)) => bas_rd (W:=W) (I:=I2) j hj him
  have hnr:=fun (W : World) (R : List Res) (j : Nat) (hj : nthL R j = some (trowsR q ta s1.T)) => Rds.get (num_rds (W:=W) (I:=I2) j hj him (show q.N < q.N + 1 by omega)) 0 (u:=.int .i64 (s1.T i q.N).num) rfl
  have hAr : ta.Ar.isSome = true:=ho.isSome (by rw [List.length_range]; omega)
  have hri:=hra i him
  have roi:=fun (W : World) (Q : List Res) => ror W Q i him
  have hzi : (s1.B i < q.cnt ∨ s1.T i q.N = 0) → ∀ j,j < i + 1 → q.cnt ≤ s1.B j → s1.T j q.N = 0:=fun hh j hj hb => by
   by_cases hji : j < i
   ·exact hz j hji hb
   ·obtain rfl : j = i:=by omega
    exact hh.resolve_left (by omega)
  have hbad : q.cnt ≤ s1.B i → s1.T i q.N ≠ 0 → ¬ ∃ x,Bl.Feas q x:=fun hb hne hex => hne (hph.2 hex i him hb)
  obtain ⟨xn,hxn⟩ : ∃ xn,xn = s1.T i q.N:=⟨_,rfl⟩
  rw [← hxn] at hnr hzi hbad
  generalize s1.B i = Bi at hbr hzi hbad
  by_cases hB : q.cnt ≤ Bi
  case neg =>
   repeat' first | ((with_reducible refine Nx.is_wp ?_); first | refine Nx.wo ?_ | refine kF 6 [0,1,2,3,4,5,6,7,8,9,10,11,12,13,14,15,16,17,18,19,20] [15] [] ?_ | refine kF 13 [0,1,2,3,4,5,6,7,8,9,10,11] [] [12,13] ?_) | (refine Nx.zo ?_; first | refine kP ?_ | refine Nx.indexAddr_nat (A:=ta.Ab) (i:=i) (sz:=1) rfl rfl rfl rfl rfl him hAb' ?_ | refine Nx.load rfl rfl rfl (hbr _ _ 1 rfl) ?_) | refine kS ?_ | refine kB fun bx => ?_ | refine kA fun A2 c2 => ?_ | refine kX (fun hc => ?_) fun hc => ?_ | fail
   exact Nx.again (i + 1) ⟨him,hzi (.inl (by omega))⟩ (by omega) zR (by exact zE)
  by_cases hx0 : xn = 0
  ·have hn0 : xn.num = 0:=by rw [hx0]; rfl
   repeat' first | ((with_reducible refine Nx.is_wp ?_); first | refine Nx.wo ?_ | refine kF 6 [0,1,2,3,4,5,6,7,8,9,10,11,12,13,14,15,16,17,18,19,20] [15] [] ?_ | refine kF 13 [0,1,2,3,4,5,6,7,8,9,10,11] [] [12,13] ?_) | (refine Nx.zo ?_; first | refine kP ?_ | refine Nx.indexAddr_nat (A:=ta.Ab) (i:=i) (sz:=1) rfl rfl rfl rfl rfl him hAb' ?_ | refine Nx.load rfl rfl rfl (hbr _ _ 1 rfl) ?_ | (refine Nx.call rfl rfl rfl (by kernel_rfl) rfl (hV _) (by exact zE) ?_; rintro _ _ ⟨rfl,rfl⟩)) | refine kS ?_ | refine kB fun bx => ?_ | refine kA fun A2 c2 => ?_ | ((with_reducible refine Nx.is_mix ?_); refine kQ rfl rfl rfl rfl (by first | exact .inl rfl | exact .inr ⟨_,_,_,rfl,rfl,rfl⟩) (by first | exact QRun.fld (A:=(ad (ta.ra i).1).add (q.N * 2)) rfl rfl | exact QRun.opr rfl | exact QRun.idx (A:=ta.Ar) (i:=i) (sz:=1) rfl rfl rfl rfl him hAr | exact QRun.load rfl rfl (roi _ _) | exact QRun.idx (A:=(ta.ra i).1) (i:=q.N) (sz:=2) rfl rfl rfl rfl (by omega) hri | exact QRun.load rfl rfl (hnr _ _ 2 rfl)) ?_) | refine kX (fun hc => ?_) fun hc => ?_ | fail
   exact Nx.again (i + 1) ⟨him,hzi (.inr hx0)⟩ (by omega) zR (by exact zE)
  ·have hn0 : xn.num ≠ 0:=rat_ne hx0
   repeat' first | ((with_reducible refine Nx.is_wp ?_); first | refine Nx.wo ?_ | refine kF 6 [0,1,2,3,4,5,6,7,8,9,10,11,12,13,14,15,16,17,18,19,20] [15] [] ?_ | refine kF 13 [0,1,2,3,4,5,6,7,8,9,10,11] [] [12,13] ?_) | (refine Nx.zo ?_; first | refine kP ?_ | refine Nx.indexAddr_nat (A:=ta.Ab) (i:=i) (sz:=1) rfl rfl rfl rfl rfl him hAb' ?_ | refine Nx.load rfl rfl rfl (hbr _ _ 1 rfl) ?_ | (refine Nx.call rfl rfl rfl (by kernel_rfl) rfl (hV _) (by exact zE) ?_; rintro _ _ ⟨rfl,rfl⟩)) | refine kS ?_ | refine kB fun bx => ?_ | refine kA fun A2 c2 => ?_ | ((with_reducible refine Nx.is_mix ?_); refine kQ rfl rfl rfl rfl (by first | exact .inl rfl | exact .inr ⟨_,_,_,rfl,rfl,rfl⟩) (by first | exact QRun.fld (A:=(ad (ta.ra i).1).add (q.N * 2)) rfl rfl | exact QRun.opr rfl | exact QRun.idx (A:=ta.Ar) (i:=i) (sz:=1) rfl rfl rfl rfl him hAr | exact QRun.load rfl rfl (roi _ _) | exact QRun.idx (A:=(ta.ra i).1) (i:=q.N) (sz:=2) rfl rfl rfl rfl (by omega) hri | exact QRun.load rfl rfl (hnr _ _ 2 rfl)) ?_) | refine kX (fun hc => ?_) fun hc => ?_ | fail
   exact Nx.imm_le hI2 (Nx.ret_fn rfl [_,_,_] ⟨s1,false,_,rfl,⟨fun h => (by cases h),fun h => absurd h (hbad hB hx0)⟩,fun h => (by cases h),rfl⟩ (by exact zE))
 obtain rfl : i = q.m:=by omega
 have hart : Bl.Art0 q s1:=hz
 have hfeas:=hph.1 hart
 repeat' first | refine kS ?_ | refine kB fun bx => ?_ | refine kA fun A2 c2 => ?_ | refine kX (fun hc => ?_) fun hc => ?_ | fail
 refine Nx.p_loop (σ:=Nat × Bl.Tab) (fun z => [(0,.pointer (some ⟨b,0,none⟩)),(51,.slice ta.Ab q.m ta.cb),(52,.int .i64 (q.m : Int)),(53,.int .i64 (z.1 : Int))])
  (fun z => [Blk b 193 (tabV q ta (.slice (some ⟨bc,0,none⟩) q.N q.N)),basisR q ta z.2.B,trowsR q ta z.2.T,F]) (fun z => z.1 ≤ q.m ∧ Bl.Inv2 q z.2 ∧ Bl.Art0 q z.2 ∧ Bl.Zer q z.2 z.1) (fun z => q.m - z.1) (0,s1) rfl ⟨nZl _,hinv,hart,fun i hi => absurd hi (Nat.not_lt_zero _)⟩ zR (by exact zE) ?_
 rintro ⟨i,s⟩ ⟨hi,hs,ha,hzr⟩
 dsimp only at hi hs ha hzr ⊢
 by_cases him : i < q.m
 case neg =>
  obtain rfl : i = q.m:=by omega
  repeat' first | refine kS ?_ | refine kB fun bx => ?_ | refine kA fun A2 c2 => ?_ | refine kX (fun hc => ?_) fun hc => ?_ | fail
  exact Nx.imm_le hI2 (Nx.ret_fn rfl [_,_,_] ⟨s,true,_,rfl,⟨fun _ => hfeas,fun _ => rfl⟩,fun _ => ⟨hs,ha,hzr⟩,rfl⟩ (by exact zE))
 have hAb':=hAb (by omega)
 have hbr:=fun (W : World) (R : List Res) (j : Nat) (hj : nthL R j = some (basisR q ta s.B)) => bas_rd (W:=W) (I:=I2) j hj him
 have hAr : ta.Ar.isSome = true:=ho.isSome (by rw [List.length_range]; omega)
 have hri:=hra i him
 have hcap:=(hra0 i him).2
 have roi:=fun (W : World) (Q : List Res) => ror W Q i him
 have hzk : (q.cnt ≤ s.B i → ∀ k,k < q.cnt → s.T i k = 0) → Bl.Zer q s (i + 1):=fun hh j hj hb => by
  by_cases hji : j < i
  ·exact hzr j hji hb
  ·obtain rfl : j = i:=by omega
   exact hh hb
 by_cases hB : q.cnt ≤ s.B i
 case neg =>
  have hz1:=hzk (fun h => absurd h hB)
  generalize s.B i = Bi at hbr hB
  repeat' first | refine kW ?_ | (refine Nx.zo ?_; first | refine kP ?_ | refine Nx.indexAddr_nat (A:=ta.Ab) (i:=i) (sz:=1) rfl rfl rfl rfl rfl him hAb' ?_ | refine Nx.load rfl rfl rfl (hbr _ _ 1 rfl) ?_) | refine kS ?_ | refine kB fun bx => ?_ | refine kA fun A2 c2 => ?_ | refine kX (fun hc => ?_) fun hc => ?_ | fail
  exact Nx.again (i + 1,s) ⟨him,hs,ha,hz1⟩ (by dsimp only; omega) zR (by exact zE)
 have hN0:=ha i him hB
 have hIx:=fun (m I' : PH) (_ : PH.le I2 I') (hm : PH.le m I') (hv : Stars [trowsR q ta s.T] m) => (by
  have:=IndexFuncF_spec (ta.ra i).1 (ta.ra i).2 (rl q.cnt (s.T i)) I' ((row_frozen hm hv him).pre (by show q.cnt ≤ q.cnt + q.m + 1; omega))
  rw [rl_len] at this
  exact this : FnSpec Tryz.prog 101 [.slice (ta.ra i).1 q.cnt (ta.ra i).2,.func (.func 154) #[] #[]] I' []
   (fun v R' => ((v = .int .i64 (-1) ∧ ∀ k,k < q.cnt → (rl q.cnt (s.T i)).getD k default = 0) ∨ ∃ k : Nat,v = .int .i64 (k : Int) ∧ k < q.cnt ∧ (rl q.cnt (s.T i)).getD k default ≠ 0) ∧ R' = []))
 have hPv:=fun (e : Nat) (he : e < q.cnt) (hne : (rl q.cnt (s.T i)).getD e default ≠ 0) => (by
  rw [rl_at _ he] at hne
  exact pivot_spec b q hq ta s hs.inv i e him he hne (hs.inv.out him he hne hN0) (.slice (some ⟨bc,0,none⟩) q.N q.N) I2 hT ho hra hAb')
 have hn1 : (∀ k,k < q.cnt → (rl q.cnt (s.T i)).getD k default = 0) → Bl.Zer q s (i + 1):=fun hh => hzk fun _ k hk => by have:=hh k hk; rwa [rl_at _ hk] at this
 have hn2 : ∀ e,e < q.cnt → (rl q.cnt (s.T i)).getD e default ≠ 0 → Bl.Inv2 q (Bl.piv s i e) ∧ Bl.Art0 q (Bl.piv s i e) ∧ Bl.Zer q (Bl.piv s i e) (i + 1):=fun e he hne => by
  rw [rl_at _ he] at hne
  refine ⟨hs.out him he hne hN0,Bl.art0_piv ha hN0,fun j hj hb => ?_⟩
  by_cases hji : j < i
  ·exact Bl.zer_piv hzr he j hji hb
  ·obtain rfl : j = i:=by omega
   exfalso
   have : (Bl.piv s j e).B j = e:=if_pos rfl
   omega
 have hcc : q.cnt ≤ (ta.ra i).2:=by rw [hcap]; show q.cnt ≤ q.cnt + q.m + 1; omega
 generalize hBi : s.B i = Bi at hbr hB
 clear hzk hrun hph hbr
 have hbr:=fun (W : World) (R : List Res) (j : Nat) (hj : nthL R j = some (basisR q ta s.B)) => (by have:=bas_rd (W:=W) (I:=I2) j hj him; rwa [hBi] at this : Rd W I2 R ((ad ta.Ab).add (i * 1)) (.int .i64 (Bi : Int)))
 repeat' first | ((with_reducible refine Nx.is_wp ?_); first | refine Nx.wo ?_ | refine kF 6 [0,1,2,3,4,5,6,7,8,9,10,11,12,13,14,15,16,17,18,19,20] [15] [] ?_ | refine kF 13 [0,1,2,3,4,5,6,7,8,9,10,11] [] [12,13] ?_) | (refine Nx.zo ?_; first | refine kP ?_ | refine Nx.indexAddr_nat (A:=ta.Ab) (i:=i) (sz:=1) rfl rfl rfl rfl rfl him hAb' ?_ | refine Nx.load rfl rfl rfl (hbr _ _ 1 rfl) ?_ | (refine Nx.call rfl rfl rfl (by kernel_rfl) rfl (FnSpec.keep [trowsR q ta s.T] hIx) (by exact zE) ?_; rintro _ _ ⟨_,⟨⟨rfl,hno⟩ | ⟨e,rfl,he,hne⟩,rfl⟩,rfl⟩) | (refine Nx.call rfl rfl rfl (by kernel_rfl) rfl (hPv e he hne) (by exact zE) ?_; rintro _ _ rfl)) | refine kS ?_ | refine kB fun bx => ?_ | refine kA fun A2 c2 => ?_ | ((with_reducible refine Nx.is_mix ?_); refine kQ rfl rfl rfl rfl (by first | exact .inl rfl | exact .inr ⟨_,_,_,rfl,rfl,rfl⟩) (by first | exact QRun.opr rfl | exact QRun.idx (A:=ta.Ar) (i:=i) (sz:=1) rfl rfl rfl rfl him hAr | exact QRun.load rfl rfl (roi _ _) | exact QRun.slice_hi (sz:=2) rfl rfl rfl rfl hcc) ?_) | refine kX (fun hc => ?_) fun hc => ?_ | fail
 all_goals first
  | exact Nx.again (i + 1,s) ⟨him,hs,ha,hn1 hno⟩ (by dsimp only; omega) ⟨rfl,rfl,rfl,rfl,trivial⟩ (by exact zE)
  | exact Nx.again (i + 1,Bl.piv s i e) ⟨him,(hn2 e he hne).1,(hn2 e he hne).2.1,(hn2 e he hne).2.2⟩ (by dsimp only; omega) ⟨rfl,rfl,rfl,rfl,trivial⟩ (by exact zE)
def pf (q : Bl.Eqs) (s : Bl.Tab) : Nat → Nat → Rat
 | 0 => fun _ => 0
 | i + 1 => if s.B i < q.cnt then updF (pf q s i) (s.B i) (s.T i q.N) else pf q s i
theorem pf_sm {q : Bl.Eqs} {s : Bl.Tab} (h : Bl.Ok q.m q.N s) : ∀ i,i ≤ q.m → ∀ k,k < q.cnt → pf q s i k = Bl.sm i fun j => if s.B j = k then s.T j q.N else 0
 | 0,_,_,_ => rfl
 | i + 1,hi,k,hk => by
  have ih:=pf_sm h i (by omega) k hk
  rw [pf,Bl.sm,← ih]
  by_cases hb : s.B i < q.cnt
  ·rw [if_pos hb]
   unfold updF
   by_cases hkb : k = s.B i
   ·rw [if_pos hkb,if_pos hkb.symm,ih,Bl.sm_congr (g:=fun _ => 0) fun j hj => if_neg fun he => ?_,Bl.sm_zero,Rat.zero_add]
    have:=Bl.bas_inj h (i:=j) (j:=i) (by omega) (by omega) (he.trans hkb)
    omega
   ·rw [if_neg hkb,if_neg (Ne.symm hkb),Rat.add_zero]
  ·rw [if_neg hb,if_neg (by omega),Rat.add_zero]
theorem pf_pt {q : Bl.Eqs} {s : Bl.Tab} (h : Bl.Ok q.m q.N s) : rl q.cnt (pf q s q.m) = rl q.cnt (Bl.pt q.m q.N s):=rl_congr fun k hk => pf_sm h q.m (nLr _) k hk
theorem point_spec (b : Nat) (q : Bl.Eqs) (hq : q.Small) (hc1 : 1 ≤ q.cnt) (ta : TA) (s : Bl.Tab) (hs : Bl.Inv q s) (vc : Value) (I : PH) (h : TabQ I q ta s) :
  FnSpec Tryz.prog 114 [.pointer (some ⟨b,0,none⟩)] I [Blk b 193 (tabV q ta vc)]
   (fun v R' => ∃ b',v = .slice (some ⟨b',0,none⟩) q.cnt q.cnt ∧ R' = [Blk b 193 (tabV q ta vc),ratsR (some ⟨b',0,none⟩) q.cnt q.cnt (rl q.cnt (Bl.pt q.m q.N s))]):=by
 have h1:=hq.cnt
 have h2:=hq.m
 have hN : (q.cnt : Int) + (q.m : Int) = (q.N : Int):=by show _ = ((q.cnt + q.m : Nat) : Int); omega
 have hNb : q.N ≤ 20:=by show q.cnt + q.m ≤ 20; omega
 have hV:=value_spec' b q hq (.slice ta.Ar q.m ta.cr) (.slice ta.Ab q.m ta.cb) vc I
 rw [hN] at hV
 refine FnSpec.enterP Tryz.func114 rfl Tryz.ntmps114 rfl fun w F => ?_
 repeat' first | ((with_reducible refine Nx.is_wp ?_); first | refine Nx.wo ?_ | refine kF 1 [2,3,4,5,0,1] [0,1] [6,7] ?_ | refine kF 6 [0,1,2,3,4,5,6,7,8,9,10,11,12,13] [10] [14] ?_) | (refine Nx.zo ?_; first | refine kP ?_ | refine Nx.callv rfl rfl rfl (by kernel_rfl) rfl (bwhole_spec _ _) ?_ | (refine Nx.call rfl rfl rfl (by kernel_rfl) rfl (RepeatF_spec ((0 : Int) : Rat) _ q.cnt (by omega) (by omega) I) (by exact zE) ?_; rintro _ _ ⟨b7,rfl,rfl⟩)) | refine kS ?_ | refine kB fun bx => ?_ | refine kA fun A2 c2 => ?_ | refine kX (fun hc => ?_) fun hc => ?_ | fail
 refine Nx.p_loop (σ:=Nat) (fun i => [(0,.pointer (some ⟨b,0,none⟩)),(3,.slice (some ⟨b7,0,none⟩) q.cnt q.cnt),(16,.slice ta.Ab q.m ta.cb),(17,.int .i64 (q.m : Int)),(18,.int .i64 (i : Int))])
  (fun i => [ratsR (some ⟨b7,0,none⟩) q.cnt q.cnt (rl q.cnt (pf q s i)),Blk b 193 (tabV q ta vc),F]) (fun i => i ≤ q.m) (fun i => q.m - i) 0 rfl (nZl _) zR (by exact zE) ?_
 intro i hi
 have hi : i ≤ q.m:=hi
 by_cases him : i < q.m
 case neg =>
  obtain rfl : i = q.m:=by omega
  rw [pf_pt hs.ok]
  repeat' first | refine kS ?_ | refine kB fun bx => ?_ | refine kA fun A2 c2 => ?_ | refine kX (fun hc => ?_) fun hc => ?_ | fail
  exact Nx.ret_fn rfl [_,_] ⟨b7,rfl,rfl⟩ (by exact zE)
 have r1:=fun (W : World) (Q : List Res) => h.bas (W:=W) (R:=Q) him
 have r3:=fun (W : World) (Q : List Res) => h.row (W:=W) (R:=Q) him
 have r4:=fun (W : World) (Q : List Res) => h.num (W:=W) (R:=Q) him (show q.N < q.N + 1 by omega)
 have hAr:=h.as (by omega)
 have hAb:=h.bs (by omega)
 have hra:=h.rs him
 have hpf : pf q s (i + 1) = if s.B i < q.cnt then updF (pf q s i) (s.B i) (s.T i q.N) else pf q s i:=rfl
 obtain ⟨xn,hxn⟩ : ∃ xn,xn = s.T i q.N:=⟨_,rfl⟩
 rw [← hxn] at r4 hpf
 generalize s.B i = k at r1 hpf
 by_cases hk : k < q.cnt
 ·rw [if_pos hk] at hpf
  have hset:=rl_set (n:=q.cnt) (k:=k) (f:=pf q s i) (v:=xn)
  rw [← hpf] at hset
  repeat' first | ((with_reducible refine Nx.is_wp ?_); first | refine Nx.wo ?_ | refine kF 1 [2,3,4,5,0,1] [0,1] [6,7] ?_ | refine kF 6 [0,1,2,3,4,5,6,7,8,9,10,11,12,13] [10] [14] ?_) | (refine Nx.zo ?_; first | refine kP ?_ | refine Nx.indexAddr_nat (A:=ta.Ab) (i:=i) (sz:=1) rfl rfl rfl rfl rfl him hAb ?_ | refine Nx.load rfl rfl rfl (r1 _ _) ?_ | (refine Nx.call rfl rfl rfl (by kernel_rfl) rfl hV (by exact zE) ?_; rintro _ _ ⟨rfl,rfl⟩) | refine Nx.indexAddr_nat (A:=some ⟨b7,0,none⟩) (i:=k) (sz:=2) rfl rfl rfl rfl rfl hk rfl ?_ | refine Nx.store_el2 (f:=ratC) (a:=fun q => .int .i64 q.num) (b:=fun q => .int .i64 q.den) (A:=some ⟨b7,0,none⟩) (l:=rl q.cnt (pf q s i)) (i:=k) (z:=xn) 1 rfl rfl rfl (fun _ => rfl) rfl rfl rfl rfl (by rw [rl_len]; exact hk) hk ?_) | refine kS ?_ | refine kB fun bx => ?_ | refine kA fun A2 c2 => ?_ | ((with_reducible refine Nx.is_mix ?_); refine kQ rfl rfl rfl rfl (by first | exact .inl rfl | exact .inr ⟨_,_,_,rfl,rfl,rfl⟩) (by first | exact QRun.opr rfl | exact QRun.idx (A:=ta.Ar) (i:=i) (sz:=1) rfl rfl rfl rfl him hAr | exact QRun.load rfl rfl (r3 _ _) | exact QRun.idx (A:=(ta.ra i).1) (i:=q.N) (sz:=2) rfl rfl rfl rfl (by omega) hra | exact QRun.loads rfl rfl rfl (r4 _ _) rfl | exact QRun.idx (A:=some ⟨b7,0,none⟩) (i:=k) (sz:=2) rfl rfl rfl rfl hk rfl) ?_) | refine kX (fun hc => ?_) fun hc => ?_ | fail
  exact Nx.again (i + 1) him (by omega) zR (by rw [← hset]; (exact zE))
 ·rw [if_neg hk] at hpf
  repeat' first | ((with_reducible refine Nx.is_wp ?_); first | refine Nx.wo ?_ | refine kF 1 [2,3,4,5,0,1] [0,1] [6,7] ?_ | refine kF 6 [0,1,2,3,4,5,6,7,8,9,10,11,12,13] [10] [14] ?_) | (refine Nx.zo ?_; first | refine kP ?_ | refine Nx.indexAddr_nat (A:=ta.Ab) (i:=i) (sz:=1) rfl rfl rfl rfl rfl him hAb ?_ | refine Nx.load rfl rfl rfl (r1 _ _) ?_) | refine kS ?_ | refine kB fun bx => ?_ | refine kA fun A2 c2 => ?_ | refine kX (fun hc => ?_) fun hc => ?_ | fail
  exact Nx.again (i + 1) him (by omega) zR (by rw [hpf]; (exact zE))
def bigQ (q : EqR) : Bool:=decide (1000 < q.2)
def chkB (n : Int) (l : List EqR) (k : Int) : Int:=if ¬(1 ≤ n ∧ n ≤ 10) ∨ validB n l = false then 55 else if 10 < l.length then 1 else if l.any bigQ = true ∨ ¬(0 ≤ k ∧ k < n) then 2 else 0
theorem chkB_ok {n : Int} {l : List EqR} {k : Int} (h : chkB n l k = 0) : BEq n.toNat l ∧ 0 ≤ k ∧ k < n:=by
 unfold chkB at h
 by_cases h1 : ¬(1 ≤ n ∧ n ≤ 10) ∨ validB n l = false
 ·rw [if_pos h1] at h; exact absurd h (by decide)
 rw [if_neg h1] at h
 by_cases h2 : 10 < l.length
 ·rw [if_pos h2] at h; exact absurd h (by decide)
 rw [if_neg h2] at h
 by_cases h3 : l.any bigQ = true ∨ ¬(0 ≤ k ∧ k < n)
 ·rw [if_pos h3] at h; exact absurd h (by decide)
 have hn : 1 ≤ n ∧ n ≤ 10:=Decidable.byContradiction fun hh => h1 (.inl hh)
 have hk : 0 ≤ k ∧ k < n:=Decidable.byContradiction fun hh => h3 (.inr hh)
 have hv : validB n l = true:=by
  cases hh : validB n l with
  | true => rfl
  | false => exact absurd (.inr hh) h1
 refine ⟨⟨by omega,by omega,(valid_good hv).2.2,fun q hq => Int.not_lt.1 fun hlt => h3 (.inl (List.any_eq_true.2 ⟨q,hq,decide_eq_true hlt⟩))⟩,hk⟩
theorem big_spec (q : EqR) (I : PH) : FnSpec Tryz.prog 109 [.agg #[.slice q.1.1 q.1.2.2.length q.1.2.1,.int .i64 q.2]] I [] (fun v R' => v = .bool (bigQ q) ∧ R' = []):=by
 refine FnSpec.enterP Tryz.func109 rfl Tryz.ntmps109 rfl fun w F => ?_
 repeat' first | refine kS ?_ | refine kB fun bx => ?_ | refine kA fun A2 c2 => ?_ | refine kX (fun hc => ?_) fun hc => ?_ | fail
 exact kT
theorem IndexFuncB_spec (A : Option Addr) (c : Nat) (l : List EqR) (I : PH) (hl : Eqs I A c l) :
  FnSpec Tryz.prog 162 [.slice A l.length c,.func (.func 109) #[] #[]] I [] (fun v R' => ∃ i : Int,v = .int .i64 i ∧ decide (0 ≤ i) = l.any bigQ ∧ R' = []):=by
 have hlen:=hl.len
 refine FnSpec.enterP Tryz.func162 rfl Tryz.ntmps162 rfl fun w F => ?_
 repeat' first | refine kS ?_ | refine kB fun bx => ?_ | refine kA fun A2 c2 => ?_ | refine kX (fun hc => ?_) fun hc => ?_ | fail
 refine Nx.p_loop (σ:=Nat) (fun k => [(0,.slice A l.length c),(1,.func (.func 109) #[] #[]),(7,.int .i64 l.length),(8,.int .i64 (k : Int))])
  (fun _ => [F]) (fun k => k ≤ l.length ∧ (l.take k).any bigQ = false) (fun k => l.length - k) 0 rfl ⟨nZl _,by simp⟩ zR (Ent.refl _) ?_
 rintro k ⟨hk,hall⟩
 by_cases hlt : k < l.length
 ·have hmem:=getD_memQ hlt
  have hsn:=take_snocQ hlt
  have hrds : ∀ (W : World) (R : List Res),Rds W I R ((ad A).add (k * 2)) (eqC (l.getD k default)):=fun W R => hl.outer.rds hlt
  generalize l.getD k default = q at hmem hsn hrds
  have hW:=big_spec q I
  cases hr : bigQ q with
  | false =>
   rw [hr] at hW
   repeat' first | refine kW ?_ | (refine Nx.zo ?_; first | refine kP ?_ | refine Nx.indexAddr_nat rfl rfl rfl rfl rfl (by omega) (hl.outer.isSome (by omega) (by omega)) ?_ | refine Nx.loads rfl rfl rfl rfl (hrds _ _) rfl ?_ | refine kV hW ?_) | refine kS ?_ | refine kB fun bx => ?_ | refine kA fun A2 c2 => ?_ | refine kX (fun hc => ?_) fun hc => ?_ | fail
   exact Nx.again (k + 1) ⟨hlt,by rw [hsn,List.any_append,hall]; simp [hr]⟩ (by omega) zR (Ent.refl _)
  | true =>
   rw [hr] at hW
   repeat' first | refine kW ?_ | (refine Nx.zo ?_; first | refine kP ?_ | refine Nx.indexAddr_nat rfl rfl rfl rfl rfl (by omega) (hl.outer.isSome (by omega) (by omega)) ?_ | refine Nx.loads rfl rfl rfl rfl (hrds _ _) rfl ?_ | refine kV hW ?_) | refine kS ?_ | refine kB fun bx => ?_ | refine kA fun A2 c2 => ?_ | refine kX (fun hc => ?_) fun hc => ?_ | fail
   refine Nx.ret_fn rfl [] ⟨(k : Int),rfl,?_,rfl⟩ (by exact zE)
   rw [List.any_eq_true.2 ⟨q,hmem,hr⟩]
   simp
 ·obtain rfl : k = l.length:=by omega
  rw [tLn] at hall
  repeat' first | refine kS ?_ | refine kB fun bx => ?_ | refine kA fun A2 c2 => ?_ | refine kX (fun hc => ?_) fun hc => ?_ | fail
  exact Nx.ret_fn rfl [] ⟨-1,rfl,by rw [hall]; rfl,rfl⟩ (by exact zE)
theorem ContainsFuncB_spec (A : Option Addr) (c : Nat) (l : List EqR) (I : PH) (hl : Eqs I A c l) :
  FnSpec Tryz.prog 97 [.slice A l.length c,.func (.func 109) #[] #[]] I [] (fun v R' => v = .bool (l.any bigQ) ∧ R' = []):=by
 have hI:=IndexFuncB_spec A c l I hl
 refine FnSpec.enterP Tryz.func97 rfl Tryz.ntmps97 rfl fun w F => ?_
 repeat' first | refine kW ?_ | (refine Nx.zo ?_; first | refine kP ?_ | (refine kC hI ?_; rintro _ _ ⟨i,rfl,hi,rfl⟩)) | refine kS ?_ | refine kB fun bx => ?_ | refine kA fun A2 c2 => ?_ | refine kX (fun hc => ?_) fun hc => ?_ | fail
 exact Nx.ret_fn rfl [] ⟨by rw [← hi],rfl⟩ (by exact zE)
theorem bcheck_spec (n : Int) (A : Option Addr) (c : Nat) (l : List EqR) (k : Int) (I : PH) (hl : Eqs I A c l) :
  FnSpec Tryz.prog 54 [.int .i64 n,.slice A l.length c,.int .i64 k] I [] (fun v R' => v = .int .i64 (chkB n l k) ∧ R' = []):=by
 have hlen:=hl.len
 have hV:=Valid_spec n A c l I hl
 have hC:=ContainsFuncB_spec A c l I hl
 unfold chkB
 refine FnSpec.enterP Tryz.func54 rfl Tryz.ntmps54 rfl fun w F => ?_
 by_cases h1 : 1 ≤ n
 case neg =>
  rw [if_pos (.inl (by omega))]
  repeat' first | refine kS ?_ | refine kB fun bx => ?_ | refine kA fun A2 c2 => ?_ | refine kX (fun hc => ?_) fun hc => ?_ | fail
  exact kT
 by_cases h2 : n ≤ 10
 case neg =>
  rw [if_pos (.inl (by omega))]
  repeat' first | refine kS ?_ | refine kB fun bx => ?_ | refine kA fun A2 c2 => ?_ | refine kX (fun hc => ?_) fun hc => ?_ | fail
  exact kT
 cases hv : validB n l with
 | false =>
  rw [hv] at hV
  rw [if_pos (.inr rfl)]
  repeat' first | refine kW ?_ | (refine Nx.zo ?_; first | refine kP ?_ | refine kV hV ?_) | refine kS ?_ | refine kB fun bx => ?_ | refine kA fun A2 c2 => ?_ | refine kX (fun hc => ?_) fun hc => ?_ | fail
  exact kT
 | true =>
  rw [hv] at hV
  rw [if_neg (by rintro (h | h); exact h ⟨h1,h2⟩; cases h)]
  by_cases h3 : l.length ≤ 10
  case neg =>
   rw [if_pos (by omega)]
   repeat' first | refine kW ?_ | (refine Nx.zo ?_; first | refine kP ?_ | refine kV hV ?_) | refine kS ?_ | refine kB fun bx => ?_ | refine kA fun A2 c2 => ?_ | refine kX (fun hc => ?_) fun hc => ?_ | fail
   exact kT
  rw [if_neg (by omega)]
  cases hb : l.any bigQ with
  | true =>
   rw [hb] at hC
   rw [if_pos (.inl rfl)]
   repeat' first | refine kW ?_ | (refine Nx.zo ?_; first | refine kP ?_ | refine kV hV ?_ | refine kV hC ?_) | refine kS ?_ | refine kB fun bx => ?_ | refine kA fun A2 c2 => ?_ | refine kX (fun hc => ?_) fun hc => ?_ | fail
   exact kT
  | false =>
   rw [hb] at hC
   by_cases h4 : 0 ≤ k
   case neg =>
    rw [if_pos (.inr (by omega))]
    repeat' first | refine kW ?_ | (refine Nx.zo ?_; first | refine kP ?_ | refine kV hV ?_ | refine kV hC ?_) | refine kS ?_ | refine kB fun bx => ?_ | refine kA fun A2 c2 => ?_ | refine kX (fun hc => ?_) fun hc => ?_ | fail
    exact kT
   by_cases h5 : k < n
   case neg =>
    rw [if_pos (.inr (by omega))]
    repeat' first | refine kW ?_ | (refine Nx.zo ?_; first | refine kP ?_ | refine kV hV ?_ | refine kV hC ?_) | refine kS ?_ | refine kB fun bx => ?_ | refine kA fun A2 c2 => ?_ | refine kX (fun hc => ?_) fun hc => ?_ | fail
    exact kT
   rw [if_neg (by rintro (h | h); cases h; exact h ⟨h4,h5⟩)]
   repeat' first | refine kW ?_ | (refine Nx.zo ?_; first | refine kP ?_ | refine kV hV ?_ | refine kV hC ?_) | refine kS ?_ | refine kB fun bx => ?_ | refine kA fun A2 c2 => ?_ | refine kX (fun hc => ?_) fun hc => ?_ | fail
   exact kT
theorem outer_frozen {m N1 : Nat} {ra : Nat → Option Addr × Nat} {A : Option Addr} {c : Nat} {m2 I2 : PH} (hm : PH.le m2 I2) (h : outR m N1 ra A c m2) : SliceOf (fun i : Nat => Value.slice (ra i).1 N1 (ra i).2) I2 A c (List.range m):=by
 refine Vec.sliceOf (t:=25) hm ?_
 rw [List.length_range]
 exact h
end Go.Proofs.YtpcnapidlhpbkaaGreatDoor
