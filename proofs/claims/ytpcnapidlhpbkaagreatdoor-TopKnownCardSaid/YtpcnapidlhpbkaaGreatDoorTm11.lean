/- Contracts of functions of the given program, and lemmas. -/
import Derived.Test.YtpcnapidlhpbkaaGreatDoorTm10
set_option maxHeartbeats 32000000
set_option maxRecDepth 10000
namespace Go.Proofs.YtpcnapidlhpbkaaGreatDoor
open Go.Eng Go.Sol
attribute [local irreducible] opK wpList Code.wp Exit.then Exit.inBlock fnPost bodyPost Nx Calls Oper.wp Rd Rds Wr Ent Stars Blk Again Vec FnSpec wpMix QRun Stop Upto wpAt
theorem cs2_cost (q : Bl.Eqs) (cell : Nat) (up : Bool) : rl q.N (aimF q (Bl.sgn up) 0 (some cell)) = rl q.N (Bl.cst (Bl.cost2 cell up)):=rl_congr fun k hk => by
 show (if k = cell then ((Bl.sgn up : Int) : Rat) else if q.cnt ≤ k ∧ k < q.N then ((0 : Int) : Rat) else 0) = (((if k = cell then Bl.sgn up else 0) : Int) : Rat)
 by_cases h : k = cell
 ·rw [if_pos h,if_pos h]
 ·rw [if_neg h,if_neg h]
  split <;> rfl
theorem wt_gain {q : Bl.Eqs} {cell j : Nat} {up : Bool} {s : Bl.Tab} (hc : cell < q.cnt) : ((-(Bl.sgn up) : Int) : Rat) * Bl.gain q.m (Bl.cst (Bl.cost2 cell up)) s (q.cnt + j) = Bl.wt q cell up s j:=by
 unfold Bl.wt Bl.gain
 have h : Bl.cst (Bl.cost2 cell up) (q.cnt + j) = 0:=by
  unfold Bl.cst Bl.cost2
  rw [if_neg (by omega)]; rfl
 rw [h,Rat.intCast_neg]
 grind
abbrev proofV (cell : Int) (up : Bool) (x : Rat) (p w : Value) : Value:=.agg #[.int .i64 cell,.bool up,.int .i64 x.num,.int .i64 x.den,p,w]
abbrev noProof : Value:=.agg #[.int .i64 0,.bool false,.int .i64 0,.int .i64 0,.slice none 0 0,.slice none 0 0]
def ProvePost (q : Bl.Eqs) (cell : Nat) (up : Bool) (v : Value) (R' : List Res) : Prop :=
 ((¬∃ x,Bl.Feas q x) ∧ v = .tuple #[noProof,.int .i64 52] ∧ R' = []) ∨
 ((∃ x,Bl.Feas q x) ∧ (up = true ∧ ∀ j,j < q.m → q.cell j cell = false) ∧ v = .tuple #[noProof,.int .i64 21] ∧ R' = []) ∨
 ((∃ x,Bl.Feas q x) ∧ ¬(up = true ∧ ∀ j,j < q.m → q.cell j cell = false) ∧ ∃ (x w : Nat → Rat) (D : Int) (b' : Nat) (A' : Option Addr) (c' : Nat),Bl.PrOk q cell up x w ∧ Bl.PrSz q x w D ∧ Bl.IsOpt q cell up (x cell) ∧
  v = .tuple #[proofV cell up (x cell) (.slice (some ⟨b',0,none⟩) q.cnt q.cnt) (.slice A' q.m c'),.int .i64 0] ∧ R' = [ratsR (some ⟨b',0,none⟩) q.cnt q.cnt (rl q.cnt x),ratsR A' q.m c' (rl q.m w)])
theorem prove_rest (w : World) (F : Res) (n : Nat) (_vl : Value) (ml : Nat) (Al : Option Addr) (cl' : Nat) (q : Bl.Eqs) (hq : q.Small) (hqn : q.cnt = n) (hqm : q.m = ml) (hc1 : 1 ≤ n) (cell : Nat) (up : Bool) (hcell : cell < n) (I I2 : PH) (hI2 : PH.le I I2) (hT : TabI I2) (b b8 : Nat) (ta : TA) (s : Bl.Tab) (hs : Bl.Rdy q s) (hfe : ∃ x,Bl.Feas q x) (vc : Value)
  (ho : SliceOf (fun i : Nat => Value.slice (ta.ra i).1 (q.N + 1) (ta.ra i).2) I2 ta.Ar ta.cr (List.range q.m)) (hra0 : ∀ i,i < q.m → (ta.ra i).1.isSome = true ∧ (ta.ra i).2 = q.N + 1) (hAb : 0 < q.m → ta.Ab.isSome = true) :
  Nx ⟨Tryz.prog,66,w⟩ [(0,.int .i64 (n : Int)),(1,.slice Al ml cl'),(2,.int .i64 (cell : Int)),(3,.bool up),(8,.pointer (some ⟨b8,0,none⟩)),(10,.pointer (some ⟨b,0,none⟩)),(11,.int .i64 (Bl.sgn up))] I2
   [Blk b 193 (tabV q ta vc),basisR q ta s.B,trowsR q ta s.T,Blk b8 27 [.int .i64 0,.bool false,.int .i64 0,.int .i64 0,.slice none 0 0,.slice none 0 0],F]
   (Code.wp Tryz.prog (cr (cr (cr (cr (cr (bodyOf Tryz.f55)))))) (fnPost Tryz.prog Tryz.f55 I F w (fun v R' => ProvePost q cell up v R'))):=by
 subst hqn hqm
 have h1:=hq.cnt
 have h2:=hq.m
 have hsg : -1 ≤ Bl.sgn up ∧ Bl.sgn up ≤ 1:=by cases up <;> decide
 have hra:=fun i hi => (hra0 i hi).1
 have hA:=aim_spec b q hq hc1 (.slice ta.Ar q.m ta.cr) (.slice ta.Ab q.m ta.cb) vc (some cell) (Bl.sgn up) 0 (fun c h => by cases h; exact hcell) hsg (by decide) I2
 have hsq:=hsg
 generalize hsv : Bl.sgn up = sg at hA hsq ⊢
 repeat' first | ((with_reducible refine Nx.is_wp ?_); first | refine Nx.p_stopr 8 rfl ?_ | refine Nx.wo ?_ | refine kF 15 [0,1,2,3,5,6,7,8,4,9,10,11] [4,9,10,11] [12,13,14] ?_) | (refine Nx.zo ?_; first | refine kP ?_ | (refine Nx.call rfl rfl rfl (by kernel_rfl) rfl hA (by exact zE) ?_; rintro _ _ ⟨bc,rfl⟩)) | refine kS ?_ | refine kB fun bx => ?_ | refine kA fun A2 c2 => ?_ | refine kX (fun hc => ?_) fun hc => ?_ | fail
 refine Nx.unstop ?_
 refine Nx.ent (R':=[ratsR (some ⟨bc,0,none⟩) q.N q.N (rl q.N (Bl.cst (Bl.cost2 cell up))),Blk b 193 (tabV q ta (.slice (some ⟨bc,0,none⟩) q.N q.N)),basisR q ta s.B,trowsR q ta s.T,Blk b8 27 [.int .i64 0,.bool false,.int .i64 0,.int .i64 0,.slice none 0 0,.slice none 0 0],F]) (by rw [← cs2_cost,hsv]; (exact zE)) ?_
 refine Nx.freezeAt 0 rfl fun I3 m3 hI3 hm3 hf3 => ?_
 have hcost : Rats I3 (some ⟨bc,0,none⟩) q.N (rl q.N (Bl.cst (Bl.cost2 cell up))):=Vec.sliceN (t:=24) hm3 (by rw [rl_len]; exact hf3) fun _ _ => rfl
 replace ho:=ho.mono hI3
 replace hT:=tab_mono hI3 hT
 have hI3':=hI2.trans hI3
 have hIm:=improve_spec b q hq ta s hs.inv.inv (Bl.cost2 cell up) (Bl.cost2_bd cell up) (some ⟨bc,0,none⟩) q.N I3 hT hcost ho hra hAb
 repeat' first | ((with_reducible refine Nx.is_wp ?_); first | refine Nx.p_stopr 10 rfl ?_ | refine Nx.wo ?_ | refine kF 15 [0,1,2,3,5,6,7,8,4,9,10,11] [4,9,10,11] [12,13,14] ?_) | (refine Nx.zo ?_; first | refine kP ?_ | refine Nx.makeFunc (v1:=[.pointer (some ⟨b,0,none⟩)]) (v2:=[]) rfl rfl rfl ?_ | (refine Nx.call rfl rfl rfl (by kernel_rfl) rfl hIm (by exact zE) ?_; rintro _ _ ⟨s2,(_ | _),rfl,hrun,rfl⟩)) | refine kS ?_ | refine kB fun bx => ?_ | refine kA fun A2 c2 => ?_ | refine kX (fun hc => ?_) fun hc => ?_ | fail
 ·exact Nx.imm_le hI3' (Nx.ret2 rfl (ROne.cell 0 rfl rfl rfl rfl rfl) (ROne.tmp rfl) [] (.inr (.inl ⟨hfe,(Bl.phase2_false hrun hs hcell).1 rfl,rfl,rfl⟩)) (by exact zE))
 have hs2:=hrun.rdy hs
 have hopt:=Bl.phase2_true hs2 hcell (hrun.end_t rfl)
 have hok:=Bl.proof_ok hs2 hcell (hrun.end_t rfl)
 obtain ⟨D,hsz⟩:=Bl.proof_sz (cell:=cell) (up:=up) hq hs2
 have hnf : ¬(up = true ∧ ∀ j,j < q.m → q.cell j cell = false):=fun h => Bool.noConfusion ((Bl.phase2_false hrun hs hcell).2 h)
 refine Nx.unstop ?_
 refine Nx.ent (R':=[basisR q ta s2.B,trowsR q ta s2.T,Blk b 193 (tabV q ta (.slice (some ⟨bc,0,none⟩) q.N q.N)),Blk b8 27 [.int .i64 0,.bool false,.int .i64 0,.int .i64 0,.slice none 0 0,.slice none 0 0],F]) (by exact zE) ?_
 refine Nx.ent (Ent.stars (B:=[basisR q ta s2.B,trowsR q ta s2.T])) ?_
 refine Nx.freezeAt 0 rfl fun I4 m4 hI4 hm4 hf4 => ?_
 have hTab : TabQ I4 q ta s2:=tabq_of hm4 hf4 (ho.mono hI4)
 replace hT:=tab_mono hI4 hT
 replace hcost:=hcost.mono hI4
 have hI4':=hI3'.trans hI4
 have hP:=point_spec b q hq hc1 ta s2 hs2.inv.inv (.slice (some ⟨bc,0,none⟩) q.N q.N) I4 hTab
 have hG:=fun col hcol => gain_spec b q hq ta s2 hs2.inv.inv (Bl.cost2 cell up) (Bl.cost2_bd cell up) (some ⟨bc,0,none⟩) q.N I4 hT hTab hcost col hcol
 obtain ⟨xc,hxc⟩ : ∃ xc,xc = Bl.pt q.m q.N s2 cell:=⟨_,rfl⟩
 have hrx : ∀ (W : World) (R : List Res) (b' k : Nat),nthL R k = some (ratsR (some ⟨b',0,none⟩) q.cnt q.cnt (rl q.cnt (Bl.pt q.m q.N s2))) → Rds W I4 R ((ad (some ⟨b',0,none⟩)).add (cell * 2)) (ratC xc):=fun W R b' k hk => by
  have:=Rds.vecN (W:=W) (I:=I4) (f:=ratC) k ratC_len hk (by rw [rl_len]; exact hcell)
  rwa [rl_at _ hcell,← hxc] at this
 repeat' first | ((with_reducible refine Nx.is_wp ?_); first | refine Nx.wo ?_ | refine kF 15 [0,1,2,3,5,6,7,8,4,9,10,11] [4,9,10,11] [12,13,14] ?_) | (refine Nx.zo ?_; first | refine kP ?_ | (refine Nx.call rfl rfl rfl (by kernel_rfl) rfl hP (by exact zE) ?_; rintro _ _ ⟨b',rfl,rfl⟩) | refine Nx.indexAddr_nat (A:=some ⟨b',0,none⟩) (i:=cell) (sz:=2) rfl rfl rfl rfl rfl hcell rfl ?_ | refine Nx.loads (vs:=ratC xc) rfl rfl rfl rfl (by first | exact hrx _ _ _ 0 rfl | exact hrx _ _ _ 1 rfl | exact hrx _ _ _ 2 rfl) rfl ?_) | refine kS ?_ | refine kB fun bx => ?_ | refine kA fun A2 c2 => ?_ | refine kX (fun hc => ?_) fun hc => ?_ | fail
 revert bx; intro b12
 refine Nx.p_loop (σ:=Nat × (Option Addr × Nat)) (fun z => [(0,.int .i64 (q.cnt : Int)),(8,.pointer (some ⟨b8,0,none⟩)),(10,.pointer (some ⟨b,0,none⟩)),(11,.int .i64 sg),(12,.pointer (some ⟨b12,0,none⟩)),(46,.int .i64 (q.m : Int)),(47,.int .i64 (z.1 : Int))])
  (fun z => [Blk b12 27 [.int .i64 (cell : Int),.bool up,.int .i64 xc.num,.int .i64 xc.den,.slice (some ⟨b',0,none⟩) q.cnt q.cnt,.slice z.2.1 z.1 z.2.2],ratsR z.2.1 z.1 z.2.2 (rl z.1 (Bl.wt q cell up s2)),ratsR (some ⟨b',0,none⟩) q.cnt q.cnt (rl q.cnt (Bl.pt q.m q.N s2)),Blk b 193 (tabV q ta (.slice (some ⟨bc,0,none⟩) q.N q.N)),Blk b8 27 [.int .i64 0,.bool false,.int .i64 0,.int .i64 0,.slice none 0 0,.slice none 0 0],F]) (fun z => z.1 ≤ q.m) (fun z => q.m - z.1) (0,(none,0)) rfl (nZl _) zR ((Ent.vec_nil 24 2 _).trans (by exact zE)) ?_
 rintro ⟨i,Aw,cw⟩ hi
 have hi : i ≤ q.m:=hi
 dsimp only
 by_cases him : i < q.m
 case neg =>
  obtain rfl : i = q.m:=by omega
  repeat' first | refine kS ?_ | refine kB fun bx => ?_ | refine kA fun A2 c2 => ?_ | refine kX (fun hc => ?_) fun hc => ?_ | fail
  exact Nx.imm_le hI4' (Nx.ret2 rfl (ROne.cell 0 rfl rfl rfl rfl rfl) (ROne.tmp rfl) [_,_] (.inr (.inr ⟨hfe,hnf,_,_,D,b',Aw,cw,hok,hsz,hopt,by rw [← hxc],rfl⟩)) (by exact zE))
 have hNi : q.cnt + i < q.N:=by show q.cnt + i < q.cnt + q.m; omega
 have hGi:=hG (q.cnt + i) hNi
 have hgw:=wt_gain (j:=i) (up:=up) (s:=s2) hcell
 have hrs : (rl (i + 1) (Bl.wt q cell up s2)).flatMap ratC = (rl i (Bl.wt q cell up s2)).flatMap ratC ++ ratC (Bl.wt q cell up s2 i):=by rw [rl_succ,List.flatMap_append,List.flatMap_cons,List.flatMap_nil,List.append_nil]
 obtain ⟨P,hP1,hP2⟩:=hsz.wgt i him
 have hle:=hsz.le
 have hRw : RB (Bl.wt q cell up s2 i):=Bl.rb_of hsz.ne hP1 (by omega) (by omega)
 obtain ⟨D2,hD2⟩:=hs2.inv.inv.num hq
 have hRg : RB (Bl.gain q.m (Bl.cst (Bl.cost2 cell up)) s2 (q.cnt + i)):=hD2.rbs hq hNi (fun i => Bl.cost2 cell up (s2.B i)) (fun i => Bl.cost2_bd _ _ _) (Bl.cost2 cell up (q.cnt + i)) (Bl.cost2_bd _ _ _) (nLr _)
 rw [hsv] at hgw
 obtain ⟨wv,hwv⟩ : ∃ wv,wv = Bl.wt q cell up s2 i:=⟨_,rfl⟩
 rw [← hwv] at hgw hrs hRw
 have hrs' : (rl (i + 1) (Bl.wt q cell up s2)).flatMap ratC = (rl i (Bl.wt q cell up s2)).flatMap ratC ++ [Value.int .i64 wv.num,Value.int .i64 wv.den]:=hrs
 generalize Bl.gain q.m (Bl.cst (Bl.cost2 cell up)) s2 (q.cnt + i) = gv at hGi hgw hRg
 have hM:=btimes_spec (((-sg : Int)) : Rat) gv (RB_int (by omega)) hRg (by rw [hgw]; exact hRw) I4 hT
 rw [hgw] at hM
 have hni : (q.cnt : Int) + (i : Int) = ((q.cnt + i : Nat) : Int):=by omega
 repeat' first | ((with_reducible refine Nx.is_wp ?_); first | refine Nx.wo ?_ | refine kF 15 [0,1,2,3,5,6,7,8,4,9,10,11] [4,9,10,11] [12,13,14] ?_) | (refine Nx.zo ?_; first | refine kP ?_ | refine Nx.callv rfl rfl rfl (by kernel_rfl) rfl (bwhole_spec _ _) ?_ | (refine Nx.call rfl rfl rfl (by kernel_rfl) rfl hGi (by exact zE) ?_; rintro _ _ ⟨rfl,rfl⟩) | refine kV hM ?_) | refine kS ?_ | refine kB fun bx => ?_ | refine kA fun A2 c2 => ?_ | ((with_reducible refine Nx.is_mix ?_); refine kQ rfl rfl rfl rfl (by first | exact .inl rfl | exact .inr ⟨_,_,_,rfl,rfl,rfl⟩) (by first | exact QRun.opr rfl | exact QRun.neg rfl (by unfold I64; omega) | exact QRun.bin rfl rfl (run_addK (by unfold I64; omega) hni)) ?_) | refine kX (fun hc => ?_) fun hc => ?_ | fail
 exact Nx.again (i + 1,(A2,c2)) him (by dsimp only; omega) zR (by rw [← hrs']; (exact zE))
theorem bprove_spec (n : Nat) (A : Option Addr) (c : Nat) (l : List EqR) (cell : Nat) (up : Bool) (I : PH) (hl : Eqs I A c l) (hb : BEq n l) (hcell : cell < n) (hT : TabI I) :
  FnSpec Tryz.prog 55 [.int .i64 (n : Int),.slice A l.length c,.int .i64 (cell : Int),.bool up] I [] (fun v R' => ProvePost (toQ n l) cell up v R'):=by
 have hlen:=hl.len
 have hS:=bstart_spec n A c l I hl hb
 have hcnt : 1 ≤ (toQ n l).cnt:=hb.cnt.1
 have hsg : -1 ≤ Bl.sgn up ∧ Bl.sgn up ≤ 1:=by cases up <;> decide
 refine FnSpec.enterP Tryz.func55 rfl Tryz.ntmps55 rfl fun w F => ?_
 repeat' first | ((with_reducible refine Nx.is_wp ?_); first | refine Nx.p_stopr 7 rfl ?_ | refine Nx.wo ?_) | (refine Nx.zo ?_; first | refine kP ?_ | (refine Nx.call rfl rfl rfl (by kernel_rfl) rfl hS (by exact zE) ?_; rintro _ _ ⟨b,ta,rfl,hra,hAb,rfl⟩; refine Nx.freezeAt 3 rfl fun I2 m2 hI2 hm2 hf => ?_) | (refine Nx.call rfl rfl rfl (by kernel_rfl) rfl (possible_spec b (toQ n l) hb.small hcnt ta (.slice none 0 0) I2 (tab_mono hI2 hT) (outer_frozen hm2 hf) hra hAb) (by exact zE) ?_; rintro _ _ ⟨s,(_ | _),vc,rfl,hbo,hrdy,rfl⟩)) | refine kS ?_ | refine kB fun bx => ?_ | refine kA fun A2 c2 => ?_ | refine kX (fun hc => ?_) fun hc => ?_ | fail
 ·exact Nx.imm_le hI2 (Nx.ret2 rfl (ROne.cell 0 rfl rfl rfl rfl rfl) (ROne.tmp rfl) [] (.inl ⟨fun h => Bool.noConfusion (hbo.2 h),rfl,rfl⟩) (by exact zE))
 all_goals
  subst hc
  refine Nx.unstop ?_
  refine Nx.weak ?_ ?_ (prove_rest w F n (.slice A l.length c) l.length A c (toQ n l) hb.small rfl rfl hb.cnt.1 cell _ hcell I I2 hI2 (tab_mono hI2 hT) b bx ta s (hrdy rfl) (hbo.1 rfl) vc (outer_frozen hm2 hf) hra hAb)
  ·exact zR
  ·(exact zE)
theorem bProve_spec (n : Int) (A : Option Addr) (c : Nat) (l : List EqR) (k : Int) (up : Bool) (I : PH) (hl : Eqs I A c l) (hT : TabI I) :
  FnSpec Tryz.prog 30 [.int .i64 n,.slice A l.length c,.int .i64 k,.bool up] I []
   (fun v R' => (chkB n l k ≠ 0 → v = .tuple #[noProof,.int .i64 (chkB n l k)] ∧ R' = []) ∧ (chkB n l k = 0 → ProvePost (toQ n.toNat l) k.toNat up v R')):=by
 have hlen:=hl.len
 have hC:=bcheck_spec n A c l k I hl
 refine FnSpec.enterP Tryz.func30 rfl Tryz.ntmps30 rfl fun w F => ?_
 by_cases h0 : chkB n l k = 0
 case neg =>
  generalize chkB n l k = e at hC h0 ⊢
  repeat' first | refine kW ?_ | (refine Nx.zo ?_; first | refine kP ?_ | refine kV hC ?_) | refine kS ?_ | refine kB fun bx => ?_ | refine kA fun A2 c2 => ?_ | refine kX (fun hc => ?_) fun hc => ?_ | fail
  exact Nx.ret2 rfl (ROne.cell 0 rfl rfl rfl rfl rfl) (ROne.tmp rfl) [] ⟨fun _ => ⟨rfl,rfl⟩,fun h => absurd h h0⟩ (by exact zE)
 obtain ⟨hb,hk0,h1⟩:=chkB_ok h0
 rw [h0] at hC ⊢
 obtain ⟨N,rfl⟩ : ∃ N : Nat,n = (N : Int):=⟨n.toNat,by omega⟩
 obtain ⟨K,rfl⟩ : ∃ K : Nat,k = (K : Int):=⟨k.toNat,by omega⟩
 rw [nCt] at hb ⊢
 rw [nCt]
 have hP:=bprove_spec N A c l K up I hl hb (by omega) hT
 repeat' first | refine kW ?_ | (refine Nx.zo ?_; first | refine kP ?_ | refine kV hC ?_ | (refine Nx.call rfl rfl rfl (by kernel_rfl) rfl hP (by exact zE) ?_; rintro v R' (⟨hf,rfl,rfl⟩ | ⟨hf,hu,rfl,rfl⟩ | ⟨hf,hu,x,w',D,b',A',c',g1,g2,g3,rfl,rfl⟩))) | refine kS ?_ | refine kB fun bx => ?_ | refine kA fun A2 c2 => ?_ | refine kX (fun hc => ?_) fun hc => ?_ | fail
 ·exact Nx.ret2 rfl (ROne.cell 0 rfl rfl rfl rfl rfl) (ROne.tmp rfl) [] ⟨fun h => absurd rfl h,fun _ => .inl ⟨hf,rfl,rfl⟩⟩ (by exact zE)
 ·exact Nx.ret2 rfl (ROne.cell 0 rfl rfl rfl rfl rfl) (ROne.tmp rfl) [] ⟨fun h => absurd rfl h,fun _ => .inr (.inl ⟨hf,hu,rfl,rfl⟩)⟩ (by exact zE)
 ·exact Nx.ret2 rfl (ROne.cell 0 rfl rfl rfl rfl rfl) (ROne.tmp rfl) [_,_] ⟨fun h => absurd rfl h,fun _ => .inr (.inr ⟨hf,hu,x,w',D,b',A',c',g1,g2,g3,rfl,rfl⟩)⟩ (by exact zE)
end Go.Proofs.YtpcnapidlhpbkaaGreatDoor
namespace Go.Bl
def addO (a : Option Rat) (x : Rat) : Option Rat:=match a with
 | none => none
 | some s => if RBp (s + x) then some (s + x) else none
def sumF (l : List Rat) : Option Rat:=l.foldl addO (some 0)
def ls : List Rat → Rat
 | [] => 0
 | x :: l => x + ls l
theorem ls_app : ∀ a b : List Rat,ls (a ++ b) = ls a + ls b
 | [],b => by rw [List.nil_append,ls]; grind
 | x :: a,b => by rw [List.cons_append,ls,ls,ls_app a b]; grind
theorem addO_none : ∀ l : List Rat,l.foldl addO none = none
 | [] => rfl
 | _ :: l => addO_none l
theorem fold_sum {D : Int} (hD : D ≠ 0) (hd : D.natAbs ≤ 1152921504606846976) {M : Nat} : ∀ (l : List Rat) (s : Rat) (P : Int) (K : Nat),s * (D : Rat) = (P : Rat) → P.natAbs ≤ K → (∀ x ∈ l,∃ p : Int,x * (D : Rat) = (p : Rat) ∧ p.natAbs ≤ M) → K + l.length * M ≤ 1152921504606846976 → l.foldl addO (some s) = some (s + ls l)
 | [],s,P,K,_,_,_,_ => by rw [List.foldl_nil,ls,Rat.add_zero]
 | x :: l,s,P,K,h1,h2,h3,h4 => by
  obtain ⟨p,h5,h6⟩:=h3 x List.mem_cons_self
  have e1 : (s + x) * (D : Rat) = ((P + p : Int) : Rat):=by rw [Rat.intCast_add,← h1,← h5]; grind
  have e2 : (P + p).natAbs ≤ K + M:=Nat.le_trans (Int.natAbs_add_le _ _) (by omega)
  rw [List.length_cons,Nat.add_mul,Nat.one_mul] at h4
  have e3 : RBp (s + x):=rb_of hD e1 (by omega) hd
  rw [List.foldl_cons,show addO (some s) x = some (s + x) from if_pos e3,fold_sum hD hd l (s + x) (P + p) (K + M) e1 e2 (fun y hy => h3 y (List.mem_cons_of_mem _ hy)) (by omega),ls,Rat.add_assoc]
theorem sumF_of {D : Int} (hD : D ≠ 0) (hd : D.natAbs ≤ 1152921504606846976) {M : Nat} {l : List Rat} (h : ∀ x ∈ l,∃ p : Int,x * (D : Rat) = (p : Rat) ∧ p.natAbs ≤ M) (hl : l.length * M ≤ 1152921504606846976) : sumF l = some (ls l):=by
 have:=fold_sum hD hd l 0 0 0 (by grind) (nLr _) h (by omega)
 rw [Rat.zero_add] at this
 exact this
theorem ls_range (f : Nat → Rat) : ∀ n,ls ((List.range n).map f) = sm n f
 | 0 => rfl
 | n + 1 => by rw [List.range_succ,mAp,ls_app,ls_range f n,sm,List.map_cons,List.map_nil,ls,ls,Rat.add_zero]
theorem ls_filter (p : Nat → Bool) (f : Nat → Rat) : ∀ n,ls (((List.range n).filter p).map f) = sm n fun j => if p j then f j else 0
 | 0 => rfl
 | n + 1 => by
  rw [List.range_succ,List.filter_append,mAp,ls_app,ls_filter p f n,sm]
  congr 1
  cases h : p n with
  | true => rw [List.filter_cons_of_pos h,List.filter_nil,List.map_cons,List.map_nil,ls,ls,if_pos rfl]; grind
  | false => rw [List.filter_cons_of_neg (by rw [h]; decide),List.filter_nil,List.map_nil,ls,if_neg (by decide)]
theorem ls_asc (f : Nat → Rat) : ∀ (n : Nat) (L : List Int),L.Pairwise (· < ·) → (∀ x ∈ L,0 ≤ x ∧ x < n) → ls (L.map fun x => f x.toNat) = sm n fun k => if decide ((k : Int) ∈ L) then f k else 0
 | 0,L,_,h => by
  cases L with
  | nil => rfl
  | cons x L => have:=h x List.mem_cons_self; omega
 | n + 1,L,hp,h => by
  rw [sm]
  by_cases hn : (n : Int) ∈ L
  ·obtain ⟨A,B,rfl⟩:=List.append_of_mem hn
   have hB : B = []:=by
    cases B with
    | nil => rfl
    | cons y B =>
     have h1:=(List.pairwise_append.1 hp).2.1
     have h2:=(List.pairwise_cons.1 h1).1 y List.mem_cons_self
     have h3:=h y (by simp)
     omega
   subst hB
   have hA : ∀ x ∈ A,0 ≤ x ∧ x < (n : Int):=fun x hx => by
    have h1:=(List.pairwise_append.1 hp).2.2 x hx (n : Int) List.mem_cons_self
    have h2:=h x (by simp [hx])
    omega
   rw [mAp,ls_app,ls_asc f n A (List.pairwise_append.1 hp).1 hA,if_pos (by simp),List.map_cons,List.map_nil,ls,ls,Rat.add_zero,nCt]
   congr 1
   refine sm_congr fun k hk => ?_
   have : ((k : Int) ∈ A ++ [(n : Int)]) ↔ (k : Int) ∈ A:=by
    rw [List.mem_append,List.mem_singleton]
    exact ⟨fun h => h.elim id fun h => by omega,.inl⟩
   rw [decide_eq_decide.2 this]
  ·have hA : ∀ x ∈ L,0 ≤ x ∧ x < (n : Int):=fun x hx => by
    have h2:=h x hx
    have : x ≠ (n : Int):=fun he => hn (he ▸ hx)
    omega
   rw [ls_asc f n L hp hA,if_neg (by simpa using hn),Rat.add_zero]
theorem chk_sat {q : Eqs} {cell : Nat} {up : Bool} {x w : Nat → Rat} {D : Int} (hq : q.Small) (h : PrOk q cell up x w) (hz : PrSz q x w D) {i : Nat} (hi : i < q.m) {L : List Int} (hp : L.Pairwise (· < ·)) (hL : ∀ y ∈ L,0 ≤ y ∧ y < q.cnt) (hc : ∀ k,q.cell i k = decide ((k : Int) ∈ L)) (hl : L.length ≤ 100) : sumF (L.map fun y => x y.toNat) = some (q.val i : Rat):=by
 have _:=hq
 rw [sumF_of (M:=36288000000) hz.ne (by have:=hz.le; omega) (fun z hy0 => ?_) (by rw [lMp]; omega),ls_asc x q.cnt L hp hL,← h.feas.eqn i hi]
 ·congr 1
  refine sm_congr fun k _ => ?_
  rw [hc k]
 ·obtain ⟨y,hy,rfl⟩:=List.mem_map.1 hy0
  have:=hL y hy
  exact hz.pnt _ (by omega)
theorem chk_term {q : Eqs} {x w : Nat → Rat} {D : Int} (hq : q.Small) (hz : PrSz q x w D) {i : Nat} (hi : i < q.m) : ∃ p : Int,w i * (q.val i : Rat) * (D : Rat) = (p : Rat) ∧ p.natAbs ≤ 36288000000:=by
 obtain ⟨p,h1,h2⟩:=hz.wgt i hi
 have hv:=hq.val i hi
 refine ⟨p * q.val i,by rw [Rat.intCast_mul,← h1]; grind,?_⟩
 rw [Int.natAbs_mul]
 have:=Nat.mul_le_mul h2 (show (q.val i).natAbs ≤ 1000 by omega)
 omega
theorem chk_weigh {q : Eqs} {cell : Nat} {up : Bool} {x w : Nat → Rat} {D : Int} (hq : q.Small) (h : PrOk q cell up x w) (hz : PrSz q x w D) : sumF ((List.range q.m).map fun i => w i * (q.val i : Rat)) = some (x cell):=by
 have hm:=hq.m
 rw [sumF_of (M:=36288000000) hz.ne (by have:=hz.le; omega) (fun y hy => ?_) (by rw [lMp,List.length_range]; omega),ls_range,h.bound]
 obtain ⟨i,hi,rfl⟩:=List.mem_map.1 hy
 exact chk_term hq hz (List.mem_range.1 hi)
theorem chk_excl {q : Eqs} {x w : Nat → Rat} {D : Int} (hq : q.Small) (hz : PrSz q x w D) (k : Nat) : sumF (((List.range q.m).filter fun j => q.cell j k).map w) = some (sm q.m fun j => if q.cell j k then w j else 0):=by
 have hm:=hq.m
 have hl:=List.length_filter_le (fun j => q.cell j k) (List.range q.m)
 rw [List.length_range] at hl
 rw [sumF_of (M:=36288000) hz.ne (by have:=hz.le; omega) (fun y hy => ?_) (by rw [lMp]; omega),ls_filter]
 obtain ⟨i,hi,rfl⟩:=List.mem_map.1 hy
 exact hz.wgt i (List.mem_range.1 (List.mem_filter.1 hi).1)
end Go.Bl
namespace Go.Bl
theorem IsOpt.low {q : Eqs} {cell : Nat} {v : Rat} (h : IsOpt q cell false v) {x : Nat → Rat} (hx : Feas q x) : v ≤ x cell:=h.bound x hx
theorem IsOpt.high {q : Eqs} {cell : Nat} {v : Rat} (h : IsOpt q cell true v) {x : Nat → Rat} (hx : Feas q x) : x cell ≤ v:=h.bound x hx
theorem IsOpt.free {q : Eqs} {cell : Nat} {v : Rat} (h : IsOpt q cell false v) (hcell : cell < q.cnt) (hn : ∀ j,j < q.m → q.cell j cell = false) : v = 0:=by
 obtain ⟨x,hx,rfl⟩:=h.at_
 have hx' : Feas q fun k => if k = cell then 0 else x k:=⟨fun k hk => by
  split
  ·exact Rat.le_refl
  ·exact hx.pos k hk,fun i hi => by
  rw [← hx.eqn i hi]
  refine sm_congr fun k _ => ?_
  by_cases hk : k = cell
  ·rw [hk,hn i hi]; rfl
  ·rw [if_neg hk]⟩
 have h1:=h.low hx'
 rw [if_pos rfl] at h1
 exact Rat.le_antisymm h1 (hx.pos cell hcell)
end Go.Bl
namespace Go.Proofs.YtpcnapidlhpbkaaGreatDoor
open Go.Eng Go.Sol
attribute [local irreducible] opK wpList Code.wp Exit.then Exit.inBlock fnPost bodyPost Nx Calls Oper.wp Rd Rds Wr Ent Stars Blk Again Vec FnSpec wpMix QRun Stop Upto wpAt
abbrev RawF:=Int × Int
def fokB (x : RawF) : Bool:=decide (FOk x.1 x.2)
def rawOf (q : Rat) : RawF:=(q.num,q.den)
def toR (x : RawF) : Rat:=Rat.divInt x.1 x.2
theorem toR_raw (q : Rat) : toR (rawOf q) = q:=Rat.num_divInt_den q
theorem fok_ex {x : RawF} (h : fokB x = true) : ∃ q : Rat,x = rawOf q ∧ RB q:=by
 obtain ⟨q,h1,h2,h3⟩:=FOk.rat (of_decide_eq_true h)
 exact ⟨q,Prod.ext h1.symm h2.symm,h3⟩
theorem fok_rawOf {q : Rat} (h : RB q) : fokB (rawOf q) = true:=decide_eq_true h.fok
theorem fok_all : ∀ {l : List RawF},l.all fokB = true → ∃ L : List Rat,l = L.map rawOf ∧ ∀ q ∈ L,RB q
 | [],_ => ⟨[],rfl,fun q hq => absurd hq List.not_mem_nil⟩
 | x :: l,h => by
  rw [List.all_cons,Bool.and_eq_true] at h
  obtain ⟨q,rfl,hq⟩:=fok_ex h.1
  obtain ⟨L,rfl,hL⟩:=fok_all h.2
  refine ⟨q :: L,rfl,fun p hp => ?_⟩
  rcases List.mem_cons.1 hp with rfl | hp
  ·exact hq
  ·exact hL p hp
theorem toR_all (L : List Rat) : (L.map rawOf).map toR = L:=by
 rw [List.map_map,show toR ∘ rawOf = id from funext toR_raw,List.map_id]
theorem flat_raw (L : List Rat) : (L.map rawOf).flatMap frC0 = L.flatMap ratC:=by rw [List.flatMap_map]; rfl
abbrev Raws:=SliceN frC0 2
theorem Raws.rats {I : PH} {A : Option Addr} {c : Nat} {L : List Rat} (h : Raws I A c (L.map rawOf)) : Rats I A c L:=⟨by have:=h.arr; rwa [flat_raw] at this,by have:=h.cap; rwa [lMp] at this,h.max,fun _ _ => rfl⟩
theorem Raws.of {I : PH} {A : Option Addr} {c : Nat} {L : List Rat} (h : Rats I A c L) : Raws I A c (L.map rawOf):=⟨by rw [flat_raw]; exact h.arr,by rw [lMp]; exact h.cap,h.max,fun _ _ => rfl⟩
structure PrM where
 cell : Int
 up : Bool
 bnd : RawF
 Ap : Option Addr
 cp : Nat
 pts : List RawF
 Aw : Option Addr
 cw : Nat
 wts : List RawF
abbrev PrM.V (p : PrM) : Value:=.agg #[.int .i64 p.cell,.bool p.up,.int .i64 p.bnd.1,.int .i64 p.bnd.2,.slice p.Ap p.pts.length p.cp,.slice p.Aw p.wts.length p.cw]
def I64F (x : RawF) : Prop:=I64 x.1 ∧ I64 x.2
structure PrIn (I : PH) (p : PrM) : Prop where
 pts : Raws I p.Ap p.cp p.pts
 wts : Raws I p.Aw p.cw p.wts
 bnd : I64F p.bnd
 pn : ∀ x ∈ p.pts,I64F x
 wn : ∀ x ∈ p.wts,I64F x
theorem rawOf_i64 {q : Rat} (h : RB q) : I64F (rawOf q):=rat_i64 h
def posB (x : RawF) : Bool:=fokB x && decide (0 ≤ x.1)
def eqnB (x : List Rat) (q : EqR) : Bool:=decide (Bl.sumF (q.1.2.2.map fun c => x.getD c.toNat default) = some (q.2 : Rat))
def mulL (l : List EqR) (w : List Rat) : List Rat:=(List.range l.length).map fun i => w.getD i default * ((l.getD i default).2 : Rat)
def weighB (l : List EqR) (w : List Rat) (b : Rat) : Bool:=(mulL l w).all (fun x => decide (RB x)) && decide (Bl.sumF (mulL l w) = some b)
def pickW (l : List EqR) (w : List Rat) (k : Nat) : List Rat:=((List.range l.length).filter fun i => decide ((k : Int) ∈ (l.getD i default).1.2.2)).map fun i => w.getD i default
def wantF (cell : Int) (k : Nat) : Rat:=if (k : Int) = cell then 1 else 0
def exclB (l : List EqR) (w : List Rat) (cell : Int) (up : Bool) (k : Nat) : Bool:=match Bl.sumF (pickW l w k) with
 | none => false
 | some s => if up then !decide (s < wantF cell k) else !decide (wantF cell k < s)
def restB (N : Nat) (l : List EqR) (cell : Int) (up : Bool) (b : Rat) (x w : List Rat) : Bool:=l.all (eqnB x) && decide (x.getD cell.toNat default = b) && weighB l w b && (List.range N).all (exclB l w cell up)
def chkP (n : Int) (l : List EqR) (p : PrM) : Bool:=decide (1 ≤ n ∧ n ≤ 10) && validB n l && decide (0 ≤ p.cell ∧ p.cell < n ∧ (p.pts.length : Int) = n ∧ p.wts.length = l.length) && fokB p.bnd && p.wts.all fokB && p.pts.all posB && restB n.toNat l p.cell p.up (toR p.bnd) (p.pts.map toR) (p.wts.map toR)
theorem asc_len : ∀ {xs : List Int} {a : Int} {n : Nat},xs.Pairwise (· < ·) → (∀ x ∈ xs,a ≤ x ∧ x < a + n) → xs.length ≤ n
 | [],_,_,_,_ => nZl _
 | x :: xs,a,n,h,hb => by
  have h1:=hb x List.mem_cons_self
  have h2:=List.pairwise_cons.1 h
  have:=asc_len (xs:=xs) (a:=x + 1) (n:=(a + n - x - 1).toNat) h2.2 fun y hy => by
   have h3:=h2.1 y hy
   have h4:=hb y (List.mem_cons_of_mem _ hy)
   omega
  rw [List.length_cons]
  omega
theorem chkP_ok {n : Nat} {l : List EqR} {cell : Nat} {up : Bool} {x w : Nat → Rat} {D : Int} (hb : BEq n l) (hv : validB n l = true) (hc : cell < n) (h : Bl.PrOk (toQ n l) cell up x w) (hz : Bl.PrSz (toQ n l) x w D) (Ap : Option Addr) (cp : Nat) (Aw : Option Addr) (cw : Nat) :
  chkP n l ⟨cell,up,rawOf (x cell),Ap,cp,(rl n x).map rawOf,Aw,cw,(rl l.length w).map rawOf⟩ = true:=by
 have hq:=hb.small
 have hn:=hb.cnt
 have hle:=hz.le
 have hrx : ∀ k,k < n → RB (x k):=fun k hk => by
  obtain ⟨p,h1,h2⟩:=hz.pnt k hk
  exact Bl.rb_of hz.ne h1 (by omega) (by omega)
 have hrw : ∀ j,j < l.length → RB (w j):=fun j hj => by
  obtain ⟨p,h1,h2⟩:=hz.wgt j hj
  exact Bl.rb_of hz.ne h1 (by omega) (by omega)
 have hws : ∀ i,i < l.length → (rl l.length w).getD i default = w i:=fun i hi => rl_at w hi
 unfold chkP restB
 dsimp only
 rw [toR_raw,toR_all,toR_all,lMp,lMp,rl_len,rl_len,hv,nCt,nCt,rl_at x hc]
 have e1 : decide (1 ≤ (n : Int) ∧ (n : Int) ≤ 10) = true:=decide_eq_true (by omega)
 have e2 : decide (0 ≤ (cell : Int) ∧ (cell : Int) < n ∧ (n : Int) = n ∧ l.length = l.length) = true:=decide_eq_true ⟨by omega,by omega,rfl,rfl⟩
 have e3 : ((rl l.length w).map rawOf).all fokB = true:=List.all_eq_true.2 fun y hy => by
  obtain ⟨z,hz',rfl⟩:=List.mem_map.1 hy
  obtain ⟨j,hj,rfl⟩:=List.mem_map.1 hz'
  exact fok_rawOf (hrw j (List.mem_range.1 hj))
 have e4 : ((rl n x).map rawOf).all posB = true:=List.all_eq_true.2 fun y hy => by
  obtain ⟨z,hz',rfl⟩:=List.mem_map.1 hy
  obtain ⟨j,hj,rfl⟩:=List.mem_map.1 hz'
  have hj:=List.mem_range.1 hj
  have:=h.feas.pos j hj
  unfold posB
  rw [fok_rawOf (hrx j hj),Bool.true_and]
  exact decide_eq_true (Rat.num_nonneg.2 this)
 have e5 : l.all (eqnB (rl n x)) = true:=List.all_eq_true.2 fun q hq' => by
  obtain ⟨i,hi,rfl⟩:=List.mem_iff_getElem.1 hq'
  have hg:=hb.good _ hq'
  have e : l.getD i default = l[i]:=by rw [gEl,gEq hi]; rfl
  have hlen : l[i].1.2.2.length ≤ 100:=by
   have:=asc_len (a:=0) (n:=n) hg.asc fun y hy => by have:=hg.lt y hy; omega
   omega
  unfold eqnB
  refine decide_eq_true ?_
  have:=Bl.chk_sat hq h hz (i:=i) hi hg.asc (fun y hy => hg.lt y hy) (fun k => by show decide ((k : Int) ∈ (l.getD i default).1.2.2) = _; rw [e]) hlen
  rw [show (toQ n l).val i = (l.getD i default).2 from rfl,e] at this
  rw [← this]
  congr 1
  refine List.map_congr_left fun y hy => ?_
  have:=hg.lt y hy
  exact rl_at x (by omega)
 have hmul : mulL l (rl l.length w) = (List.range (toQ n l).m).map fun i => w i * ((toQ n l).val i : Rat):=List.map_congr_left fun i hi => by
  rw [hws i (List.mem_range.1 hi)]; rfl
 have e6 : weighB l (rl l.length w) (x cell) = true:=by
  unfold weighB
  rw [hmul,Bl.chk_weigh hq h hz,Bool.and_eq_true]
  refine ⟨List.all_eq_true.2 fun y hy => ?_,decide_eq_true rfl⟩
  obtain ⟨i,hi,rfl⟩:=List.mem_map.1 hy
  obtain ⟨p,h1,h2⟩:=Bl.chk_term hq hz (List.mem_range.1 hi)
  exact decide_eq_true (Bl.rb_of hz.ne h1 (by omega) (by omega))
 have e7 : (List.range n).all (exclB l (rl l.length w) cell up) = true:=List.all_eq_true.2 fun k hk => by
  have hk:=List.mem_range.1 hk
  have hp : pickW l (rl l.length w) k = ((List.range (toQ n l).m).filter fun j => (toQ n l).cell j k).map w:=List.map_congr_left fun i hi => hws i (List.mem_range.1 (List.mem_filter.1 hi).1)
  unfold exclB
  rw [hp,Bl.chk_excl hq hz k]
  have hx:=h.excl k hk
  have hw : wantF cell k = if k = cell then 1 else 0:=by
   unfold wantF
   by_cases hkc : k = cell
   ·rw [if_pos hkc,if_pos (by rw [hkc])]
   ·rw [if_neg hkc,if_neg (by omega)]
  dsimp only
  rw [hw]
  cases up with
  | true =>
   rw [if_pos rfl] at hx ⊢
   rw [decide_eq_false (Rat.not_lt.2 hx)]; rfl
  | false =>
   rw [if_neg Bool.false_ne_true] at hx ⊢
   rw [decide_eq_false (Rat.not_lt.2 hx)]; rfl
 rw [e1,e2,fok_rawOf (hrx cell hc),e3,e4,e5,e6,e7,decide_eq_true rfl]
 rfl
def sumV : Option Rat → Value
 | none => .tuple #[.agg #[.int .i64 0,.int .i64 0],.bool false]
 | some s => .tuple #[ratV s,.bool true]
theorem take_snocX {l : List Rat} {k : Nat} (h : k < l.length) : l.take (k + 1) = l.take k ++ [l.getD k default]:=by rw [tSu h,gEl,gEq h]; rfl
theorem getD_memXB {l : List Rat} {k : Nat} (h : k < l.length) : l.getD k default ∈ l:=by rw [gEl,gEq h]; exact List.getElem_mem _
theorem sumF_snoc (l : List Rat) (x : Rat) : Bl.sumF (l ++ [x]) = Bl.addO (Bl.sumF l) x:=by unfold Bl.sumF; rw [List.foldl_append]; rfl
theorem sumF_cut {l : List Rat} {k : Nat} (h : Bl.sumF (l.take k) = none) : Bl.sumF l = none:=by
 have : l = l.take k ++ l.drop k:=(List.take_append_drop k l).symm
 rw [this]
 unfold Bl.sumF at h ⊢
 rw [List.foldl_append,h,Bl.addO_none]
theorem sumF_rb {l : List Rat} {s : Rat} (h : Bl.sumF l = some s) : RB s:=by
 have key : ∀ (n : Nat) (l : List Rat) (s : Rat),l.length = n → Bl.sumF l = some s → RB s:=fun n => by
  induction n with
  | zero =>
   intro l s hl h
   have : l = []:=List.eq_nil_of_length_eq_zero hl
   subst this
   cases h
   exact ⟨by decide,by decide⟩
  | succ n ih =>
   intro l s hl h
   have e : l = l.take n ++ [l.getD n default]:=by rw [← take_snocX (by omega),List.take_of_length_le (by omega)]
   rw [e,sumF_snoc] at h
   cases hs : Bl.sumF (l.take n) with
   | none => rw [hs] at h; cases h
   | some r =>
    rw [hs] at h
    unfold Bl.addO at h
    dsimp only at h
    by_cases hb : Bl.RBp (r + l.getD n default)
    ·rw [if_pos hb] at h
     cases h
     exact hb
    ·rw [if_neg hb] at h; cases h
 exact key _ l s rfl h
theorem bsum_spec (A : Option Addr) (c : Nat) (l : List Rat) (I : PH) (hl : Rats I A c l) (hr : ∀ q ∈ l,RB q) (hT : TabI I) :
  FnSpec Tryz.prog 103 [.slice A l.length c] I [] (fun v R' => v = sumV (Bl.sumF l) ∧ R' = []):=by
 have hlen:=hl.len
 refine FnSpec.enterP Tryz.func103 rfl Tryz.ntmps103 rfl fun w F => ?_
 repeat' first | refine kW ?_ | (refine Nx.zo ?_; first | refine kP ?_ | refine Nx.callv rfl rfl rfl (by kernel_rfl) rfl (bwhole_spec _ _) ?_) | refine kS ?_ | refine kB fun bx => ?_ | refine kA fun A2 c2 => ?_ | refine kX (fun hc => ?_) fun hc => ?_ | fail
 rename_i b2
 revert bx; intro b4
 refine Nx.p_loop (σ:=Nat × Rat) (fun z => [(0,.slice A l.length c),(2,.pointer (some ⟨b2,0,none⟩)),(4,.pointer (some ⟨b4,0,none⟩)),(9,.slice A l.length c),(10,.int .i64 l.length),(11,.int .i64 (z.1 : Int))])
  (fun z => [Blk b4 24 (ratC z.2),Blk b2 24 [.int .i64 0,.int .i64 0],F]) (fun z => z.1 ≤ l.length ∧ Bl.sumF (l.take z.1) = some z.2) (fun z => l.length - z.1) (0,0) rfl ⟨nZl _,rfl⟩ zR (by exact zE) ?_
 rintro ⟨k,s⟩ ⟨hk,hs⟩
 dsimp only at hk hs ⊢
 by_cases hkl : k < l.length
 case neg =>
  obtain rfl : k = l.length:=by omega
  rw [tLn] at hs
  repeat' first | refine kS ?_ | refine kB fun bx => ?_ | refine kA fun A2 c2 => ?_ | refine kX (fun hc => ?_) fun hc => ?_ | fail
  exact Nx.ret2 rfl (ROne.cell 0 rfl rfl rfl rfl rfl) (ROne.tmp rfl) [] ⟨by rw [hs]; rfl,rfl⟩ (by exact zE)
 have hrd : ∀ (W : World) (R : List Res),Rds W I R ((ad A).add (k * 2)) (ratC (l.getD k default)):=fun W R => hl.rds hkl
 have hA:=hl.isSome (by omega) (by omega)
 have hxb:=hr _ (getD_memXB hkl)
 have hsn:=take_snocX hkl
 generalize l.getD k default = x at hrd hxb hsn
 have hsb:=sumF_rb hs
 have hnx : Bl.sumF (l.take (k + 1)) = Bl.addO (some s) x:=by rw [hsn,sumF_snoc,hs]
 have hM:=Add_rat s x hsb hxb I hT
 obtain ⟨y,hy⟩ : ∃ y,y = s + x:=⟨_,rfl⟩
 unfold Bl.addO at hnx
 dsimp only at hnx
 rw [← hy] at hM hnx
 by_cases hb : RB y
 ·rw [if_pos (show Bl.RBp y from hb)] at hnx
  rw [redV_pos hb] at hM
  repeat' first | refine kW ?_ | (refine Nx.zo ?_; first | refine kP ?_ | refine Nx.indexAddr_nat (A:=A) (i:=k) (sz:=2) rfl rfl rfl rfl rfl hkl hA ?_ | refine Nx.loads rfl rfl rfl rfl (hrd _ _) rfl ?_ | refine kV hM ?_) | refine kS ?_ | refine kB fun bx => ?_ | refine kA fun A2 c2 => ?_ | refine kX (fun hc => ?_) fun hc => ?_ | fail
  exact Nx.again (k + 1,y) ⟨hkl,hnx⟩ (by dsimp only; omega) zR (by exact zE)
 ·rw [if_neg (show ¬ Bl.RBp y from hb)] at hnx
  rw [redV_neg hb] at hM
  repeat' first | refine kW ?_ | (refine Nx.zo ?_; first | refine kP ?_ | refine Nx.indexAddr_nat (A:=A) (i:=k) (sz:=2) rfl rfl rfl rfl rfl hkl hA ?_ | refine Nx.loads rfl rfl rfl rfl (hrd _ _) rfl ?_ | refine kV hM ?_) | refine kS ?_ | refine kB fun bx => ?_ | refine kA fun A2 c2 => ?_ | refine kX (fun hc => ?_) fun hc => ?_ | fail
  exact Nx.ret2 rfl (ROne.cell 0 rfl rfl rfl rfl rfl) (ROne.tmp rfl) [] ⟨by rw [sumF_cut hnx]; rfl,rfl⟩ (by exact zE)
theorem getD_memY {l : List RawF} {k : Nat} (h : k < l.length) : l.getD k default ∈ l:=by rw [gEl,gEq h]; exact List.getElem_mem _
theorem take_snocY {l : List RawF} {k : Nat} (h : k < l.length) : l.take (k + 1) = l.take k ++ [l.getD k default]:=by rw [tSu h,gEl,gEq h]; rfl
theorem IndexFuncY_spec (f : Nat) (hf : callable Tryz.prog f = true) (P : RawF → Bool) (A : Option Addr) (c : Nat) (l : List RawF) (I : PH) (hl : Raws I A c l)
  (hP : ∀ x ∈ l,FnSpec Tryz.prog f [.agg #[.int .i64 x.1,.int .i64 x.2]] I [] (fun v R' => v = .bool (P x) ∧ R' = [])) :
  FnSpec Tryz.prog 101 [.slice A l.length c,.func (.func f) #[] #[]] I [] (fun v R' => ∃ i : Int,v = .int .i64 i ∧ decide (0 ≤ i) = l.any P ∧ R' = []):=by
 have hlen:=hl.len
 refine FnSpec.enterP Tryz.func101 rfl Tryz.ntmps101 rfl fun w F => ?_
 repeat' first | refine kS ?_ | refine kB fun bx => ?_ | refine kA fun A2 c2 => ?_ | refine kX (fun hc => ?_) fun hc => ?_ | fail
 refine Nx.p_loop (σ:=Nat) (fun k => [(0,.slice A l.length c),(1,.func (.func f) #[] #[]),(7,.int .i64 l.length),(8,.int .i64 (k : Int))])
  (fun _ => [F]) (fun k => k ≤ l.length ∧ (l.take k).any P = false) (fun k => l.length - k) 0 rfl ⟨nZl _,by simp⟩ zR (Ent.refl _) ?_
 rintro k ⟨hk,hall⟩
 by_cases hlt : k < l.length
 ·have hmem:=getD_memY hlt
  have hsn:=take_snocY hlt
  have hrds : ∀ (W : World) (R : List Res),Rds W I R ((ad A).add (k * 2)) (frC0 (l.getD k default)):=fun W R => hl.rds hlt
  have hW:=hP _ hmem
  have hA:=hl.isSome (by omega) (by omega)
  generalize l.getD k default = q at hmem hsn hrds hW
  cases hr : P q with
  | false =>
   rw [hr] at hW
   repeat' first | refine kW ?_ | (refine Nx.zo ?_; first | refine kP ?_ | refine Nx.indexAddr_nat (A:=A) (i:=k) (sz:=2) rfl rfl rfl rfl rfl hlt hA ?_ | refine Nx.loads rfl rfl rfl rfl (hrds _ _) rfl ?_ | refine Nx.callv rfl rfl rfl hf rfl hW ?_) | refine kS ?_ | refine kB fun bx => ?_ | refine kA fun A2 c2 => ?_ | refine kX (fun hc => ?_) fun hc => ?_ | fail
   exact Nx.again (k + 1) ⟨hlt,by rw [hsn,List.any_append,hall]; simp [hr]⟩ (by omega) zR (Ent.refl _)
  | true =>
   rw [hr] at hW
   repeat' first | refine kW ?_ | (refine Nx.zo ?_; first | refine kP ?_ | refine Nx.indexAddr_nat (A:=A) (i:=k) (sz:=2) rfl rfl rfl rfl rfl hlt hA ?_ | refine Nx.loads rfl rfl rfl rfl (hrds _ _) rfl ?_ | refine Nx.callv rfl rfl rfl hf rfl hW ?_) | refine kS ?_ | refine kB fun bx => ?_ | refine kA fun A2 c2 => ?_ | refine kX (fun hc => ?_) fun hc => ?_ | fail
   refine Nx.ret_fn rfl [] ⟨(k : Int),rfl,?_,rfl⟩ (by exact zE)
   rw [List.any_eq_true.2 ⟨q,hmem,hr⟩]
   simp
 ·obtain rfl : k = l.length:=by omega
  rw [tLn] at hall
  repeat' first | refine kS ?_ | refine kB fun bx => ?_ | refine kA fun A2 c2 => ?_ | refine kX (fun hc => ?_) fun hc => ?_ | fail
  exact Nx.ret_fn rfl [] ⟨-1,rfl,by rw [hall]; rfl,rfl⟩ (by exact zE)
theorem ContainsFuncY_spec (f : Nat) (hf : callable Tryz.prog f = true) (P : RawF → Bool) (A : Option Addr) (c : Nat) (l : List RawF) (I : PH) (hl : Raws I A c l)
  (hP : ∀ x ∈ l,FnSpec Tryz.prog f [.agg #[.int .i64 x.1,.int .i64 x.2]] I [] (fun v R' => v = .bool (P x) ∧ R' = [])) :
  FnSpec Tryz.prog 44 [.slice A l.length c,.func (.func f) #[] #[]] I [] (fun v R' => v = .bool (l.any P) ∧ R' = []):=by
 have hI:=IndexFuncY_spec f hf P A c l I hl hP
 refine FnSpec.enterP Tryz.func44 rfl Tryz.ntmps44 rfl fun w F => ?_
 repeat' first | refine kW ?_ | (refine Nx.zo ?_; first | refine kP ?_ | (refine kC hI ?_; rintro _ _ ⟨i,rfl,hi,rfl⟩)) | refine kS ?_ | refine kB fun bx => ?_ | refine kA fun A2 c2 => ?_ | refine kX (fun hc => ?_) fun hc => ?_ | fail
 exact Nx.ret_fn rfl [] ⟨by rw [← hi],rfl⟩ (by exact zE)
theorem bValid_raw (x : RawF) (hx : I64F x) (I : PH) : FnSpec Tryz.prog 43 [.agg #[.int .i64 x.1,.int .i64 x.2]] I [] (fun v R' => v = .bool (fokB x) ∧ R' = []):=frValid_spec x.1 x.2 hx.1 hx.2 I
theorem badQ_spec (x : RawF) (hx : I64F x) (I : PH) : FnSpec Tryz.prog 102 [.agg #[.int .i64 x.1,.int .i64 x.2]] I [] (fun v R' => v = .bool (!posB x) ∧ R' = []):=by
 have hV:=bValid_raw x hx I
 refine FnSpec.enterP Tryz.func102 rfl Tryz.ntmps102 rfl fun w F => ?_
 unfold posB
 cases hf : fokB x with
 | false =>
  rw [hf] at hV
  repeat' first | refine kW ?_ | (refine Nx.zo ?_; first | refine kP ?_ | refine kV hV ?_) | refine kS ?_ | refine kB fun bx => ?_ | refine kA fun A2 c2 => ?_ | refine kX (fun hc => ?_) fun hc => ?_ | fail
  exact kT
 | true =>
  rw [hf] at hV
  repeat' first | refine kW ?_ | (refine Nx.zo ?_; first | refine kP ?_ | refine kV hV ?_) | refine kS ?_ | refine kB fun bx => ?_ | refine kA fun A2 c2 => ?_ | refine kX (fun hc => ?_) fun hc => ?_ | fail
  refine Nx.ret_fn rfl [] ⟨?_,rfl⟩ (by exact zE)
  rw [Bool.true_and,← decide_not]
  exact congrArg Value.bool (decide_eq_decide.2 Int.not_le.symm)
theorem badw_spec (x : RawF) (hx : I64F x) (I : PH) : FnSpec Tryz.prog 45 [.agg #[.int .i64 x.1,.int .i64 x.2]] I [] (fun v R' => v = .bool (!fokB x) ∧ R' = []):=by
 have hV:=bValid_raw x hx I
 refine FnSpec.enterP Tryz.func45 rfl Tryz.ntmps45 rfl fun w F => ?_
 repeat' first | refine kW ?_ | (refine Nx.zo ?_; first | refine kP ?_ | refine kV hV ?_) | refine kS ?_ | refine kB fun bx => ?_ | refine kA fun A2 c2 => ?_ | refine kX (fun hc => ?_) fun hc => ?_ | fail
 exact kT
def termL (x : List Rat) (L : List Int) (j : Nat) : List Rat:=(L.take j).map fun c => x.getD c.toNat default
theorem termL_len {x : List Rat} {L : List Int} {j : Nat} (h : j ≤ L.length) : (termL x L j).length = j:=by unfold termL; rw [lMp,lTk]; omega
theorem termL_succ {x : List Rat} {L : List Int} {j : Nat} (h : j < L.length) : termL x L (j + 1) = termL x L j ++ [x.getD (L.getD j default).toNat default]:=by unfold termL; rw [take_snocJ h,mAp]; rfl
theorem flat_snoc (l : List Rat) (y : Rat) : (l ++ [y]).flatMap ratC = l.flatMap ratC ++ [Value.int .i64 y.num,Value.int .i64 y.den]:=by rw [List.flatMap_append,List.flatMap_cons,List.flatMap_nil,List.append_nil]; rfl
theorem any_not (l : List RawF) (P : RawF → Bool) : l.any (fun x => !P x) = !l.all P:=by rw [← List.not_all_eq_any_not]
theorem pos_all {l : List RawF} (h : l.all posB = true) : l.all fokB = true:=List.all_eq_true.2 fun x hx => by
 have:=List.all_eq_true.1 h x hx
 unfold posB at this
 rw [Bool.and_eq_true] at this
 exact this.1
theorem neq_fracK {x y : Operand} (a b c d : Int) (r : Bool) (h : decide (¬(a = c ∧ b = d)) = r) (w : World) :
  (do eqGuard .neq 24 x y (.agg #[.int .i64 a,.int .i64 b]) (.agg #[.int .i64 c,.int .i64 d]); binOp .neq 24 (.agg #[.int .i64 a,.int .i64 b]) (.agg #[.int .i64 c,.int .i64 d])).run Tryz.prog w = .ok (.bool r) w:=by subst h; exact neq_frac a b c d w
theorem all_no {α : Type} {l : List α} {P : α → Bool} {q : α} (hm : q ∈ l) (h : P q = false) : l.all P = false:=by
 rw [← Bool.not_eq_true]
 intro hh
 have:=List.all_eq_true.1 hh q hm
 rw [h] at this
 cases this
theorem satisfies_spec (n : Nat) (A : Option Addr) (c : Nat) (l : List EqR) (Ap : Option Addr) (cp : Nat) (pts : List RawF) (I : PH) (hn48 : n ≤ 48) (hl : Eqs I A c l) (hg : ∀ q ∈ l,GoodE n q) (hp : Raws I Ap cp pts) (hpn : pts.length = n) (hi : ∀ x ∈ pts,I64F x) (hT : TabI I) :
  FnSpec Tryz.prog 46 [.slice A l.length c,.slice Ap pts.length cp] I [] (fun v R' => v = .bool (pts.all posB && l.all (eqnB (pts.map toR))) ∧ R' = []):=by
 have hlen:=hl.len
 have hC:=ContainsFuncY_spec 102 (by kernel_rfl) (fun x => !posB x) Ap cp pts I hp (fun x hx => badQ_spec x (hi x hx) I)
 rw [any_not] at hC
 refine FnSpec.enterP Tryz.func46 rfl Tryz.ntmps46 rfl fun w F => ?_
 cases hall : pts.all posB with
 | false =>
  rw [hall] at hC
  repeat' first | refine kW ?_ | (refine Nx.zo ?_; first | refine kP ?_ | refine kV hC ?_) | refine kS ?_ | refine kB fun bx => ?_ | refine kA fun A2 c2 => ?_ | refine kX (fun hc => ?_) fun hc => ?_ | fail
  exact kT
 | true =>
 rw [hall] at hC
 obtain ⟨X,rfl,hX⟩:=fok_all (pos_all hall)
 rw [toR_all,Bool.true_and]
 have hpx:=hp.rats
 rw [lMp] at hpn hC ⊢
 repeat' first | refine kW ?_ | (refine Nx.zo ?_; first | refine kP ?_ | refine kV hC ?_) | refine kS ?_ | refine kB fun bx => ?_ | refine kA fun A2 c2 => ?_ | refine kX (fun hc => ?_) fun hc => ?_ | fail
 refine Nx.p_loop (σ:=Nat) (fun i => [(0,.slice A l.length c),(1,.slice Ap X.length cp),(14,.slice A l.length c),(15,.int .i64 l.length),(16,.int .i64 (i : Int))])
  (fun _ => [F]) (fun i => i ≤ l.length ∧ (l.take i).all (eqnB X) = true) (fun i => l.length - i) 0 rfl ⟨nZl _,by rw [List.take_zero]; rfl⟩ zR (by exact zE) ?_
 rintro i ⟨hil,hok⟩
 by_cases him : i < l.length
 case neg =>
  obtain rfl : i = l.length:=by omega
  rw [tLn] at hok
  repeat' first | refine kS ?_ | refine kB fun bx => ?_ | refine kA fun A2 c2 => ?_ | refine kX (fun hc => ?_) fun hc => ?_ | fail
  exact Nx.ret_fn rfl [] ⟨by rw [hok],rfl⟩ (by exact zE)
 have hm:=getD_memQ him
 have hgood:=hg _ hm
 have hin:=hl.inner _ hm
 have hrds : ∀ (W : World) (R : List Res),Rds W I R ((ad A).add (i * 2)) (eqC (l.getD i default)):=fun W R => hl.outer.rds him
 have hA:=hl.outer.isSome (by omega) (by omega)
 have hnext : eqnB X (l.getD i default) = true → (l.take (i + 1)).all (eqnB X) = true:=fun h => by rw [take_snocQ him,List.all_append,hok]; simpa using h
 have hstop : eqnB X (l.getD i default) = false → l.all (eqnB X) = false:=fun h => all_no hm h
 generalize l.getD i default = q at hm hgood hin hrds hnext hstop
 have hlt:=hgood.lt
 have hqv:=hgood.val
 have hLn:=asc_len (a:=0) (n:=n) hgood.asc fun y hy => by have:=hlt y hy; omega
 have heq : eqnB X q = decide (Bl.sumF (termL X q.1.2.2 q.1.2.2.length) = some (q.2 : Rat)):=by unfold eqnB termL; rw [tLn]
 rw [heq] at hnext hstop
 clear hgood heq
 obtain ⟨⟨Ax,cx,L⟩,vx⟩:=q
 dsimp only at hin hlt hqv hnext hstop hLn
 have hLl:=hin.len
 repeat' first | refine kW ?_ | (refine Nx.zo ?_; first | refine kP ?_ | refine Nx.indexAddr_nat (A:=A) (i:=i) (sz:=2) rfl rfl rfl rfl rfl him hA ?_ | refine Nx.loads rfl rfl rfl rfl (hrds _ _) rfl ?_) | refine kS ?_ | refine kB fun bx => ?_ | refine kA fun A2 c2 => ?_ | refine kX (fun hc => ?_) fun hc => ?_ | fail
 revert bx; intro b6
 refine Nx.p_loop (σ:=Nat × (Option Addr × Nat)) (fun z => [(0,.slice A l.length c),(1,.slice Ap X.length cp),(6,.pointer (some ⟨b6,0,none⟩)),(7,.slice z.2.1 z.1 z.2.2),(14,.slice A l.length c),(15,.int .i64 l.length),(16,.int .i64 (i : Int)),(21,.slice Ax L.length cx),(22,.int .i64 (L.length : Int)),(23,.int .i64 (z.1 : Int))])
  (fun z => [Vec 24 2 z.2.1 z.1 z.2.2 ((termL X L z.1).flatMap ratC),Blk b6 46 [.slice Ax L.length cx,.int .i64 vx],F]) (fun z => z.1 ≤ L.length) (fun z => L.length - z.1) (0,(none,0)) rfl (nZl _) zR ((Ent.vec_nil 24 2 _).trans (by exact zE)) ?_
 rintro ⟨j,⟨At,ct⟩⟩ hj
 have hj : j ≤ L.length:=hj
 dsimp only
 by_cases hjL : j < L.length
 ·have hrd : ∀ (W : World) (R : List Res),Rd W I R ((ad Ax).add (j * 1)) (.int .i64 (L.getD j default)):=fun W R => hin.rd hjL
  have hcb:=hlt (L.getD j default) (by rw [gEl,gEq hjL]; exact List.getElem_mem _)
  obtain ⟨cN,hcN⟩ : ∃ cN : Nat,L.getD j default = (cN : Int):=⟨(L.getD j default).toNat,by omega⟩
  have hts:=termL_succ (x:=X) hjL
  rw [hcN] at hrd hcb hts
  rw [nCt] at hts
  have hcX : cN < X.length:=by omega
  have hrx : ∀ (W : World) (R : List Res),Rds W I R ((ad Ap).add (cN * 2)) (ratC (X.getD cN default)):=fun W R => hpx.rds hcX
  have hAp:=hpx.isSome (by omega) (by omega)
  have hAx:=hin.isSome (by omega)
  generalize X.getD cN default = y at hts hrx
  repeat' first | refine kW ?_ | (refine Nx.zo ?_; first | refine kP ?_ | refine Nx.indexAddr_nat (A:=Ax) (i:=j) (sz:=1) rfl rfl rfl rfl rfl hjL hAx ?_ | refine Nx.load rfl rfl rfl (hrd _ _) ?_ | refine Nx.indexAddr_nat (A:=Ap) (i:=cN) (sz:=2) rfl rfl rfl rfl rfl hcX hAp ?_ | refine Nx.loads rfl rfl rfl rfl (hrx _ _) rfl ?_) | refine kS ?_ | refine kB fun bx => ?_ | refine kA fun A2 c2 => ?_ | refine kX (fun hc => ?_) fun hc => ?_ | fail
  exact Nx.again (j + 1,(A2,c2)) hjL (by dsimp only; omega) zR (by dsimp only; rw [hts,flat_snoc]; (exact zE))
 obtain rfl : j = L.length:=by omega
 have htl:=termL_len (x:=X) (nLr L.length)
 have hrb : ∀ y ∈ termL X L L.length,RB y:=fun y hy => by
  obtain ⟨z,hz,rfl⟩:=List.mem_map.1 hy
  have:=hlt z (List.mem_of_mem_take hz)
  exact hX _ (getD_memXB (by omega))
 refine Nx.freezeAt 0 rfl fun I2 m2 hI2 hm2 hf2 => ?_
 have hfz : Rats I2 At ct (termL X L L.length):=Vec.sliceN (t:=24) hm2 (by rw [htl]; exact hf2) fun _ _ => rfl
 have hS:=bsum_spec At ct _ I2 hfz hrb (tab_mono hI2 hT)
 rw [htl] at hS
 have hW:=bwhole_spec vx I2
 cases hs : Bl.sumF (termL X L L.length) with
 | none =>
  have hS' : FnSpec Tryz.prog 103 [.slice At L.length ct] I2 [] (fun v R' => v = .tuple #[.agg #[.int .i64 0,.int .i64 0],.bool false] ∧ R' = []):=by rw [hs] at hS; exact hS
  rw [hs] at hstop
  repeat' first | ((with_reducible refine Nx.is_wp ?_); first | refine Nx.wo ?_ | refine kD 13 [0,1,2,3,4,5,6,7,8] [6] ?_) | (refine Nx.zo ?_; first | refine kP ?_ | refine kV hS' ?_) | refine kS ?_ | refine kB fun bx => ?_ | refine kA fun A2 c2 => ?_ | refine kX (fun hc => ?_) fun hc => ?_ | fail
  exact Nx.imm_le hI2 (Nx.ret_fn rfl [] ⟨by rw [hstop rfl],rfl⟩ (by exact zE))
 | some s =>
  have hS' : FnSpec Tryz.prog 103 [.slice At L.length ct] I2 [] (fun v R' => v = .tuple #[.agg #[.int .i64 s.num,.int .i64 s.den],.bool true] ∧ R' = []):=by rw [hs] at hS; exact hS
  rw [hs] at hstop hnext
  by_cases hsv : s = (vx : Rat)
  ·have hE:=fun {x y : Operand} (w : World) => neq_fracK (x:=x) (y:=y) s.num s.den (vx : Rat).num (vx : Rat).den false (decide_eq_false fun hh => hh (rat_eq_iff.2 hsv)) w
   repeat' first | ((with_reducible refine Nx.is_wp ?_); first | refine Nx.wo ?_ | refine kD 13 [0,1,2,3,4,5,6,7,8] [6] ?_) | (refine Nx.zo ?_; first | refine kP ?_ | refine Nx.binr rfl rfl hE rfl ?_ | refine kV hS' ?_ | refine kV hW ?_) | refine kS ?_ | refine kB fun bx => ?_ | refine kA fun A2 c2 => ?_ | ((with_reducible refine Nx.is_mix ?_); refine kQ rfl rfl rfl rfl (by first | exact .inl rfl | exact .inr ⟨_,_,_,rfl,rfl,rfl⟩) (by first | exact QRun.opr rfl | exact QRun.binr rfl rfl hE) ?_) | refine kX (fun hc => ?_) fun hc => ?_ | fail
   exact Nx.imm_le hI2 (Nx.again (i + 1) ⟨him,hnext (decide_eq_true (by rw [hsv]))⟩ (by omega) zR (by exact zE))
  ·have hE:=fun {x y : Operand} (w : World) => neq_fracK (x:=x) (y:=y) s.num s.den (vx : Rat).num (vx : Rat).den true (decide_eq_true fun hh => hsv (rat_eq_iff.1 hh)) w
   repeat' first | ((with_reducible refine Nx.is_wp ?_); first | refine Nx.wo ?_ | refine kD 13 [0,1,2,3,4,5,6,7,8] [6] ?_) | (refine Nx.zo ?_; first | refine kP ?_ | refine Nx.binr rfl rfl hE rfl ?_ | refine kV hS' ?_ | refine kV hW ?_) | refine kS ?_ | refine kB fun bx => ?_ | refine kA fun A2 c2 => ?_ | ((with_reducible refine Nx.is_mix ?_); refine kQ rfl rfl rfl rfl (by first | exact .inl rfl | exact .inr ⟨_,_,_,rfl,rfl,rfl⟩) (by first | exact QRun.opr rfl | exact QRun.binr rfl rfl hE) ?_) | refine kX (fun hc => ?_) fun hc => ?_ | fail
   exact Nx.imm_le hI2 (Nx.ret_fn rfl [] ⟨by rw [hstop (decide_eq_false fun hh => hsv (Option.some.inj hh))],rfl⟩ (by exact zE))
theorem mulL_len (l : List EqR) (w : List Rat) : (mulL l w).length = l.length:=by unfold mulL; rw [lMp,List.length_range]
theorem mulL_at {l : List EqR} {w : List Rat} {i : Nat} (h : i < l.length) : (mulL l w).getD i default = w.getD i default * ((l.getD i default).2 : Rat):=by
 unfold mulL
 rw [gEl,gMp,List.getElem?_range h]; rfl
abbrev prV (cell : Int) (up : Bool) (b : Rat) (Ap : Option Addr) (pl cp : Nat) (Aw : Option Addr) (wl cw : Nat) : Value:=.agg #[.int .i64 cell,.bool up,.int .i64 b.num,.int .i64 b.den,.slice Ap pl cp,.slice Aw wl cw]
abbrev prC (cell : Int) (up : Bool) (b : Rat) (Ap : Option Addr) (pl cp : Nat) (Aw : Option Addr) (wl cw : Nat) : List Value:=[.int .i64 cell,.bool up,.int .i64 b.num,.int .i64 b.den,.slice Ap pl cp,.slice Aw wl cw]
theorem weighs_spec (n : Nat) (A : Option Addr) (c : Nat) (l : List EqR) (cell : Int) (up : Bool) (b : Rat) (Ap : Option Addr) (pl cp : Nat) (Aw : Option Addr) (cw : Nat) (w : List Rat) (I : PH) (hl9 : l.length ≤ 1000000) (hl : Eqs I A c l) (hg : ∀ q ∈ l,GoodE n q) (hw : Rats I Aw cw w) (hwl : w.length = l.length) (hwr : ∀ y ∈ w,RB y) (hT : TabI I) :
  FnSpec Tryz.prog 47 [.slice A l.length c,prV cell up b Ap pl cp Aw l.length cw] I [] (fun v R' => v = .bool (weighB l w b) ∧ R' = []):=by
 have hlen:=hl.len
 refine FnSpec.enterP Tryz.func47 rfl Tryz.ntmps47 rfl fun wd F => ?_
 repeat' first | refine kS ?_ | refine kB fun bx => ?_ | refine kA fun A2 c2 => ?_ | refine kX (fun hc => ?_) fun hc => ?_ | fail
 revert bx; intro b3
 refine Nx.p_loop (σ:=Nat × (Option Addr × Nat)) (fun z => [(3,.pointer (some ⟨b3,0,none⟩)),(5,.slice z.2.1 z.1 z.2.2),(12,.slice A l.length c),(13,.int .i64 l.length),(14,.int .i64 (z.1 : Int))])
  (fun z => [Vec 24 2 z.2.1 z.1 z.2.2 (((mulL l w).take z.1).flatMap ratC),Blk b3 27 (prC cell up b Ap pl cp Aw l.length cw),F]) (fun z => z.1 ≤ l.length ∧ ∀ y ∈ (mulL l w).take z.1,RB y) (fun z => l.length - z.1) (0,(none,0)) rfl ⟨nZl _,fun y hy => by rw [List.take_zero] at hy; cases hy⟩ zR ((Ent.vec_nil 24 2 _).trans (by exact zE)) ?_
 rintro ⟨i,⟨At,ct⟩⟩ ⟨hil,hok⟩
 dsimp only at hil hok ⊢
 by_cases him : i < l.length
 case neg =>
  obtain rfl : i = l.length:=by omega
  have hml:=mulL_len l w
  have htk : (mulL l w).take l.length = mulL l w:=by rw [← hml,tLn]
  rw [htk] at hok ⊢
  refine Nx.freezeAt 0 rfl fun I2 m2 hI2 hm2 hf2 => ?_
  have hfz : Rats I2 At ct (mulL l w):=Vec.sliceN (t:=24) hm2 (by rw [hml]; exact hf2) fun _ _ => rfl
  have hS:=bsum_spec At ct _ I2 hfz hok (tab_mono hI2 hT)
  rw [hml] at hS
  have hall : (mulL l w).all (fun x => decide (RB x)) = true:=List.all_eq_true.2 fun y hy => decide_eq_true (hok y hy)
  unfold weighB
  rw [hall,Bool.true_and]
  cases hs : Bl.sumF (mulL l w) with
  | none =>
   have hS' : FnSpec Tryz.prog 103 [.slice At l.length ct] I2 [] (fun v R' => v = .tuple #[.agg #[.int .i64 0,.int .i64 0],.bool false] ∧ R' = []):=by rw [hs] at hS; exact hS
   repeat' first | refine kW ?_ | (refine Nx.zo ?_; first | refine kP ?_ | refine kV hS' ?_) | refine kS ?_ | refine kB fun bx => ?_ | refine kA fun A2 c2 => ?_ | refine kX (fun hc => ?_) fun hc => ?_ | fail
   exact Nx.imm_le hI2 kT
  | some s =>
   have hS' : FnSpec Tryz.prog 103 [.slice At l.length ct] I2 [] (fun v R' => v = .tuple #[.agg #[.int .i64 s.num,.int .i64 s.den],.bool true] ∧ R' = []):=by rw [hs] at hS; exact hS
   by_cases hsv : s = b
   ·have hE:=fun {x y : Operand} (w : World) => eql_fracK (x:=x) (y:=y) s.num s.den b.num b.den true (decide_eq_true (rat_eq_iff.2 hsv)) w
    repeat' first | refine kW ?_ | (refine Nx.zo ?_; first | refine kP ?_ | refine kV hS' ?_ | refine Nx.loads rfl rfl rfl rfl (Rds.cut 1 2 rfl rfl) rfl ?_ | refine Nx.binr rfl rfl hE rfl ?_) | refine kS ?_ | refine kB fun bx => ?_ | refine kA fun A2 c2 => ?_ | refine kX (fun hc => ?_) fun hc => ?_ | fail
    exact Nx.imm_le hI2 (Nx.ret_fn rfl [] ⟨congrArg Value.bool (decide_eq_true (by rw [hsv])).symm,rfl⟩ (by exact zE))
   ·have hE:=fun {x y : Operand} (w : World) => eql_fracK (x:=x) (y:=y) s.num s.den b.num b.den false (decide_eq_false fun hh => hsv (rat_eq_iff.1 hh)) w
    repeat' first | refine kW ?_ | (refine Nx.zo ?_; first | refine kP ?_ | refine kV hS' ?_ | refine Nx.loads rfl rfl rfl rfl (Rds.cut 1 2 rfl rfl) rfl ?_ | refine Nx.binr rfl rfl hE rfl ?_) | refine kS ?_ | refine kB fun bx => ?_ | refine kA fun A2 c2 => ?_ | refine kX (fun hc => ?_) fun hc => ?_ | fail
    exact Nx.imm_le hI2 (Nx.ret_fn rfl [] ⟨congrArg Value.bool (decide_eq_false fun hh => hsv (Option.some.inj hh)).symm,rfl⟩ (by exact zE))
 have hm:=getD_memQ him
 have hgood:=hg _ hm
 have hrds : ∀ (W : World) (R : List Res),Rds W I R ((ad A).add (i * 2)) (eqC (l.getD i default)):=fun W R => hl.outer.rds him
 have hA:=hl.outer.isSome (by omega) (by omega)
 have hiw : i < w.length:=by omega
 have hrw : ∀ (W : World) (R : List Res),Rds W I R ((ad Aw).add (i * 2)) (ratC (w.getD i default)):=fun W R => hw.rds hiw
 have hAw:=hw.isSome (by omega) (by omega)
 have hwb:=hwr _ (getD_memXB hiw)
 have hts:=take_snocX (l:=mulL l w) (k:=i) (by rw [mulL_len]; exact him)
 have hmem:=getD_memXB (l:=mulL l w) (k:=i) (by rw [mulL_len]; exact him)
 have hat:=mulL_at (w:=w) him
 have hbad : ¬ RB ((mulL l w).getD i default) → weighB l w b = false:=fun h => by
  unfold weighB
  rw [all_no hmem (decide_eq_false h),Bool.false_and]
 have hqv:=hgood.val
 clear hgood hm
 generalize l.getD i default = q at hrds hat hqv
 obtain ⟨⟨Ax,cx,L⟩,vx⟩:=q
 dsimp only at hat hqv
 generalize w.getD i default = wi at hrw hwb hat
 generalize (mulL l w).getD i default = y at hts hmem hat hbad
 have hW:=bwhole_spec vx I
 have hM:=Mul_rat wi (vx : Rat) hwb (RB_int (by omega)) I hT
 rw [← hat] at hM
 clear hat hmem
 by_cases hy : RB y
 ·rw [redV_pos hy] at hM
  repeat' first | ((with_reducible refine Nx.is_wp ?_); first | refine Nx.wo ?_ | refine Nx.p_poolF (id:=5) rfl [0,1,2,3,4,5,6,7,8,9,10,11] [7,8] [11,10] [13,14] [13] [⟨12,8,24,_⟩] rfl rfl (by kernel_rfl) (by kernel_rfl) (by decide) (PoolFit.cons ⟨⟨_,_,_,rfl⟩,rfl,rfl⟩ PoolFit.nil) PanicOk.auto (Ent.refl _) ?_) | ((first | refine Nx.at_op rfl rfl ?_ | refine Nx.m_loud rfl rfl rfl ?_ | refine Nx.at_do rfl rfl rfl rfl ?_ | refine Nx.m_loud_do rfl rfl rfl rfl rfl ?_ | refine GoodF.loud_ rfl rfl rfl rfl (fun ex X => ?_)); first | refine kP ?_ | refine Nx.indexAddr_nat (A:=A) (i:=i) (sz:=2) rfl rfl rfl rfl rfl him hA ?_ | refine Nx.loads rfl rfl rfl rfl (hrds _ _) rfl ?_ | refine kV hW ?_ | refine kV hM ?_) | refine kS ?_ | refine kB fun bx => ?_ | refine kA fun A2 c2 => ?_ | ((with_reducible refine Nx.is_mix ?_); refine kQ rfl rfl rfl rfl (by first | exact .inl rfl | exact .inr ⟨_,_,_,rfl,rfl,rfl⟩) (by first | exact QRun.opr rfl | exact QRun.idx (A:=Aw) (i:=i) (sz:=2) rfl rfl rfl rfl him hAw | exact QRun.loads rfl rfl rfl (hrw _ _) rfl) ?_) | ((with_reducible refine GoodF.is ?_); first | refine GoodF.quiet rfl rfl rfl rfl rfl rfl (by first | exact QRun.opr rfl | exact QRun.idx (A:=Aw) (i:=i) (sz:=2) rfl rfl rfl rfl him hAw | exact QRun.loads rfl rfl rfl (hrw _ _) rfl |  exact QRun.std) ?_ | refine GoodF.done1 rfl (fun bx => ?_) | refine GoodF.done2 rfl (fun bx by_ => ?_) | refine GoodF.done3 rfl (fun bx by_ bz => ?_)) | refine kX (fun hc => ?_) fun hc => ?_ | fail | ((fail_if_success (with_reducible refine Nx.is_at ?_)); (fail_if_success (with_reducible refine Nx.is_wp ?_)); (fail_if_success (with_reducible refine Nx.is_mix ?_)); first | refine Nx.ex ?_ | refine Nx.pool_nextF 0 rfl (by exact zE) ?_ | refine Nx.pool_nextF 1 rfl (by exact zE) ?_ | refine Nx.pool_nextF 2 rfl (by exact zE) ?_ | refine Nx.pool_nextF 3 rfl (by exact zE) ?_)
  exact Nx.again (i + 1,(A2,c2)) ⟨him,fun z hz => by
   rw [hts] at hz
   rcases List.mem_append.1 hz with hz | hz
   ·exact hok z hz
   ·rw [List.mem_singleton] at hz; rw [hz]; exact hy⟩ (by dsimp only; omega) zR (by dsimp only; rw [hts,flat_snoc]; (exact zE))
 ·rw [redV_neg hy] at hM
  repeat' first | ((with_reducible refine Nx.is_wp ?_); first | refine Nx.wo ?_ | refine Nx.p_poolF (id:=5) rfl [0,1,2,3,4,5,6,7,8,9,10,11] [7,8] [11,10] [13,14] [13] [⟨12,8,24,_⟩] rfl rfl (by kernel_rfl) (by kernel_rfl) (by decide) (PoolFit.cons ⟨⟨_,_,_,rfl⟩,rfl,rfl⟩ PoolFit.nil) PanicOk.auto (Ent.refl _) ?_) | ((first | refine Nx.at_op rfl rfl ?_ | refine Nx.m_loud rfl rfl rfl ?_ | refine Nx.at_do rfl rfl rfl rfl ?_ | refine Nx.m_loud_do rfl rfl rfl rfl rfl ?_ | refine GoodF.loud_ rfl rfl rfl rfl (fun ex X => ?_)); first | refine kP ?_ | refine Nx.indexAddr_nat (A:=A) (i:=i) (sz:=2) rfl rfl rfl rfl rfl him hA ?_ | refine Nx.loads rfl rfl rfl rfl (hrds _ _) rfl ?_ | refine kV hW ?_ | refine kV hM ?_) | refine kS ?_ | refine kB fun bx => ?_ | refine kA fun A2 c2 => ?_ | ((with_reducible refine Nx.is_mix ?_); refine kQ rfl rfl rfl rfl (by first | exact .inl rfl | exact .inr ⟨_,_,_,rfl,rfl,rfl⟩) (by first | exact QRun.opr rfl | exact QRun.idx (A:=Aw) (i:=i) (sz:=2) rfl rfl rfl rfl him hAw | exact QRun.loads rfl rfl rfl (hrw _ _) rfl) ?_) | ((with_reducible refine GoodF.is ?_); first | refine GoodF.quiet rfl rfl rfl rfl rfl rfl (by first | exact QRun.opr rfl | exact QRun.idx (A:=Aw) (i:=i) (sz:=2) rfl rfl rfl rfl him hAw | exact QRun.loads rfl rfl rfl (hrw _ _) rfl |  exact QRun.std) ?_ | refine GoodF.done1 rfl (fun bx => ?_) | refine GoodF.done2 rfl (fun bx by_ => ?_) | refine GoodF.done3 rfl (fun bx by_ bz => ?_)) | refine kX (fun hc => ?_) fun hc => ?_ | fail | ((fail_if_success (with_reducible refine Nx.is_at ?_)); (fail_if_success (with_reducible refine Nx.is_wp ?_)); (fail_if_success (with_reducible refine Nx.is_mix ?_)); first | refine Nx.ex ?_ | refine Nx.pool_nextF 0 rfl (by exact zE) ?_ | refine Nx.pool_nextF 1 rfl (by exact zE) ?_ | refine Nx.pool_nextF 2 rfl (by exact zE) ?_ | refine Nx.pool_nextF 3 rfl (by exact zE) ?_)
  exact Nx.ret_fn rfl [] ⟨by rw [hbad hy],rfl⟩ (by exact zE)
theorem bgetD_memI {l : List Int} {k : Nat} (h : k < l.length) : l.getD k default ∈ l:=by rw [gEl,gEq h]; exact List.getElem_mem _
theorem bIndex_spec (A : Option Addr) (c : Nat) (l : List Int) (z : Int) (I : PH) (hl : Ints I A c l) :
  FnSpec Tryz.prog 167 [.slice A l.length c,.int .i64 z] I [] (fun v R' => ∃ i : Int,v = .int .i64 i ∧ (0 ≤ i ↔ z ∈ l) ∧ R' = []):=by
 have hlen:=hl.len
 refine FnSpec.enterP Tryz.func167 rfl Tryz.ntmps167 rfl fun w F => ?_
 repeat' first | refine kS ?_ | refine kB fun bx => ?_ | refine kA fun A2 c2 => ?_ | refine kX (fun hc => ?_) fun hc => ?_ | fail
 refine Nx.p_loop (σ:=Nat) (fun k => [(0,.slice A l.length c),(1,.int .i64 z),(7,.int .i64 l.length),(8,.int .i64 (k : Int))])
  (fun _ => [F]) (fun k => k ≤ l.length ∧ z ∉ l.take k) (fun k => l.length - k) 0 rfl ⟨nZl _,by simp⟩ zR (Ent.refl _) ?_
 rintro k ⟨hk,hnone⟩
 repeat' first | refine kW ?_ | (refine Nx.zo ?_; first | refine kP ?_ | refine Nx.indexAddr_nat rfl rfl rfl rfl rfl (by omega) (hl.isSome (by omega)) ?_ | refine Nx.load rfl rfl rfl (hl.rd (by omega)) ?_) | refine kS ?_ | refine kB fun bx => ?_ | refine kA fun A2 c2 => ?_ | refine kX (fun hc => ?_) fun hc => ?_ | fail
 ·exact Nx.ret_fn rfl [] ⟨_,rfl,⟨fun _ => hc ▸ bgetD_memI (by omega),fun _ => by omega⟩,rfl⟩ (Ent.refl _)
 ·refine Nx.again (k + 1) ⟨by omega,?_⟩ (by omega) zR (Ent.refl _)
  rw [take_snocJ (by omega),List.mem_append,List.mem_singleton]
  rintro (h | h)
  ·exact hnone h
  ·exact hc h
 ·obtain rfl : k = l.length:=by omega
  rw [tLn] at hnone
  exact Nx.ret_fn rfl [] ⟨_,rfl,⟨fun h => absurd h (by omega),fun h => absurd h hnone⟩,rfl⟩ (Ent.refl _)
theorem bContains_spec (A : Option Addr) (c : Nat) (l : List Int) (z : Int) (I : PH) (hl : Ints I A c l) :
  FnSpec Tryz.prog 105 [.slice A l.length c,.int .i64 z] I [] (fun v R' => v = .bool (decide (z ∈ l)) ∧ R' = []):=by
 refine FnSpec.enterP Tryz.func105 rfl Tryz.ntmps105 rfl fun w F => ?_
 repeat' first | refine kS ?_ | refine kB fun bx => ?_ | refine kA fun A2 c2 => ?_ | refine kX (fun hc => ?_) fun hc => ?_ | fail
 refine Nx.at_op rfl rfl ?_
 refine Nx.call rfl rfl rfl (by kernel_rfl) rfl (bIndex_spec A c l z I hl) (Ent.refl _) ?_
 rintro v R' ⟨i,rfl,hi,rfl⟩
 repeat' first | refine kS ?_ | refine kB fun bx => ?_ | refine kA fun A2 c2 => ?_ | refine kX (fun hc => ?_) fun hc => ?_ | fail
 exact Nx.ret_fn rfl [] ⟨by rw [decide_eq_decide.2 hi],rfl⟩ (Ent.refl _)
def pickT (l : List EqR) (w : List Rat) (k i : Nat) : List Rat:=((List.range i).filter fun i => decide ((k : Int) ∈ (l.getD i default).1.2.2)).map fun i => w.getD i default
theorem pickT_yes {l : List EqR} {w : List Rat} {k i : Nat} (h : (k : Int) ∈ (l.getD i default).1.2.2) : pickT l w k (i + 1) = pickT l w k i ++ [w.getD i default]:=by
 unfold pickT
 rw [List.range_succ,List.filter_append,mAp]
 congr 1
 rw [List.filter_cons,if_pos (decide_eq_true h),List.filter_nil,List.map_cons,List.map_nil]
theorem pickT_no {l : List EqR} {w : List Rat} {k i : Nat} (h : (k : Int) ∉ (l.getD i default).1.2.2) : pickT l w k (i + 1) = pickT l w k i:=by
 unfold pickT
 rw [List.range_succ,List.filter_append,mAp,List.filter_cons,if_neg (by rw [decide_eq_false h]; decide),List.filter_nil,List.map_nil,List.append_nil]
theorem pickT_len (l : List EqR) (w : List Rat) (k i : Nat) : (pickT l w k i).length ≤ i:=by
 unfold pickT
 rw [lMp]
 have:=List.length_filter_le (fun i => decide ((k : Int) ∈ (l.getD i default).1.2.2)) (List.range i)
 rwa [List.length_range] at this
theorem excludes_spec (n : Nat) (A : Option Addr) (c : Nat) (l : List EqR) (cell : Int) (up : Bool) (b : Rat) (Ap : Option Addr) (pl cp : Nat) (Aw : Option Addr) (cw : Nat) (w : List Rat) (I : PH) (hn : n ≤ 1000000) (hl9 : l.length ≤ 1000000) (hl : Eqs I A c l) (hw : Rats I Aw cw w) (hwl : w.length = l.length) (hwr : ∀ y ∈ w,RB y) (hT : TabI I) :
  FnSpec Tryz.prog 48 [.int .i64 (n : Int),.slice A l.length c,prV cell up b Ap pl cp Aw l.length cw] I [] (fun v R' => v = .bool ((List.range n).all (exclB l w cell up)) ∧ R' = []):=by
 have hlen:=hl.len
 refine FnSpec.enterP Tryz.func48 rfl Tryz.ntmps48 rfl fun wd F => ?_
 repeat' first | refine kS ?_ | refine kB fun bx => ?_ | refine kA fun A2 c2 => ?_ | refine kX (fun hc => ?_) fun hc => ?_ | fail
 revert bx; intro b5
 refine Nx.p_loop (σ:=Nat) (fun k => [(1,.slice A l.length c),(5,.pointer (some ⟨b5,0,none⟩)),(14,.int .i64 (n : Int)),(15,.int .i64 (k : Int))])
  (fun _ => [Blk b5 27 (prC cell up b Ap pl cp Aw l.length cw),F]) (fun k => k ≤ n ∧ (List.range k).all (exclB l w cell up) = true) (fun k => n - k) 0 rfl ⟨nZl _,rfl⟩ zR (by exact zE) ?_
 rintro k ⟨hk,hok⟩
 by_cases hkn : k < n
 case neg =>
  obtain rfl : k = n:=by omega
  repeat' first | refine kS ?_ | refine kB fun bx => ?_ | refine kA fun A2 c2 => ?_ | refine kX (fun hc => ?_) fun hc => ?_ | fail
  exact Nx.ret_fn rfl [] ⟨by rw [hok],rfl⟩ (by exact zE)
 have hstop : exclB l w cell up k = false → (List.range n).all (exclB l w cell up) = false:=fun h => all_no (List.mem_range.2 hkn) h
 have hnext : exclB l w cell up k = true → (List.range (k + 1)).all (exclB l w cell up) = true:=fun h => by rw [List.range_succ,List.all_append,hok]; simpa using h
 repeat' first | refine kS ?_ | refine kB fun bx => ?_ | refine kA fun A2 c2 => ?_ | refine kX (fun hc => ?_) fun hc => ?_ | fail
 refine Nx.p_loop (σ:=Nat × (Option Addr × Nat)) (fun z => [(1,.slice A l.length c),(5,.pointer (some ⟨b5,0,none⟩)),(7,.int .i64 (k : Int)),(8,.slice z.2.1 (pickT l w k z.1).length z.2.2),(14,.int .i64 (n : Int)),(15,.int .i64 (k : Int)),(18,.slice A l.length c),(19,.int .i64 l.length),(20,.int .i64 (z.1 : Int))])
  (fun z => [Vec 24 2 z.2.1 (pickT l w k z.1).length z.2.2 ((pickT l w k z.1).flatMap ratC),Blk b5 27 (prC cell up b Ap pl cp Aw l.length cw),F]) (fun z => z.1 ≤ l.length) (fun z => l.length - z.1) (0,(none,0)) rfl (nZl _) zR ((Ent.vec_nil 24 2 _).trans (by exact zE)) ?_
 rintro ⟨i,⟨At,ct⟩⟩ hil
 have hil : i ≤ l.length:=hil
 dsimp only
 by_cases him : i < l.length
 ·have hm:=getD_memQ him
  have hin:=hl.inner _ hm
  have hrds : ∀ (W : World) (R : List Res),Rds W I R ((ad A).add (i * 2)) (eqC (l.getD i default)):=fun W R => hl.outer.rds him
  have hA:=hl.outer.isSome (by omega) (by omega)
  have hiw : i < w.length:=by omega
  have hrw : ∀ (W : World) (R : List Res),Rds W I R ((ad Aw).add (i * 2)) (ratC (w.getD i default)):=fun W R => hw.rds hiw
  have hAw:=hw.isSome (by omega) (by omega)
  have hyes:=pickT_yes (l:=l) (w:=w) (k:=k) (i:=i)
  have hno:=pickT_no (l:=l) (w:=w) (k:=k) (i:=i)
  have hpl:=pickT_len l w k i
  generalize l.getD i default = q at hm hin hrds hyes hno
  obtain ⟨⟨Ax,cx,L⟩,vx⟩:=q
  dsimp only at hin hyes hno
  have hCt:=bContains_spec Ax cx L (k : Int) I hin
  generalize w.getD i default = wi at hrw hyes
  by_cases hmem : (k : Int) ∈ L
  ·rw [decide_eq_true hmem] at hCt
   have hts:=hyes hmem
   generalize pickT l w k i = out at hpl hts
   repeat' first | refine kW ?_ | (refine Nx.zo ?_; first | refine kP ?_ | refine Nx.indexAddr_nat (A:=A) (i:=i) (sz:=2) rfl rfl rfl rfl rfl him hA ?_ | refine Nx.loads rfl rfl rfl rfl (hrds _ _) rfl ?_ | refine kV hCt ?_ | refine Nx.indexAddr_nat (A:=Aw) (i:=i) (sz:=2) rfl rfl rfl rfl rfl him hAw ?_ | refine Nx.loads rfl rfl rfl rfl (hrw _ _) rfl ?_) | refine kS ?_ | refine kB fun bx => ?_ | refine kA fun A2 c2 => ?_ | refine kX (fun hc => ?_) fun hc => ?_ | fail
   exact Nx.again (i + 1,(A2,c2)) him (by dsimp only; omega) ⟨rfl,rfl,rfl,by dsimp only; rw [hts,lAp]; rfl,rfl,rfl,rfl,rfl,rfl,trivial⟩ (by dsimp only; rw [hts,flat_snoc,lAp]; (exact zE))
  ·rw [decide_eq_false hmem] at hCt
   have hts:=hno hmem
   repeat' first | refine kW ?_ | (refine Nx.zo ?_; first | refine kP ?_ | refine Nx.indexAddr_nat (A:=A) (i:=i) (sz:=2) rfl rfl rfl rfl rfl him hA ?_ | refine Nx.loads rfl rfl rfl rfl (hrds _ _) rfl ?_ | refine kV hCt ?_) | refine kS ?_ | refine kB fun bx => ?_ | refine kA fun A2 c2 => ?_ | refine kX (fun hc => ?_) fun hc => ?_ | fail
   exact Nx.again (i + 1,(At,ct)) him (by dsimp only; omega) ⟨rfl,rfl,rfl,by dsimp only; rw [hts]; rfl,rfl,rfl,rfl,rfl,rfl,trivial⟩ (by dsimp only; rw [hts]; (exact zE))
 obtain rfl : i = l.length:=by omega
 have hrb : ∀ y ∈ pickT l w k l.length,RB y:=fun y hy => by
  obtain ⟨j,hj,rfl⟩:=List.mem_map.1 hy
  have:=List.mem_range.1 (List.mem_filter.1 hj).1
  exact hwr _ (getD_memXB (by omega))
 refine Nx.freezeAt 0 rfl fun I2 m2 hI2 hm2 hf2 => ?_
 have hfz : Rats I2 At ct (pickT l w k l.length):=Vec.sliceN (t:=24) hm2 hf2 fun _ _ => rfl
 have hS:=bsum_spec At ct _ I2 hfz hrb (tab_mono hI2 hT)
 have hpl:=hfz.len
 have hex : exclB l w cell up k = (match Bl.sumF (pickT l w k l.length) with | none => false | some s => if up then !decide (s < wantF cell k) else !decide (wantF cell k < s)):=rfl
 rw [hex] at hstop hnext
 have hW0:=bwhole_spec 0 I2
 have hW1:=bwhole_spec 1 I2
 generalize (pickT l w k l.length).length = pn at hS hpl ⊢
 cases hs : Bl.sumF (pickT l w k l.length) with
 | none =>
  have hS' : FnSpec Tryz.prog 103 [.slice At pn ct] I2 [] (fun v R' => v = .tuple #[.agg #[.int .i64 0,.int .i64 0],.bool false] ∧ R' = []):=by rw [hs] at hS; exact hS
  rw [hs] at hstop
  by_cases hkc : (k : Int) = cell
  all_goals
   repeat' first | refine kW ?_ | (refine Nx.zo ?_; first | refine kP ?_ | refine kV hS' ?_ | refine kV hW0 ?_ | refine kV hW1 ?_) | refine kS ?_ | refine kB fun bx => ?_ | refine kA fun A2 c2 => ?_ | refine kX (fun hc => ?_) fun hc => ?_ | fail
   exact Nx.imm_le hI2 (Nx.ret_fn rfl [] ⟨by rw [hstop rfl],rfl⟩ (by exact zE))
 | some s =>
  have hS' : FnSpec Tryz.prog 103 [.slice At pn ct] I2 [] (fun v R' => v = .tuple #[.agg #[.int .i64 s.num,.int .i64 s.den],.bool true] ∧ R' = []):=by rw [hs] at hS; exact hS
  rw [hs] at hstop hnext
  have hsb:=sumF_rb hs
  dsimp only at hstop hnext
  have hWr : RB (wantF cell k):=by
   unfold wantF
   split
   ·exact ⟨by decide,by decide⟩
   ·exact ⟨by decide,by decide⟩
  have hL1:=Less_rat s (wantF cell k) hsb hWr I2
  have hL2:=Less_rat (wantF cell k) s hWr hsb I2
  have hwv : ratV (wantF cell k) = ratV ((if (k : Int) = cell then 1 else 0 : Int) : Rat):=by
   unfold wantF
   split <;> rfl
  rw [hwv] at hL1 hL2
  generalize hd1 : decide (s < wantF cell k) = d1 at hL1 hstop hnext
  generalize hd2 : decide (wantF cell k < s) = d2 at hL2 hstop hnext
  clear hwv hex hS
  by_cases hkc : (k : Int) = cell
  ·rw [if_pos hkc] at hL1 hL2
   cases up
   ·cases d2
    ·repeat' first | refine kW ?_ | (refine Nx.zo ?_; first | refine kP ?_ | refine kV hS' ?_ | refine kV hW0 ?_ | refine kV hW1 ?_ | refine kV hL2 ?_) | refine kS ?_ | refine kB fun bx => ?_ | refine kA fun A2 c2 => ?_ | refine kX (fun hc => ?_) fun hc => ?_ | fail
     exact Nx.imm_le hI2 (Nx.again (k + 1) ⟨hkn,hnext rfl⟩ (by omega) zR (by exact zE))
    ·repeat' first | refine kW ?_ | (refine Nx.zo ?_; first | refine kP ?_ | refine kV hS' ?_ | refine kV hW0 ?_ | refine kV hW1 ?_ | refine kV hL2 ?_) | refine kS ?_ | refine kB fun bx => ?_ | refine kA fun A2 c2 => ?_ | refine kX (fun hc => ?_) fun hc => ?_ | fail
     exact Nx.imm_le hI2 (Nx.ret_fn rfl [] ⟨by rw [hstop rfl],rfl⟩ (by exact zE))
   ·cases d1
    ·repeat' first | refine kW ?_ | (refine Nx.zo ?_; first | refine kP ?_ | refine kV hS' ?_ | refine kV hW0 ?_ | refine kV hW1 ?_ | refine kV hL1 ?_) | refine kS ?_ | refine kB fun bx => ?_ | refine kA fun A2 c2 => ?_ | refine kX (fun hc => ?_) fun hc => ?_ | fail
     exact Nx.imm_le hI2 (Nx.again (k + 1) ⟨hkn,hnext rfl⟩ (by omega) zR (by exact zE))
    ·repeat' first | refine kW ?_ | (refine Nx.zo ?_; first | refine kP ?_ | refine kV hS' ?_ | refine kV hW0 ?_ | refine kV hW1 ?_ | refine kV hL1 ?_) | refine kS ?_ | refine kB fun bx => ?_ | refine kA fun A2 c2 => ?_ | refine kX (fun hc => ?_) fun hc => ?_ | fail
     exact Nx.imm_le hI2 (Nx.ret_fn rfl [] ⟨by rw [hstop rfl],rfl⟩ (by exact zE))
  ·rw [if_neg hkc] at hL1 hL2
   cases up
   ·cases d2
    ·repeat' first | refine kW ?_ | (refine Nx.zo ?_; first | refine kP ?_ | refine kV hS' ?_ | refine kV hW0 ?_ | refine kV hL2 ?_) | refine kS ?_ | refine kB fun bx => ?_ | refine kA fun A2 c2 => ?_ | refine kX (fun hc => ?_) fun hc => ?_ | fail
     exact Nx.imm_le hI2 (Nx.again (k + 1) ⟨hkn,hnext rfl⟩ (by omega) zR (by exact zE))
    ·repeat' first | refine kW ?_ | (refine Nx.zo ?_; first | refine kP ?_ | refine kV hS' ?_ | refine kV hW0 ?_ | refine kV hL2 ?_) | refine kS ?_ | refine kB fun bx => ?_ | refine kA fun A2 c2 => ?_ | refine kX (fun hc => ?_) fun hc => ?_ | fail
     exact Nx.imm_le hI2 (Nx.ret_fn rfl [] ⟨by rw [hstop rfl],rfl⟩ (by exact zE))
   ·cases d1
    ·repeat' first | refine kW ?_ | (refine Nx.zo ?_; first | refine kP ?_ | refine kV hS' ?_ | refine kV hW0 ?_ | refine kV hL1 ?_) | refine kS ?_ | refine kB fun bx => ?_ | refine kA fun A2 c2 => ?_ | refine kX (fun hc => ?_) fun hc => ?_ | fail
     exact Nx.imm_le hI2 (Nx.again (k + 1) ⟨hkn,hnext rfl⟩ (by omega) zR (by exact zE))
    ·repeat' first | refine kW ?_ | (refine Nx.zo ?_; first | refine kP ?_ | refine kV hS' ?_ | refine kV hW0 ?_ | refine kV hL1 ?_) | refine kS ?_ | refine kB fun bx => ?_ | refine kA fun A2 c2 => ?_ | refine kX (fun hc => ?_) fun hc => ?_ | fail
     exact Nx.imm_le hI2 (Nx.ret_fn rfl [] ⟨by rw [hstop rfl],rfl⟩ (by exact zE))
theorem chkP_no1 {n : Int} {l : List EqR} {p : PrM} (h : ¬((1 ≤ n ∧ n ≤ 10) ∧ validB n l = true ∧ (0 ≤ p.cell ∧ p.cell < n ∧ (p.pts.length : Int) = n ∧ p.wts.length = l.length))) : chkP n l p = false:=by
 rw [← Bool.not_eq_true]
 intro hh
 unfold chkP at hh
 simp only [Bool.and_eq_true,decide_eq_true_eq] at hh
 exact h ⟨hh.1.1.1.1.1.1,hh.1.1.1.1.1.2,hh.1.1.1.1.2⟩
theorem chkP_no2 {n : Int} {l : List EqR} {p : PrM} (h : ¬(fokB p.bnd = true ∧ p.wts.all fokB = true)) : chkP n l p = false:=by
 rw [← Bool.not_eq_true]
 intro hh
 unfold chkP at hh
 simp only [Bool.and_eq_true] at hh
 exact h ⟨hh.1.1.1.2,hh.1.1.2⟩
theorem chkP_mid {n : Int} {l : List EqR} {p : PrM} (h1 : 1 ≤ n ∧ n ≤ 10) (h2 : validB n l = true) (h3 : 0 ≤ p.cell ∧ p.cell < n ∧ (p.pts.length : Int) = n ∧ p.wts.length = l.length) (h4 : fokB p.bnd = true) (h5 : p.wts.all fokB = true) :
  chkP n l p = (p.pts.all posB && l.all (eqnB (p.pts.map toR)) && decide ((p.pts.map toR).getD p.cell.toNat default = toR p.bnd) && weighB l (p.wts.map toR) (toR p.bnd) && (List.range n.toNat).all (exclB l (p.wts.map toR) p.cell p.up)):=by
 unfold chkP restB
 rw [decide_eq_true h1,h2,decide_eq_true h3,h4,h5]
 simp only [Bool.true_and,Bool.and_assoc]
theorem bCheck_spec (n : Int) (A : Option Addr) (c : Nat) (l : List EqR) (p : PrM) (I : PH) (hl : Eqs I A c l) (hp : PrIn I p) (hT : TabI I) :
  FnSpec Tryz.prog 14 [.int .i64 n,.slice A l.length c,p.V] I [] (fun v R' => v = .bool (chkP n l p) ∧ R' = []):=by
 have hlen:=hl.len
 have hpl:=hp.pts.len
 have hwl:=hp.wts.len
 have hV:=Valid_spec n A c l I hl
 have hFb:=bValid_raw p.bnd hp.bnd I
 have hCw:=ContainsFuncY_spec 45 (by kernel_rfl) (fun x => !fokB x) p.Aw p.cw p.wts I hp.wts (fun x hx => badw_spec x (hp.wn x hx) I)
 rw [any_not] at hCw
 obtain ⟨cell,up,⟨bn,bd⟩,Ap,cp,pts,Aw,cw,wts⟩:=p
 dsimp only at hpl hwl hFb hCw
 dsimp only [PrM.V]
 refine FnSpec.enterP Tryz.func14 rfl Tryz.ntmps14 rfl fun w F => ?_
 by_cases h1 : 1 ≤ n
 case neg =>
  rw [chkP_no1 fun h => h1 h.1.1]
  repeat' first | refine kS ?_ | refine kB fun bx => ?_ | refine kA fun A2 c2 => ?_ | refine kX (fun hc => ?_) fun hc => ?_ | fail
  exact kT
 by_cases h2 : n ≤ 10
 case neg =>
  rw [chkP_no1 fun h => h2 h.1.2]
  repeat' first | refine kS ?_ | refine kB fun bx => ?_ | refine kA fun A2 c2 => ?_ | refine kX (fun hc => ?_) fun hc => ?_ | fail
  exact kT
 cases hv : validB n l with
 | false =>
  rw [hv] at hV
  rw [chkP_no1 fun h => by rw [hv] at h; cases h.2.1]
  repeat' first | refine kW ?_ | (refine Nx.zo ?_; first | refine kP ?_ | refine kV hV ?_) | refine kS ?_ | refine kB fun bx => ?_ | refine kA fun A2 c2 => ?_ | refine kX (fun hc => ?_) fun hc => ?_ | fail
  exact kT
 | true =>
 rw [hv] at hV
 by_cases h3 : 0 ≤ cell
 case neg =>
  rw [chkP_no1 fun h => h3 h.2.2.1]
  repeat' first | refine kW ?_ | (refine Nx.zo ?_; first | refine kP ?_ | refine kV hV ?_) | refine kS ?_ | refine kB fun bx => ?_ | refine kA fun A2 c2 => ?_ | refine kX (fun hc => ?_) fun hc => ?_ | fail
  exact kT
 by_cases h4 : cell < n
 case neg =>
  rw [chkP_no1 fun h => h4 h.2.2.2.1]
  repeat' first | refine kW ?_ | (refine Nx.zo ?_; first | refine kP ?_ | refine kV hV ?_) | refine kS ?_ | refine kB fun bx => ?_ | refine kA fun A2 c2 => ?_ | refine kX (fun hc => ?_) fun hc => ?_ | fail
  exact kT
 by_cases h5 : (pts.length : Int) = n
 case neg =>
  rw [chkP_no1 fun h => h5 h.2.2.2.2.1]
  repeat' first | refine kW ?_ | (refine Nx.zo ?_; first | refine kP ?_ | refine kV hV ?_) | refine kS ?_ | refine kB fun bx => ?_ | refine kA fun A2 c2 => ?_ | refine kX (fun hc => ?_) fun hc => ?_ | fail
  exact kT
 by_cases h6 : (wts.length : Int) = l.length
 case neg =>
  rw [chkP_no1 fun h => h6 (by have:=h.2.2.2.2.2; dsimp only at this; omega)]
  repeat' first | refine kW ?_ | (refine Nx.zo ?_; first | refine kP ?_ | refine kV hV ?_) | refine kS ?_ | refine kB fun bx => ?_ | refine kA fun A2 c2 => ?_ | refine kX (fun hc => ?_) fun hc => ?_ | fail
  exact kT
 cases h7 : fokB (bn,bd) with
 | false =>
  rw [h7] at hFb
  rw [chkP_no2 fun h => by rw [show fokB _ = false from h7] at h; cases h.1]
  repeat' first | refine kW ?_ | (refine Nx.zo ?_; first | refine kP ?_ | refine kV hV ?_ | refine Nx.loads rfl rfl rfl rfl (Rds.cut 0 2 rfl rfl) rfl ?_ | refine kV hFb ?_) | refine kS ?_ | refine kB fun bx => ?_ | refine kA fun A2 c2 => ?_ | refine kX (fun hc => ?_) fun hc => ?_ | fail
  exact kT
 | true =>
 rw [h7] at hFb
 cases h8 : wts.all fokB with
 | false =>
  rw [h8] at hCw
  rw [chkP_no2 fun h => by rw [show wts.all fokB = false from h8] at h; cases h.2]
  repeat' first | refine kW ?_ | (refine Nx.zo ?_; first | refine kP ?_ | refine kV hV ?_ | refine Nx.loads rfl rfl rfl rfl (Rds.cut 0 2 rfl rfl) rfl ?_ | refine kV hFb ?_ | refine kV hCw ?_) | refine kS ?_ | refine kB fun bx => ?_ | refine kA fun A2 c2 => ?_ | refine kX (fun hc => ?_) fun hc => ?_ | fail
  exact kT
 | true =>
 rw [h8] at hCw
 rw [chkP_mid ⟨h1,h2⟩ hv ⟨h3,h4,h5,by dsimp only; omega⟩ h7 h8]
 obtain ⟨b,hb,hbR⟩:=fok_ex h7
 obtain ⟨rfl,rfl⟩ : bn = b.num ∧ bd = b.den:=⟨congrArg Prod.fst hb,congrArg Prod.snd hb⟩
 obtain ⟨W,rfl,hW⟩:=fok_all h8
 obtain ⟨N,rfl⟩ : ∃ N : Nat,n = (N : Int):=⟨n.toNat,by omega⟩
 obtain ⟨K,rfl⟩ : ∃ K : Nat,cell = (K : Int):=⟨cell.toNat,by omega⟩
 have hg:=(valid_good hv).2.2
 have hll:=(valid_good hv).2.1
 have hSt:=satisfies_spec N A c l Ap cp pts I (by omega) hl (by rw [nCt] at hg; exact hg) hp.pts (by omega) hp.pn hT
 have hWR:=hp.wts.rats
 dsimp only at hWR ⊢
 rw [toR_all,show toR (b.num,(b.den : Int)) = b from toR_raw b,nCt,nCt]
 rw [lMp] at h6 hCw ⊢
 have h6' : W.length = l.length:=by omega
 have hWe:=weighs_spec N A c l (K : Int) up b Ap pts.length cp Aw cw W I (by omega) hl (by rw [nCt] at hg; exact hg) hWR h6' hW hT
 have hEx:=excludes_spec N A c l (K : Int) up b Ap pts.length cp Aw cw W I (by omega) (by omega) hl hWR h6' hW hT
 rw [h6']
 rw [h6'] at hCw
 cases hsv : (pts.all posB && l.all (eqnB (pts.map toR))) with
 | false =>
  rw [hsv] at hSt
  rw [Bool.false_and,Bool.false_and,Bool.false_and]
  repeat' first | ((with_reducible refine Nx.is_wp ?_); first | refine Nx.wo ?_ | refine kF 5 [0,1,2,3,4,5,6,7,8,9,10,11,12,13,14,15,16,17,18,19,20,21,22,23] [3,18] [24,25,26] ?_) | (refine Nx.zo ?_; first | refine kP ?_ | refine kV hV ?_ | refine Nx.loads rfl rfl rfl rfl (Rds.cut 0 2 rfl rfl) rfl ?_ | refine kV hFb ?_ | refine kV hCw ?_ | refine kV hSt ?_) | refine kS ?_ | refine kB fun bx => ?_ | refine kA fun A2 c2 => ?_ | refine kX (fun hc => ?_) fun hc => ?_ | fail
  exact kT
 | true =>
 rw [hsv] at hSt
 rw [Bool.true_and]
 rw [Bool.and_eq_true] at hsv
 obtain ⟨X,rfl,hX⟩:=fok_all (pos_all hsv.1)
 have hPX:=hp.pts.rats
 dsimp only at hPX
 rw [toR_all]
 rw [lMp] at h5 hWe hEx hSt ⊢
 have hKX : K < X.length:=by omega
 have hrx : ∀ (W' : World) (R : List Res),Rds W' I R ((ad Ap).add (K * 2)) (ratC (X.getD K default)):=fun W' R => hPX.rds hKX
 have hAp:=hPX.isSome (by omega) (by omega)
 generalize X.getD K default = y at hrx
 by_cases hy : y = b
 case neg =>
  have hE:=fun {x y' : Operand} (w : World) => eql_fracK (x:=x) (y:=y') y.num y.den b.num b.den false (decide_eq_false fun hh => hy (rat_eq_iff.1 hh)) w
  rw [decide_eq_false hy,Bool.false_and,Bool.false_and]
  repeat' first | ((with_reducible refine Nx.is_wp ?_); first | refine Nx.wo ?_ | refine kF 5 [0,1,2,3,4,5,6,7,8,9,10,11,12,13,14,15,16,17,18,19,20,21,22,23] [3,18] [24,25,26] ?_) | (refine Nx.zo ?_; first | refine kP ?_ | refine kV hV ?_ | refine Nx.loads rfl rfl rfl rfl (Rds.cut 0 2 rfl rfl) rfl ?_ | refine kV hFb ?_ | refine kV hCw ?_ | refine kV hSt ?_) | refine kS ?_ | refine kB fun bx => ?_ | refine kA fun A2 c2 => ?_ | ((with_reducible refine Nx.is_mix ?_); refine kQ rfl rfl rfl rfl (by first | exact .inl rfl | exact .inr ⟨_,_,_,rfl,rfl,rfl⟩) (by first | exact QRun.opr rfl | exact QRun.idx (A:=Ap) (i:=K) (sz:=2) rfl rfl rfl rfl hKX hAp | exact QRun.loads rfl rfl rfl (hrx _ _) rfl | exact QRun.loads rfl rfl rfl (Rds.cut 0 2 rfl rfl) rfl | exact QRun.binr rfl rfl hE) ?_) | refine kX (fun hc => ?_) fun hc => ?_ | fail
  exact kT
 have hE:=fun {x y' : Operand} (w : World) => eql_fracK (x:=x) (y:=y') y.num y.den b.num b.den true (decide_eq_true (rat_eq_iff.2 hy)) w
 rw [decide_eq_true hy,Bool.true_and]
 cases hwv : weighB l W b with
 | false =>
  rw [hwv] at hWe
  rw [Bool.false_and]
  repeat' first | ((with_reducible refine Nx.is_wp ?_); first | refine Nx.wo ?_ | refine kF 5 [0,1,2,3,4,5,6,7,8,9,10,11,12,13,14,15,16,17,18,19,20,21,22,23] [3,18] [24,25,26] ?_) | (refine Nx.zo ?_; first | refine kP ?_ | refine kV hV ?_ | refine Nx.loads rfl rfl rfl rfl (Rds.cut 0 2 rfl rfl) rfl ?_ | refine kV hFb ?_ | refine kV hCw ?_ | refine kV hSt ?_ | refine kV hWe ?_) | refine kS ?_ | refine kB fun bx => ?_ | refine kA fun A2 c2 => ?_ | ((with_reducible refine Nx.is_mix ?_); refine kQ rfl rfl rfl rfl (by first | exact .inl rfl | exact .inr ⟨_,_,_,rfl,rfl,rfl⟩) (by first | exact QRun.opr rfl | exact QRun.idx (A:=Ap) (i:=K) (sz:=2) rfl rfl rfl rfl hKX hAp | exact QRun.loads rfl rfl rfl (hrx _ _) rfl | exact QRun.loads rfl rfl rfl (Rds.cut 0 2 rfl rfl) rfl | exact QRun.binr rfl rfl hE | exact QRun.loads rfl rfl rfl (Rds.cut 0 6 rfl rfl) rfl) ?_) | refine kX (fun hc => ?_) fun hc => ?_ | fail
  exact kT
 | true =>
 rw [hwv] at hWe
 rw [Bool.true_and]
 generalize (List.range N).all (exclB l W (K : Int) up) = ev at hEx
 repeat' first | ((with_reducible refine Nx.is_wp ?_); first | refine Nx.wo ?_ | refine kF 5 [0,1,2,3,4,5,6,7,8,9,10,11,12,13,14,15,16,17,18,19,20,21,22,23] [3,18] [24,25,26] ?_) | (refine Nx.zo ?_; first | refine kP ?_ | refine kV hV ?_ | refine Nx.loads rfl rfl rfl rfl (Rds.cut 0 2 rfl rfl) rfl ?_ | refine kV hFb ?_ | refine kV hCw ?_ | refine kV hSt ?_ | refine kV hWe ?_ | refine kV hEx ?_) | refine kS ?_ | refine kB fun bx => ?_ | refine kA fun A2 c2 => ?_ | ((with_reducible refine Nx.is_mix ?_); refine kQ rfl rfl rfl rfl (by first | exact .inl rfl | exact .inr ⟨_,_,_,rfl,rfl,rfl⟩) (by first | exact QRun.opr rfl | exact QRun.idx (A:=Ap) (i:=K) (sz:=2) rfl rfl rfl rfl hKX hAp | exact QRun.loads rfl rfl rfl (hrx _ _) rfl | exact QRun.loads rfl rfl rfl (Rds.cut 0 2 rfl rfl) rfl | exact QRun.binr rfl rfl hE | exact QRun.loads rfl rfl rfl (Rds.cut 0 6 rfl rfl) rfl) ?_) | refine kX (fun hc => ?_) fun hc => ?_ | fail
 exact kT
attribute [local irreducible] wpFork
abbrev IvR:=Rat × Rat × Bool
def ivC (x : IvR) : List Value:=[.int .i64 x.1.num,.int .i64 x.1.den,.int .i64 x.2.1.num,.int .i64 x.2.1.den,.bool x.2.2]
def Unb (q : Bl.Eqs) (k : Nat) : Prop:=∀ j,j < q.m → q.cell j k = false
structure IvOk (q : Bl.Eqs) (k : Nat) (x : IvR) : Prop where
 rlow : RB x.1
 rhigh : RB x.2.1
 low : Bl.IsOpt q k false x.1
 opn : x.2.2 = true ↔ Unb q k
 top : x.2.2 = true → x.2.1 = 0
 high : x.2.2 = false → Bl.IsOpt q k true x.2.1
theorem bounds11 (w : World) (Q : Exit → Act → World → Prop) (hQ : PanicOk Q) (RR : List Res) (b9 : Nat) (n : Int) (v1 v7 v8 v19 v20 pv wv : Value) (cell : Int) (up : Bool) (x : Rat) (I : PH)
  (h : ∀ b11,Nx ⟨Tryz.prog,59,w⟩ [(0,.int .i64 n),(1,v1),(7,v7),(8,v8),(11,.pointer (some ⟨b11,0,none⟩)),(19,v19),(20,v20)] I
   (Blk b11 50 [.int .i64 x.num,.int .i64 x.den,.int .i64 0,.int .i64 1,.bool false] :: Blk b9 27 [.int .i64 cell,.bool up,.int .i64 x.num,.int .i64 x.den,pv,wv] :: RR) (Q .normal)) :
  Nx ⟨Tryz.prog,59,w⟩ [(0,.int .i64 n),(1,v1),(7,v7),(8,v8),(9,.pointer (some ⟨b9,0,none⟩)),(19,v19),(20,v20)] I
   (Blk b9 27 [.int .i64 cell,.bool up,.int .i64 x.num,.int .i64 x.den,pv,wv] :: RR) (Code.wp Tryz.prog (cl (cr (cr (cr (cl (cl (cr (cr (cl (cl (cr (cl (cr (cr (cr (bodyOf Tryz.f17)))))))))))))))) Q):=by
 have hW0 : FnSpec Tryz.prog 56 [.int .i64 0] I [] (fun v R' => v = .agg #[.int .i64 0,.int .i64 1] ∧ R' = []):=bwhole_spec 0 I
 refine Nx.p_fork (id:=11) rfl [0,1] [5] [2,3,4,5] [Blk b9 27 [.int .i64 cell,.bool up,.int .i64 x.num,.int .i64 x.den,pv,wv]] 4 rfl rfl (by kernel_rfl) (by kernel_rfl) (by kernel_rfl) hQ (by exact zE) ?_
 repeat' first | ((with_reducible refine Nx.is_wp ?_); first | refine Nx.wo ?_ | refine Nx.p_poolF (id:=11) rfl [0,1,2,3] [2] [] [5] [5] [⟨4,11,50,_⟩] rfl rfl (by kernel_rfl) (by kernel_rfl) (by decide) (PoolFit.cons ⟨⟨_,_,_,rfl⟩,rfl,rfl⟩ PoolFit.nil) PanicOk.auto (Ent.eraseK 0 _) ?_) | ((first | refine Nx.at_op rfl rfl ?_ | refine Nx.m_loud rfl rfl rfl ?_ | refine Nx.at_do rfl rfl rfl rfl ?_ | refine Nx.m_loud_do rfl rfl rfl rfl rfl ?_ | refine GoodF.loud_ rfl rfl rfl rfl (fun ex X => ?_)); first | refine kP ?_ | refine Nx.loads rfl rfl rfl rfl (Rds.cut 0 2 rfl rfl) rfl ?_) | refine kS ?_ | refine kB fun bx => ?_ | refine kA fun A2 c2 => ?_ | ((with_reducible refine Nx.is_mix ?_); refine kQ rfl rfl rfl rfl (by first | exact .inl rfl | exact .inr ⟨_,_,_,rfl,rfl,rfl⟩) (by first | exact QRun.opr rfl | exact QRun.loads rfl rfl rfl (Rds.cut 0 2 rfl rfl) rfl) ?_) | ((with_reducible refine GoodF.is ?_); first | refine GoodF.quiet rfl rfl rfl rfl rfl rfl (by first | exact QRun.opr rfl | exact QRun.loads rfl rfl rfl (Rds.cut 0 2 rfl rfl) rfl |  exact QRun.std) ?_ | refine GoodF.done1 rfl (fun bx => ?_) | refine GoodF.done2 rfl (fun bx by_ => ?_) | refine GoodF.done3 rfl (fun bx by_ bz => ?_)) | refine kX (fun hc => ?_) fun hc => ?_ | fail | ((fail_if_success (with_reducible refine Nx.is_at ?_)); (fail_if_success (with_reducible refine Nx.is_wp ?_)); (fail_if_success (with_reducible refine Nx.is_mix ?_)); first | refine Nx.ex ?_ | refine Nx.pool_nextF 0 rfl (by exact zE) ?_ | refine Nx.pool_nextF 1 rfl (by exact zE) ?_ | refine Nx.pool_nextF 2 rfl (by exact zE) ?_ | refine Nx.pool_nextF 3 rfl (by exact zE) ?_)
 refine Nx.fork2 (i:=2) (j:=4) (by kernel_rfl) rfl rfl rfl rfl ?_ ?_
 ·refine kV hW0 ?_
  refine Nx.mix_S (by exact zE) ?_
  refine Nx.fork2 (i:=3) (j:=4) (by kernel_rfl) rfl rfl rfl rfl ?_ ?_
  ·refine Nx.so ?_
   refine Nx.mix_S (by exact zE) ?_
   refine Nx.fork1 (i:=4) (by kernel_rfl) rfl rfl ?_
   refine Nx.sb (fun b11 => ?_)
   refine Nx.mix_S (by exact zE) ?_
   refine Nx.fork_fin (by kernel_rfl) rfl ?_
   repeat' first | refine kS ?_ | refine kB fun bx => ?_ | refine kA fun A2 c2 => ?_ | refine kX (fun hc => ?_) fun hc => ?_ | fail
   exact Nx.weak (by exact zR) (by exact zE) (h b11)
  ·refine Nx.sb (fun b11 => ?_)
   refine Nx.mix_S (by exact zE) ?_
   refine Nx.fork1 (i:=3) (by kernel_rfl) rfl rfl ?_
   refine Nx.so ?_
   refine Nx.mix_S (by exact zE) ?_
   refine Nx.fork_fin (by kernel_rfl) rfl ?_
   repeat' first | refine kS ?_ | refine kB fun bx => ?_ | refine kA fun A2 c2 => ?_ | refine kX (fun hc => ?_) fun hc => ?_ | fail
   exact Nx.weak (by exact zR) (by exact zE) (h b11)
 ·refine Nx.sb (fun b11 => ?_)
  refine Nx.mix_S (by exact zE) ?_
  refine Nx.fork1 (i:=2) (by kernel_rfl) rfl rfl ?_
  refine kV hW0 ?_
  refine Nx.mix_S (by exact zE) ?_
  refine Nx.fork1 (i:=3) (by kernel_rfl) rfl rfl ?_
  refine Nx.so ?_
  refine Nx.mix_S (by exact zE) ?_
  refine Nx.fork_fin (by kernel_rfl) rfl ?_
  repeat' first | refine kS ?_ | refine kB fun bx => ?_ | refine kA fun A2 c2 => ?_ | refine kX (fun hc => ?_) fun hc => ?_ | fail
  exact Nx.weak (by exact zR) (by exact zE) (h b11)
theorem bBounds_spec (n : Int) (A : Option Addr) (c : Nat) (l : List EqR) (I : PH) (hl : Eqs I A c l) (hT : TabI I) :
  FnSpec Tryz.prog 17 [.int .i64 n,.slice A l.length c] I []
   (fun v R' => (chkB n l 0 ≠ 0 → v = .tuple #[.slice none 0 0,.int .i64 (chkB n l 0)] ∧ R' = []) ∧ (chkB n l 0 = 0 →
    ((¬∃ x,Bl.Feas (toQ n.toNat l) x) ∧ v = .tuple #[.slice none 0 0,.int .i64 52] ∧ R' = []) ∨
    ((∃ x,Bl.Feas (toQ n.toNat l) x) ∧ ∃ (A' : Option Addr) (c' : Nat) (L : List IvR),L.length = n.toNat ∧ (∀ k,k < n.toNat → IvOk (toQ n.toNat l) k (L.getD k default)) ∧
     v = .tuple #[.slice A' L.length c',.int .i64 0] ∧ R' = [Vec 50 5 A' L.length c' (L.flatMap ivC)]))):=by
 have hlen:=hl.len
 have hC:=bcheck_spec n A c l 0 I hl
 refine FnSpec.enterP Tryz.func17 rfl Tryz.ntmps17 rfl fun w F => ?_
 by_cases h0 : chkB n l 0 = 0
 case neg =>
  generalize chkB n l 0 = e at hC h0 ⊢
  repeat' first | refine kW ?_ | (refine Nx.zo ?_; first | refine kP ?_ | refine kV hC ?_) | refine kS ?_ | refine kB fun bx => ?_ | refine kA fun A2 c2 => ?_ | refine kX (fun hc => ?_) fun hc => ?_ | fail
  exact Nx.ret_fn rfl [] ⟨fun _ => ⟨rfl,rfl⟩,fun h => absurd h h0⟩ (by exact zE)
 obtain ⟨hb,_,h1⟩:=chkB_ok h0
 rw [h0] at hC ⊢
 obtain ⟨N,rfl⟩ : ∃ N : Nat,n = (N : Int):=⟨n.toNat,by omega⟩
 rw [nCt] at hb ⊢
 have hN:=hb.cnt
 have hP:=fun (k : Nat) (hk : k < N) (up : Bool) => bprove_spec N A c l k up I hl hb hk hT
 repeat' first | refine kW ?_ | (refine Nx.zo ?_; first | refine kP ?_ | refine kV hC ?_) | refine kS ?_ | refine kB fun bx => ?_ | refine kA fun A2 c2 => ?_ | refine kX (fun hc => ?_) fun hc => ?_ | fail
 refine Nx.p_loop (σ:=Nat × (Option Addr × Nat) × List IvR) (fun z => [(0,.int .i64 (N : Int)),(1,.slice A l.length c),(7,.slice z.2.1.1 z.2.2.length z.2.1.2),(19,.int .i64 (N : Int)),(20,.int .i64 (z.1 : Int))])
  (fun z => [Vec 50 5 z.2.1.1 z.2.2.length z.2.1.2 (z.2.2.flatMap ivC),F]) (fun z => z.1 ≤ N ∧ z.2.2.length = z.1 ∧ (∀ k,k < z.1 → IvOk (toQ N l) k (z.2.2.getD k default)) ∧ (0 < z.1 → ∃ x,Bl.Feas (toQ N l) x)) (fun z => N - z.1) (0,(none,0),[]) rfl ⟨nZl _,rfl,fun k hk => absurd hk (Nat.not_lt_zero _),fun hk => absurd hk (Nat.lt_irrefl _)⟩ zR ((Ent.vec_nil 50 5 _).trans (by exact zE)) ?_
 rintro ⟨k,⟨Ao,co⟩,L⟩ ⟨hk,hL,hok,hfe⟩
 dsimp only at hk hL hok hfe ⊢
 by_cases hkN : k < N
 case neg =>
  obtain rfl : k = N:=by omega
  repeat' first | refine kS ?_ | refine kB fun bx => ?_ | refine kA fun A2 c2 => ?_ | refine kX (fun hc => ?_) fun hc => ?_ | fail
  exact Nx.ret_fn rfl [_] ⟨fun h => absurd rfl h,fun _ => .inr ⟨hfe (by omega),Ao,co,L,hL,hok,rfl,rfl⟩⟩ (by exact zE)
 have hP0:=hP k hkN false
 have hP1:=hP k hkN true
 repeat' first | ((with_reducible refine Nx.is_wp ?_); first | refine Nx.p_stopr 11 rfl ?_ | refine Nx.wo ?_) | (refine Nx.zo ?_; first | refine kP ?_ | (refine Nx.call rfl rfl rfl (by kernel_rfl) rfl hP0 (by exact zE) ?_; rintro v R' (⟨hf,rfl,rfl⟩ | ⟨hf,⟨⟨⟩,_⟩,rfl,rfl⟩ | ⟨hf,hu,x,w',D,b',A',c',g1,g2,g3,rfl,rfl⟩))) | refine kS ?_ | refine kB fun bx => ?_ | refine kA fun A2 c2 => ?_ | refine kX (fun hc => ?_) fun hc => ?_ | fail
 ·exact Nx.ret_fn rfl [] ⟨fun h => absurd rfl h,fun _ => .inl ⟨hf,rfl,rfl⟩⟩ (by exact zE)
 refine Nx.p_go rfl ?_
 revert bx; intro b9
 have hkq : k < (toQ N l).cnt:=hkN
 have hR1 : RB (x k):=by
  obtain ⟨p,e1,e2⟩:=g2.pnt k hkq
  have:=g2.le
  exact Bl.rb_of g2.ne e1 (by omega) (by omega)
 obtain ⟨xl,hxl⟩ : ∃ xl,xl = x k:=⟨_,rfl⟩
 rw [← hxl] at hR1 g3 ⊢
 refine Nx.weak (by exact zR) ?_ (bounds11 w _ PanicOk.auto [Vec 50 5 Ao L.length co (L.flatMap ivC),F] b9 (N : Int) (.slice A l.length c) (.slice Ao L.length co) (.int .i64 (k : Int)) (.int .i64 (N : Int)) (.int .i64 (k : Int)) (.slice (some ⟨b',0,none⟩) (toQ N l).cnt (toQ N l).cnt) (.slice A' (toQ N l).m c') (k : Int) false xl I fun b11 => ?_)
 ·(exact zE)
 have hlast : ∀ y : IvR,IvOk (toQ N l) k y → ∀ j,j < k + 1 → IvOk (toQ N l) j ((L ++ [y]).getD j default):=fun y hy j hj => by
  rw [gEl]
  by_cases hjk : j < k
  ·rw [List.getElem?_append_left (by omega),← gEl]
   exact hok j hjk
  ·obtain rfl : j = L.length:=by omega
   rw [List.getElem?_append_right (nLr _),Nat.sub_self,hL]
   exact hy
 have hfl : ∀ y : IvR,(L ++ [y]).flatMap ivC = L.flatMap ivC ++ [.int .i64 y.1.num,.int .i64 y.1.den,.int .i64 y.2.1.num,.int .i64 y.2.1.den,.bool y.2.2]:=fun y => by rw [List.flatMap_append,List.flatMap_cons,List.flatMap_nil,List.append_nil]; rfl
 have hle2 : (L.length : Int) + 1 ≤ 100:=by omega
 repeat' first | refine kW ?_ | (refine Nx.zo ?_; first | refine kP ?_ | (refine Nx.call rfl rfl rfl (by kernel_rfl) rfl hP1 (by exact zE) ?_; rintro v R' (⟨hf2,rfl,rfl⟩ | ⟨hf2,⟨_,hu2⟩,rfl,rfl⟩ | ⟨hf2,hu2,x2,w2,D2,b2',A2',c2',k1,k2,k3,rfl,rfl⟩)) | refine Nx.loads rfl rfl rfl rfl (Rds.cut 1 2 rfl rfl) rfl ?_ | refine Nx.append_lit 5 rfl rfl rfl rfl (by kernel_rfl) rfl rfl rfl rfl (by omega) (fun A2 c2 => ?_)) | refine kS ?_ | refine kB fun bx => ?_ | refine kA fun A2 c2 => ?_ | refine kX (fun hc => ?_) fun hc => ?_ | fail
 ·exact absurd hf hf2
 ·refine Nx.again (k + 1,(A2,c2),L ++ [(xl,0,true)]) ⟨hkN,by rw [lAp,hL]; rfl,hlast _ ⟨hR1,(show RB (0 : Rat) from ⟨by decide,by decide⟩),g3,⟨fun _ => hu2,fun _ => rfl⟩,fun _ => rfl,fun h => by cases h⟩,fun _ => hf⟩ (by dsimp only; omega) ⟨rfl,rfl,by dsimp only; rw [lAp]; rfl,rfl,rfl,trivial⟩ (by dsimp only; rw [hfl,lAp]; (exact zE))
 have hR2 : RB (x2 k):=by
  obtain ⟨p,e1,e2⟩:=k2.pnt k hkq
  have:=k2.le
  exact Bl.rb_of k2.ne e1 (by omega) (by omega)
 obtain ⟨xh,hxh⟩ : ∃ xh,xh = x2 k:=⟨_,rfl⟩
 rw [← hxh] at hR2 k3 ⊢
 have hnu : ¬ Unb (toQ N l) k:=fun h => hu2 ⟨rfl,h⟩
 exact Nx.again (k + 1,(A2,c2),L ++ [(xl,xh,false)]) ⟨hkN,by rw [lAp,hL]; rfl,hlast _ ⟨hR1,hR2,g3,⟨fun h => (by cases h),fun h => absurd h hnu⟩,fun h => (by cases h),fun _ => k3⟩,fun _ => hf⟩ (by dsimp only; omega) ⟨rfl,rfl,by dsimp only; rw [lAp]; rfl,rfl,rfl,trivial⟩ (by dsimp only; rw [hfl,lAp]; (exact zE))
end Go.Proofs.YtpcnapidlhpbkaaGreatDoor
namespace Go.Proofs.YtpcnapidlhpbkaaGreatDoor
open Go.Eng Go.Sol
attribute [local irreducible] opK wpList Code.wp Exit.then Exit.inBlock fnPost bodyPost Nx Calls Oper.wp Rd Rds Wr Ent Stars Blk Again Vec FnSpec wpMix QRun Stop Upto wpAt
theorem Space_spec8 (b : Nat) (A : Option Addr) (c : Nat) (l : List Int) (k : Nat) (I : PH) (hl : SliceOf (fun x : Int => Value.int .u8 x) I A c l) (hx : ∀ x ∈ l,0 ≤ x ∧ x < 256) (hk : k ≤ l.length) :
  FnSpec Tryz.prog 62 [.pointer (some ⟨b,0,none⟩)] I [Blk b 83 [.slice A l.length c,.int .i64 (k : Int)]]
   (fun v R' => ∃ (B : Option Addr) (c' : Nat) (s : List Int) (k' : Nat),v = .agg #[.slice B s.length c'] ∧ (Sizes s ∧ prod s ≤ 8) ∧ k' ≤ l.length ∧ R' = [Vec 3 1 B s.length c' (s.map (Value.int .i64)),Blk b 83 [.slice A l.length c,.int .i64 (k' : Int)]]):=by
 refine FnSpec.enterP Tryz.func62 rfl Tryz.ntmps62 rfl fun w F => ?_
 repeat' first | refine kS ?_ | refine kB fun bx => ?_ | refine kA fun A2 c2 => ?_ | refine kX (fun hc => ?_) fun hc => ?_ | fail
 refine Nx.pull 11 rfl ?_
 refine Nx.at_op rfl rfl ?_
 refine Nx.call rfl rfl rfl (by kernel_rfl) rfl (Next_spec b A c l k 9 I hl hx hk (by omega)) (Ent.refl _) ?_
 rintro v R' ⟨r,k',rfl,hr,hk',rfl⟩
 have hr9 : r = 0 ∨ r = 1 ∨ r = 2 ∨ r = 3 ∨ r = 4 ∨ r = 5 ∨ r = 6 ∨ r = 7 ∨ r = 8:=by omega
 rcases hr9 with rfl | rfl | rfl | rfl | rfl | rfl | rfl | rfl | rfl
 all_goals repeat' first | refine kW ?_ | (refine Nx.zo ?_; first | refine kP ?_ | refine Nx.indexAddr rfl rfl rfl rfl rfl (by decide) (by decide) rfl ?_) | refine kS ?_ | refine kB fun bx => ?_ | refine kA fun A2 c2 => ?_ | refine kX (fun hc => ?_) fun hc => ?_ | fail
 all_goals refine Nx.blk_vec 0 0 1 rfl rfl (by omega) ?_
 all_goals first
  | (refine Nx.pull 11 rfl ?_; refine Nx.at_op rfl rfl ?_; refine Nx.append_lit 0 rfl rfl rfl rfl (by kernel_rfl) rfl rfl rfl rfl (by omega) (fun A2 c2 => ?_))
  | (refine Nx.pull 10 rfl ?_; refine Nx.at_op rfl rfl ?_; refine Nx.append_lit 0 rfl rfl rfl rfl (by kernel_rfl) rfl rfl rfl rfl (by omega) (fun A2 c2 => ?_))
  | (refine Nx.pull 9 rfl ?_; refine Nx.at_op rfl rfl ?_; refine Nx.append_lit 0 rfl rfl rfl rfl (by kernel_rfl) rfl rfl rfl rfl (by omega) (fun A2 c2 => ?_))
  | (refine Nx.pull 8 rfl ?_; refine Nx.at_op rfl rfl ?_; refine Nx.append_lit 0 rfl rfl rfl rfl (by kernel_rfl) rfl rfl rfl rfl (by omega) (fun A2 c2 => ?_))
  | (refine Nx.pull 7 rfl ?_; refine Nx.at_op rfl rfl ?_; refine Nx.append_lit 0 rfl rfl rfl rfl (by kernel_rfl) rfl rfl rfl rfl (by omega) (fun A2 c2 => ?_))
  | (refine Nx.pull 6 rfl ?_; refine Nx.at_op rfl rfl ?_; refine Nx.append_lit 0 rfl rfl rfl rfl (by kernel_rfl) rfl rfl rfl rfl (by omega) (fun A2 c2 => ?_))
  | (refine Nx.pull 5 rfl ?_; refine Nx.at_op rfl rfl ?_; refine Nx.append_lit 0 rfl rfl rfl rfl (by kernel_rfl) rfl rfl rfl rfl (by omega) (fun A2 c2 => ?_))
  | (refine Nx.pull 4 rfl ?_; refine Nx.at_op rfl rfl ?_; refine Nx.append_lit 0 rfl rfl rfl rfl (by kernel_rfl) rfl rfl rfl rfl (by omega) (fun A2 c2 => ?_))
  | (refine Nx.pull 3 rfl ?_; refine Nx.at_op rfl rfl ?_; refine Nx.append_lit 0 rfl rfl rfl rfl (by kernel_rfl) rfl rfl rfl rfl (by omega) (fun A2 c2 => ?_))
 all_goals refine Nx.pull 11 rfl ?_
 all_goals repeat' first | refine kS ?_ | refine kB fun bx => ?_ | refine kA fun A2 c2 => ?_ | refine kX (fun hc => ?_) fun hc => ?_ | fail
 all_goals first
  | (refine Nx.ret_cell 0 rfl rfl rfl rfl rfl rfl [Vec 3 1 _ (0 + 1) _ ([] ++ [.int .i64 2]),_] ⟨_,_,[2],k',rfl,⟨⟨by decide,by decide,by decide⟩,by decide⟩,hk',rfl⟩ ?_; refine Ent.pick 1 rfl ?_)
  | (refine Nx.ret_cell 0 rfl rfl rfl rfl rfl rfl [Vec 3 1 _ (0 + 1) _ ([] ++ [.int .i64 3]),_] ⟨_,_,[3],k',rfl,⟨⟨by decide,by decide,by decide⟩,by decide⟩,hk',rfl⟩ ?_; refine Ent.pick 1 rfl ?_)
  | (refine Nx.ret_cell 0 rfl rfl rfl rfl rfl rfl [Vec 3 1 _ (0 + 2) _ ([] ++ [.int .i64 2,.int .i64 2]),_] ⟨_,_,[2,2],k',rfl,⟨⟨by decide,by decide,by decide⟩,by decide⟩,hk',rfl⟩ ?_; refine Ent.pick 1 rfl ?_)
  | (refine Nx.ret_cell 0 rfl rfl rfl rfl rfl rfl [Vec 3 1 _ (0 + 2) _ ([] ++ [.int .i64 2,.int .i64 3]),_] ⟨_,_,[2,3],k',rfl,⟨⟨by decide,by decide,by decide⟩,by decide⟩,hk',rfl⟩ ?_; refine Ent.pick 1 rfl ?_)
  | (refine Nx.ret_cell 0 rfl rfl rfl rfl rfl rfl [Vec 3 1 _ (0 + 1) _ ([] ++ [.int .i64 4]),_] ⟨_,_,[4],k',rfl,⟨⟨by decide,by decide,by decide⟩,by decide⟩,hk',rfl⟩ ?_; refine Ent.pick 1 rfl ?_)
  | (refine Nx.ret_cell 0 rfl rfl rfl rfl rfl rfl [Vec 3 1 _ (0 + 3) _ ([] ++ [.int .i64 2,.int .i64 2,.int .i64 2]),_] ⟨_,_,[2,2,2],k',rfl,⟨⟨by decide,by decide,by decide⟩,by decide⟩,hk',rfl⟩ ?_; refine Ent.pick 1 rfl ?_)
  | (refine Nx.ret_cell 0 rfl rfl rfl rfl rfl rfl [Vec 3 1 _ (0 + 2) _ ([] ++ [.int .i64 3,.int .i64 2]),_] ⟨_,_,[3,2],k',rfl,⟨⟨by decide,by decide,by decide⟩,by decide⟩,hk',rfl⟩ ?_; refine Ent.pick 1 rfl ?_)
  | (refine Nx.ret_cell 0 rfl rfl rfl rfl rfl rfl [Vec 3 1 _ (0 + 1) _ ([] ++ [.int .i64 6]),_] ⟨_,_,[6],k',rfl,⟨⟨by decide,by decide,by decide⟩,by decide⟩,hk',rfl⟩ ?_; refine Ent.pick 1 rfl ?_)
  | (refine Nx.ret_cell 0 rfl rfl rfl rfl rfl rfl [Vec 3 1 _ (0 + 2) _ ([] ++ [.int .i64 1,.int .i64 3]),_] ⟨_,_,[1,3],k',rfl,⟨⟨by decide,by decide,by decide⟩,by decide⟩,hk',rfl⟩ ?_; refine Ent.pick 1 rfl ?_)
 all_goals (exact zE)
theorem Space_made8 (b : Nat) (A : Option Addr) (c : Nat) (L : List Int) (k : Nat) (I : PH) (hL : CodesOk I A c L) (hk : k ≤ L.length) :
  FnSpec Tryz.prog 62 [.pointer (some ⟨b,0,none⟩)] I [CodesR b A c L k]
   (fun v R' => ∃ (B : Option Addr) (c' : Nat) (s : List Int) (k' : Nat),v = .agg #[.slice B s.length c'] ∧ (Sizes s ∧ prod s ≤ 8) ∧ k' ≤ L.length ∧ R' = [Vec 3 1 B s.length c' (s.map (Value.int .i64)),CodesR b A c L k']):=Space_spec8 b A c L k I hL.sl hL.each hk
theorem Told_made8 (b : Nat) (A : Option Addr) (c : Nat) (L : List Int) (k most n : Nat) (I : PH) (hL : CodesOk I A c L) (hk : k ≤ L.length) (hm : most ≤ 1000) (hn : n ≤ 1000) :
  FnSpec Tryz.prog 20 [.pointer (some ⟨b,0,none⟩),.int .i64 (most : Int),.int .i64 (n : Int)] I [CodesR b A c L k]
   (fun u R' => ∃ (B : Option Addr) (c' : Nat) (s : List Int) (At : Option Addr) (ct : Nat) (t : List Int) (As : Option Addr) (ca : Nat) (rs : List Rel) (k' : Nat),u = .tuple #[.agg #[.slice B s.length c'],.slice At t.length ct,.slice As rs.length ca] ∧ (Sizes s ∧ prod s ≤ 8) ∧ tabOk s t most ∧ rs.length ≤ n ∧ RelsOk s t rs ∧ k' ≤ L.length ∧ R' = toldR B c' s At ct t As ca rs ++ [CodesR b A c L k']):=by
 refine FnSpec.enterP Tryz.func20 rfl Tryz.ntmps20 rfl fun w F => ?_
 repeat' first | refine kS ?_ | refine kB fun bx => ?_ | refine kA fun A2 c2 => ?_ | refine kX (fun hc => ?_) fun hc => ?_ | fail
 revert bx; intro b6
 refine Nx.at_op rfl rfl ?_
 refine Nx.call rfl rfl rfl (by kernel_rfl) rfl (Space_made8 b A c L k I hL hk) (by exact zE) ?_
 rintro _ _ ⟨B,c',s,k1,rfl,⟨hs,hs8⟩,hk1,rfl⟩
 repeat' first | refine kS ?_ | refine kB fun bx => ?_ | refine kA fun A2 c2 => ?_ | refine kX (fun hc => ?_) fun hc => ?_ | fail
 revert bx; intro b9
 refine Nx.at_op rfl rfl ?_
 refine Nx.call rfl rfl rfl (by kernel_rfl) rfl (FnSpec.keep [iR B c' s] fun m I' hle hm' hv => Cells_spec b A B c c' L s k1 most I' (hL.mono hle) hk1 (by obtain ⟨m1,hm1,h1⟩:=Stars.get 0 hv rfl; exact Vec.sliceOf (hm1.trans hm') h1) hs (by omega)) (by exact zE) ?_
 rintro _ _ ⟨_,⟨bt,t,k2,rfl,htl,hte,hk2,rfl⟩,rfl⟩
 have hT : Table s t:=⟨htl,fun j hj => by have:=hte j hj; omega⟩
 repeat' first | ((with_reducible refine Nx.is_wp ?_); first | refine Nx.wo ?_ | refine Nx.p_drawF (id:=3) rfl [0,1,2,3,4,5,6,7,8,9] [6,7] [] _ rfl rfl (by kernel_rfl) (by kernel_rfl) rfl PanicOk.auto ((Ent.eraseK 4 _).trans (Ent.eraseK 2 _)) ?_) | (refine Nx.zo ?_; first | refine kP ?_ | (refine Nx.call rfl rfl rfl (by kernel_rfl) rfl (FnSpec.keep [iR B c' s,iR (some ⟨bt,0,none⟩) t.length t] fun m I' hle hm' hv => Releases_made b A B (some ⟨bt,0,none⟩) c c' t.length L s t k2 n I' (hL.mono hle) hk2 (by obtain ⟨m1,hm1,h1⟩:=Stars.get 0 hv rfl; exact Vec.sliceOf (hm1.trans hm') h1) hs (by obtain ⟨m1,hm1,h1⟩:=Stars.get 1 hv rfl; exact Vec.sliceOf (hm1.trans hm') h1) hT hn) (by exact zE) ?_; rintro _ _ ⟨_,⟨As,ca,rs,k3,rfl,hrn,hro,hk3,rfl⟩,rfl⟩)) | refine kS ?_ | refine kB fun bx => ?_ | refine kA fun A2 c2 => ?_ | refine kX (fun hc => ?_) fun hc => ?_ | fail
 exact Nx.ret3 rfl (ROne.cell 0 rfl rfl rfl rfl rfl) (ROne.tmp rfl) (ROne.tmp rfl) [_,_,_,_,_] ⟨B,c',s,_,_,t,As,ca,rs,k3,rfl,⟨hs,hs8⟩,⟨htl,hte⟩,hrn,hro,hk3,rfl⟩ (by exact zE)
theorem valid30 {N : Nat} {qs : List EqR} (hN : 1 ≤ N ∧ N ≤ 48) (hl : qs.length ≤ 1152) (hg : ∀ q ∈ qs,GoodE N q) : validB (N : Int) qs = true:=by
 unfold validB
 rw [decide_eq_true (show 1 ≤ (N : Int) ∧ (N : Int) ≤ 48 by omega),decide_eq_true hl]
 exact List.all_eq_true.2 fun q hq => rightB_iff.2 (hg q hq)
theorem sumC_bdB {t : List Int} {most : Int} (h0 : 0 ≤ most) (ht : ∀ j,j < t.length → 0 ≤ t.getD j default ∧ t.getD j default ≤ most) : ∀ cs : List Nat,sumC t cs ≤ most * (cs.length : Int)
 | [] => by show (0 : Int) ≤ most * ((0 : Nat) : Int); omega
 | c :: cs => by
  have ih:=sumC_bdB h0 ht cs
  have hc : t.getD c 0 ≤ most:=by
   by_cases h : c < t.length
   ·exact (ht c h).2
   ·rw [gEl,List.getElem?_eq_none (by omega)]; exact h0
  rw [sumC,List.length_cons]
  have : most * ((cs.length + 1 : Nat) : Int) = most * (cs.length : Int) + most:=by rw [Int.natCast_add,Int.mul_add]; simp
  omega
theorem chkB_of {N : Nat} {qs : List EqR} (h : BEq N qs) (hv : validB (N : Int) qs = true) {k : Int} (hk : 0 ≤ k ∧ k < N) : chkB (N : Int) qs k = 0:=by
 have hn:=h.cnt
 have hl:=h.len
 unfold chkB
 rw [if_neg,if_neg (by omega),if_neg]
 ·rintro (h1 | h1)
  ·obtain ⟨q,hq,hb⟩:=List.any_eq_true.1 h1
   have:=h.val q hq
   have hb' : 1000 < q.2:=of_decide_eq_true hb
   omega
  ·exact h1 hk
 ·rintro (h1 | h1)
  ·exact h1 (by omega)
  ·rw [hv] at h1; cases h1
def tabF (t : List Int) : Nat → Rat:=fun k => ((t.getD k 0 : Int) : Rat)
theorem ls_tab (t : List Int) : ∀ cs : List Nat,Bl.ls (cs.map (tabF t)) = ((sumC t cs : Int) : Rat)
 | [] => rfl
 | c :: cs => by
  rw [List.map_cons,Bl.ls,ls_tab t cs,sumC,Rat.intCast_add]; rfl
end Go.Proofs.YtpcnapidlhpbkaaGreatDoor
namespace Go.Proofs.YtpcnapidlhpbkaaGreatDoor
open Go.Eng Go.Sol
theorem Rds.sub {W : World} {I : PH} {R : List Res} {A : Addr} {vs us : List Value} (h : Rds W I R A vs) (o : Nat) (hs : ∀ j u,us[j]? = some u → vs[o + j]? = some u) : Rds W I R (A.add o) us:=fun j u hj => by
 have:=h (o + j) u (hs j u hj)
 rwa [← Addr.add_add] at this
theorem iv_low {W : World} {I : PH} {R : List Res} {A : Option Addr} {c : Nat} {L : List IvR} {k : Nat} (h : SliceN ivC 5 I A c L) (hk : k < L.length) : Rds W I R (((ad A).add (k * 5)).add 0) (ratC (L.getD k default).1):=Rds.sub (h.rds hk) 0 fun j u hj => by
 match j,hj with
 | 0,hj => exact hj
 | 1,hj => exact hj
 | j + 2,hj => cases hj
theorem iv_high {W : World} {I : PH} {R : List Res} {A : Option Addr} {c : Nat} {L : List IvR} {k : Nat} (h : SliceN ivC 5 I A c L) (hk : k < L.length) : Rds W I R (((ad A).add (k * 5)).add 2) (ratC (L.getD k default).2.1):=Rds.sub (h.rds hk) 2 fun j u hj => by
 match j,hj with
 | 0,hj => exact hj
 | 1,hj => exact hj
 | j + 2,hj => cases hj
theorem iv_open {W : World} {I : PH} {R : List Res} {A : Option Addr} {c : Nat} {L : List IvR} {k : Nat} (h : SliceN ivC 5 I A c L) (hk : k < L.length) : Rd W I R (((ad A).add (k * 5)).add 4) (.bool (L.getD k default).2.2):=h.rds hk 4 _ rfl
attribute [local irreducible] opK wpList Code.wp Exit.then Exit.inBlock fnPost bodyPost Nx Calls Oper.wp Rd Rds Wr Ent Stars Blk Again Vec FnSpec wpMix QRun Stop Upto wpAt
end Go.Proofs.YtpcnapidlhpbkaaGreatDoor
namespace Go.Proofs.YtpcnapidlhpbkaaGreatDoor
open Go.Eng Go.Sol
theorem iv_lowD {W : World} {I : PH} {R : List Res} {A : Option Addr} {c : Nat} {L : List IvR} {k : Nat} {lo hi : Rat} {op : Bool} (h : SliceN ivC 5 I A c L) (hk : k < L.length) (he : L.getD k default = (lo,hi,op)) : Rds W I R (((ad A).add (k * 5)).add 0) (ratC lo):=by
 have:=iv_low (W:=W) (R:=R) h hk
 rwa [he] at this
theorem iv_highD {W : World} {I : PH} {R : List Res} {A : Option Addr} {c : Nat} {L : List IvR} {k : Nat} {lo hi : Rat} {op : Bool} (h : SliceN ivC 5 I A c L) (hk : k < L.length) (he : L.getD k default = (lo,hi,op)) : Rds W I R (((ad A).add (k * 5)).add 2) (ratC hi):=by
 have:=iv_high (W:=W) (R:=R) h hk
 rwa [he] at this
theorem iv_openD {W : World} {I : PH} {R : List Res} {A : Option Addr} {c : Nat} {L : List IvR} {k : Nat} {lo hi : Rat} {op : Bool} (h : SliceN ivC 5 I A c L) (hk : k < L.length) (he : L.getD k default = (lo,hi,op)) : Rd W I R (((ad A).add (k * 5)).add 4) (.bool op):=by
 have:=iv_open (W:=W) (R:=R) h hk
 rwa [he] at this
attribute [local irreducible] opK wpList Code.wp Exit.then Exit.inBlock fnPost bodyPost Nx Calls Oper.wp Rd Rds Wr Ent Stars Blk Again Vec FnSpec wpMix QRun Stop Upto wpAt
theorem sol_feas {N : Nat} {qs : List EqR} (hg : ∀ q ∈ qs,GoodE N q) {s : List Int} (hs : s ∈ solsOf N (eqns qs)) : Bl.Feas (toQ N qs) (tabF s):=by
 have G:=(mem_sols hg).1 hs
 refine ⟨fun k _ => ?_,fun i hi => ?_⟩
 ·have h0 : 0 ≤ s.getD k 0:=by
   by_cases hk : k ∈ touch N (eqns qs)
   ·exact (G.pos k hk).1
   ·rw [G.same k hk,gEl,List.getElem?_replicate]
    split <;> decide
  have e : (0 : Rat) = ((0 : Int) : Rat):=rfl
  rw [e]
  exact Rat.intCast_le_intCast.2 h0
 ·have hm : qs.getD i default ∈ qs:=getD_memQ hi
  have hgi:=hg _ hm
  have h1:=sols_sum hg hs _ hm
  have h2:=ls_tab s (eqn (qs.getD i default)).1
  rw [h1] at h2
  have h3:=Bl.ls_asc (tabF s) N (qs.getD i default).1.2.2 hgi.asc (fun x hx => hgi.lt x hx)
  rw [show (toQ N qs).val i = (qs.getD i default).2 from rfl,← h2]
  unfold eqn
  rw [List.map_map]
  exact h3.symm
theorem unb_touch {N : Nat} {qs : List EqR} (hg : ∀ q ∈ qs,GoodE N q) {x : Nat} (hx : x < N) : Unb (toQ N qs) x ↔ x ∉ touch N (eqns qs):=by
 constructor
 ·intro h hto
  obtain ⟨_,q,hq,hxq⟩:=mem_touch.1 hto
  obtain ⟨p,hp,rfl⟩:=List.mem_map.1 hq
  obtain ⟨i,hi,rfl⟩:=List.mem_iff_getElem.1 hp
  have h1:=h i hi
  have e : qs.getD i default = qs[i]:=by rw [gEl,gEq hi]; rfl
  have h2 : decide ((x : Int) ∈ (qs.getD i default).1.2.2) = false:=h1
  rw [e] at h2
  obtain ⟨y,hy,hyx⟩:=List.mem_map.1 hxq
  have h3:=(hg _ hp).lt y hy
  exact absurd (show (x : Int) ∈ qs[i].1.2.2 by rw [show (x : Int) = y by omega]; exact hy) (of_decide_eq_false h2)
 ·intro h i hi
  have hi' : i < qs.length:=hi
  show decide ((x : Int) ∈ (qs.getD i default).1.2.2) = false
  refine decide_eq_false fun hm => h ?_
  exact mem_touch.2 ⟨hx,eqn (qs.getD i default),List.mem_map.2 ⟨_,getD_memQ hi',rfl⟩,List.mem_map.2 ⟨(x : Int),hm,nCt x⟩⟩
theorem reach_in {N x : Nat} {qs : List EqR} (hg : ∀ q ∈ qs,GoodE N q) (hne : solsOf N (eqns qs) ≠ []) (hx : x < N) {lo hi : Rat} {op : Bool} (hok : IvOk (toQ N qs) x (lo,hi,op)) :
  (reachAt N (eqns qs) x).2.2 = op ∧ lo ≤ ((reachAt N (eqns qs) x).1 : Rat) ∧ (op = false → ((reachAt N (eqns qs) x).2.1 : Rat) ≤ hi) ∧ (0 ≤ (reachAt N (eqns qs) x).1 ∧ (reachAt N (eqns qs) x).1 ≤ 1000000) ∧ (0 ≤ (reachAt N (eqns qs) x).2.1 ∧ (reachAt N (eqns qs) x).2.1 ≤ 1000000):=by
 have hu:=unb_touch hg hx
 unfold reachAt
 by_cases hto : x ∈ touch N (eqns qs)
 ·rw [if_pos hto]
  have hop : op = false:=by
   cases op with
   | false => rfl
   | true => exact absurd hto (hu.1 (hok.opn.1 rfl))
  subst hop
  obtain ⟨a1,_⟩:=ext_all hg hne hto false
  obtain ⟨b1,_⟩:=ext_all hg hne hto true
  refine ⟨rfl,hok.low.low (sol_feas hg a1),fun _ => (hok.high rfl).high (sol_feas hg b1),?_,?_⟩
  ·exact ((mem_sols hg).1 a1).pos x hto
  ·exact ((mem_sols hg).1 b1).pos x hto
 ·rw [if_neg hto]
  have hop : op = true:=hok.opn.2 (hu.2 hto)
  subst hop
  have h0 : lo = 0:=hok.low.free hx (hu.2 hto)
  refine ⟨rfl,?_,fun h => (by cases h),⟨Int.le_refl _,by decide⟩,⟨Int.le_refl _,by decide⟩⟩
  rw [h0]; exact Rat.le_refl
theorem narrow_one {N k : Nat} {l : List EqR} (hg : ∀ q ∈ l,GoodE N q) (hne : solsOf N (eqns l) ≠ []) : narrowB (reachAt N (eqns l) k) 1 = true ↔ k ∈ touch N (eqns l) ∧ (valsOf N (eqns l) k).length = 1:=by
 unfold narrowB
 by_cases hk : k ∈ touch N (eqns l)
 ·rw [vals_reach hg hk hne]
  simp only [Bool.not_false,Bool.true_and,decide_eq_true_eq]
  have h0:=vals_ne (k:=k) hne
  constructor
  ·intro h
   refine ⟨hk,?_⟩
   by_cases h1 : 1 < (valsOf N (eqns l) k).length
   ·have:=asc_lt (vals_set N (eqns l) k).asc (i:=0) (j:=(valsOf N (eqns l) k).length - 1) (by omega) (by omega)
    omega
   ·omega
  ·rintro ⟨_,h1⟩
   rw [h1]
   show (valsOf N (eqns l) k).getD 0 default - (valsOf N (eqns l) k).getD 0 default < 1
   omega
 ·rw [reach_open hk]
  constructor
  ·intro h; simp at h
  ·intro h; exact absurd h.1 hk
theorem exp_cert {l t : List Int} {rs : List Rel} (hs : Sizes l) (hT : tabOk l t 2) (h : RelsOk l t rs) (hn : rs.length ≤ 24) (h0 : tolE l rs = 0) :
  (expD l rs (natI (List.range (prod l).toNat)) 1).2 = 0 ∧ (expD l rs (natI (List.range (prod l).toNat)) 1).1.map (fun e => e.1) = certL (prod l).toNat (eqns (qsOf l rs)):=by
 have hM:=made_a hs hT h hn
 have hz:=size_ok hs
 have hr:=(rch_made hs hT h hn).2.1
 rw [hM.rch,if_pos h0] at hr
 have hpa : (natI (List.range (prod l).toNat)).Pairwise (· < ·):=by
  unfold natI
  rw [List.pairwise_map]
  exact List.pairwise_lt_range.imp fun h => Int.ofNat_lt.2 h
 have hpb : ∀ x ∈ natI (List.range (prod l).toNat),0 ≤ x ∧ x < prod l:=fun x hx => by
  obtain ⟨k,hk,rfl⟩:=List.mem_map.1 hx
  have:=List.mem_range.1 hk
  exact ⟨Int.natCast_nonneg k,by show (k : Int) < _; omega⟩
 have hf:=findD_made hs hT h hn (m:=1) (by omega) hpa hpb
 rw [hr] at hf
 dsimp only at hf
 rw [if_neg (by omega)] at hf
 unfold expD
 rw [hf]
 refine ⟨rfl,?_⟩
 dsimp only
 unfold exOf certL certU natI
 rw [List.map_map,List.map_map,List.filter_map,List.map_map]
 unfold touch
 rw [List.filter_filter]
 have e : ∀ X Y : List Nat,X = Y → X.map (((fun e : Exp => e.1) ∘ expK l rs 1 rs.length ∘ fun k => (k,((List.range (prod l).toNat).map (reachAt (prod l).toNat (eqns (qsOf l rs)))).getD k.toNat default,-1)) ∘ Int.ofNat) = Y.map Int.ofNat:=fun X Y h => by rw [h]; rfl
 refine e _ _ (List.filter_congr fun k hk => ?_)
 have hkN:=List.mem_range.1 hk
 have hno:=narrow_one (k:=k) hM.good hM.ne
 rw [mem_touch] at hno
 rw [Bool.eq_iff_iff]
 show narrowB (((List.range (prod l).toNat).map (reachAt (prod l).toNat (eqns (qsOf l rs)))).getD k default) 1 = true ↔ _
 rw [range_at hkN,hno,Bool.and_eq_true,List.any_eq_true,decide_eq_true_eq]
 constructor
 ·rintro ⟨⟨_,q,hq,hc⟩,h2⟩
  exact ⟨h2,q,hq,decide_eq_true hc⟩
 ·rintro ⟨h2,q,hq,hc⟩
  exact ⟨⟨hkN,q,hq,of_decide_eq_true hc⟩,h2⟩
theorem reach_table {N k : Nat} {l : List EqR} {t : List Int} (hg : ∀ q ∈ l,GoodE N q) (hw : wantL N (touch N (eqns l)) t ∈ solsOf N (eqns l)) (hk : k < N) (ht : 0 ≤ t.getD k 0) :
  (reachAt N (eqns l) k).1 ≤ t.getD k 0 ∧ ((reachAt N (eqns l) k).2.2 = false → t.getD k 0 ≤ (reachAt N (eqns l) k).2.1):=by
 have hne : solsOf N (eqns l) ≠ []:=List.ne_nil_of_mem hw
 unfold reachAt
 by_cases hx : k ∈ touch N (eqns l)
 ·rw [if_pos hx]
  obtain ⟨_,a2⟩:=ext_all hg hne hx false
  obtain ⟨_,b2⟩:=ext_all hg hne hx true
  have a3:=a2 _ hw
  have b3:=b2 _ hw
  rw [if_neg (by decide),wantL_at hk,if_pos hx] at a3
  rw [if_pos rfl,wantL_at hk,if_pos hx] at b3
  exact ⟨a3,fun _ => b3⟩
 ·rw [if_neg hx]
  exact ⟨ht,fun h => by cases h⟩
theorem canon_same {L R : List (List Int × Int)} (h : ∀ p,p ∈ R ↔ p ∈ L) : ∀ q,q ∈ R.map canonE ↔ q ∈ L.map canonE:=fun q => by
 rw [List.mem_map,List.mem_map]
 exact ⟨fun ⟨p,hp,e⟩ => ⟨p,(h p).1 hp,e⟩,fun ⟨p,hp,e⟩ => ⟨p,(h p).2 hp,e⟩⟩
structure RedOk (l t : List Int) (rs : List Rel) (qs : List EqR) : Prop where
 good : ∀ q ∈ qs,GoodE (prod l).toNat q
 sum : ∀ q ∈ qs,sumC t (eqn q).1 = q.2
 touch : touch (prod l).toNat (eqns qs) = touch (prod l).toNat (eqns (qsOf l rs))
 sols : solsOf (prod l).toNat (eqns qs) = solsOf (prod l).toNat (eqns (qsOf l rs))
 small : smallB (prod l).toNat (eqns qs) = smallB (prod l).toNat (eqns (qsOf l rs))
 want : wantL (prod l).toNat (Go.Proofs.YtpcnapidlhpbkaaGreatDoor.touch (prod l).toNat (eqns qs)) t ∈ solsOf (prod l).toNat (eqns qs)
theorem red_ok {l t : List Int} {rs : List Rel} {qs : List EqR} (hs : Sizes l) (hT : tabOk l t 2) (h : RelsOk l t rs) (hn : rs.length ≤ 24) (he : ∀ p,p ∈ qs.map cont ↔ p ∈ rs.flatMap (told l)) : RedOk l t rs qs:=by
 have hM:=made_a hs hT h hn
 have hc:=canon_same he
 have hce : eqns qs = eqns ((qs.map cont).map canonE):=cont_eqns rfl
 have hgc : ∀ q ∈ (qs.map cont).map canonE,GoodE (prod l).toNat q:=fun q hq => hM.good q ((hc q).1 hq)
 have hsm : ∀ q ∈ qs,GoodE (prod l).toNat q ∧ sumC t (eqn q).1 = q.2:=fun q hq => told_eq hs hT (by decide) (by decide) h hn ((he _).1 (List.mem_map.2 ⟨q,hq,rfl⟩))
 have ht : touch (prod l).toNat (eqns qs) = touch (prod l).toNat (eqns (qsOf l rs)):=by rw [hce]; exact touch_same hc
 have hso : solsOf (prod l).toNat (eqns qs) = solsOf (prod l).toNat (eqns (qsOf l rs)):=by rw [hce]; exact sols_same hgc hc
 refine ⟨fun q hq => (hsm q hq).1,fun q hq => (hsm q hq).2,ht,hso,by rw [hce]; exact small_same hc,?_⟩
 rw [ht,hso]
 exact hM.want
theorem RedOk.tol {l t : List Int} {rs : List Rel} {qs : List EqR} (h : RedOk l t rs qs) (hs : Sizes l) (hM : MadeA l t rs) (hl : qs.length ≤ 1152) : chkQ (prod l) qs = tolE l rs ∧ (tolE l rs = 0 ∨ tolE l rs = 1):=by
 have hz:=size_ok hs
 have hchk:=chk_of (N:=(prod l).toNat) (qs:=qs) (by omega) hl h.good
 rw [hz.2.2] at hchk
 rw [hchk,hM.tol2,h.small]
 refine ⟨rfl,?_⟩
 split
 ·exact .inr rfl
 ·exact .inl rfl
theorem RedOk.rch {l t : List Int} {rs : List Rel} {qs : List EqR} (h : RedOk l t rs qs) (hs : Sizes l) (hM : MadeA l t rs) (hl : qs.length ≤ 1152) : reachR (prod l) qs = if tolE l rs = 0 then ((List.range (prod l).toNat).map (reachAt (prod l).toNat (eqns qs)),0) else ([],tolE l rs):=by
 unfold reachR
 rw [(h.tol hs hM hl).1,if_neg (show ¬ solsOf (prod l).toNat (eqns qs) = [] by rw [h.sols]; exact hM.ne)]
theorem RedOk.small8 {l t : List Int} {rs : List Rel} {qs : List EqR} (h : RedOk l t rs qs) (hT : tabOk l t 2) (hN : (prod l).toNat ≤ 8) {q : EqR} (hq : q ∈ qs) : q.2 ≤ 1000:=by
 have hg:=h.good q hq
 have h1:=sumC_bdB (t:=t) (most:=2) (by decide) (fun j hj => hT.2 j hj) (eqn q).1
 rw [h.sum q hq] at h1
 have h2 : (eqn q).1.length ≤ 8:=by
  unfold eqn
  rw [lMp]
  have:=asc_len (a:=0) (n:=(prod l).toNat) hg.asc fun y hy => by have:=hg.lt y hy; omega
  omega
 omega
theorem RedOk.beq {l t : List Int} {rs : List Rel} {qs : List EqR} (h : RedOk l t rs qs) (hs : Sizes l) (hT : tabOk l t 2) (hN : (prod l).toNat ≤ 8) (hl : qs.length ≤ 10) : BEq (prod l).toNat qs:=by
 have hz:=size_ok hs
 exact ⟨by omega,hl,h.good,fun _ hq => h.small8 hT hN hq⟩
theorem RedOk.feas {l t : List Int} {rs : List Rel} {qs : List EqR} (h : RedOk l t rs qs) (hT : tabOk l t 2) : Bl.Feas (toQ (prod l).toNat qs) (tabF t):=by
 have hlen:=hT.1
 refine ⟨fun k hk => ?_,fun i hi => ?_⟩
 ·have hk : k < (prod l).toNat:=hk
  have:=(hT.2 k (by omega)).1
  have e : (0 : Rat) = ((0 : Int) : Rat):=rfl
  rw [e]
  exact Rat.intCast_le_intCast.2 this
 ·have hm : qs.getD i default ∈ qs:=getD_memQ hi
  have hg:=h.good _ hm
  have h1:=h.sum _ hm
  have h2:=ls_tab t (eqn (qs.getD i default)).1
  rw [h1] at h2
  have h3:=Bl.ls_asc (tabF t) (prod l).toNat (qs.getD i default).1.2.2 hg.asc (fun x hx => hg.lt x hx)
  rw [show (toQ (prod l).toNat qs).val i = (qs.getD i default).2 from rfl,← h2]
  unfold eqn
  rw [List.map_map]
  exact h3.symm
def safeB (l : List Int) (rs : List Rel) (prot : List Int) (m : Int) : Bool:=decide ((findD l rs prot m).2 = 0) && decide ((findD l rs prot m).1.length = 0)
theorem Safe_spec (A As Ap : Option Addr) (c cs cp : Nat) (l : List Int) (rs : List Rel) (prot : List Int) (m : Int) (I : PH) (hl : Ints I A c l) (hs : Sizes l) (hr : Rels I As cs rs) (hw : ∀ r ∈ rs,Viewed l r.v) (hp : Ints I Ap cp prot) (hp9 : prot.length ≤ 1000000) :
  FnSpec Tryz.prog 141 [.agg #[.slice A l.length c],.slice As rs.length cs,.slice Ap prot.length cp,.int .i64 m] I []
   (fun u R' => u = .tuple #[.bool (safeB l rs prot m),.int .i64 (findD l rs prot m).2] ∧ R' = []):=by
 have hF:=find_spec A As Ap c cs cp l rs prot m I hl hs hr hw hp hp9
 unfold safeB
 generalize findD l rs prot m = fq at hF
 obtain ⟨base,er⟩:=fq
 dsimp only at hF ⊢
 refine FnSpec.enterP Tryz.func141 rfl Tryz.ntmps141 rfl fun w F => ?_
 by_cases h0 : er = 0
 ·subst h0
  rw [decide_eq_true rfl,Bool.true_and]
  repeat' first | refine kW ?_ | (refine Nx.zo ?_; first | refine kP ?_ | (refine kC hF ?_; rintro _ _ ⟨Ao,co,rfl,rfl⟩)) | refine kS ?_ | refine kB fun bx => ?_ | refine kA fun A2 c2 => ?_ | refine kX (fun hc => ?_) fun hc => ?_ | fail
  exact Nx.ret_fn rfl [] ⟨by rw [show decide ((base.length : Int) = 0) = decide (base.length = 0) from decide_eq_decide.2 (by omega)],rfl⟩ (by exact zE)
 ·rw [decide_eq_false h0,Bool.false_and]
  repeat' first | refine kW ?_ | (refine Nx.zo ?_; first | refine kP ?_ | (refine kC hF ?_; rintro _ _ ⟨Ao,co,rfl,rfl⟩)) | refine kS ?_ | refine kB fun bx => ?_ | refine kA fun A2 c2 => ?_ | refine kX (fun hc => ?_) fun hc => ?_ | fail
  exact kT
theorem drop_atI {l : List Int} {k : Nat} (hk : k < l.length) : l.drop k = l.getD k default :: l.drop (k + 1):=by
 rw [List.drop_eq_getElem_cons hk,gEl,gEq hk]; rfl
end Go.Proofs.YtpcnapidlhpbkaaGreatDoor
