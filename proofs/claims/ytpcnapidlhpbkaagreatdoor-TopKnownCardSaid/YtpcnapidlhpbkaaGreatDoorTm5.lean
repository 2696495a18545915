/- Contracts of functions of the given program, and lemmas. -/
import Derived.Laws.MakeOwn
import Derived.Laws.CopyRow
import Derived.Shelf.Bits.Mul64
import Derived.Test.YtpcnapidlhpbkaaGreatDoorTm4
set_option maxHeartbeats 32000000
set_option maxRecDepth 10000
namespace Go.Proofs.YtpcnapidlhpbkaaGreatDoor
open Go.Eng Go.Sol
attribute [local irreducible] opK wpList Code.wp Exit.then Exit.inBlock fnPost bodyPost Nx Calls Oper.wp Rd Rds Wr Ent Stars Blk Again Vec FnSpec wpMix QRun Stop Upto wpAt
theorem unstopN {C : Cx} {e : Env} {I : PH} {R : List Res} {K : Act → World → Prop} (h : Nx C e I R K) : Nx C e I R (Stop K):=by unfold Stop; exact h
theorem started {C : Cx} {e : Env} {I : PH} {R RR : List Res} {K : Act → World → Prop} {p : Pl} {Atd Ai : Option Addr} {ctd ci n : Nat} {ins : List Row} {L : List Eqn} {td : List Nat} (hiv : p.iv = .slice Ai n ci) (hil : ins.length = n) (hins : ∀ c,c < n → (ins.getD c default).2.2 = inL L c)
  (hR : Ent R (Vec 31 1 Ai n ci (ins.map rowV) :: Stars (ins.map rwR) :: iR Atd ctd (td.map Int.ofNat) :: RR)) (h : ∀ I',PH.le I I' → InI I' p n L → Ints I' Atd ctd (td.map Int.ofNat) → Nx C e I' RR K) : Nx C e I R K:=by
 refine Nx.ent hR ?_
 refine Nx.freezeAt 0 rfl fun I1 m1 hI1 hm1 h1 => ?_
 refine Nx.freezeAt 0 rfl fun I2 m2 hI2 hm2 h2 => ?_
 refine Nx.freezeAt 0 rfl fun I3 m3 hI3 hm3 h3 => ?_
 subst hil
 refine h I3 ((hI1.trans hI2).trans hI3) ⟨Ai,ci,ins,hiv,rfl,Vec.sliceOf ((hm1.trans hI2).trans hI3) h1,fun x hx => ?_,hins⟩ (Vec.sliceOf hm3 h3)
 obtain ⟨k,hk,rfl⟩:=List.mem_iff_getElem.1 hx
 obtain ⟨m',hle,hr⟩:=Stars.get k h2 (r:=rwR ins[k]) (by rw [nthL_eq,gMp,gEq hk]; rfl)
 exact Vec.sliceOf (t:=3) (hle.trans (hm2.trans hI3)) hr
abbrev someT (bo : Nat) (s : Option Addr × Nat × List Row) : Res:=Stars [Blk bo 112 [.slice s.1 s.2.2.length s.2.1],Vec 31 1 s.1 s.2.2.length s.2.1 (s.2.2.map rowV),Stars (s.2.2.map rwR)]
def someP (s : Option Addr × Nat × List Row) : List (List Int):=s.2.2.map (·.2.2)
def someF (most : Int) (p : List (List Int)) (tab : List Int) : List (List Int) × Bool:=(p ++ [tab],decide ((p.length : Int) + 1 < most))
theorem someF_spec (bo bm : Nat) (most : Int) (hm : most ≤ 1000000) (I : PH) (n : Nat) (hb : ∀ (W : World) (R : List Res),Rd W I R ⟨bm,0,none⟩ (.int .i64 most)) :
  Found 182 [.pointer (some ⟨bo,0,none⟩),.pointer (some ⟨bm,0,none⟩)] I n (someT bo) someP (fun p => (p.length : Int) < most) (someF most):=by
 refine ⟨by kernel_rfl,fun s A c tab htl hok => ?_⟩
 obtain ⟨A1,c1,o⟩:=s
 have hol : (o.length : Int) < most:=by unfold someP at hok; rw [lMp] at hok; exact hok
 have e1 : someF most (someP (A1,c1,o)) tab = (someP (A1,c1,o) ++ [tab],decide ((o.length : Int) + 1 < most)):=by unfold someF someP; rw [lMp]
 rw [e1]
 refine FnSpec.enterP Tryz.func182 rfl Tryz.ntmps182 rfl fun w F => ?_
 refine Nx.ent (R':=[Blk bo 112 [.slice A1 o.length c1],Vec 31 1 A1 o.length c1 (o.map rowV),Stars (o.map rwR),iR A c tab,F]) (Ent.unstars.trans (by exact zE)) ?_
 repeat' first | refine kW ?_ | (refine Nx.zo ?_; first | refine kP ?_ | refine Nx.load rfl rfl rfl (hb _ _) ?_) | refine kS ?_ | refine kB fun bx => ?_ | refine kA fun A2 c2 => ?_ | refine kX (fun hc => ?_) fun hc => ?_ | fail
 refine Nx.ret_fn rfl [someT bo (A2,c2,o ++ [(A,c,tab)])] ⟨congrArg Value.bool (decide_eq_decide.2 (by omega)),(A2,c2,o ++ [(A,c,tab)]),by unfold someP; simp,fun h => ?_,rfl⟩ ?_
 ·have h:=of_decide_eq_true h
  unfold someP
  simp only [List.length_map,List.length_append,List.length_singleton]
  omega
 ·unfold someT
  dsimp only
  rw [lAp,mAp,mAp]
  exact Ent.trans (R':=iR A c tab :: Stars (o.map rwR) :: [Blk bo 112 [.slice A2 (o.length + 1) c2],Vec 31 1 A2 (o.length + 1) c2 (o.map rowV ++ [.slice A tab.length c]),F]) (by exact zE) (Ent.bundle.trans (Ent.trans (R':=[Blk bo 112 [.slice A2 (o.length + 1) c2],Vec 31 1 A2 (o.length + 1) c2 (o.map rowV ++ [.slice A tab.length c]),Stars (o.map rwR ++ [iR A c tab])] ++ [F]) (by exact zE) Ent.stars))
abbrev extT (bo : Nat) (s : Option Addr × Nat × List Int) : Res:=Stars [Blk bo 31 [.slice s.1 s.2.2.length s.2.1],iR s.1 s.2.1 s.2.2]
def extP (s : Option Addr × Nat × List Int) : List Int:=s.2.2
def extF (_ : List Int) (tab : List Int) : List Int × Bool:=(tab,false)
theorem extF_spec (bo : Nat) (I : PH) (n : Nat) : Found 134 [.pointer (some ⟨bo,0,none⟩)] I n (extT bo) extP (fun _ => True) extF:=by
 refine ⟨by kernel_rfl,fun s A c tab htl _ => ?_⟩
 obtain ⟨A1,c1,o⟩:=s
 refine FnSpec.enterP Tryz.func134 rfl Tryz.ntmps134 rfl fun w F => ?_
 refine Nx.ent (R':=[Blk bo 31 [.slice A1 o.length c1],iR A1 c1 o,iR A c tab,F]) (Ent.unstars.trans (by exact zE)) ?_
 repeat' first | refine kS ?_ | refine kB fun bx => ?_ | refine kA fun A2 c2 => ?_ | refine kX (fun hc => ?_) fun hc => ?_ | fail
 exact Nx.ret_fn rfl [extT bo (A,c,tab)] ⟨rfl,(A,c,tab),rfl,fun _ => trivial,rfl⟩ (Ent.trans (R':=[Blk bo 31 [.slice A tab.length c],iR A c tab] ++ [F]) (by exact zE) Ent.stars)
theorem someF_take (most : Nat) : ∀ (L p : List (List Int)),p.length < most → (foldStop (someF most) p L).1 = p ++ L.take (most - p.length)
 | [],p,h => by simp [foldStop]
 | x :: L,p,h => by
  unfold foldStop
  obtain ⟨m,hm⟩ : ∃ m,most - p.length = m + 1:=⟨most - p.length - 1,by omega⟩
  rw [hm,List.take_succ_cons]
  by_cases hlt : p.length + 1 < most
  ·rw [if_pos (show (someF most p x).2 = true from decide_eq_true (by omega))]
   show (foldStop (someF most) (p ++ [x]) L).1 = _
   rw [someF_take most L (p ++ [x]) (by simpa using hlt),List.append_assoc,lAp,List.length_singleton,show most - (p.length + 1) = m by omega]
   rfl
  ·rw [if_neg (show ¬(someF most p x).2 = true from by unfold someF; simp; omega),show m = 0 by omega]
   rfl
def solsOf (n : Nat) (L : List Eqn) : List (List Int):=enum 1000000 L false (touch n L) (List.replicate n 0)
theorem toNat_asc {xs : List Int} (h : xs.Pairwise (· < ·)) (h0 : ∀ x ∈ xs,0 ≤ x) : (xs.map Int.toNat).Pairwise (· < ·):=by
 rw [List.pairwise_map]
 refine List.Pairwise.imp_of_mem (fun ha hb hab => ?_) h
 have:=h0 _ ha; have:=h0 _ hb
 omega
theorem eqn_nd {n : Nat} {q : EqR} (hg : GoodE n q) : (eqn q).1.Nodup:=(toNat_asc hg.asc fun x hx => (hg.lt x hx).1).imp fun h => Nat.ne_of_lt h
theorem sane_eqns {n : Nat} {l : List EqR} (hg : ∀ q ∈ l,GoodE n q) (hll : l.length ≤ 100000) (h9 : (allC l).length ≤ 100000) : Sane (eqns l):=by
 refine ⟨fun q hq => ?_,by rw [eqns_len]; exact hll,fun q hq => ?_⟩
 ·obtain ⟨x,hx,rfl⟩:=List.mem_map.1 hq
  exact eqn_nd (hg x hx)
 ·obtain ⟨x,hx,rfl⟩:=List.mem_map.1 hq
  obtain ⟨k,hk,rfl⟩:=List.mem_iff_getElem.1 hx
  have:=allC_le1 hk
  rw [show l.getD k default = l[k] by rw [gEl,gEq hk]; rfl] at this
  refine ⟨(hg _ hx).val.1,(hg _ hx).val.2,?_⟩
  show (l[k].1.2.2.map Int.toNat).length ≤ _
  rw [lMp]; omega
theorem zeros_at (n c : Nat) : (List.replicate n (0 : Int)).getD c 0 = 0:=by
 rw [gEl,List.getElem?_replicate]; split <;> rfl
theorem inv_start {n : Nat} {l : List EqR} (hg : ∀ q ∈ l,GoodE n q) {U : List Nat} (hU : U.Nodup) (hm : ∀ c,c ∈ U ↔ c ∈ touch n (eqns l)) : Inv n (eqns l) U (List.replicate n 0):=by
 refine ⟨by simp,hU,fun c hc => (mem_touch.1 ((hm c).1 hc)).1,fun c _ => zeros_at n c,fun q hq => ?_,fun q hq hop => ?_⟩
 ·obtain ⟨x,hx,rfl⟩:=List.mem_map.1 hq
  unfold restQ
  rw [sumC_zero]
  have:=(hg x hx).val.1
  show 0 ≤ x.2 - 0
  omega
 ·exfalso
  obtain ⟨x,hx,rfl⟩:=List.mem_map.1 hq
  have hne:=(hg x hx).ne
  have : (eqn x).1 ≠ []:=by unfold eqn; simpa using hne
  obtain ⟨c,hc⟩:=List.exists_mem_of_ne_nil _ this
  have hcU : c ∈ U:=(hm c).2 (mem_touch.2 ⟨by have:=(hg x hx).lt _ ((mem_eqn (hg x hx)).1 hc); omega,eqn x,hq,hc⟩)
  unfold openQ at hop
  have:=List.length_eq_zero_iff.1 hop
  rw [List.filter_eq_nil_iff] at this
  exact this c hc (decide_eq_true hcU)
theorem open_same {L : List Eqn} {U V : List Nat} (h : ∀ c,c ∈ U ↔ c ∈ V) : openL L U = openL L V:=by
 unfold openL openQ
 refine List.map_congr_left fun q _ => ?_
 congr 2
 exact List.filter_congr fun c _ => decide_eq_decide.2 (h c)
theorem some_spec (A : Option Addr) (c : Nat) (l : List EqR) (n most : Nat) (I : PH) (hl : Eqs I A c l) (hg : ∀ q ∈ l,GoodE n q) (hn : n ≤ 4096) (hll : l.length ≤ 100000) (h9 : (allC l).length ≤ 100000) (hm1 : 1 ≤ most) (hm2 : most ≤ 1000000) :
  FnSpec Tryz.prog 128 [.int .i64 (n : Int),.slice A l.length c,.int .i64 (most : Int)] I []
   (fun v R' => ∃ (A' : Option Addr) (c' : Nat) (o : List Row),v = .slice A' o.length c' ∧ o.map (·.2.2) = (solsOf n (eqns l)).take most ∧ R' = [Vec 31 1 A' o.length c' (o.map rowV),Stars (o.map rwR)]):=by
 have hSt:=start_spec A c l n I hl hg hn hll (by omega)
 refine FnSpec.enterP Tryz.func128 rfl Tryz.ntmps128 rfl fun w F => ?_
 repeat' first | ((with_reducible refine Nx.is_wp ?_); first | refine Nx.p_stopr 2 rfl ?_ | refine Nx.wo ?_) | (refine Nx.zo ?_; first | refine kP ?_ | (refine kC hSt ?_; rintro _ _ ⟨p,Atd,ctd,Ai,ci,ins,rfl,htv,hiv,hil,hins,rfl⟩)) | refine kS ?_ | refine kB fun bx => ?_ | refine kA fun A2 c2 => ?_ | refine kX (fun hc => ?_) fun hc => ?_ | fail
 refine unstopN ?_
 revert bx; intro bm
 refine started hiv hil hins (RR:=[Blk bm 3 [.int .i64 (most : Int)],p.blk n l.length,iR p.Ar p.cr (valsL l),iR p.Ao p.co (sizesL l),iR p.At p.ct (List.replicate n 0),F]) (by exact zE) fun I1 hI1 hin htd => ?_
 refine Nx.freezeAt 0 rfl fun I2 m2 hI2 hm2 h2 => ?_
 have rm : ∀ I',PH.le I2 I' → ∀ (W : World) (R : List Res),Rd W I' R ⟨bm,0,none⟩ (.int .i64 (most : Int)):=fun I' hI' W R => Rd.imm (cellH_mono (hm2.trans hI') (Blk.cell h2 rfl))
 have hsane:=sane_eqns hg hll h9
 have hSe:=fun bo => search_spec p n (eqns l) I2 (hin.mono hI2) (fun I' hI' => someF_spec bo bm most (by omega) I' n (rm I' hI')) hsane (by omega) Atd ctd (touch n (eqns l)) (htd.mono hI2) false (none,0,[]) (List.replicate n 0) (inv_start hg (touch_nd _ _) fun _ => Iff.rfl) (fun c => by rw [zeros_at]; exact Int.le_refl _) (show (0 : Int) < most by omega)
 rw [rest_start,open_start hg,eqns_len] at hSe
 unfold Pl.blk at hSe ⊢
 rw [htv] at hSe ⊢
 repeat' first | ((with_reducible refine Nx.is_wp ?_); first | refine Nx.p_stopr 3 rfl ?_ | refine Nx.wo ?_) | refine kS ?_ | refine kB fun bx => ?_ | refine kA fun A2 c2 => ?_ | refine kX (fun hc => ?_) fun hc => ?_ | fail
 refine unstopN ?_
 revert bx; intro bo
 refine Nx.ent (R':=[someT bo (none,0,[]),Blk p.b PT [.slice Atd (touch n (eqns l)).length ctd,p.iv,.slice p.Ar l.length p.cr,.slice p.Ao l.length p.co,.slice p.At n p.ct],iR p.Ar p.cr (valsL l),iR p.Ao p.co (sizesL l),iR p.At p.ct (List.replicate n 0),F])
  ((Ent.stars_nil _).trans ((Ent.vec_nil 31 1 _).trans (Ent.trans (R':=[Blk bo 112 [.slice none 0 0],Vec 31 1 none 0 0 [],Stars []] ++ [Blk p.b PT [.slice Atd (touch n (eqns l)).length ctd,p.iv,.slice p.Ar l.length p.cr,.slice p.Ao l.length p.co,.slice p.At n p.ct],iR p.Ar p.cr (valsL l),iR p.Ao p.co (sizesL l),iR p.At p.ct (List.replicate n 0),F]) (by exact zE) Ent.stars))) ?_
 repeat' first | refine kW ?_ | (refine Nx.zo ?_; first | refine kP ?_ | (refine Nx.call rfl rfl rfl (by kernel_rfl) rfl (hSe bo) (by exact zE) ?_; rintro _ _ ⟨rfl,s',G,hs',rfl⟩; obtain ⟨A',c',o⟩:=s'; refine Nx.ent (R':=[Blk bo 112 [.slice A' o.length c'],Vec 31 1 A' o.length c' (o.map rowV),Stars (o.map rwR),F]) (Ent.unstars.trans (by exact zE)) ?_)) | refine kS ?_ | refine kB fun bx => ?_ | refine kA fun A2 c2 => ?_ | refine kX (fun hc => ?_) fun hc => ?_ | fail
 exact Nx.imm_le (hI1.trans hI2) (Nx.ret_fn rfl [_,_] ⟨A',c',o,rfl,by have h:=someF_take most (solsOf n (eqns l)) [] (by show 0 < most; omega); rw [List.nil_append,List.length_nil,Nat.sub_zero] at h; exact hs'.trans h,rfl⟩ (by exact zE))
def szs (v : List Row) : List Int:=v.map fun r => 1 + maxL r.2.2 (r.2.2.length - 1)
theorem szs_succ (v : List Row) (k : Nat) (hk : k < v.length) : szs (v.take (k + 1)) = szs (v.take k) ++ [1 + maxL (v.getD k default).2.2 ((v.getD k default).2.2.length - 1)]:=by
 unfold szs
 rw [tSu hk,mAp]
 simp [List.getD_eq_getElem?_getD,List.getElem?_eq_getElem hk]
theorem sizes_spec (B : Option Addr) (cv : Nat) (v : List Row) (I : PH) (hv : RowsOf I B cv v) (h4 : v.length ≤ 4) (h1 : ∀ k,k < v.length → 1 ≤ (v.getD k default).2.2.length ∧ -8 ≤ maxL (v.getD k default).2.2 ((v.getD k default).2.2.length - 1) ∧ maxL (v.getD k default).2.2 ((v.getD k default).2.2.length - 1) ≤ 8) :
  FnSpec Tryz.prog 138 [.agg #[.slice B v.length cv]] I [] (fun u R' => ∃ A' c',u = .slice A' (szs v).length c' ∧ R' = [Vec 3 1 A' (szs v).length c' ((szs v).map (Value.int .i64))]):=by
 refine FnSpec.enterP Tryz.func138 rfl Tryz.ntmps138 rfl fun w F => ?_
 repeat' first | refine kS ?_ | refine kB fun bx => ?_ | refine kA fun A2 c2 => ?_ | refine kX (fun hc => ?_) fun hc => ?_ | fail
 refine Nx.p_loop (σ:=Nat × Option Addr × Nat) (fun s => [(7,.slice B v.length cv),(8,.int .i64 v.length),(9,.int .i64 (s.1 : Int)),(3,.slice s.2.1 (szs (v.take s.1)).length s.2.2)])
  (fun s => [Vec 3 1 s.2.1 (szs (v.take s.1)).length s.2.2 ((szs (v.take s.1)).map (Value.int .i64)),F]) (fun s => s.1 ≤ v.length) (fun s => v.length - s.1) (0,none,0) rfl (nZl _) zR ((Ent.vec_nil _ _ _).trans (by exact zE)) ?_
 rintro ⟨k,A',c'⟩ hk
 dsimp only at hk ⊢
 have hx:=h1 k
 have hsl : (szs (v.take k)).length ≤ k:=by unfold szs; rw [lMp]; exact List.length_take_le _ _
 repeat' first | refine kW ?_ | (refine Nx.zo ?_; first | refine kP ?_ | refine Nx.indexAddr_nat rfl rfl rfl rfl rfl (by omega) (hv.outer.isSome (by omega)) ?_ | refine Nx.load rfl rfl rfl (hv.outer.rd (by omega)) ?_ | refine Nx.callv rfl rfl rfl (by kernel_rfl) rfl (Max_spec _ _ _ _ (hv.at (by omega)) (by omega)) ?_) | refine kS ?_ | refine kB fun bx => ?_ | refine kA fun A2 c2 => ?_ | refine kX (fun hc => ?_) fun hc => ?_ | fail
 ·have e1:=szs_succ v k (by omega)
  refine Nx.again (k + 1,A2,c2) (by dsimp only; omega) (by dsimp only; omega) ⟨rfl,rfl,rfl,by rw [e1,lAp]; rfl,trivial⟩ ?_
  refine Ent.pickE 0 rfl (by rw [e1,mAp,lAp]; rfl) ?_
  (exact zE)
 ·rw [List.take_of_length_le (by omega)]
  exact Nx.ret_fn rfl [_] ⟨A',c',rfl,rfl⟩ (by exact zE)
theorem prod_cons (x : Int) (r : List Int) : prod (x :: r) = x * prod r:=by
 have key : ∀ (r : List Int) (a : Int),r.foldl (· * ·) a = a * r.foldl (· * ·) 1:=by
  intro r
  induction r with
  | nil => intro a; simp
  | cons y r ih => intro a; simp only [List.foldl_cons]; rw [ih (a * y),ih (1 * y),Int.one_mul,Int.mul_assoc]
 unfold prod
 rw [List.foldl_cons,key,Int.one_mul]
theorem prod_drop (l : List Int) (k : Nat) (hk : k < l.length) : prod (l.drop k) = l.getD k default * prod (l.drop (k + 1)):=by
 rw [drop_at hk,prod_cons]
theorem prod_drop_pos {l : List Int} (hs : Sizes l) : ∀ j,j ≤ l.length → 0 < prod (l.drop (l.length - j))
 | 0,_ => by simp [prod]
 | j + 1,hj => by
  have ih:=prod_drop_pos hs j (by omega)
  have hx:=hs.at (k:=l.length - (j + 1)) (by omega)
  rw [prod_drop l _ (by omega),show l.length - (j + 1) + 1 = l.length - j by omega]
  exact Int.mul_pos (by omega) ih
def plAt (l : List Int) (n : Int) (k : Nat) : Int:=(n / prod (l.drop (k + 1))) % l.getD k default
def pl (l : List Int) (n : Int) : List Int:=(List.range l.length).map (plAt l n)
theorem map_range_at (f : Nat → Int) (m k : Nat) (h : k < m) : ((List.range m).map f).getD k default = f k:=by
 rw [gEl,gMp,List.getElem?_range h]; rfl
theorem list_ext {xs ys : List Int} (hl : xs.length = ys.length) (h : ∀ k,k < xs.length → xs.getD k default = ys.getD k default) : xs = ys:=by
 refine List.ext_getElem hl fun k h1 h2 => ?_
 have:=h k h1
 rw [gEl,gEl,gEq h1,gEq h2] at this
 exact this
theorem numK_div {l xs : List Int} (hs : Sizes l) (hx : InR l xs) : ∀ j,j ≤ l.length → numK l xs l.length / prod (l.drop (l.length - j)) = numK l xs (l.length - j)
 | 0,_ => by simp [prod]
 | j + 1,hj => by
  have ih:=numK_div hs hx j (by omega)
  have hp:=prod_drop_pos hs j (by omega)
  have hat:=hs.at (k:=l.length - (j + 1)) (by omega)
  have hxk:=hx.each (l.length - (j + 1)) (by omega)
  have e1 : l.length - (j + 1) + 1 = l.length - j:=by omega
  rw [prod_drop l _ (by omega),e1,Int.mul_comm,← Int.ediv_ediv_of_nonneg (by omega),ih]
  have e2 : numK l xs (l.length - j) = numK l xs (l.length - (j + 1)) * l.getD (l.length - (j + 1)) default + xs.getD (l.length - (j + 1)) default:=by rw [← e1]; rfl
  rw [e2,Int.add_comm,Int.add_mul_ediv_right _ _ (by omega),Int.ediv_eq_zero_of_lt hxk.1 hxk.2,Int.zero_add]
theorem pl_of {l xs : List Int} {n : Int} (hs : Sizes l) (hx : InR l xs) (hn : numK l xs l.length = n) : xs = pl l n:=by
 refine list_ext (by simp [pl,hx.len]) fun k hk => ?_
 have hk' : k < l.length:=by have:=hx.len; omega
 have h1:=numK_div hs hx (l.length - (k + 1)) (by omega)
 rw [show l.length - (l.length - (k + 1)) = k + 1 by omega] at h1
 unfold pl
 rw [map_range_at _ _ _ hk',plAt,← hn,h1]
 have hxk:=hx.each k hk'
 show _ = (numK l xs k * l.getD k default + xs.getD k default) % l.getD k default
 rw [Int.add_comm,Int.add_mul_emod_self_right,Int.emod_eq_of_lt hxk.1 hxk.2]
theorem numb_facts : ∀ (l : List Int) (nx n : Int),numb l nx = some n → nx ≤ n ∧ n ≤ nx + l.length ∧ (∀ x ∈ l,-1 ≤ x ∧ x < n) ∧ (nx < n → n - 1 ∈ l)
 | [],nx,n,h => by simp [numb] at h; subst h; simp
 | g :: r,nx,n,h => by
  unfold numb at h
  split at h
  ·cases h
  ·rename_i hg
   by_cases he : g = nx
   ·rw [if_pos he] at h
    obtain ⟨h1,h2,h3,h4⟩:=numb_facts r _ n h
    refine ⟨by omega,by simp; omega,fun x hx => ?_,fun hlt => ?_⟩
    ·rcases List.mem_cons.1 hx with rfl | hx
     ·omega
     ·exact h3 x hx
    ·by_cases h5 : nx + 1 < n
     ·exact List.mem_cons_of_mem _ (h4 h5)
     ·rw [show n - 1 = g by omega]; exact List.mem_cons_self
   ·rw [if_neg he] at h
    obtain ⟨h1,h2,h3,h4⟩:=numb_facts r _ n h
    refine ⟨h1,by simp; omega,fun x hx => ?_,fun hlt => List.mem_cons_of_mem _ (h4 hlt)⟩
    rcases List.mem_cons.1 hx with rfl | hx
    ·omega
    ·exact h3 x hx
theorem maxL_le (l : List Int) : ∀ k j, j ≤ k → l.getD j default ≤ maxL l k
  | 0, j, h => by obtain rfl : j = 0 := by omega
                  exact Int.le_refl _
  | k + 1, j, h => by
    simp only [maxL]
    by_cases hj : j ≤ k
    · have := maxL_le l k j hj; omega
    · obtain rfl : j = k + 1 := by omega
      omega
theorem maxL_at (l : List Int) : ∀ k,∃ j,j ≤ k ∧ maxL l k = l.getD j default
 | 0 => ⟨0,nLr _,rfl⟩
 | k + 1 => by
  obtain ⟨j,hj,he⟩:=maxL_at l k
  simp only [maxL]
  by_cases h : maxL l k ≤ l.getD (k + 1) default
  ·exact ⟨k + 1,nLr _,by omega⟩
  ·exact ⟨j,by omega,by omega⟩
theorem getD_mem {l : List Int} {k : Nat} (h : k < l.length) : l.getD k default ∈ l:=by
 rw [gEl,gEq h]; exact List.getElem_mem _
theorem mem_getD {l : List Int} {x : Int} (h : x ∈ l) : ∃ k,k < l.length ∧ l.getD k default = x:=by
 obtain ⟨k,hk,he⟩:=List.mem_iff_getElem.1 h
 exact ⟨k,hk,by rw [gEl,gEq hk]; exact he⟩
structure Grouped (l : List Int) : Prop where
 pos : 1 ≤ l.length
 max : 0 ≤ maxL l (l.length - 1) ∧ maxL l (l.length - 1) < l.length
 each : ∀ k,k < l.length → -1 ≤ l.getD k default ∧ l.getD k default ≤ maxL l (l.length - 1)
theorem grouped_of {l : List Int} (h : numbB l = true) : Grouped l:=by
 unfold numbB at h
 split at h
 ·rename_i n hn
  have h0 : 0 < n:=of_decide_eq_true h
  obtain ⟨h1,h2,h3,h4⟩:=numb_facts l 0 n hn
  have hm:=h4 h0
  obtain ⟨k,hk,he⟩:=mem_getD hm
  have h5:=maxL_le l (l.length - 1) k (by omega)
  obtain ⟨j,hj,hj'⟩:=maxL_at l (l.length - 1)
  have h6:=h3 _ (getD_mem (l:=l) (k:=j) (by omega))
  have h7 : maxL l (l.length - 1) = n - 1:=by omega
  refine ⟨by omega,by omega,fun i hi => ?_⟩
  have:=h3 _ (getD_mem hi)
  omega
 ·cases h
def gsOf (v : List Row) (xs : List Int) : List Int:=(List.range v.length).map fun i => (v.getD i default).2.2.getD (xs.getD i default).toNat default
def pubOf (l : List Int) (v : List Row) (n : Nat) : Int:=if (gsOf v (pl l n)).contains (-1) then -1 else numK (szs v) (gsOf v (pl l n)) v.length
def pubs (l : List Int) (v : List Row) : List Int:=(List.range (prod l).toNat).map (pubOf l v)
theorem szs_len (v : List Row) : (szs v).length = v.length:=by simp [szs]
theorem szs_at (v : List Row) (k : Nat) (hk : k < v.length) : (szs v).getD k default = 1 + maxL (v.getD k default).2.2 ((v.getD k default).2.2.length - 1):=by
 unfold szs
 rw [gEl,gMp,gEl,gEq hk]
 rfl
theorem Viewed.grouped {l : List Int} {v : List Row} (hw : Viewed l v) {k : Nat} (hk : k < l.length) : Grouped (v.getD k default).2.2:=grouped_of (hw.each k hk).2
theorem Viewed.szs {l : List Int} {v : List Row} (hw : Viewed l v) {k : Nat} (hk : k < l.length) : 1 ≤ (szs v).getD k default ∧ (szs v).getD k default ≤ l.getD k default:=by
 have hg:=hw.grouped hk
 have h1:=(hw.each k hk).1
 have h2:=hg.max
 rw [szs_at v k (by rw [hw.len]; exact hk)]
 omega
theorem prod_le {a b : List Int} (hl : a.length = b.length) (h : ∀ k,k < b.length → 1 ≤ a.getD k default ∧ a.getD k default ≤ b.getD k default) : ∀ k,k ≤ b.length → 1 ≤ prod (a.take k) ∧ prod (a.take k) ≤ prod (b.take k)
 | 0,_ => by simp [prod]
 | k + 1,hk => by
  have ih:=prod_le hl h k (by omega)
  have hx:=h k (by omega)
  rw [prod_succ a k (by omega),prod_succ b k (by omega)]
  refine ⟨?_,Int.mul_le_mul ih.2 hx.2 (by omega) (by omega)⟩
  have:=Int.mul_le_mul ih.1 hx.1 (by omega) (by omega)
  omega
theorem Viewed.sizes {l : List Int} {v : List Row} (hs : Sizes l) (hw : Viewed l v) : Sizes (Proofs.YtpcnapidlhpbkaaGreatDoor.szs v):=by
 have hlen : (Proofs.YtpcnapidlhpbkaaGreatDoor.szs v).length = l.length:=by rw [szs_len,hw.len]
 refine ⟨by rw [hlen]; exact hs.dims,fun x hx => ?_,?_⟩
 ·obtain ⟨k,hk,rfl⟩:=mem_getD hx
  have h1:=hw.szs (k:=k) (by omega)
  have h2:=hs.at (k:=k) (by omega)
  omega
 ·have:=prod_le hlen (fun k hk => hw.szs hk) l.length (nLr _)
  rw [tLn,← hlen,tLn] at this
  have:=hs.cells
  omega
theorem gsOf_len (v : List Row) (xs : List Int) : (gsOf v xs).length = v.length:=by simp [gsOf]
theorem gsOf_at (v : List Row) (xs : List Int) (k : Nat) (hk : k < v.length) : (gsOf v xs).getD k default = (v.getD k default).2.2.getD (xs.getD k default).toNat default:=map_range_at _ _ _ hk
theorem gsOf_bd {l : List Int} {v : List Row} {xs : List Int} (hw : Viewed l v) (hx : InR l xs) {k : Nat} (hk : k < l.length) : -1 ≤ (gsOf v xs).getD k default ∧ (gsOf v xs).getD k default < (szs v).getD k default:=by
 have hkv : k < v.length:=by rw [hw.len]; exact hk
 have hg:=hw.grouped hk
 have h1:=(hw.each k hk).1
 have h2:=hx.each k hk
 have h3:=hg.each (xs.getD k default).toNat (by omega)
 rw [gsOf_at v xs k hkv,szs_at v k hkv]
 omega
theorem gsOf_in {l : List Int} {v : List Row} {xs : List Int} (hw : Viewed l v) (hx : InR l xs) (hc : (gsOf v xs).contains (-1) = false) : InR (szs v) (gsOf v xs):=by
 refine ⟨by rw [gsOf_len,szs_len],fun k hk => ?_⟩
 rw [szs_len,hw.len] at hk
 have h1:=gsOf_bd hw hx hk
 refine ⟨?_,h1.2⟩
 have hne : (gsOf v xs).getD k default ≠ -1:=fun h => by
  have hm:=getD_mem (l:=gsOf v xs) (k:=k) (by rw [gsOf_len,hw.len]; exact hk)
  rw [h] at hm
  rw [List.contains_eq_mem,decide_eq_false_iff_not] at hc
  exact hc hm
 omega
theorem mod_range {a d : Int} (h : 1 ≤ d) : 0 ≤ a % d ∧ a % d < d:=⟨Int.emod_nonneg _ (by omega),Int.emod_lt_of_pos _ (by omega)⟩
theorem pl_in {l : List Int} (hs : Sizes l) (n : Int) : InR l (pl l n):=by
 refine ⟨by simp [pl],fun k hk => ?_⟩
 unfold pl
 rw [map_range_at _ _ _ hk]
 exact mod_range (hs.at hk).1
theorem pub_bd {l : List Int} {v : List Row} (hs : Sizes l) (hw : Viewed l v) (n : Nat) : -1 ≤ pubOf l v n ∧ pubOf l v n < prod (szs v):=by
 have hp:=(hw.sizes hs).bound (k:=(szs v).length) (nLr _)
 rw [tLn] at hp
 unfold pubOf
 split
 ·omega
 ·rename_i hc
  have hin:=gsOf_in hw (pl_in hs n) (by simpa using hc)
  have:=numK_bound hin (szs v).length (nLr _)
  rw [tLn,szs_len] at this
  omega
theorem RowsOf.mono {I I' : PH} {A : Option Addr} {c : Nat} {v : List Row} (hle : PH.le I I') (h : RowsOf I A c v) : RowsOf I' A c v:=⟨h.outer.mono hle,fun r hr => (h.inner r hr).mono hle⟩
theorem mix_at {gs xs : List Int} {i : Nat} (hl : gs.length = xs.length) (hi : i < xs.length) : (gs.take i ++ xs.drop i).getD i default = xs.getD i default:=by
 rw [gEl,List.getElem?_append_right (by rw [lTk]; omega),lTk,show i - min i gs.length = 0 by omega,List.getElem?_drop,gEl]; rfl
theorem mix_len {gs xs : List Int} {i : Nat} (hl : gs.length = xs.length) (hi : i ≤ xs.length) : (gs.take i ++ xs.drop i).length = xs.length:=by
 rw [lAp,lTk,List.length_drop]; omega
theorem mix_set {gs xs : List Int} {i : Nat} (hl : gs.length = xs.length) (hi : i < xs.length) : (gs.take i ++ xs.drop i).set i (gs.getD i default) = gs.take (i + 1) ++ xs.drop (i + 1):=by
 rw [List.set_append,if_neg (by rw [lTk]; omega),lTk,show i - min i gs.length = 0 by omega,tSu (by omega),List.append_assoc,List.drop_eq_getElem_cons hi,List.set_cons_zero]
 simp [List.getD_eq_getElem?_getD,List.getElem?_eq_getElem (show i < gs.length by omega)]
theorem map_range_succ (f : Nat → Int) (n : Nat) : (List.range (n + 1)).map f = (List.range n).map f ++ [f n]:=by rw [List.range_succ,mAp]; rfl
theorem published_spec (A B : Option Addr) (c cv : Nat) (l : List Int) (v : List Row) (I : PH) (hl : Ints I A c l) (hs : Sizes l) (hv : RowsOf I B cv v) (hw : Viewed l v) :
  FnSpec Tryz.prog 139 [.agg #[.slice A l.length c],.agg #[.slice B v.length cv]] I [] (fun u R' => ∃ A' c',u = .slice A' (pubs l v).length c' ∧ R' = [Vec 3 1 A' (pubs l v).length c' ((pubs l v).map (Value.int .i64))]):=by
 have hlen:=hl.len
 have hd:=hs.dims
 have hvl:=hw.len
 have hpr:=hs.bound (k:=l.length) (nLr _)
 rw [tLn] at hpr
 refine FnSpec.enterP Tryz.func139 rfl Tryz.ntmps139 rfl fun w F => ?_
 repeat' first | refine kS ?_ | refine kB fun bx => ?_ | refine kA fun A2 c2 => ?_ | refine kX (fun hc => ?_) fun hc => ?_ | fail
 refine Nx.at_op rfl rfl ?_
 refine Nx.call rfl rfl rfl (by kernel_rfl) rfl (sizes_spec B cv v I hv (by omega) (fun k hk => ?_)) (by exact zE) ?_
 ·have:=hw.grouped (k:=k) (by omega)
  have h1:=(hw.each k (by omega)).1
  have h2:=hs.at (k:=k) (by omega)
  have:=this.max; have:=(hw.grouped (k:=k) (by omega)).pos
  omega
 rintro u R' ⟨As,cs,rfl,rfl⟩
 refine Nx.freezeAt 0 rfl fun I' m hle hm hvec => ?_
 have hz : Ints I' As cs (szs v):=Vec.sliceOf hm hvec
 have hl':=hl.mono hle
 have hv':=hv.mono hle
 repeat' first | refine kW ?_ | (refine Nx.zo ?_; first | refine kP ?_ | refine Nx.callv rfl rfl rfl (by kernel_rfl) rfl (product_spec _ _ _ _ hl' hs) ?_) | refine kS ?_ | refine kB fun bx => ?_ | refine kA fun A2 c2 => ?_ | refine kX (fun hc => ?_) fun hc => ?_ | fail
 rename_i b2
 refine Nx.p_loop (σ:=Nat × Option Addr × Nat) (fun s => [(2,.pointer (some ⟨b2,0,none⟩)),(3,.pointer (some ⟨bx,0,none⟩)),(5,.slice As (szs v).length cs),(6,.slice s.2.1 s.1 s.2.2),(15,.int .i64 (prod l)),(16,.int .i64 (s.1 : Int))])
  (fun s => [Vec 3 1 s.2.1 s.1 s.2.2 (((List.range s.1).map (pubOf l v)).map (Value.int .i64)),Blk b2 54 [.slice A l.length c],Blk bx 114 [.slice B v.length cv],F]) (fun s => s.1 ≤ (prod l).toNat) (fun s => (prod l).toNat - s.1) (0,none,0) rfl (nZl _) zR ((Ent.vec_nil _ _ _).trans (by exact zE)) ?_
 rintro ⟨k,A',c'⟩ hk
 dsimp only at hk ⊢
 have hmono : k < (prod l).toNat → (k : Int) < prod l:=fun h => by omega
 repeat' first | refine kS ?_ | refine kB fun bx => ?_ | refine kA fun A2 c2 => ?_ | refine kX (fun hc => ?_) fun hc => ?_ | fail
 ·refine Nx.at_op rfl rfl ?_
  refine Nx.call rfl rfl rfl (by kernel_rfl) rfl (places_spec A c l k I' hl' hs (by omega)) (Ent.refl _) ?_
  rintro u R' ⟨bp,xs,rfl,hr,hnum,_,rfl⟩
  have hpl:=pl_of hs hr hnum
  have hxl:=hr.len
  have hgl : (gsOf v xs).length = xs.length:=by rw [gsOf_len]; omega
  repeat' first | refine kS ?_ | refine kB fun bx => ?_ | refine kA fun A2 c2 => ?_ | refine kX (fun hc => ?_) fun hc => ?_ | fail
  refine Nx.p_loop (σ:=Nat) (fun i => [(2,.pointer (some ⟨b2,0,none⟩)),(3,.pointer (some ⟨bx,0,none⟩)),(5,.slice As (szs v).length cs),(6,.slice A' k c'),(15,.int .i64 (prod l)),(16,.int .i64 (k : Int)),(8,.slice (some ⟨bp,0,none⟩) xs.length xs.length),(23,.slice (some ⟨bp,0,none⟩) xs.length xs.length),(24,.int .i64 xs.length),(25,.int .i64 (i : Int))])
   (fun i => [Vec 3 1 (some ⟨bp,0,none⟩) xs.length xs.length (((gsOf v xs).take i ++ xs.drop i).map (Value.int .i64)),Vec 3 1 A' k c' (((List.range k).map (pubOf l v)).map (Value.int .i64)),Blk b2 54 [.slice A l.length c],Blk bx 114 [.slice B v.length cv],F]) (fun i => i ≤ xs.length) (fun i => xs.length - i) 0 rfl (nZl _) zR (by exact zE) ?_
  intro i hi
  have hmx : i < xs.length → ((gsOf v xs).take i ++ xs.drop i).getD i default = xs.getD i default:=fun h => mix_at hgl h
  have hml:=mix_len hgl hi
  have hxi:=hr.each i
  have hwi:=hw.each i
  have hgi : i < v.length → (gsOf v xs).getD i default = (v.getD i default).2.2.getD (xs.getD i default).toNat default:=gsOf_at v xs i
  by_cases hlt : i < xs.length
  ·have hmx:=hmx hlt
   have hgi:=hgi (by omega)
   repeat' first | refine kW ?_ | (refine Nx.zo ?_; first | refine kP ?_ | refine Nx.indexAddr_nat rfl rfl rfl rfl rfl (by omega) rfl ?_ | refine Nx.load rfl rfl rfl (Rd.vecEl 0 rfl (by omega)) ?_) | refine kS ?_ | refine kB fun bx => ?_ | refine kA fun A2 c2 => ?_ | refine kX (fun hc => ?_) fun hc => ?_ | fail
   repeat' first | refine kW ?_ | (refine Nx.zo ?_; first | refine kP ?_ | refine Nx.indexAddr_nat rfl rfl rfl rfl rfl (by omega) (hv'.outer.isSome (by omega)) ?_ | refine Nx.load rfl rfl rfl (hv'.outer.rd (by omega)) ?_) | refine kS ?_ | refine kB fun bx => ?_ | refine kA fun A2 c2 => ?_ | refine kX (fun hc => ?_) fun hc => ?_ | fail
   refine Nx.at_op rfl rfl ?_
   refine Nx.indexAddr rfl rfl rfl rfl rfl (by omega) (by omega) ((hv'.at (by omega)).isSome (by omega)) ?_
   refine Nx.at_op rfl rfl ?_
   refine Nx.load rfl rfl rfl ((hv'.at (by omega)).rd (by omega)) ?_
   repeat' first | refine kW ?_ | (refine Nx.zo ?_; first | refine kP ?_ | refine Nx.indexAddr_nat rfl rfl rfl rfl rfl (by omega) rfl ?_) | refine kS ?_ | refine kB fun bx => ?_ | refine kA fun A2 c2 => ?_ | refine kX (fun hc => ?_) fun hc => ?_ | fail
   refine Nx.again (i + 1) (by omega) (by omega) zR ?_
   refine Ent.pickE 0 rfl ?_ (by exact zE)
   rw [hmx,← hgi,mix_set hgl hlt]
  ·obtain rfl : i = xs.length:=by omega
   have hfull : (gsOf v xs).take xs.length ++ xs.drop xs.length = gsOf v xs:=by rw [List.drop_length,List.append_nil,← hgl,tLn]
   rw [hfull]
   repeat' first | refine kS ?_ | refine kB fun bx => ?_ | refine kA fun A2 c2 => ?_ | refine kX (fun hc => ?_) fun hc => ?_ | fail
   refine Nx.freezeAt 0 rfl fun I2 m2 hle2 hm2 hvec2 => ?_
   have hgs : Ints I2 (some ⟨bp,0,none⟩) (gsOf v xs).length (gsOf v xs):=Vec.sliceOf (t:=3) hm2 (by rw [hgl]; exact hvec2)
   rw [← hgl]
   have hpub : pubOf l v k = if (gsOf v xs).contains (-1) then -1 else numK (szs v) (gsOf v xs) (szs v).length:=by rw [hpl,szs_len]; rfl
   repeat' first | refine kW ?_ | (refine Nx.zo ?_; first | refine kP ?_ | refine Nx.callv rfl rfl rfl (by kernel_rfl) rfl (Contains_spec _ _ _ _ _ hgs) ?_ | refine Nx.callv rfl rfl rfl (by kernel_rfl) rfl (number_spec _ _ _ _ _ _ _ (hz.mono hle2) hgs (hw.sizes hs) (gsOf_in hw hr hc)) ?_) | refine kS ?_ | refine kB fun bx => ?_ | refine kA fun A2 c2 => ?_ | refine kX (fun hc => ?_) fun hc => ?_ | fail
   ·refine Nx.imm_le hle2 (Nx.again (k + 1,A2,c2) (by dsimp only; omega) (by dsimp only; omega) zR ?_)
    refine Ent.pickE 0 rfl ?_ (by exact zE)
    rw [map_range_succ,hpub,if_pos hc,mAp]; rfl
   ·refine Nx.imm_le hle2 (Nx.again (k + 1,A2,c2) (by dsimp only; omega) (by dsimp only; omega) zR ?_)
    refine Ent.pickE 0 rfl ?_ (by exact zE)
    rw [map_range_succ,hpub,if_neg (by rw [hc]; decide),mAp]; rfl
 ·obtain rfl : k = (prod l).toNat:=by omega
  refine Nx.imm_le hle (Nx.ret_fn rfl [_] ⟨A',c',?_,?_⟩ (by exact zE))
  ·simp [pubs]
  ·simp [pubs]
def memK (l : List Int) (v : List Row) (k : Int) (n : Nat) : List Int:=((List.range n).filter (fun j => decide (pubOf l v j = k))).map (fun j : Nat => (j : Int))
theorem memK_len (l : List Int) (v : List Row) (k : Int) (n : Nat) : (memK l v k n).length ≤ n:=by
 unfold memK
 rw [lMp]
 exact Nat.le_trans (List.length_filter_le _ _) (by simp)
theorem memK_succ (l : List Int) (v : List Row) (k : Int) (n : Nat) : memK l v k (n + 1) = memK l v k n ++ if pubOf l v n = k then [(n : Int)] else []:=by
 unfold memK
 rw [List.range_succ,List.filter_append,mAp]
 by_cases h : pubOf l v n = k <;> simp [h]
theorem pubs_len (l : List Int) (v : List Row) : (pubs l v).length = (prod l).toNat:=by simp [pubs]
theorem pubs_at (l : List Int) (v : List Row) (n : Nat) (h : n < (prod l).toNat) : (pubs l v).getD n default = pubOf l v n:=map_range_at _ _ _ h
theorem Viewed.szsOk {l : List Int} {v : List Row} (hs : Sizes l) (hw : Viewed l v) : v.length ≤ 4 ∧ ∀ k,k < v.length → 1 ≤ (v.getD k default).2.2.length ∧ -8 ≤ maxL (v.getD k default).2.2 ((v.getD k default).2.2.length - 1) ∧ maxL (v.getD k default).2.2 ((v.getD k default).2.2.length - 1) ≤ 8:=by
 have hd:=hs.dims
 have hl:=hw.len
 refine ⟨by omega,fun k hk => ?_⟩
 have h1:=(hw.each k (by omega)).1
 have h2:=hs.at (k:=k) (by omega)
 have:=(hw.grouped (k:=k) (by omega)).max; have:=(hw.grouped (k:=k) (by omega)).pos
 omega
theorem Published_spec (A B : Option Addr) (c cv : Nat) (l : List Int) (v : List Row) (I : PH) (hl : Ints I A c l) (hs : Sizes l) (hv : RowsOf I B cv v) (hw : Viewed l v) :
  FnSpec Tryz.prog 178 [.agg #[.slice A l.length c],.agg #[.slice B v.length cv]] I [] (fun u R' => u = .int .i64 (prod (szs v)) ∧ R' = []):=by
 refine FnSpec.enterP Tryz.func178 rfl Tryz.ntmps178 rfl fun w F => ?_
 repeat' first | refine kW ?_ | (refine Nx.zo ?_; first | refine kP ?_ | refine Nx.callv rfl rfl rfl (by kernel_rfl) rfl (View_spec _ _ _ _ _ _ _ hl hs hv hw) ?_) | refine kS ?_ | refine kB fun bx => ?_ | refine kA fun A2 c2 => ?_ | refine kX (fun hc => ?_) fun hc => ?_ | fail
 refine Nx.at_op rfl rfl ?_
 refine Nx.call rfl rfl rfl (by kernel_rfl) rfl (sizes_spec B cv v I hv (hw.szsOk hs).1 (hw.szsOk hs).2) (by exact zE) ?_
 rintro u R' ⟨As,cs,rfl,rfl⟩
 refine Nx.freezeAt 0 rfl fun I' m hle hm hvec => ?_
 have hz : Ints I' As cs (szs v):=Vec.sliceOf hm hvec
 repeat' first | refine kW ?_ | (refine Nx.zo ?_; first | refine kP ?_ | refine Nx.callv rfl rfl rfl (by kernel_rfl) rfl (product_spec _ _ _ _ hz (hw.sizes hs)) ?_) | refine kS ?_ | refine kB fun bx => ?_ | refine kA fun A2 c2 => ?_ | refine kX (fun hc => ?_) fun hc => ?_ | fail
 exact Nx.imm_le hle kT
theorem Members_spec (A B : Option Addr) (c cv : Nat) (l : List Int) (v : List Row) (k : Int) (I : PH) (hl : Ints I A c l) (hs : Sizes l) (hv : RowsOf I B cv v) (hw : Viewed l v) (hk : 0 ≤ k ∧ k < prod (szs v)) :
  FnSpec Tryz.prog 124 [.agg #[.slice A l.length c],.agg #[.slice B v.length cv],.int .i64 k] I [] (fun u R' => ∃ A' c',u = .tuple #[.slice A' (memK l v k (prod l).toNat).length c',.int .i64 0] ∧ R' = [Vec 3 1 A' (memK l v k (prod l).toNat).length c' ((memK l v k (prod l).toNat).map (Value.int .i64))]):=by
 have hpr:=hs.bound (k:=l.length) (nLr _)
 rw [tLn] at hpr
 have hpl:=pubs_len l v
 refine FnSpec.enterP Tryz.func124 rfl Tryz.ntmps124 rfl fun w F => ?_
 repeat' first | refine kW ?_ | (refine Nx.zo ?_; first | refine kP ?_ | refine Nx.callv rfl rfl rfl (by kernel_rfl) rfl (View_spec _ _ _ _ _ _ _ hl hs hv hw) ?_) | refine kS ?_ | refine kB fun bx => ?_ | refine kA fun A2 c2 => ?_ | refine kX (fun hc => ?_) fun hc => ?_ | fail
 refine Nx.at_do rfl rfl rfl rfl ?_
 refine Nx.call rfl rfl rfl (by kernel_rfl) rfl (sizes_spec B cv v I hv (hw.szsOk hs).1 (hw.szsOk hs).2) (by exact zE) ?_
 rintro u R' ⟨As,cs,rfl,rfl⟩
 refine Nx.freezeAt 0 rfl fun I' m hle hm hvec => ?_
 have hz : Ints I' As cs (szs v):=Vec.sliceOf hm hvec
 repeat' first | refine kW ?_ | (refine Nx.zo ?_; first | refine kP ?_ | refine Nx.callv rfl rfl rfl (by kernel_rfl) rfl (product_spec _ _ _ _ hz (hw.sizes hs)) ?_) | refine kS ?_ | refine kB fun bx => ?_ | refine kA fun A2 c2 => ?_ | refine kX (fun hc => ?_) fun hc => ?_ | fail
 refine Nx.at_op rfl rfl ?_
 refine Nx.call rfl rfl rfl (by kernel_rfl) rfl (published_spec A B c cv l v I' (hl.mono hle) hs (hv.mono hle) hw) (by exact zE) ?_
 rintro u R' ⟨Ap,cp,rfl,rfl⟩
 refine Nx.freezeAt 0 rfl fun I2 m2 hle2 hm2 hvec2 => ?_
 have hp : Ints I2 Ap cp (pubs l v):=Vec.sliceOf hm2 hvec2
 have hplen:=hp.len
 repeat' first | refine kS ?_ | refine kB fun bx => ?_ | refine kA fun A2 c2 => ?_ | refine kX (fun hc => ?_) fun hc => ?_ | fail
 refine Nx.p_loop (σ:=Nat × Option Addr × Nat) (fun s => [(2,.int .i64 k),(9,.slice s.2.1 (memK l v k s.1).length s.2.2),(29,.slice Ap (pubs l v).length cp),(30,.int .i64 (pubs l v).length),(31,.int .i64 (s.1 : Int))])
  (fun s => [Vec 3 1 s.2.1 (memK l v k s.1).length s.2.2 ((memK l v k s.1).map (Value.int .i64)),F]) (fun s => s.1 ≤ (pubs l v).length) (fun s => (pubs l v).length - s.1) (0,none,0) rfl (nZl _) zR ((Ent.vec_nil _ _ _).trans (by exact zE)) ?_
 rintro ⟨n,A',c'⟩ hn
 dsimp only at hn ⊢
 have hmk:=memK_len l v k n
 have hms:=memK_succ l v k n
 have hat : n < (pubs l v).length → (pubs l v).getD n default = pubOf l v n:=fun h => pubs_at l v n (by omega)
 repeat' first | refine kW ?_ | (refine Nx.zo ?_; first | refine kP ?_ | refine Nx.indexAddr_nat rfl rfl rfl rfl rfl (by omega) (hp.isSome (by omega)) ?_ | refine Nx.load rfl rfl rfl (hp.rd (by omega)) ?_) | refine kS ?_ | refine kB fun bx => ?_ | refine kA fun A2 c2 => ?_ | refine kX (fun hc => ?_) fun hc => ?_ | fail
 ·rw [hat (by omega)] at hc
  rw [if_pos hc] at hms
  refine Nx.again (n + 1,A2,c2) (by dsimp only; omega) (by dsimp only; omega) ⟨rfl,by rw [hms,lAp]; rfl,rfl,rfl,rfl,trivial⟩ ?_
  refine Ent.pickE 0 rfl ?_ (by exact zE)
  rw [hms,mAp,lAp]; rfl
 ·rw [hat (by omega)] at hc
  rw [if_neg hc,List.append_nil] at hms
  refine Nx.again (n + 1,A',c') (by dsimp only; omega) (by dsimp only; omega) ⟨rfl,by rw [hms]; rfl,rfl,rfl,rfl,trivial⟩ ?_
  refine Ent.pickE 0 rfl ?_ (by exact zE)
  rw [hms]
 ·obtain rfl : n = (prod l).toNat:=by omega
  exact Nx.imm_le (hle.trans hle2) (Nx.ret_fn rfl [_] ⟨A',c',rfl,rfl⟩ (by exact zE))
def sumAt (p : Nat → Int) (t : List Int) (k : Int) : Nat → Int
 | 0 => 0
 | n + 1 => sumAt p t k n + if p n = k then t.getD n default else 0
theorem sumAt_bd {p : Nat → Int} {t : List Int} {k : Int} (ht : ∀ j,j < t.length → 0 ≤ t.getD j default ∧ t.getD j default ≤ 1000000) : ∀ n,n ≤ t.length → 0 ≤ sumAt p t k n ∧ sumAt p t k n ≤ n * 1000000
 | 0,_ => by simp [sumAt]
 | n + 1,h => by
  have ih:=sumAt_bd ht n (by omega) (k:=k) (p:=p)
  have:=ht n (by omega)
  simp only [sumAt]
  split <;> omega
def sums (p : Nat → Int) (t : List Int) (P n : Nat) : List Int:=(List.range P).map fun j : Nat => sumAt p t (j : Int) n
theorem sums_len (p : Nat → Int) (t : List Int) (P n : Nat) : (sums p t P n).length = P:=by simp [sums]
theorem sums_at (p : Nat → Int) (t : List Int) (P n j : Nat) (h : j < P) : (sums p t P n).getD j default = sumAt p t (j : Int) n:=map_range_at _ _ _ h
theorem sums_set {p : Nat → Int} {t : List Int} {P n : Nat} {q : Nat} (hq : (q : Int) = p n) : (sums p t P n).set q ((sums p t P n).getD q default + t.getD n default) = sums p t P (n + 1):=by
 refine list_ext (by simp [sums]) fun j hj => ?_
 rw [List.length_set,sums_len] at hj
 rw [sums_at _ _ _ _ _ hj]
 simp only [sumAt]
 by_cases h : q = j
 ·subst h
  rw [getD_set_eq (by rw [sums_len]; exact hj),sums_at _ _ _ _ _ hj,if_pos hq.symm]
 ·rw [getD_set_ne h,sums_at _ _ _ _ _ hj,if_neg (by omega),Int.add_zero]
theorem sums_skip {p : Nat → Int} {t : List Int} {P n : Nat} (hq : p n = -1) : sums p t P (n + 1) = sums p t P n:=by
 unfold sums
 refine List.map_congr_left fun j _ => ?_
 simp only [sumAt]
 rw [if_neg (by omega),Int.add_zero]
theorem sums_zero (p : Nat → Int) (t : List Int) (P : Nat) : sums p t P 0 = List.replicate P 0:=by
 unfold sums
 simp only [sumAt]
 rw [List.map_const',List.length_range]
structure Table (l t : List Int) : Prop where
 len : t.length = (prod l).toNat
 each : ∀ j,j < t.length → 0 ≤ t.getD j default ∧ t.getD j default ≤ 1000000
theorem Table.out {l t : List Int} (h : Table l t) : t.any outB = false:=by
 rw [List.any_eq_false]
 intro x hx
 obtain ⟨k,hk,rfl⟩:=mem_getD hx
 have:=h.each k hk
 unfold outB
 rw [decide_eq_true_eq]
 omega
theorem Publish_spec (A B T : Option Addr) (c cv ct : Nat) (l t : List Int) (v : List Row) (I : PH) (hl : Ints I A c l) (hs : Sizes l) (hv : RowsOf I B cv v) (hw : Viewed l v) (ht : Ints I T ct t) (hT : Table l t) :
  FnSpec Tryz.prog 77 [.agg #[.slice A l.length c],.agg #[.slice B v.length cv],.slice T t.length ct] I [] (fun u R' => ∃ A',u = .tuple #[.slice A' (prod (szs v)).toNat (prod (szs v)).toNat,.int .i64 0] ∧
   R' = [Vec 3 1 A' (prod (szs v)).toNat (prod (szs v)).toNat ((sums (pubOf l v) t (prod (szs v)).toNat t.length).map (Value.int .i64))]):=by
 have hpr:=hs.bound (k:=l.length) (nLr _)
 rw [tLn] at hpr
 have hcl:=hs.cells
 have hpl:=pubs_len l v
 have hzb:=(hw.sizes hs).bound (k:=(szs v).length) (nLr _)
 rw [tLn] at hzb
 have htl:=hT.len
 refine FnSpec.enterP Tryz.func77 rfl Tryz.ntmps77 rfl fun w F => ?_
 repeat' first | refine kW ?_ | (refine Nx.zo ?_; first | refine kP ?_ | refine Nx.callv rfl rfl rfl (by kernel_rfl) rfl (View_spec _ _ _ _ _ _ _ hl hs hv hw) ?_ | refine Nx.callv rfl rfl rfl (by kernel_rfl) rfl (product_spec _ _ _ _ hl hs) ?_ | refine kV (ContainsFunc_spec 137 outB T ct t I ht (by kernel_rfl) (fun x => outB_spec x I)) ?_) | refine kS ?_ | refine kB fun bx => ?_ | refine kA fun A2 c2 => ?_ | refine kX (fun hc => ?_) fun hc => ?_ | fail
 ·exact absurd hc (by rw [hT.out]; decide)
 refine Nx.at_op rfl rfl ?_
 refine Nx.call rfl rfl rfl (by kernel_rfl) rfl (sizes_spec B cv v I hv (hw.szsOk hs).1 (hw.szsOk hs).2) (by exact zE) ?_
 rintro u R' ⟨As,cs,rfl,rfl⟩
 refine Nx.freezeAt 0 rfl fun I' m hle hm hvec => ?_
 have hz : Ints I' As cs (szs v):=Vec.sliceOf hm hvec
 refine Nx.at_op rfl rfl ?_
 refine Nx.callv rfl rfl rfl (by kernel_rfl) rfl (product_spec _ _ _ _ hz (hw.sizes hs)) ?_
 rw [show prod (szs v) = (((prod (szs v)).toNat : Nat) : Int) by omega]
 generalize hP : (prod (szs v)).toNat = P at hzb ⊢
 have hP48 : P ≤ 4096:=by omega
 repeat' first | refine kS ?_ | refine kB fun bx => ?_ | refine kA fun A2 c2 => ?_ | refine kX (fun hc => ?_) fun hc => ?_ | fail
 refine Nx.at_op rfl rfl ?_
 refine Nx.call rfl rfl rfl (by kernel_rfl) rfl (published_spec A B c cv l v I' (hl.mono hle) hs (hv.mono hle) hw) (by exact zE) ?_
 rintro u R' ⟨Ap,cp,rfl,rfl⟩
 refine Nx.freezeAt 0 rfl fun I2 m2 hle2 hm2 hvec2 => ?_
 have hp : Ints I2 Ap cp (pubs l v):=Vec.sliceOf hm2 hvec2
 have hplen:=hp.len
 have ht2:=ht.mono (hle.trans hle2)
 repeat' first | refine kS ?_ | refine kB fun bx => ?_ | refine kA fun A2 c2 => ?_ | refine kX (fun hc => ?_) fun hc => ?_ | fail
 refine Nx.p_loop (σ:=Nat) (fun s => [(2,.slice T t.length ct),(9,.slice (some ⟨bx,0,none⟩) P P),(32,.slice Ap (pubs l v).length cp),(33,.int .i64 (pubs l v).length),(34,.int .i64 (s : Int))])
  (fun s => [Vec 3 1 (some ⟨bx,0,none⟩) P P ((sums (pubOf l v) t P s).map (Value.int .i64)),F]) (fun s => s ≤ (pubs l v).length) (fun s => (pubs l v).length - s) 0 rfl (nZl _) zR (by rw [sums_zero]; (exact zE)) ?_
 intro n hn
 have hat : n < (pubs l v).length → (pubs l v).getD n default = pubOf l v n:=fun h => pubs_at l v n (by omega)
 have hpb:=pub_bd hs hw n
 have hsb:=fun (k : Int) => sumAt_bd (p:=pubOf l v) (k:=k) hT.each n (by omega)
 have hsl:=sums_len (pubOf l v) t P n
 by_cases hlt : n < (pubs l v).length
 ·have hat:=hat hlt
  have htn:=hT.each n (by omega)
  repeat' first | refine kW ?_ | (refine Nx.zo ?_; first | refine kP ?_ | refine Nx.indexAddr_nat rfl rfl rfl rfl rfl (by omega) (hp.isSome (by omega)) ?_ | refine Nx.load rfl rfl rfl (hp.rd (by omega)) ?_) | refine kS ?_ | refine kB fun bx => ?_ | refine kA fun A2 c2 => ?_ | refine kX (fun hc => ?_) fun hc => ?_ | fail
  ·rw [hat] at hc
   obtain ⟨q,hq⟩ : ∃ q : Nat,pubOf l v n = q:=⟨(pubOf l v n).toNat,by omega⟩
   have hqP : q < P:=by omega
   have hsq:=hsb (q : Int)
   have hsa:=sums_at (pubOf l v) t P n q hqP
   rw [hat,hq]
   repeat' first | ((with_reducible refine Nx.is_wp ?_); first | refine Nx.wo ?_ | refine Nx.p_draw (id:=13) rfl [0,1,2,4,5,6,7,3,8,9,10] [3,10] [] rfl rfl (by kernel_rfl) (by kernel_rfl) rfl PanicOk.auto (Ent.nil _) ?_) | (refine Nx.zo ?_; first | refine kP ?_ | refine Nx.load rfl rfl rfl (Rd.vecEl 0 rfl (by omega)) ?_) | refine kS ?_ | refine kB fun bx => ?_ | refine kA fun A2 c2 => ?_ | ((with_reducible refine Nx.is_mix ?_); refine kQ rfl rfl rfl rfl (by first | exact .inl rfl | exact .inr ⟨_,_,_,rfl,rfl,rfl⟩) (by first | exact QRun.opr rfl | exact QRun.idx rfl rfl rfl rfl (by omega) rfl | exact QRun.idx rfl rfl rfl rfl (by omega) (ht2.isSome (by omega)) | exact QRun.load rfl rfl (ht2.rd (by omega))) ?_) | refine kX (fun hc => ?_) fun hc => ?_ | fail
   refine Nx.again (n + 1) (by omega) (by omega) zR ?_
   refine Ent.pickE 0 rfl ?_ (by exact zE)
   rw [sums_set hq.symm]
  ·rw [hat] at hc
   have hc : pubOf l v n = -1:=by omega
   refine Nx.again (n + 1) (by omega) (by omega) zR ?_
   rw [sums_skip hc]
   (exact zE)
 ·repeat' first | refine kS ?_ | refine kB fun bx => ?_ | refine kA fun A2 c2 => ?_ | refine kX (fun hc => ?_) fun hc => ?_ | fail
  obtain rfl : n = t.length:=by omega
  exact Nx.imm_le (hle.trans hle2) (Nx.ret_fn rfl [_] ⟨_,rfl,rfl⟩ (by exact zE))
theorem RAt_spec (A : Option Addr) (c : Nat) (l : List Int) (n : Int) (I : PH) (hl : Ints I A c l) (hs : Sizes l) (hn : 0 ≤ n ∧ n < prod l) :
  FnSpec Tryz.prog 210 [.agg #[.slice A l.length c],.int .i64 n] I [] (fun v R' => ∃ b xs,v = .tuple #[.slice (some ⟨b,0,none⟩) xs.length xs.length,.int .i64 0] ∧ InR l xs ∧ numK l xs l.length = n ∧ R' = [Vec 3 1 (some ⟨b,0,none⟩) xs.length xs.length (xs.map (Value.int .i64))]):=by
 have hlen:=hl.len
 have hd:=hs.dims
 refine FnSpec.enterP Tryz.func210 rfl Tryz.ntmps210 rfl fun w F => ?_
 repeat' first | refine kW ?_ | (refine Nx.zo ?_; first | refine kP ?_ | refine Nx.callv rfl rfl rfl (by kernel_rfl) rfl (RCheck_spec _ _ _ _ hl hs) ?_ | refine Nx.callv rfl rfl rfl (by kernel_rfl) rfl (RCount_spec _ _ _ _ hl hs) ?_) | refine kS ?_ | refine kB fun bx => ?_ | refine kA fun A2 c2 => ?_ | refine kX (fun hc => ?_) fun hc => ?_ | fail
 rename_i b2
 refine Nx.p_loop (σ:=Nat × List Int × Int) (fun s => [(2,.pointer (some ⟨b2,0,none⟩)),(1,.int .i64 s.2.2),(7,.slice (some ⟨bx,0,none⟩) l.length l.length),(8,.int .i64 ((s.1 : Int) - 1))])
  (fun s => [Vec 3 1 (some ⟨bx,0,none⟩) l.length l.length (s.2.1.map (Value.int .i64)),Blk b2 54 [.slice A l.length c],F]) (PlOk l n) (fun s => s.1) (l.length,List.replicate l.length 0,n) rfl
  ⟨Nat.le_refl _,by simp,⟨hn.1,by rw [List.take_length]; exact hn.2⟩,fun i h1 h2 => absurd h2 (Nat.not_lt.2 h1),by show contF l _ (l.length - l.length) _ n = n; rw [Nat.sub_self]; rfl,fun h => absurd h (Nat.lt_irrefl _),fun _ => rfl⟩ zR (by exact zE) ?_
 rintro ⟨j,xs,m⟩ hok
 dsimp only
 rcases j with _ | j
 ·repeat' first | refine kS ?_ | refine kB fun bx => ?_ | refine kA fun A2 c2 => ?_ | refine kX (fun hc => ?_) fun hc => ?_ | fail
  have h0 : m = 0:=by have:=hok.m; simp [prod] at this; omega
  have h1 : xs.length = l.length:=hok.len
  refine Nx.ret_fn rfl [_] ⟨bx,xs,by rw [h1],⟨h1,fun k hk => hok.each k (nZl _) hk⟩,?_,by rw [h1]⟩ (by exact zE)
  have h2:=hok.num
  subst h0
  have h3:=contF_num l xs l.length 0
  rw [Nat.zero_add] at h3
  rw [← h3]
  exact h2
 ·have hle : j + 1 ≤ l.length:=hok.le
  have hxl : xs.length = l.length:=hok.len
  have hm:=hok.m
  have hb:=hs.bound hle
  have hat:=hs.at (k:=j) (by omega)
  have hm1 : 0 ≤ m ∧ m < prod (l.take (j + 1)):=hm
  rw [show (((j + 1 : Nat) : Int) - 1) = (j : Int) by omega]
  repeat' first | refine kW ?_ | (refine Nx.zo ?_; first | refine kP ?_ | refine Nx.indexAddr_nat rfl rfl rfl rfl rfl (by omega) (hl.isSome (by omega)) ?_ | refine Nx.indexAddr_nat rfl rfl rfl rfl rfl (by omega) rfl ?_ | refine Nx.load rfl rfl rfl (hl.rd (by omega)) ?_) | refine kS ?_ | refine kB fun bx => ?_ | refine kA fun A2 c2 => ?_ | refine kX (fun hc => ?_) fun hc => ?_ | fail
  exact Nx.again (j,xs.set j (m % l.getD j default),m / l.getD j default) (hok.step hs) (by dsimp only; omega) zR (by exact zE)
def grpK (l : List Int) : Nat → Int
 | 0 => 0
 | k + 1 => max (grpK l k) (l.getD k default + 1)
theorem grpK_eq (l : List Int) : ∀ k,grpK l (k + 1) = max 0 (1 + maxL l k)
 | 0 => by simp only [grpK,maxL]; omega
 | k + 1 => by
  have:=grpK_eq l k
  simp only [grpK,maxL] at this ⊢
  omega
theorem grpK_bd (l : List Int) (h : ∀ k,k < l.length → -1 ≤ l.getD k default ∧ l.getD k default ≤ 1000) : ∀ k,k ≤ l.length → 0 ≤ grpK l k ∧ grpK l k ≤ 1001
 | 0,_ => by simp [grpK]
 | k + 1,hk => by
  have ih:=grpK_bd l h k (by omega)
  have:=h k (by omega)
  simp only [grpK]; omega
theorem Groups_spec (A : Option Addr) (c : Nat) (l : List Int) (I : PH) (hl : Ints I A c l) (hg : Grouped l) (h8 : l.length ≤ 1000) :
  FnSpec Tryz.prog 209 [.slice A l.length c] I [] (fun v R' => v = .int .i64 (1 + maxL l (l.length - 1)) ∧ R' = []):=by
 have hlen:=hl.len
 have hm:=hg.max
 have hp:=hg.pos
 have he : ∀ k,k < l.length → -1 ≤ l.getD k default ∧ l.getD k default ≤ 1000:=fun k hk => by have:=hg.each k hk; omega
 have hlast : grpK l l.length = 1 + maxL l (l.length - 1):=by
  have:=grpK_eq l (l.length - 1)
  rw [show l.length - 1 + 1 = l.length by omega] at this
  omega
 refine FnSpec.enterP Tryz.func209 rfl Tryz.ntmps209 rfl fun w F => ?_
 repeat' first | refine kS ?_ | refine kB fun bx => ?_ | refine kA fun A2 c2 => ?_ | refine kX (fun hc => ?_) fun hc => ?_ | fail
 refine Nx.p_loop (σ:=Nat) (fun k => [(6,.slice A l.length c),(7,.int .i64 l.length),(8,.int .i64 (k : Int)),(3,.int .i64 (grpK l k))])
  (fun _ => [F]) (fun k => k ≤ l.length) (fun k => l.length - k) 0 rfl (nZl _) zR (by exact zE) ?_
 intro k hk
 have hb:=grpK_bd l he k hk
 have hek:=he k
 repeat' first | refine kW ?_ | (refine Nx.zo ?_; first | refine kP ?_ | refine Nx.indexAddr_nat rfl rfl rfl rfl rfl (by omega) (hl.isSome (by omega)) ?_ | refine Nx.load rfl rfl rfl (hl.rd (by omega)) ?_) | refine kS ?_ | refine kB fun bx => ?_ | refine kA fun A2 c2 => ?_ | refine kX (fun hc => ?_) fun hc => ?_ | fail
 ·exact Nx.again (k + 1) (by omega) (by omega) zR (Ent.refl _)
 ·obtain rfl : k = l.length:=by omega
  exact Nx.ret_fn rfl [] ⟨by rw [hlast],rfl⟩ (Ent.refl _)
theorem take_lt_no {gs : List Int} (h : ∀ k,k < gs.length → 0 ≤ gs.getD k default) : gs.contains (-1) = false:=by
 rw [List.contains_eq_mem,decide_eq_false_iff_not]
 intro hm
 obtain ⟨k,hk,he⟩:=mem_getD hm
 have:=h k hk
 omega
theorem has_neg {gs : List Int} {k : Nat} (hk : k < gs.length) (h : gs.getD k default = -1) : gs.contains (-1) = true:=by
 rw [List.contains_eq_mem,← h]
 exact decide_eq_true (getD_mem hk)
theorem numK_pre {s gs : List Int} {i : Nat} (hg : ∀ k,k < i → 0 ≤ gs.getD k default ∧ gs.getD k default < s.getD k default) (hi : i ≤ s.length) : 0 ≤ numK s gs i ∧ numK s gs i < prod (s.take i):=by
 induction i with
 | zero => simp [numK,prod]
 | succ i ih =>
  simp only [numK]
  exact mul_add_lt (ih (fun k hk => hg k (by omega)) (by omega)) (hg i (by omega)) (prod_succ s i (by omega))
theorem Of_spec (A B : Option Addr) (c cv : Nat) (l : List Int) (v : List Row) (n : Nat) (I : PH) (hl : Ints I A c l) (hs : Sizes l) (hv : RowsOf I B cv v) (hw : Viewed l v) (hn : (n : Int) < prod l) :
  FnSpec Tryz.prog 160 [.agg #[.slice A l.length c],.agg #[.slice B v.length cv],.int .i64 n] I [] (fun u R' => u = .int .i64 (pubOf l v n) ∧ R' = []):=by
 have hd:=hs.dims
 have hvl:=hw.len
 have hsl:=szs_len v
 have hss:=hw.sizes hs
 refine FnSpec.enterP Tryz.func160 rfl Tryz.ntmps160 rfl fun w F => ?_
 repeat' first | refine kS ?_ | refine kB fun bx => ?_ | refine kA fun A2 c2 => ?_ | refine kX (fun hc => ?_) fun hc => ?_ | fail
 refine Nx.at_op rfl rfl ?_
 refine Nx.call rfl rfl rfl (by kernel_rfl) rfl (RAt_spec A c l n I hl hs (by omega)) (by exact zE) ?_
 rintro u R' ⟨bp,xs,rfl,hr,hnum,rfl⟩
 refine Nx.freezeAt 0 rfl fun I' m hle hm hvec => ?_
 have hxs : Ints I' (some ⟨bp,0,none⟩) xs.length xs:=Vec.sliceOf hm hvec
 have hv':=hv.mono hle
 have hpl:=pl_of hs hr hnum
 have hxl:=hr.len
 have hgl : (gsOf v xs).length = v.length:=gsOf_len v xs
 have hpub : pubOf l v n = if (gsOf v xs).contains (-1) then -1 else numK (szs v) (gsOf v xs) v.length:=by rw [hpl]; rfl
 repeat' first | refine kS ?_ | refine kB fun bx => ?_ | refine kA fun A2 c2 => ?_ | refine kX (fun hc => ?_) fun hc => ?_ | fail
 rename_i b3
 refine Nx.p_loop (σ:=Nat) (fun i => [(4,.pointer (some ⟨bx,0,none⟩)),(9,.int .i64 (numK (szs v) (gsOf v xs) i)),(19,.slice (some ⟨bp,0,none⟩) xs.length xs.length),(20,.int .i64 xs.length),(21,.int .i64 (i : Int))])
  (fun _ => [Blk bx 114 [.slice B v.length cv],F]) (fun i => i ≤ xs.length ∧ ∀ k,k < i → 0 ≤ (gsOf v xs).getD k default) (fun i => xs.length - i) 0 rfl ⟨nZl _,fun k hk => absurd hk (Nat.not_lt_zero _)⟩ zR (by exact zE) ?_
 rintro i ⟨hi,hpos⟩
 have hxi:=hr.each i
 have hwi:=hw.each i
 have hgi : i < v.length → (gsOf v xs).getD i default = (v.getD i default).2.2.getD (xs.getD i default).toNat default:=gsOf_at v xs i
 have hpre:=numK_pre (i:=i) (fun k hk => ⟨hpos k hk,(gsOf_bd hw hr (by omega)).2⟩) (by omega)
 have hbd:=hss.bound (k:=i) (by omega)
 by_cases hlt : i < xs.length
 ·have hgi:=hgi (by omega)
  have hgb:=gsOf_bd hw hr (k:=i) (by omega)
  have hzi:=szs_at v i (by omega)
  have hz8:=hw.szs (k:=i) (by omega)
  have hli:=hs.at (k:=i) (by omega)
  have hmul : 0 ≤ numK (szs v) (gsOf v xs) i * (szs v).getD i default ∧ numK (szs v) (gsOf v xs) i * (szs v).getD i default ≤ 4096 * 8:=⟨Int.mul_nonneg hpre.1 (by omega),Int.mul_le_mul (by omega) (by omega) (by omega) (by omega)⟩
  rw [hzi] at hmul
  repeat' first | refine kW ?_ | (refine Nx.zo ?_; first | refine kP ?_ | refine Nx.indexAddr_nat rfl rfl rfl rfl rfl (by omega) (hv'.outer.isSome (by omega)) ?_ | refine Nx.indexAddr_nat rfl rfl rfl rfl rfl (by omega) rfl ?_ | refine Nx.load rfl rfl rfl (hxs.rd (by omega)) ?_ | refine Nx.load rfl rfl rfl (hv'.outer.rd (by omega)) ?_ | refine Nx.indexAddr rfl rfl rfl rfl rfl (by omega) (by omega) ((hv'.at (by omega)).isSome (by omega)) ?_ | refine Nx.load rfl rfl rfl ((hv'.at (by omega)).rd (by omega)) ?_ | refine Nx.callv rfl rfl rfl (by kernel_rfl) rfl (Groups_spec _ _ _ _ (hv'.at (by omega)) (hw.grouped (by omega)) (by omega)) ?_) | refine kS ?_ | refine kB fun bx => ?_ | refine kA fun A2 c2 => ?_ | refine kX (fun hc => ?_) fun hc => ?_ | fail
  ·rw [← hgi] at hc
   refine Nx.imm_le hle (Nx.ret_fn rfl [] ⟨?_,rfl⟩ (by exact zE))
   rw [hpub,if_pos (has_neg (k:=i) (by omega) (by omega))]
  ·rw [← hgi] at hc
   refine Nx.again (i + 1) ⟨by omega,fun k hk => ?_⟩ (by omega) ⟨rfl,?_,rfl,rfl,rfl,trivial⟩ (by exact zE)
   ·by_cases hki : k = i
    ·subst hki; omega
    ·exact hpos k (by omega)
   ·simp only [numK]
    rw [hzi,hgi]
    rfl
 ·obtain rfl : i = xs.length:=by omega
  repeat' first | refine kS ?_ | refine kB fun bx => ?_ | refine kA fun A2 c2 => ?_ | refine kX (fun hc => ?_) fun hc => ?_ | fail
  refine Nx.imm_le hle (Nx.ret_fn rfl [] ⟨?_,rfl⟩ (by exact zE))
  rw [hpub,if_neg (by rw [take_lt_no (fun k hk => hpos k (by omega))]; decide),show v.length = xs.length by omega]
theorem RView_spec (A B : Option Addr) (c cv : Nat) (l : List Int) (v : List Row) (I : PH) (hl : Ints I A c l) (hs : Sizes l) (hv : RowsOf I B cv v) (hw : Viewed l v) :
  FnSpec Tryz.prog 158 [.agg #[.slice A l.length c],.agg #[.slice B v.length cv]] I [] (fun u R' => u = .int .i64 0 ∧ R' = []):=by
 have hlen:=hl.len
 have hvl:=hw.len
 have hvlen:=hv.outer.len
 refine FnSpec.enterP Tryz.func158 rfl Tryz.ntmps158 rfl fun w F => ?_
 repeat' first | refine kW ?_ | (refine Nx.zo ?_; first | refine kP ?_ | refine Nx.callv rfl rfl rfl (by kernel_rfl) rfl (RCheck_spec _ _ _ _ hl hs) ?_) | refine kS ?_ | refine kB fun bx => ?_ | refine kA fun A2 c2 => ?_ | refine kX (fun hc => ?_) fun hc => ?_ | fail
 rename_i b2
 revert bx; intro b3
 refine Nx.p_loop (σ:=Nat) (fun i => [(2,.pointer (some ⟨b2,0,none⟩)),(24,.slice B v.length cv),(25,.int .i64 v.length),(26,.int .i64 (i : Int))])
  (fun _ => [Blk b3 114 [.slice B v.length cv],Blk b2 54 [.slice A l.length c],F]) (fun i => i ≤ v.length) (fun i => v.length - i) 0 rfl (nZl _) zR (by exact zE) ?_
 intro i hi
 have hi : i ≤ v.length:=hi
 by_cases hiv : i < v.length
 case neg =>
  repeat' first | refine kS ?_ | refine kB fun bx => ?_ | refine kA fun A2 c2 => ?_ | refine kX (fun hc => ?_) fun hc => ?_ | fail
  exact kT
 have hrow:=hv.at hiv
 have hea:=hw.each i (by omega)
 have hrd : ∀ (W : World) (R : List Res),Rd W I R ((ad B).add (i * 1)) (rowV (v.getD i default)):=fun W R => hv.outer.rd hiv
 have hsz : ∀ (W : World) (R : List Res),Rd W I R ((ad A).add (i * 1)) (.int .i64 (l.getD i default)):=fun W R => hl.rd (by omega)
 generalize v.getD i default = rw' at hrow hea hrd
 obtain ⟨G,cg,g⟩:=rw'
 dsimp only at hrow hea
 replace hrd : ∀ (W : World) (R : List Res),Rd W I R ((ad B).add (i * 1)) (.slice G g.length cg):=hrd
 obtain ⟨hgl,hnb⟩:=hea
 rw [← hgl] at hsz
 have hglen:=hrow.len
 obtain ⟨m,hm,hm0⟩ : ∃ m,numb g 0 = some m ∧ 0 < m:=by
  unfold numbB at hnb
  split at hnb
  ·rename_i m hm; exact ⟨m,hm,of_decide_eq_true hnb⟩
  ·cases hnb
 repeat' first | refine kW ?_ | (refine Nx.zo ?_; first | refine kP ?_ | refine Nx.indexAddr_nat (A:=B) (i:=i) (sz:=1) rfl rfl rfl rfl rfl (by omega) (hv.outer.isSome (by omega)) ?_ | refine Nx.load rfl rfl rfl (hrd _ _) ?_ | refine Nx.indexAddr_nat (A:=A) (i:=i) (sz:=1) rfl rfl rfl rfl rfl (by omega) (hl.isSome (by omega)) ?_ | refine Nx.load rfl rfl rfl (hsz _ _) ?_) | refine kS ?_ | refine kB fun bx => ?_ | refine kA fun A2 c2 => ?_ | refine kX (fun hc => ?_) fun hc => ?_ | fail
 refine Nx.p_loop (σ:=Nat × Int) (fun s => [(2,.pointer (some ⟨b2,0,none⟩)),(24,.slice B v.length cv),(25,.int .i64 v.length),(26,.int .i64 (i : Int)),(39,.slice G g.length cg),(40,.int .i64 g.length),(41,.int .i64 (s.1 : Int)),(8,.int .i64 s.2)])
  (fun _ => [Blk b3 114 [.slice B v.length cv],Blk b2 54 [.slice A l.length c],F]) (fun s => s.1 ≤ g.length ∧ 0 ≤ s.2 ∧ s.2 ≤ s.1 ∧ numb g 0 = numb (g.drop s.1) s.2) (fun s => g.length - s.1) (0,0) rfl ⟨nZl _,by decide,by simp,rfl⟩ zR (by exact zE) ?_
 rintro ⟨k,nx⟩ ⟨hk,h0,h1,he⟩
 dsimp only at hk h0 h1 he ⊢
 by_cases hkg : k < g.length
 case neg =>
  rw [List.drop_eq_nil_of_le (by omega)] at he
  have hnm : nx = m:=by rw [hm] at he; exact (Option.some.inj he).symm
  repeat' first | refine kS ?_ | refine kB fun bx => ?_ | refine kA fun A2 c2 => ?_ | refine kX (fun hc => ?_) fun hc => ?_ | fail
  exact Nx.again (i + 1) hiv (by omega) zR (by exact zE)
 have hd : numb g 0 = if g.getD k default < -1 ∨ nx < g.getD k default then none else numb (g.drop (k + 1)) (if g.getD k default = nx then nx + 1 else nx):=by rw [he,drop_at hkg]; rfl
 have hok : ¬ (g.getD k default < -1 ∨ nx < g.getD k default):=fun h => by rw [if_pos h,hm] at hd; cases hd
 rw [if_neg hok] at hd
 have hgr : ∀ (W : World) (R : List Res),Rd W I R ((ad G).add (k * 1)) (.int .i64 (g.getD k default)):=fun W R => hrow.rd hkg
 generalize g.getD k default = y at hd hok hgr
 by_cases hyn : y = nx
 ·rw [if_pos hyn] at hd
  repeat' first | refine kW ?_ | (refine Nx.zo ?_; first | refine kP ?_ | refine Nx.indexAddr_nat (A:=G) (i:=k) (sz:=1) rfl rfl rfl rfl rfl (by omega) (hrow.isSome (by omega)) ?_ | refine Nx.load rfl rfl rfl (hgr _ _) ?_) | refine kS ?_ | refine kB fun bx => ?_ | refine kA fun A2 c2 => ?_ | refine kX (fun hc => ?_) fun hc => ?_ | fail
  exact Nx.again (k + 1,nx + 1) ⟨hkg,by dsimp only; omega,by dsimp only; omega,hd⟩ (by dsimp only; omega) zR (by exact zE)
 ·rw [if_neg hyn] at hd
  repeat' first | refine kW ?_ | (refine Nx.zo ?_; first | refine kP ?_ | refine Nx.indexAddr_nat (A:=G) (i:=k) (sz:=1) rfl rfl rfl rfl rfl (by omega) (hrow.isSome (by omega)) ?_ | refine Nx.load rfl rfl rfl (hgr _ _) ?_) | refine kS ?_ | refine kB fun bx => ?_ | refine kA fun A2 c2 => ?_ | refine kX (fun hc => ?_) fun hc => ?_ | fail
  exact Nx.again (k + 1,nx) ⟨hkg,by dsimp only; omega,by dsimp only; omega,hd⟩ (by dsimp only; omega) zR (by exact zE)
theorem RPublished_spec (A B : Option Addr) (c cv : Nat) (l : List Int) (v : List Row) (I : PH) (hl : Ints I A c l) (hs : Sizes l) (hv : RowsOf I B cv v) (hw : Viewed l v) :
  FnSpec Tryz.prog 159 [.agg #[.slice A l.length c],.agg #[.slice B v.length cv]] I [] (fun u R' => u = .int .i64 (prod (szs v)) ∧ R' = []):=by
 have hlen:=hl.len
 have hvl:=hw.len
 have hvlen:=hv.outer.len
 have hszl:=szs_len v
 have hss:=hw.sizes hs
 refine FnSpec.enterP Tryz.func159 rfl Tryz.ntmps159 rfl fun w F => ?_
 repeat' first | refine kW ?_ | (refine Nx.zo ?_; first | refine kP ?_ | refine Nx.callv rfl rfl rfl (by kernel_rfl) rfl (RView_spec _ _ _ _ _ _ _ hl hs hv hw) ?_) | refine kS ?_ | refine kB fun bx => ?_ | refine kA fun A2 c2 => ?_ | refine kX (fun hc => ?_) fun hc => ?_ | fail
 rename_i b2
 revert bx; intro b3
 refine Nx.p_loop (σ:=Nat) (fun i => [(13,.slice B v.length cv),(14,.int .i64 v.length),(15,.int .i64 (i : Int)),(5,.int .i64 (prod ((szs v).take i)))])
  (fun _ => [F]) (fun i => i ≤ v.length) (fun i => v.length - i) 0 rfl (nZl _) zR (by exact zE) ?_
 intro i hi
 have hi : i ≤ v.length:=hi
 have hb:=hss.bound (k:=i) (by omega)
 by_cases hiv : i < v.length
 case neg =>
  have hie : i = (szs v).length:=by omega
  rw [hie,tLn] at hb ⊢
  repeat' first | refine kS ?_ | refine kB fun bx => ?_ | refine kA fun A2 c2 => ?_ | refine kX (fun hc => ?_) fun hc => ?_ | fail
  exact kT
 have hrow:=hv.at hiv
 have hgrp:=hw.grouped (k:=i) (by omega)
 have hea:=(hw.each i (by omega)).1
 have hsat:=szs_at v i hiv
 have hps:=prod_succ (szs v) i (by omega)
 have hb2:=hss.bound (k:=i + 1) (by omega)
 have hlat:=hs.at (k:=i) (by omega)
 rw [hsat] at hps
 have hrd : ∀ (W : World) (R : List Res),Rd W I R ((ad B).add (i * 1)) (rowV (v.getD i default)):=fun W R => hv.outer.rd hiv
 generalize v.getD i default = rw' at hrow hgrp hea hrd hps
 obtain ⟨G,cg,g⟩:=rw'
 dsimp only at hrow hgrp hea hps
 replace hrd : ∀ (W : World) (R : List Res),Rd W I R ((ad B).add (i * 1)) (.slice G g.length cg):=hrd
 have hG:=Groups_spec G cg g I hrow hgrp (by omega)
 generalize 1 + maxL g (g.length - 1) = y at hG hps
 rw [hps] at hb2
 repeat' first | refine kW ?_ | (refine Nx.zo ?_; first | refine kP ?_ | refine Nx.indexAddr_nat (A:=B) (i:=i) (sz:=1) rfl rfl rfl rfl rfl (by omega) (hv.outer.isSome (by omega)) ?_ | refine Nx.load rfl rfl rfl (hrd _ _) ?_ | refine kV hG ?_) | refine kS ?_ | refine kB fun bx => ?_ | refine kA fun A2 c2 => ?_ | refine kX (fun hc => ?_) fun hc => ?_ | fail
 exact Nx.again (i + 1) hiv (by omega) ⟨rfl,rfl,rfl,by rw [hps]; rfl,trivial⟩ (by exact zE)
theorem RPublish_spec (A B T : Option Addr) (c cv ct : Nat) (l t : List Int) (v : List Row) (I : PH) (hl : Ints I A c l) (hs : Sizes l) (hv : RowsOf I B cv v) (hw : Viewed l v) (ht : Ints I T ct t) (hT : Table l t) :
  FnSpec Tryz.prog 121 [.agg #[.slice A l.length c],.agg #[.slice B v.length cv],.slice T t.length ct] I [] (fun u R' => ∃ A',u = .tuple #[.slice A' (prod (szs v)).toNat (prod (szs v)).toNat,.int .i64 0] ∧
   R' = [Vec 3 1 A' (prod (szs v)).toNat (prod (szs v)).toNat ((sums (pubOf l v) t (prod (szs v)).toNat t.length).map (Value.int .i64))]):=by
 have hpr:=hs.bound (k:=l.length) (nLr _)
 rw [tLn] at hpr
 have hzb:=(hw.sizes hs).bound (k:=(szs v).length) (nLr _)
 rw [tLn] at hzb
 have htl:=hT.len
 have htn:=ht.len
 have hP:=RPublished_spec A B c cv l v I hl hs hv hw
 rw [show prod (szs v) = (((prod (szs v)).toNat : Nat) : Int) by omega] at hP
 refine FnSpec.enterP Tryz.func121 rfl Tryz.ntmps121 rfl fun w F => ?_
 repeat' first | refine kW ?_ | (refine Nx.zo ?_; first | refine kP ?_ | refine Nx.callv rfl rfl rfl (by kernel_rfl) rfl (RView_spec _ _ _ _ _ _ _ hl hs hv hw) ?_ | refine Nx.callv rfl rfl rfl (by kernel_rfl) rfl (RCount_spec _ _ _ _ hl hs) ?_) | refine kS ?_ | refine kB fun bx => ?_ | refine kA fun A2 c2 => ?_ | refine kX (fun hc => ?_) fun hc => ?_ | fail
 rename_i b2
 revert bx; intro b3
 refine Nx.p_loop (σ:=Nat) (fun s => [(2,.slice T t.length ct),(3,.pointer (some ⟨b2,0,none⟩)),(4,.pointer (some ⟨b3,0,none⟩)),(25,.slice T t.length ct),(26,.int .i64 t.length),(27,.int .i64 (s : Int))])
  (fun _ => [Blk b3 114 [.slice B v.length cv],Blk b2 54 [.slice A l.length c],F]) (fun s => s ≤ t.length) (fun s => t.length - s) 0 rfl (nZl _) zR (by exact zE) ?_
 intro n hn
 have hn : n ≤ t.length:=hn
 by_cases hlt : n < t.length
 ·have htn:=hT.each n hlt
  have htr : ∀ (W : World) (R : List Res),Rd W I R ((ad T).add (n * 1)) (.int .i64 (t.getD n default)):=fun W R => ht.rd hlt
  generalize t.getD n default = y at htn htr
  repeat' first | refine kW ?_ | (refine Nx.zo ?_; first | refine kP ?_ | refine Nx.indexAddr_nat (A:=T) (i:=n) (sz:=1) rfl rfl rfl rfl rfl (by omega) (ht.isSome (by omega)) ?_ | refine Nx.load rfl rfl rfl (htr _ _) ?_) | refine kS ?_ | refine kB fun bx => ?_ | refine kA fun A2 c2 => ?_ | refine kX (fun hc => ?_) fun hc => ?_ | fail
  exact Nx.again (n + 1) hlt (by omega) zR (by exact zE)
 obtain rfl : n = t.length:=by omega
 generalize hPn : (prod (szs v)).toNat = P at hzb hP ⊢
 have hP48 : P ≤ 4096:=by omega
 repeat' first | refine kW ?_ | (refine Nx.zo ?_; first | refine kP ?_ | refine kV hP ?_ | refine Nx.makeInts rfl rfl rfl rfl rfl rfl rfl rfl (by omega) (fun bx => ?_)) | refine kS ?_ | refine kB fun bx => ?_ | refine kA fun A2 c2 => ?_ | refine kX (fun hc => ?_) fun hc => ?_ | fail
 revert bx; intro b11
 refine Nx.p_loop (σ:=Nat) (fun s => [(2,.slice T t.length ct),(3,.pointer (some ⟨b2,0,none⟩)),(4,.pointer (some ⟨b3,0,none⟩)),(11,.slice (some ⟨b11,0,none⟩) P P),(43,.int .i64 t.length),(44,.int .i64 (s : Int))])
  (fun s => [Vec 3 1 (some ⟨b11,0,none⟩) P P ((sums (pubOf l v) t P s).map (Value.int .i64)),Blk b3 114 [.slice B v.length cv],Blk b2 54 [.slice A l.length c],F]) (fun s => s ≤ t.length) (fun s => t.length - s) 0 rfl (nZl _) zR (by rw [sums_zero]; (exact zE)) ?_
 intro n hn
 have hn : n ≤ t.length:=hn
 by_cases hlt : n < t.length
 case neg =>
  obtain rfl : n = t.length:=by omega
  repeat' first | refine kS ?_ | refine kB fun bx => ?_ | refine kA fun A2 c2 => ?_ | refine kX (fun hc => ?_) fun hc => ?_ | fail
  exact Nx.ret_fn rfl [_] ⟨_,rfl,rfl⟩ (by exact zE)
 have hO:=Of_spec A B c cv l v n I hl hs hv hw (by omega)
 have hpb:=pub_bd hs hw n
 have hsl:=sums_len (pubOf l v) t P n
 by_cases hq0 : 0 ≤ pubOf l v n
 case neg =>
  have hsk:=sums_skip (t:=t) (P:=P) (show pubOf l v n = -1 by omega)
  generalize pubOf l v n = y at hO hpb hq0
  repeat' first | refine kW ?_ | (refine Nx.zo ?_; first | refine kP ?_ | refine kV hO ?_) | refine kS ?_ | refine kB fun bx => ?_ | refine kA fun A2 c2 => ?_ | refine kX (fun hc => ?_) fun hc => ?_ | fail
  exact Nx.again (n + 1) hlt (by omega) zR (by rw [hsk]; (exact zE))
 obtain ⟨q,hq⟩ : ∃ q : Nat,pubOf l v n = q:=⟨(pubOf l v n).toNat,by omega⟩
 have hqP : q < P:=by omega
 have hsq:=sumAt_bd (p:=pubOf l v) (k:=(q : Int)) hT.each n (by omega)
 have hsa:=sums_at (pubOf l v) t P n q hqP
 have hset:=sums_set (t:=t) (P:=P) hq.symm
 have htn:=hT.each n hlt
 have htr : ∀ (W : World) (R : List Res),Rd W I R ((ad T).add (n * 1)) (.int .i64 (t.getD n default)):=fun W R => ht.rd hlt
 rw [hq] at hO
 rw [← hsa] at hsq
 generalize t.getD n default = y at htn htr hset
 generalize sums (pubOf l v) t P n = sm at hsl hsq hset
 repeat' first | ((with_reducible refine Nx.is_wp ?_); first | refine Nx.wo ?_ | refine kF 18 [0,1,2,3,4,5,6,7,8,9] [] [10] ?_) | (refine Nx.zo ?_; first | refine kP ?_ | refine kV hO ?_ | refine Nx.store_of 0 (Value.int .i64) rfl rfl rfl rfl rfl rfl (by omega) ?_) | refine kS ?_ | refine kB fun bx => ?_ | refine kA fun A2 c2 => ?_ | ((with_reducible refine Nx.is_mix ?_); refine kQ rfl rfl rfl rfl (by first | exact .inl rfl | exact .inr ⟨_,_,_,rfl,rfl,rfl⟩) (by first | exact QRun.opr rfl | exact QRun.idx (A:=some ⟨b11,0,none⟩) (i:=q) (sz:=1) rfl rfl rfl rfl (by omega) rfl | exact QRun.idx (A:=T) (i:=n) (sz:=1) rfl rfl rfl rfl (by omega) (ht.isSome (by omega)) | exact QRun.load rfl rfl (htr _ _) | exact QRun.load rfl rfl (Rd.vecEl 0 (f:=Value.int .i64) (l:=sm) (i:=q) rfl (by omega))) ?_) | refine kX (fun hc => ?_) fun hc => ?_ | fail
 exact Nx.again (n + 1) hlt (by omega) zR (by rw [← hset]; (exact zE))
abbrev Bytes:=SliceOf (fun x : Int => Value.int .u8 x)
structure CodesOk (I : PH) (A : Option Addr) (c : Nat) (L : List Int) : Prop where
 sl : Bytes I A c L
 each : ∀ x ∈ L,0 ≤ x ∧ x < 256
theorem CodesOk.mono {I I' : PH} {A : Option Addr} {c : Nat} {L : List Int} (hle : PH.le I I') (h : CodesOk I A c L) : CodesOk I' A c L:=⟨h.sl.mono hle,h.each⟩
def CodesR (b : Nat) (A : Option Addr) (c : Nat) (L : List Int) (k : Nat) : Res:=Blk b 83 [.slice A L.length c,.int .i64 (k : Int)]
theorem Next_any (b : Nat) (A : Option Addr) (c : Nat) (L : List Int) (k : Nat) (n : Int) (I : PH) (hL : CodesOk I A c L) (hk : k ≤ L.length) (hn : 1 ≤ n ∧ n ≤ 1000000) :
  FnSpec Tryz.prog 13 [.pointer (some ⟨b,0,none⟩),.int .i64 n] I [CodesR b A c L k]
   (fun v R' => ∃ (r : Int) (k' : Nat),v = .int .i64 r ∧ (0 ≤ r ∧ r < n) ∧ k' ≤ L.length ∧ R' = [CodesR b A c L k']):=Next_spec b A c L k n I hL.sl hL.each hk hn
theorem Cells_spec (b : Nat) (A B : Option Addr) (c cs : Nat) (L l : List Int) (k : Nat) (most : Int) (I : PH) (hL : CodesOk I A c L) (hk : k ≤ L.length) (hl : Ints I B cs l) (hs : Sizes l) (hm : 0 ≤ most ∧ most ≤ 1000) :
  FnSpec Tryz.prog 63 [.pointer (some ⟨b,0,none⟩),.agg #[.slice B l.length cs],.int .i64 most] I [CodesR b A c L k]
   (fun v R' => ∃ (bt : Nat) (t : List Int) (k' : Nat),v = .slice (some ⟨bt,0,none⟩) t.length t.length ∧ t.length = (prod l).toNat ∧ (∀ j,j < t.length → 0 ≤ t.getD j default ∧ t.getD j default ≤ most) ∧ k' ≤ L.length ∧
    R' = [Vec 3 1 (some ⟨bt,0,none⟩) t.length t.length (t.map (Value.int .i64)),CodesR b A c L k']):=by
 have hpr:=hs.bound (k:=l.length) (nLr _)
 rw [tLn] at hpr
 refine FnSpec.enterP Tryz.func63 rfl Tryz.ntmps63 rfl fun w F => ?_
 repeat' first | refine kW ?_ | (refine Nx.zo ?_; first | refine kP ?_ | refine Nx.callv rfl rfl rfl (by kernel_rfl) rfl (RCount_spec _ _ _ _ hl hs) ?_) | refine kS ?_ | refine kB fun bx => ?_ | refine kA fun A2 c2 => ?_ | refine kX (fun hc => ?_) fun hc => ?_ | fail
 rw [show prod l = (((prod l).toNat : Nat) : Int) by omega]
 generalize hP : (prod l).toNat = P at hpr ⊢
 have hP48 : P ≤ 4096:=by omega
 repeat' first | refine kS ?_ | refine kB fun bx => ?_ | refine kA fun A2 c2 => ?_ | refine kX (fun hc => ?_) fun hc => ?_ | fail
 refine Nx.p_loop (σ:=Nat × Nat × List Int) (fun s => [(0,.pointer (some ⟨b,0,none⟩)),(2,.int .i64 most),(7,.slice (some ⟨bx,0,none⟩) P P),(12,.slice (some ⟨bx,0,none⟩) P P),(13,.int .i64 (P : Int)),(14,.int .i64 (s.1 : Int))])
  (fun s => [Vec 3 1 (some ⟨bx,0,none⟩) P P (s.2.2.map (Value.int .i64)),CodesR b A c L s.2.1,F]) (fun s => s.1 ≤ P ∧ s.2.1 ≤ L.length ∧ s.2.2.length = P ∧ ∀ j,j < P → 0 ≤ s.2.2.getD j default ∧ s.2.2.getD j default ≤ most) (fun s => P - s.1) (0,k,List.replicate P 0) rfl
  ⟨Nat.zero_le _,hk,by simp,fun j hj => by rw [List.getD_eq_getElem?_getD,List.getElem?_replicate,if_pos hj]; exact ⟨Int.le_refl _,hm.1⟩⟩ zR (by exact zE) ?_
 rintro ⟨i,kc,t⟩ ⟨hi,hkc,htl,hte⟩
 dsimp only at hi hkc htl hte ⊢
 repeat' first | refine kS ?_ | refine kB fun bx => ?_ | refine kA fun A2 c2 => ?_ | refine kX (fun hc => ?_) fun hc => ?_ | fail
 ·refine Nx.at_op rfl rfl ?_
  refine Nx.call rfl rfl rfl (by kernel_rfl) rfl (Next_any b A c L kc (most + 1) I hL hkc (by omega)) (by exact zE) ?_
  rintro v R' ⟨r,kc2,rfl,hr,hkc2,rfl⟩
  repeat' first | refine kW ?_ | (refine Nx.zo ?_; first | refine kP ?_ | refine Nx.indexAddr_nat rfl rfl rfl rfl rfl (by omega) rfl ?_) | refine kS ?_ | refine kB fun bx => ?_ | refine kA fun A2 c2 => ?_ | refine kX (fun hc => ?_) fun hc => ?_ | fail
  refine Nx.again (i + 1,kc2,t.set i r) ⟨by dsimp only; omega,hkc2,by dsimp only; rw [List.length_set]; exact htl,fun j hj => ?_⟩ (by dsimp only; omega) zR (by exact zE)
  dsimp only
  by_cases hij : i = j
  ·subst hij; rw [getD_set_eq (by omega)]; omega
  ·rw [getD_set_ne hij]; exact hte j hj
 ·refine Nx.ret_fn rfl [_,_] ⟨bx,t,kc,by rw [htl],by rw [htl,nCt],fun j hj => hte j (by omega),hkc,by rw [htl]⟩ (by exact zE)
def rowR (r : Row) : Res:=Vec 3 1 r.1 r.2.2.length r.2.1 (r.2.2.map (Value.int .i64))
def ViewR (B : Option Addr) (cv : Nat) (v : List Row) : Res:=Stars [Vec 31 1 B v.length cv (v.map rowV),Stars (v.map rowR)]
theorem ViewR.rows {B : Option Addr} {cv : Nat} {v : List Row} {m I' : PH} (hm : PH.le m I') (h : ViewR B cv v m) : RowsOf I' B cv v:=by
 obtain ⟨m1,h1le,h1⟩:=Stars.get 0 h rfl
 obtain ⟨m2,h2le,h2⟩:=Stars.get 1 h rfl
 refine ⟨Vec.sliceOf (h1le.trans hm) h1,fun r hr => ?_⟩
 obtain ⟨k,hk,he⟩:=List.mem_iff_getElem.1 hr
 obtain ⟨m3,h3le,h3⟩:=Stars.get k (r:=rowR r) h2 (by rw [nthL_eq,gMp,gEq hk,he]; rfl)
 exact Vec.sliceOf ((h3le.trans h2le).trans hm) h3
theorem numb_snoc : ∀ (l : List Int) (g nx n : Int),numb l nx = some n → ¬(g < -1 ∨ n < g) → numb (l ++ [g]) nx = some (if g = n then n + 1 else n)
 | [],g,nx,n,h,hg => by
  simp only [numb] at h
  obtain rfl:=Option.some.inj h
  simp only [List.nil_append,numb]
  rw [if_neg hg]
 | x :: r,g,nx,n,h,hg => by
  simp only [numb,List.cons_append] at h ⊢
  split at h
  ·cases h
  ·rename_i hx
   rw [if_neg hx]
   exact numb_snoc r g _ n h hg
structure VOk (P : Nat) (i : Nat) (gs : List Int) (nx : Int) : Prop where
 le : i ≤ P
 len : gs.length = P
 num : numb (gs.take i) 0 = some nx
 bd : 0 ≤ nx ∧ nx ≤ i
 pos : 0 < i → 1 ≤ nx
theorem take_set_succ {gs : List Int} {i : Nat} {g : Int} (h : i < gs.length) : (gs.set i g).take (i + 1) = gs.take i ++ [g]:=by
 rw [tSu (by rw [List.length_set]; exact h),List.take_set_of_le (nLr _)]
 simp
theorem VOk.eq {P i : Nat} {gs : List Int} {nx g : Int} (h : VOk P i gs nx) (hi : i < P) (hg : g = nx) : VOk P (i + 1) (gs.set i g) (nx + 1):=by
 have h1:=h.bd
 refine ⟨hi,by rw [List.length_set]; exact h.len,?_,by omega,by omega⟩
 rw [take_set_succ (by rw [h.len]; exact hi),numb_snoc _ g 0 nx h.num (by omega),if_pos hg]
theorem VOk.ne {P i : Nat} {gs : List Int} {nx g : Int} (h : VOk P i gs nx) (hi : i < P) (hg : -1 ≤ g ∧ g < nx) (h0 : 0 < i) : VOk P (i + 1) (gs.set i g) nx:=by
 have h1:=h.bd
 have h2:=h.pos h0
 refine ⟨hi,by rw [List.length_set]; exact h.len,?_,by omega,by omega⟩
 rw [take_set_succ (by rw [h.len]; exact hi),numb_snoc _ g 0 nx h.num (by omega),if_neg (by omega)]
theorem VOk.done {P : Nat} {gs : List Int} {nx : Int} (h : VOk P P gs nx) (hP : 0 < P) : numbB gs = true:=by
 have h1:=h.num
 rw [List.take_of_length_le (by rw [h.len]; exact nLr _)] at h1
 unfold numbB
 rw [h1]
 exact decide_eq_true (by have:=h.pos hP; omega)
theorem getD_app_l {α : Type} {v : List α} {x d : α} {j : Nat} (h : j < v.length) : (v ++ [x]).getD j d = v.getD j d:=by
 rw [gEl,List.getElem?_append_left h,gEl]
theorem getD_app_r {α : Type} {v : List α} {x d : α} : (v ++ [x]).getD v.length d = x:=by
 rw [gEl,List.getElem?_append_right (nLr _),Nat.sub_self]; rfl
theorem View_made (b : Nat) (A B : Option Addr) (c cs : Nat) (L l : List Int) (k : Nat) (I : PH) (hL : CodesOk I A c L) (hk : k ≤ L.length) (hl : Ints I B cs l) (hs : Sizes l) :
  FnSpec Tryz.prog 120 [.pointer (some ⟨b,0,none⟩),.agg #[.slice B l.length cs]] I [CodesR b A c L k]
   (fun u R' => ∃ (Av : Option Addr) (cv : Nat) (v : List Row) (k' : Nat),u = .agg #[.slice Av v.length cv] ∧ Viewed l v ∧ k' ≤ L.length ∧ R' = [ViewR Av cv v,CodesR b A c L k']):=by
 have hlen:=hl.len
 have hd:=hs.dims
 refine FnSpec.enterP Tryz.func120 rfl Tryz.ntmps120 rfl fun w F => ?_
 repeat' first | refine kS ?_ | refine kB fun bx => ?_ | refine kA fun A2 c2 => ?_ | refine kX (fun hc => ?_) fun hc => ?_ | fail
 rename_i b3 b4
 revert bx; intro b5
 refine Nx.p_loop (σ:=Nat × Nat × Option Addr × Nat × List Row) (fun s => [(0,.pointer (some ⟨b,0,none⟩)),(4,.pointer (some ⟨b4,0,none⟩)),(5,.pointer (some ⟨b5,0,none⟩)),(13,.slice B l.length cs),(14,.int .i64 l.length),(15,.int .i64 (s.1 : Int))])
  (fun s => [Blk b5 114 [.slice s.2.2.1 s.1 s.2.2.2.1],Vec 31 1 s.2.2.1 s.1 s.2.2.2.1 (s.2.2.2.2.map rowV),Stars (s.2.2.2.2.map rowR),CodesR b A c L s.2.1,Blk b4 114 [.slice none 0 0],F])
  (fun s => s.1 ≤ l.length ∧ s.2.1 ≤ L.length ∧ s.2.2.2.2.length = s.1 ∧ ∀ j,j < s.1 → ((s.2.2.2.2.getD j default).2.2.length : Int) = l.getD j default ∧ numbB (s.2.2.2.2.getD j default).2.2 = true) (fun s => l.length - s.1) (0,k,none,0,[]) rfl
  ⟨nZl _,hk,rfl,fun j hj => absurd hj (Nat.not_lt_zero _)⟩ zR ?_ ?_
 ·exact ((Ent.vec_nil _ _ _).trans (Ent.stars_nil _)).trans (by exact zE)
 rintro ⟨i,kc,Av,cv,v⟩ ⟨hi,hkc,hvl,hve⟩
 dsimp only at hi hkc hvl hve ⊢
 have hat:=fun h => hs.at (k:=i) h
 by_cases hlt : i < l.length
 ·have hat:=hat hlt
  repeat' first | refine kW ?_ | (refine Nx.zo ?_; first | refine kP ?_ | refine Nx.indexAddr_nat rfl rfl rfl rfl rfl (by omega) (hl.isSome (by omega)) ?_ | refine Nx.load rfl rfl rfl (hl.rd (by omega)) ?_) | refine kS ?_ | refine kB fun bx => ?_ | refine kA fun A2 c2 => ?_ | refine kX (fun hc => ?_) fun hc => ?_ | fail
  obtain ⟨n,hn⟩ : ∃ n : Nat,l.getD i default = n:=⟨(l.getD i default).toNat,by omega⟩
  rw [hn] at hat ⊢
  repeat' first | refine kS ?_ | refine kB fun bx => ?_ | refine kA fun A2 c2 => ?_ | refine kX (fun hc => ?_) fun hc => ?_ | fail
  refine Nx.p_loop (σ:=Nat × Nat × List Int × Int) (fun s => [(0,.pointer (some ⟨b,0,none⟩)),(4,.pointer (some ⟨b4,0,none⟩)),(5,.pointer (some ⟨b5,0,none⟩)),(13,.slice B l.length cs),(14,.int .i64 l.length),(15,.int .i64 (i : Int)),(8,.slice (some ⟨bx,0,none⟩) n n),(9,.int .i64 s.2.2.2),(21,.slice (some ⟨bx,0,none⟩) n n),(22,.int .i64 (n : Int)),(23,.int .i64 (s.1 : Int))])
   (fun s => [Vec 3 1 (some ⟨bx,0,none⟩) n n (s.2.2.1.map (Value.int .i64)),Blk b5 114 [.slice Av i cv],Vec 31 1 Av i cv (v.map rowV),Stars (v.map rowR),CodesR b A c L s.2.1,Blk b4 114 [.slice none 0 0],F])
   (fun s => VOk n s.1 s.2.2.1 s.2.2.2 ∧ s.2.1 ≤ L.length) (fun s => n - s.1) (0,kc,List.replicate n 0,0) rfl
   ⟨⟨nZl _,by simp,rfl,by simp,fun h => absurd h (Nat.lt_irrefl _)⟩,hkc⟩ zR (by exact zE) ?_
  rintro ⟨j,kj,gs,nx⟩ ⟨hok,hkj⟩
  dsimp only at hok hkj ⊢
  have hjn:=hok.le
  have hnx:=hok.bd
  have hgl:=hok.len
  by_cases hjl : j < n
  ·repeat' first | refine kS ?_ | refine kB fun bx => ?_ | refine kA fun A2 c2 => ?_ | refine kX (fun hc => ?_) fun hc => ?_ | fail
   refine Nx.at_op rfl rfl ?_
   refine Nx.call rfl rfl rfl (by kernel_rfl) rfl (Next_any b A c L kj (nx + 2) I hL hkj (by omega)) (by exact zE) ?_
   rintro u R' ⟨r,k1,rfl,hr,hk1,rfl⟩
   repeat' first | refine kS ?_ | refine kB fun bx => ?_ | refine kA fun A2 c2 => ?_ | refine kX (fun hc => ?_) fun hc => ?_ | fail
   all_goals
    refine Nx.at_op rfl rfl ?_
    refine Nx.call rfl rfl rfl (by kernel_rfl) rfl (Next_any b A c L k1 8 I hL hk1 (by omega)) (by exact zE) ?_
    rintro u R' ⟨q,k2,rfl,hq,hk2,rfl⟩
    repeat' first | refine kW ?_ | (refine Nx.zo ?_; first | refine kP ?_ | refine Nx.indexAddr_nat rfl rfl rfl rfl rfl (by omega) rfl ?_) | refine kS ?_ | refine kB fun bx => ?_ | refine kA fun A2 c2 => ?_ | refine kX (fun hc => ?_) fun hc => ?_ | fail
   all_goals first
    | exact Nx.again (j + 1,k2,gs.set j r,nx) ⟨hok.ne hjl (by omega) (by omega),hk2⟩ (by dsimp only; omega) ⟨rfl,rfl,rfl,rfl,rfl,rfl,rfl,rfl,rfl,rfl,rfl,trivial⟩ (by exact zE)
    | exact Nx.again (j + 1,k2,gs.set j r,nx + 1) ⟨hok.eq hjl (by omega),hk2⟩ (by dsimp only; omega) ⟨rfl,rfl,rfl,rfl,rfl,rfl,rfl,rfl,rfl,rfl,rfl,trivial⟩ (by exact zE)
    | exact Nx.again (j + 1,k2,gs.set j nx,nx + 1) ⟨hok.eq hjl rfl,hk2⟩ (by dsimp only; omega) ⟨rfl,rfl,rfl,rfl,rfl,rfl,rfl,rfl,rfl,rfl,rfl,trivial⟩ (by exact zE)
    | exact Nx.again (j + 1,k2,gs.set j (-1),nx) ⟨hok.ne hjl (by omega) (by omega),hk2⟩ (by dsimp only; omega) ⟨rfl,rfl,rfl,rfl,rfl,rfl,rfl,rfl,rfl,rfl,rfl,trivial⟩ (by exact zE)
  ·obtain rfl : j = n:=by omega
   repeat' first | refine kS ?_ | refine kB fun bx => ?_ | refine kA fun A2 c2 => ?_ | refine kX (fun hc => ?_) fun hc => ?_ | fail
   rename_i bg
   subst hgl
   refine Nx.again (i + 1,kj,A2,c2,v ++ [(some ⟨bg,0,none⟩,gs.length,gs)]) ⟨hlt,hkj,by simp [hvl],fun j hj => ?_⟩ (by dsimp only; omega) zR ?_
   ·dsimp only
    by_cases hji : j < i
    ·rw [getD_app_l (by omega)]; exact hve j hji
    ·obtain rfl : j = v.length:=by dsimp only at hj; omega
     rw [getD_app_r]
     exact ⟨by rw [hvl,hn],hok.done (by omega)⟩
   ·dsimp only
    refine Ent.trans (R':=[rowR (some ⟨bg,0,none⟩,gs.length,gs),Stars (v.map rowR),Blk b5 114 [.slice A2 (i + 1) c2],Vec 31 1 A2 (i + 1) c2 (v.map rowV ++ [.slice (some ⟨bg,0,none⟩) gs.length gs.length]),CodesR b A c L kj,Blk b4 114 [.slice none 0 0],F]) (by unfold rowR; (exact zE)) (Ent.bundle.trans ?_)
    rw [mAp,mAp]
    exact (by exact zE)
 ·repeat' first | refine kS ?_ | refine kB fun bx => ?_ | refine kA fun A2 c2 => ?_ | refine kX (fun hc => ?_) fun hc => ?_ | fail
  refine Nx.ret_cell 0 rfl rfl rfl rfl rfl rfl [ViewR Av cv v,CodesR b A c L kc] ⟨Av,cv,v,kc,by rw [hvl],⟨by omega,fun j hj => hve j (by omega)⟩,hkc,rfl⟩ ?_
  refine Ent.trans (R':=[Vec 31 1 Av i cv (v.map rowV),Stars (v.map rowR),CodesR b A c L kc,F]) (by exact zE) ?_
  rw [← hvl]
  exact Ent.pack2
theorem bytes_take {I : PH} {A : Option Addr} {c : Nat} {l : List Int} (hl : Bytes I A c l) (hx : ∀ x ∈ l,0 ≤ x ∧ x < 256) : CodesOk I A c (l.take 400):=⟨hl.take 400,fun x h => hx x (List.mem_of_mem_take h)⟩
theorem New_codes (A : Option Addr) (c : Nat) (l : List Int) (I : PH) (hl : Bytes I A c l) :
  FnSpec Tryz.prog 10 [.slice A l.length c] I [] (fun v R' => ∃ b,v = .pointer (some ⟨b,0,none⟩) ∧ R' = [CodesR b A c (l.take 400) 0]):=New_spec A c l I hl
theorem pl_at {l : List Int} {n : Int} {k : Nat} (hk : k < l.length) : (pl l n).getD k default = plAt l n k:=map_range_at _ _ _ hk
theorem pl_len (l : List Int) (n : Int) : (pl l n).length = l.length:=by simp [pl]
theorem prod_pos {l : List Int} (hs : Sizes l) {k : Nat} (hk : k ≤ l.length) : 0 < prod (l.drop k):=by
 have:=prod_drop_pos hs (l.length - k) (by omega)
 rwa [show l.length - (l.length - k) = k by omega] at this
theorem pl_num {l : List Int} {n : Int} (hs : Sizes l) (hn : 0 ≤ n ∧ n < prod l) : ∀ k,k ≤ l.length → numK l (pl l n) k = n / prod (l.drop k)
 | 0,_ => by rw [numK,List.drop_zero,Int.ediv_eq_zero_of_lt hn.1 hn.2]
 | k + 1,hk => by
  have hat:=hs.at (k:=k) (by omega)
  have hp:=prod_pos hs (k:=k + 1) (by omega)
  rw [numK,pl_num hs hn k (by omega),pl_at (by omega),plAt,prod_drop l k (by omega),Int.mul_comm (l.getD k default),← Int.ediv_ediv_of_nonneg (by omega)]
  have:=Int.mul_ediv_add_emod (n / prod (l.drop (k + 1))) (l.getD k default)
  rw [Int.mul_comm] at this
  exact this
theorem pl_inr {l : List Int} {n : Int} (hs : Sizes l) : InR l (pl l n):=⟨pl_len l n,fun k hk => by
 have hat:=hs.at (k:=k) hk
 rw [pl_at hk,plAt]
 exact ⟨Int.emod_nonneg _ (by omega),Int.emod_lt_of_pos _ (by omega)⟩⟩
theorem pl_back {l : List Int} {n : Int} (hs : Sizes l) (hn : 0 ≤ n ∧ n < prod l) : numK l (pl l n) l.length = n:=by
 rw [pl_num hs hn l.length (nLr _),List.drop_length]
 show n / 1 = n
 exact Int.ediv_one n
theorem numb_has : ∀ {l : List Int} {nx n : Int},numb l nx = some n → ∀ g,nx ≤ g → g < n → g ∈ l
 | [],nx,n,h,g,h1,h2 => by simp [numb] at h; omega
 | x :: r,nx,n,h,g,h1,h2 => by
  unfold numb at h
  split at h
  ·cases h
  ·by_cases he : x = nx
   ·rw [if_pos he] at h
    by_cases hg : g = x
    ·rw [hg]; exact List.mem_cons_self
    ·exact List.mem_cons_of_mem _ (numb_has h g (by omega) h2)
   ·rw [if_neg he] at h
    exact List.mem_cons_of_mem _ (numb_has h g h1 h2)
theorem grouped_has {l : List Int} (h : numbB l = true) {g : Int} (h0 : 0 ≤ g) (h1 : g ≤ maxL l (l.length - 1)) : ∃ j,j < l.length ∧ l.getD j default = g:=by
 unfold numbB at h
 split at h
 ·rename_i n hn
  obtain ⟨j,hj,he⟩:=maxL_at l (l.length - 1)
  have hl : 0 < l.length:=by
   rcases Nat.eq_zero_or_pos l.length with h' | h'
   ·rw [List.eq_nil_of_length_eq_zero h'] at hn
    simp [numb] at hn
    rw [← hn] at h; simp at h
   ·exact h'
  have hm:=(numb_facts l 0 n hn).2.2.1 (l.getD j default) (getD_mem (by omega))
  exact mem_getD (numb_has hn g h0 (by omega))
 ·cases h
theorem pub_has {l : List Int} {v : List Row} (hs : Sizes l) (hw : Viewed l v) {k : Int} (hk : 0 ≤ k ∧ k < prod (szs v)) : ∃ j : Nat,(j : Int) < prod l ∧ pubOf l v j = k:=by
 have hsz:=hw.sizes hs
 have hlen : (szs v).length = l.length:=by rw [szs_len,hw.len]
 have hgs:=pl_inr (n:=k) hsz
 have hex : ∀ i,i < l.length → ∃ j,j < (v.getD i default).2.2.length ∧ (v.getD i default).2.2.getD j default = (pl (szs v) k).getD i default:=fun i hi => by
  have hg:=hgs.each i (by omega)
  rw [szs_at v i (by rw [hw.len]; exact hi)] at hg
  exact grouped_has (hw.each i hi).2 hg.1 (by omega)
 have hch : ∃ f : Nat → Nat,∀ i,i < l.length → f i < (v.getD i default).2.2.length ∧ (v.getD i default).2.2.getD (f i) default = (pl (szs v) k).getD i default :=
  ⟨fun i => if h : i < l.length then (hex i h).choose else 0,fun i hi => by
   have:=(hex i hi).choose_spec
   simpa [hi] using this⟩
 obtain ⟨f,hf⟩:=hch
 have hxs : InR l ((List.range l.length).map fun i => (f i : Int)):=⟨by simp,fun i hi => by
  rw [map_range_at _ _ _ hi]
  have:=(hf i hi).1
  have:=(hw.each i hi).1
  omega⟩
 have hb:=numK_bound hxs l.length (nLr _)
 rw [tLn] at hb
 generalize hxsd : (List.range l.length).map (fun i => (f i : Int)) = xs at hxs hb
 have hpl:=pl_of hs hxs rfl
 have hgo : gsOf v xs = pl (szs v) k:=by
  refine list_ext (by rw [pl_len,hlen]; simp [gsOf,hw.len]) fun i hi => ?_
  have hi : i < l.length:=by simpa [gsOf,hw.len] using hi
  unfold gsOf
  rw [map_range_at _ _ _ (by rw [hw.len]; exact hi),← hxsd,map_range_at _ _ _ hi,nCt]
  exact (hf i hi).2
 refine ⟨(numK l xs l.length).toNat,by omega,?_⟩
 unfold pubOf
 rw [show (((numK l xs l.length).toNat : Nat) : Int) = numK l xs l.length by omega,← hpl,hgo,take_lt_no (fun i hi => (hgs.each i (by rw [pl_len] at hi; exact hi)).1),if_neg (by decide),← szs_len v]
 exact pl_back hsz hk
theorem memK_in {l : List Int} {v : List Row} {k : Int} {n : Nat} {x : Int} : x ∈ memK l v k n ↔ ∃ j : Nat,j < n ∧ pubOf l v j = k ∧ x = j:=by
 unfold memK
 rw [List.mem_map]
 constructor
 ·rintro ⟨j,hj,rfl⟩
  rw [List.mem_filter,List.mem_range] at hj
  exact ⟨j,hj.1,of_decide_eq_true hj.2,rfl⟩
 ·rintro ⟨j,h1,h2,rfl⟩
  exact ⟨j,List.mem_filter.2 ⟨List.mem_range.2 h1,decide_eq_true h2⟩,rfl⟩
theorem memK_asc (l : List Int) (v : List Row) (k : Int) (n : Nat) : (memK l v k n).Pairwise (· < ·):=by
 unfold memK
 rw [List.pairwise_map]
 exact (List.pairwise_lt_range.filter _).imp fun h => by omega
theorem memK_good {l : List Int} {v : List Row} (hs : Sizes l) (hw : Viewed l v) {k : Int} (hk : 0 ≤ k ∧ k < prod (szs v)) {A : Option Addr} {c : Nat} {z : Int} (hz : 0 ≤ z ∧ z ≤ 1000000) : GoodE (prod l).toNat ((A,c,memK l v k (prod l).toNat),z):=by
 refine ⟨?_,hz,memK_asc l v k _,fun x hx => ?_⟩
 ·obtain ⟨j,hj,hp⟩:=pub_has hs hw hk
  intro h
  have : (j : Int) ∈ memK l v k (prod l).toNat:=memK_in.2 ⟨j,by omega,hp,rfl⟩
  dsimp only at h
  rw [h] at this; cases this
 ·obtain ⟨j,hj,_,rfl⟩:=memK_in.1 hx
  omega
theorem sumC_appC (t : List Int) (a b : List Nat) : sumC t (a ++ b) = sumC t a + sumC t b:=by
 induction a with
 | nil => rw [List.nil_append,sumC,Int.zero_add]
 | cons x r ih => rw [List.cons_append,sumC,sumC,ih,Int.add_assoc]
theorem memK_sum (l t : List Int) (v : List Row) (k : Int) : ∀ n,sumC t ((memK l v k n).map Int.toNat) = sumAt (pubOf l v) t k n
 | 0 => rfl
 | n + 1 => by
  rw [memK_succ,mAp,sumC_appC,memK_sum l t v k n,sumAt]
  congr 1
  split
  ·rw [List.map_cons,List.map_nil,nCt,sumC,sumC,Int.add_zero]; rfl
  ·rfl
structure Rel where
 num : Int
 va : Option Addr
 vc : Nat
 v : List Row
 val : Row
instance : Inhabited Rel:=⟨⟨0,none,0,[],(none,0,[])⟩⟩
def relC (r : Rel) : List Value:=[.int .i64 r.num,.slice r.va r.v.length r.vc,rowV r.val]
theorem relC_len (r : Rel) : (relC r).length = 3:=rfl
def relR (r : Rel) : Res:=Stars [ViewR r.va r.vc r.v,rowR r.val]
structure Rels (I : PH) (A : Option Addr) (c : Nat) (l : List Rel) : Prop where
 outer : SliceN relC 3 I A c l
 view : ∀ r ∈ l,RowsOf I r.va r.vc r.v
 val : ∀ r ∈ l,Ints I r.val.1 r.val.2.1 r.val.2.2
theorem Rels.mono {I I' : PH} {A : Option Addr} {c : Nat} {l : List Rel} (hle : PH.le I I') (h : Rels I A c l) : Rels I' A c l:=⟨h.outer.mono hle,fun r hr => (h.view r hr).mono hle,fun r hr => (h.val r hr).mono hle⟩
structure RelOk (l t : List Int) (r : Rel) : Prop where
 view : Viewed l r.v
 len : r.val.2.2.length = (prod (szs r.v)).toNat
 each : ∀ j,j < r.val.2.2.length → r.val.2.2.getD j default = -1 ∨ r.val.2.2.getD j default = sumAt (pubOf l r.v) t (j : Int) t.length
structure RelsOk (l t : List Int) (rs : List Rel) : Prop where
 each : ∀ i,i < rs.length → RelOk l t (rs.getD i default) ∧ (rs.getD i default).num = i
def ordOf (n : Nat) (L : List Eqn) (x : Nat) : List Nat:=x :: (touch n L).filter fun c => !decide (c = x)
def extOf (n : Nat) (L : List Eqn) (x : Nat) (down : Bool) : List (List Int):=enum 1000000 L down (ordOf n L x) (List.replicate n 0)
theorem ord_nd (n : Nat) (L : List Eqn) (x : Nat) : (ordOf n L x).Nodup:=by
 unfold ordOf
 rw [List.nodup_cons]
 exact ⟨fun h => by have:=(List.mem_filter.1 h).2; simp at this,(touch_nd n L).filter _⟩
theorem ord_mem {n : Nat} {L : List Eqn} {x : Nat} (hx : x ∈ touch n L) (c : Nat) : c ∈ ordOf n L x ↔ c ∈ touch n L:=by
 unfold ordOf
 rw [List.mem_cons,List.mem_filter]
 constructor
 ·rintro (rfl | h)
  ·exact hx
  ·exact h.1
 ·intro h
  by_cases hc : c = x
  ·exact .inl hc
  ·exact .inr ⟨h,by simp [hc]⟩
theorem extF_head (p : List Int) : ∀ (L : List (List Int)),(foldStop extF p L).1 = L.headD p
 | [] => rfl
 | x :: L => by unfold foldStop; rw [if_neg (by unfold extF; simp)]; rfl
def ordP (td : List Nat) (x k : Nat) : List Int:=((x :: (td.take k).filter fun c => !decide (c = x)).map Int.ofNat)
theorem ordP_succ {td : List Nat} {x k : Nat} (hk : k < td.length) : ordP td x (k + 1) = if td[k] = x then ordP td x k else ordP td x k ++ [((td[k] : Nat) : Int)]:=by
 unfold ordP
 rw [tSu hk,List.filter_append]
 by_cases h : td[k] = x
 ·rw [if_pos h,List.filter_cons_of_neg (by simp [h])]
  rw [List.filter_nil,List.append_nil]
 ·rw [if_neg h,List.filter_cons_of_pos (by simp [h])]
  rw [List.filter_nil,← List.cons_append,mAp]
  rfl
theorem ordP_len (td : List Nat) (x k : Nat) : (ordP td x k).length ≤ k + 1:=by
 unfold ordP
 rw [lMp,List.length_cons]
 have:=List.length_filter_le (fun c => !decide (c = x)) (td.take k)
 rw [lTk] at this
 omega
theorem extreme_spec (A : Option Addr) (c : Nat) (l : List EqR) (n x : Nat) (down : Bool) (I : PH) (hl : Eqs I A c l) (hg : ∀ q ∈ l,GoodE n q) (hn : n ≤ 4096) (hll : l.length ≤ 100000) (h9 : (allC l).length ≤ 100000) (hx : x ∈ touch n (eqns l)) :
  FnSpec Tryz.prog 76 [.int .i64 (n : Int),.slice A l.length c,.int .i64 (x : Int),.bool down] I []
   (fun v R' => ∃ (A' : Option Addr) (c' : Nat) (tab : List Int),v = .slice A' tab.length c' ∧ tab = (extOf n (eqns l) x down).headD [] ∧ R' = [iR A' c' tab]):=by
 have hSt:=start_spec A c l n I hl hg hn hll (by omega)
 have htdl : (touch n (eqns l)).length ≤ n:=by
  unfold touch
  exact Nat.le_trans (List.length_filter_le _ _) (by simp)
 refine FnSpec.enterP Tryz.func76 rfl Tryz.ntmps76 rfl fun w F => ?_
 repeat' first | ((with_reducible refine Nx.is_wp ?_); first | refine Nx.p_stopr 2 rfl ?_ | refine Nx.wo ?_) | (refine Nx.zo ?_; first | refine kP ?_ | (refine kC hSt ?_; rintro _ _ ⟨p,Atd,ctd,Ai,ci,ins,rfl,htv,hiv,hil,hins,rfl⟩)) | refine kS ?_ | refine kB fun bx => ?_ | refine kA fun A2 c2 => ?_ | refine kX (fun hc => ?_) fun hc => ?_ | fail
 refine unstopN ?_
 refine started hiv hil hins (RR:=[p.blk n l.length,iR p.Ar p.cr (valsL l),iR p.Ao p.co (sizesL l),iR p.At p.ct (List.replicate n 0),F]) (by exact zE) fun I1 hI1 hin htd => ?_
 have hsane:=sane_eqns hg hll h9
 have htdn:=htd.len
 rw [lMp] at htdn
 unfold Pl.blk
 rw [htv]
 repeat' first | refine kS ?_ | refine kB fun bx => ?_ | refine kA fun A2 c2 => ?_ | refine kX (fun hc => ?_) fun hc => ?_ | fail
 refine Nx.blk_vec 0 1 1 rfl rfl (by omega) ?_
 refine Nx.p_loop (σ:=Nat × Option Addr × Nat) (fun s => [(0,.int .i64 (n : Int)),(1,.slice A l.length c),(2,.int .i64 (x : Int)),(3,.bool down),(9,.pointer (some ⟨p.b,0,none⟩)),(10,.slice s.2.1 (ordP (touch n (eqns l)) x s.1).length s.2.2),(22,.slice Atd (touch n (eqns l)).length ctd),(23,.int .i64 (touch n (eqns l)).length),(24,.int .i64 (s.1 : Int))])
  (fun s => [iR s.2.1 s.2.2 (ordP (touch n (eqns l)) x s.1),Blk p.b PT [.slice Atd (touch n (eqns l)).length ctd,p.iv,.slice p.Ar l.length p.cr,.slice p.Ao l.length p.co,.slice p.At n p.ct],iR p.Ar p.cr (valsL l),iR p.Ao p.co (sizesL l),iR p.At p.ct (List.replicate n 0),F]) (fun s => s.1 ≤ (touch n (eqns l)).length) (fun s => (touch n (eqns l)).length - s.1) (0,some ⟨bx,0,none⟩,1) rfl (nZl _) zR (by unfold ordP iR; (exact zE)) ?_
 rintro ⟨k,A1,c1⟩ hk
 dsimp only at hk ⊢
 have hpl:=ordP_len (touch n (eqns l)) x k
 by_cases hlt : k < (touch n (eqns l)).length
 ·have hs:=ordP_succ (x:=x) hlt
  have htr : ∀ (W : World) (R : List Res),Rd W I1 R ((ad Atd).add (k * 1)) (.int .i64 ((touch n (eqns l))[k] : Int)):=fun W R => by
   have h:=htd.rd (W:=W) (R:=R) (k:=k) (by rw [lMp]; exact hlt)
   rw [gEl,gMp,gEq hlt] at h
   exact h
  generalize (touch n (eqns l))[k] = y at hs htr
  generalize ordP (touch n (eqns l)) x k = acc at hs hpl ⊢
  by_cases hyx : y = x
  ·rw [if_pos hyx] at hs
   repeat' first | refine kW ?_ | (refine Nx.zo ?_; first | refine kP ?_ | refine Nx.indexAddr_nat rfl rfl rfl rfl rfl (by omega) (htd.isSome (by rw [lMp]; omega)) ?_ | refine Nx.load rfl rfl rfl (htr _ _) ?_) | refine kS ?_ | refine kB fun bx => ?_ | refine kA fun A2 c2 => ?_ | refine kX (fun hc => ?_) fun hc => ?_ | fail
   exact Nx.again (k + 1,A1,c1) hlt (by dsimp only; omega) ⟨rfl,rfl,rfl,rfl,rfl,by dsimp only; rw [hs]; rfl,rfl,rfl,rfl,trivial⟩ (by dsimp only; rw [hs]; (exact zE))
  ·rw [if_neg hyx] at hs
   repeat' first | refine kW ?_ | (refine Nx.zo ?_; first | refine kP ?_ | refine Nx.indexAddr_nat rfl rfl rfl rfl rfl (by omega) (htd.isSome (by rw [lMp]; omega)) ?_ | refine Nx.load rfl rfl rfl (htr _ _) ?_) | refine kS ?_ | refine kB fun bx => ?_ | refine kA fun A2 c2 => ?_ | refine kX (fun hc => ?_) fun hc => ?_ | fail
   exact Nx.again (k + 1,A2,c2) hlt (by dsimp only; omega) ⟨rfl,rfl,rfl,rfl,rfl,by dsimp only; rw [hs,lAp]; rfl,rfl,rfl,rfl,trivial⟩ (by dsimp only; rw [hs]; unfold iR; rw [lAp,mAp]; (exact zE))
 obtain rfl : k = (touch n (eqns l)).length:=by omega
 have hord : ordP (touch n (eqns l)) x (touch n (eqns l)).length = (ordOf n (eqns l) x).map Int.ofNat:=by unfold ordP ordOf; rw [tLn]
 rw [hord]
 repeat' first | ((with_reducible refine Nx.is_wp ?_); first | refine Nx.p_stopr 10 rfl ?_ | refine Nx.wo ?_) | refine kS ?_ | refine kB fun bx => ?_ | refine kA fun A2 c2 => ?_ | refine kX (fun hc => ?_) fun hc => ?_ | fail
 refine unstopN ?_
 revert bx; intro bo
 refine Nx.ent (R':=[iR A1 c1 ((ordOf n (eqns l) x).map Int.ofNat),Blk bo 31 [.slice none 0 0],Blk p.b PT [.slice Atd (touch n (eqns l)).length ctd,p.iv,.slice p.Ar l.length p.cr,.slice p.Ao l.length p.co,.slice p.At n p.ct],iR p.Ar p.cr (valsL l),iR p.Ao p.co (sizesL l),iR p.At p.ct (List.replicate n 0),F]) (by exact zE) ?_
 refine Nx.freezeAt 0 rfl fun I2 m2 hI2 hm2 h2 => ?_
 have hOi : Ints I2 A1 c1 ((ordOf n (eqns l) x).map Int.ofNat):=Vec.sliceOf hm2 h2
 have hSe:=search_spec p n (eqns l) I2 (hin.mono hI2) (fun I' hI' => extF_spec bo I' n) hsane (by omega) A1 c1 (ordOf n (eqns l) x) hOi down (none,0,[]) (List.replicate n 0) (inv_start hg (ord_nd _ _ _) (ord_mem hx)) (fun c => by rw [zeros_at]; exact Int.le_refl _) trivial
 rw [rest_start,open_same (ord_mem hx),open_start hg,eqns_len] at hSe
 unfold Pl.blk at hSe
 rw [htv] at hSe
 rw [lMp]
 refine Nx.ent (R':=[extT bo (none,0,[]),Blk p.b PT [.slice Atd (touch n (eqns l)).length ctd,p.iv,.slice p.Ar l.length p.cr,.slice p.Ao l.length p.co,.slice p.At n p.ct],iR p.Ar p.cr (valsL l),iR p.Ao p.co (sizesL l),iR p.At p.ct (List.replicate n 0),F]) ((Ent.vec_nil 3 1 _).trans (Ent.trans (R':=[Blk bo 31 [.slice none 0 0],Vec 3 1 none 0 0 []] ++ [Blk p.b PT [.slice Atd (touch n (eqns l)).length ctd,p.iv,.slice p.Ar l.length p.cr,.slice p.Ao l.length p.co,.slice p.At n p.ct],iR p.Ar p.cr (valsL l),iR p.Ao p.co (sizesL l),iR p.At p.ct (List.replicate n 0),F]) (by exact zE) Ent.stars)) ?_
 repeat' first | refine kW ?_ | (refine Nx.zo ?_; first | refine kP ?_ | (refine Nx.call rfl rfl rfl (by kernel_rfl) rfl hSe (by exact zE) ?_; rintro _ _ ⟨rfl,s',G,hs',rfl⟩; obtain ⟨A',c',o⟩:=s'; refine Nx.ent (R':=[Blk bo 31 [.slice A' o.length c'],iR A' c' o,F]) (Ent.unstars.trans (by exact zE)) ?_)) | refine kS ?_ | refine kB fun bx => ?_ | refine kA fun A2 c2 => ?_ | refine kX (fun hc => ?_) fun hc => ?_ | fail
 exact Nx.imm_le (hI1.trans hI2) (Nx.ret_fn rfl [_] ⟨A',c',o,rfl,hs'.trans (extF_head [] _),rfl⟩ (by exact zE))
end Go.Proofs.YtpcnapidlhpbkaaGreatDoor
namespace Go.Eng
section
variable {P : Program} {W : World} {I : PH} {R : List Res} {t : TypeId} {A : Option Addr} {n c : Nat}
theorem setsAt_eq : ∀ (vs cs : List Value) (i : Nat),i + vs.length ≤ cs.length → setsAt cs i vs = some (cs.take i ++ vs ++ cs.drop (i + vs.length))
 | [],cs,i,_ => by simp [setsAt]
 | v :: vs,cs,i,h => by
  simp only [List.length_cons] at h
  have hset : ∀ (cs : List Value) (i : Nat),i < cs.length → setAt cs i v = some (cs.set i v):=by
   intro cs
   induction cs with
   | nil => intro i hi; simp at hi
   | cons c r ih =>
    intro i hi
    cases i with
    | zero => rfl
    | succ i =>
     simp only [setAt]
     rw [ih i (by simpa using hi)]
     rfl
  unfold setsAt
  rw [hset cs i (by omega)]
  show setsAt (cs.set i v) (i + 1) vs = _
  rw [setsAt_eq vs (cs.set i v) (i + 1) (by rw [List.length_set]; omega)]
  congr 1
  rw [List.drop_set_of_lt (by omega),List.length_cons,show i + 1 + vs.length = i + (vs.length + 1) by omega]
  rw [tSu (by rw [List.length_set]; omega),List.getElem_set_self,List.take_set_of_le (nLr _)]
  simp
theorem patch_take {α : Type} {L vs : List α} {i N : Nat} (h : i + vs.length ≤ N) (hN : N ≤ L.length) : (L.take i ++ vs ++ L.drop (i + vs.length)).take N = (L.take N).take i ++ vs ++ (L.take N).drop (i + vs.length):=by
 have hl : (L.take i ++ vs).length = i + vs.length:=by rw [lAp,lTk]; omega
 rw [List.take_append,List.take_of_length_le (by omega),hl,List.take_take,Nat.min_eq_left (by omega),List.drop_take]
theorem Wr.vecNs {sz i : Nat} {xs vs : List Value} (hi : i + vs.length ≤ n * sz) (h0 : 0 < vs.length) (h1 : ∀ v ∈ vs,v.oneCell' = true) : Wr P W I (Vec t sz A n c xs :: R) ((ad A).add i) vs (Vec t sz A n c (xs.take i ++ vs ++ xs.drop (i + vs.length)) :: R):=by
 intro w hw
 obtain ⟨⟨m,⟨m1,m2,hd,rfl,hv,h2⟩,hsat⟩,hst⟩:=id hw
 have hxl:=hv.1
 rcases hv.2 with ⟨_,hn0,_⟩ | ⟨b,cur,rfl,hb,hnc,hcm,hsz,htake⟩
 ·rw [hn0,Nat.zero_mul] at hi; omega
 have hb0 : w.heap[b]? = some (.cells cur t (0,0)):=hsat.own _ _ (PH.le_or_left _ _ _ _ hb)
 have hle : n * sz ≤ c * sz:=Nat.mul_le_mul_right _ hnc
 have hcl : cur.toList.length = c * sz:=by rw [Array.length_toList]; exact hsz
 have hs1:=setsAt_eq vs cur.toList i (by omega)
 obtain ⟨w',hr,hb',hk',hst'⟩:=storeCells_from (P:=P) vs cur.toList _ i 0 w (by simpa using hb0) hs1 h1
 refine ⟨w',?_,?_⟩
 ·rw [ad_some,Addr.add_lit,Nat.zero_add]
  exact hr
 ·refine hw.upd (o:=.cells (cur.toList.take i ++ vs ++ cur.toList.drop (i + vs.length)).toArray t (0,0)) (b:=b) (fun mm hm => ?_) hb' (fun j hne o' ho => (hk' j hne).trans ho) hst'
  rcases hm.2 with ⟨he,_,_⟩ | ⟨b',cur',he,hb1,_,_,_,_⟩
  ·cases he
  cases he
  refine ⟨by rw [hb1]; rfl,?_,.inr ⟨b,(cur.toList.take i ++ vs ++ cur.toList.drop (i + vs.length)).toArray,rfl,by simp,hnc,hcm,?_,?_⟩⟩
  ·simp only [List.length_append,List.length_take,List.length_drop]; omega
  ·simp only [List.size_toArray,List.length_append,List.length_take,List.length_drop]; omega
  ·rw [List.toList_toArray,← htake]
   exact patch_take hi (by omega)
theorem flat_put {α : Type} [Inhabited α] {f : α → List Value} {sz : Nat} (hf : ∀ x,(f x).length = sz) {l : List α} {k : Nat} (x' : α) (hk : k < l.length) : (l.flatMap f).take (k * sz) ++ f x' ++ (l.flatMap f).drop (k * sz + (f x').length) = (l.set k x').flatMap f:=by
 have e : l = l.take k ++ l[k] :: l.drop (k + 1):=by rw [← List.drop_eq_getElem_cons hk,List.take_append_drop]
 have hfe : l.flatMap f = (l.take k).flatMap f ++ (f l[k] ++ (l.drop (k + 1)).flatMap f):=by
  have:=congrArg (List.flatMap f) e
  rw [List.flatMap_append,List.flatMap_cons] at this
  exact this
 have hl0 : ((l.take k).flatMap f).length = k * sz:=by rw [flat_len hf,lTk,Nat.min_eq_left (by omega)]
 have h1 : (l.flatMap f).take (k * sz) = (l.take k).flatMap f:=by rw [hfe,← hl0,List.take_left]
 have h2 : (l.flatMap f).drop (k * sz + sz) = (l.drop (k + 1)).flatMap f:=by
  have hl : ((l.take k).flatMap f ++ f l[k]).length = k * sz + sz:=by rw [lAp,hl0,hf]
  rw [hfe,← List.append_assoc,← hl,List.drop_left]
 rw [hf,h1,h2,List.set_eq_take_append_cons_drop,if_pos hk,List.flatMap_append,List.flatMap_cons,List.append_assoc]
end
section
variable {C : Cx} {e : Env} {I : PH} {R : List Res} {K : Act → World → Prop} {Q : Exit → Act → World → Prop} {n c : Nat} {t ty el : TypeId} {pos : String} {after : Array Edge} {g : Option (Nat × Bool)} {x y : Operand} {A : Option Addr}
theorem Nx.store_elt {α : Type} [Inhabited α] (k : Nat) (f : α → List Value) {sz i : Nat} {l : List α} {x' : α} {vy : Value} (hx : evo e x = some (.pointer (some ((ad A).add (i * sz))))) (hy : evo e y = some vy) (hc : cellsL vy = f x') (hn : cellsIn C.P t = some sz) (hk : nthL R k = some (Vec el sz A n c (l.flatMap f)))
  (hf : ∀ x,(f x).length = sz) (h0 : 0 < sz) (h1 : ∀ v ∈ f x',v.oneCell' = true) (hi : i < l.length) (hn2 : l.length = n)
  (h : Nx C e I (Vec el sz A n c ((l.set i x').flatMap f) :: R.eraseIdx k) K) : Nx C e I R (opK C.P ⟨none,.store t x y,ty,pos,after,g⟩ K Q):=by
 have hl:=hf x'
 have hle : (i + 1) * sz ≤ n * sz:=Nat.mul_le_mul_right _ (by omega)
 rw [Nat.succ_mul] at hle
 have hp:=flat_put hf x' hi
 rw [← hp] at h
 exact Nx.ent (Ent.pull k R _ (nthL_eq.symm.trans hk)) (Nx.store hx hy ((cellsL_eq _).trans hc) hn (by rw [hl]; exact Nat.beq_refl _) (Wr.vecNs (by rw [hl]; exact hle) (by omega) h1) h)
theorem toList_made (z : Array Value) : ∀ m : Nat,(madeCells z (m * z.size)).toList = (List.replicate m z.toList).flatten
 | 0 => by rw [Nat.zero_mul]; simp [madeCells]
 | m + 1 => by
  have ih:=toList_made z m
  unfold madeCells at ih ⊢
  rw [Array.toList_map,Array.toList_range] at ih ⊢
  rw [Nat.succ_mul,List.range_add,mAp,ih,List.replicate_succ',List.flatten_append,List.map_map]
  congr 1
  rw [List.flatten_cons,List.flatten_nil,List.append_nil]
  refine List.ext_getElem (by simp) fun i h1 h2 => ?_
  have hi : i < z.size:=by simpa using h1
  rw [List.getElem_map,List.getElem_range]
  show z[(m * z.size + i) % z.size]! = _
  rw [Nat.mul_comm,Nat.mul_add_mod,Nat.mod_eq_of_lt hi,getElem!_pos z i hi]
  rfl
theorem Nx.makeStructs {d : Tmp} {α : Type} (f : α → List Value) (x0 : α) {kl kc : IntKind} {by_ m sz : Nat} {z0 : Value} {i : TypeInfo} (hx : evo e x = some (.int kl (m : Int))) (hy : evo e y = some (.int kc (m : Int))) (ht : C.P.underlying t = some (.slice el))
  (hi : C.P.info? el = some i) (hz : i.zero = some z0) (hs : i.size = sz) (hb : i.bytes = by_) (hz1 : z0.cells.toList = f x0) (hl : (f x0).length = sz) (hlt : Nat.blt d C.n = true) (hbytes : by_ * m ≤ 281474976710656) (h63 : m ≤ maxLen)
  (h : ∀ b,Nx C ((d,.slice (some ⟨b,0,none⟩) m m) :: e) I (Vec el sz (some ⟨b,0,none⟩) m m ((List.replicate m x0).flatMap f) :: R) K) : Nx C e I R (opK C.P ⟨some d,.makeSlice t x y,ty,pos,after,g⟩ K Q):=by
 refine Nx.op_new (v:=fun b => .slice (some ⟨b,0,none⟩) m m) (ob:=.cells (madeCells z0.cells (m * sz)) el) rfl hlt (fun a w ha hw => ?_) (fun b => ?_)
 ·simp only [execOp,ha.eval hx,ha.eval hy]
  refine run_v ?_
  have hbb : (i.bytes : Int) * (m : Int) ≤ 281474976710656:=by
   have h : ((i.bytes * m : Nat) : Int) ≤ 281474976710656:=by rw [hb]; omega
   rwa [Int.natCast_mul] at h
  unfold maxLen at h63
  have hr:=run_make (P:=C.P) w t el i z0 ht hi hz kl kc m m (by omega) (by omega) hbb (by omega)
  simp only [Int.toNat_natCast,hs] at hr
  exact hr
 ·have hsz : z0.cells.size = sz:=by rw [← hl,← hz1,Array.length_toList]
  have hfl : ((List.replicate m x0).flatMap f).length = m * sz:=by
   clear h hbytes h63 hx hy
   induction m with
   | zero => simp
   | succ m ih => rw [List.replicate_succ,List.flatMap_cons,lAp,ih,hl,Nat.succ_mul]; omega
  have hrep : (List.replicate m z0.cells.toList).flatten = (List.replicate m x0).flatMap f:=by
   rw [hz1,List.flatMap_def,List.map_replicate]
  refine (h b).ent (Ent.head fun mm hm => ⟨hfl,.inr ⟨b,_,rfl,hm,nLr _,h63,by rw [size_madeCells],?_⟩⟩)
  have:=toList_made z0.cells m
  rw [hsz] at this
  rw [this,hrep,← hfl,tLn]
end
end Go.Eng
namespace Go.Eng
variable {C : Cx} {e : Env} {S : World → Prop} {ty t el : TypeId} {pos : String} {after : Array Edge} {g : Option (Nat × Bool)} {x y : Operand} {A : Option Addr} {n c : Nat} {dst : Option Tmp}
theorem QRun.slice_hi {k : IntKind} {h sz : Nat} (hx : evo e x = some (.slice A n c)) (hy : evo e y = some (.int k (h : Int))) (ht : C.P.underlying t = some (.slice el)) (hsz : cellsIn C.P el = some sz) (h2 : h ≤ c) :
  QRun C e S ⟨dst,.slice t x none (some y) none,ty,pos,after,g⟩ (.slice A h c):=fun a w ha _ => by
 simp only [execOp,ha.eval hx,ha.eval hy,Option.map_some,Option.map_none]
 refine run_v ?_
 have:=run_slice_of (A:=A) (n:=n) (c:=c) (lo:=none) (hi:=some (.int k (h : Int))) (l:=0) (h:=h) ht hsz w (by simp [Instr.sliceBounds,run_sliceBound,h2])
 rw [offA_zero] at this
 exact this
theorem QRun.slice_lo {k : IntKind} {l sz : Nat} (hx : evo e x = some (.slice A n c)) (hy : evo e y = some (.int k (l : Int))) (ht : C.P.underlying t = some (.slice el)) (hsz : cellsIn C.P el = some sz) (h2 : l ≤ n) :
  QRun C e S ⟨dst,.slice t x (some y) none none,ty,pos,after,g⟩ (.slice (offA A c l sz) (n - l) (c - l)):=fun a w ha _ => by
 simp only [execOp,ha.eval hx,ha.eval hy,Option.map_some,Option.map_none]
 refine run_v ?_
 exact run_slice_of (A:=A) (n:=n) (c:=c) (lo:=some (.int k (l : Int))) (hi:=none) (l:=l) (h:=n) ht hsz w (by simp [Instr.sliceBounds,run_sliceBound,h2])
end Go.Eng
namespace Go.Eng
section
variable {C : Cx} {e : Env} {I : PH} {R R' : List Res} {K : Act → World → Prop} {Q : Exit → Act → World → Prop} {n c : Nat} {t ty el : TypeId} {pos : String} {after : Array Edge} {g : Option (Nat × Bool)} {x y : Operand} {A : Option Addr} {d : Tmp}
theorem Nx.copy_ {tys : Array TypeId} {dT sT : TypeId} {a b : Addr} {m c2 sz k : Nat} {cs : List Value} (hx : evo e x = some (.slice (some a) n c)) (hy : evo e y = some (.slice (some b) m c2)) (hty : tys = #[dT,sT]) (ht : C.P.underlying dT = some (.slice el)) (hsz : cellsIn C.P el = some sz) (hlt : Nat.blt d C.n = true)
  (hk : k = Nat.min m n) (hcl : cs.length = k * sz) (hr : Rds C.W I R b cs) (hw : Wr C.P C.W I R a cs R') (h : Nx C ((d,.int .i64 (k : Int)) :: e) I R' K) : Nx C e I R (opK C.P ⟨some d,.call { callee:=.builtin .copy,args:=#[x,y],argTypes:=tys },ty,pos,after,g⟩ K Q):=by
 subst hty
 intro w0 w ha hst
 obtain ⟨w',hst1,hst'⟩:=hw w hst
 have hl:=run_loadCells_list (P:=C.P) w b cs (fun j v hj => hr j v hj w hst)
 have hrc : (Builtin.copy_ #[dT,sT] ty #[.slice (some a) n c,.slice (some b) m c2]).run C.P w = .ok (.int .i64 (k : Int)) w':=by
  subst hk
  simp [Builtin.copy_,run_underlying ht,Builtin.lenOf,Builtin.firstCells,cellsIn_run hsz,← hcl,hl,hst1,goInt]
 unfold opK Oper.wp
 have hrun : (execOp w0.eval ⟨some d,.call { callee:=.builtin .copy,args:=#[x,y],argTypes:=#[dT,sT] },ty,pos,after,g⟩).run C.P w = .ok (.value (.int .i64 (k : Int))) w':=by
  obtain ⟨cs,hcs⟩:=run_builtin (P:=C.P) (w:=w) (ρ:=w0.eval) (b:=.copy) (args:=#[x,y]) (dst:=some d) (ty:=ty) (pos:=pos) (after:=after) (g:=g) (tys:=#[dT,sT]) (show [x,y].map w0.eval = [Value.slice (some a) n c,Value.slice (some b) m c2] from by simp only [List.map_cons,List.map_nil,ha.eval hx,ha.eval hy])
  rw [hcs]
  exact run_v hrc
 rw [hrun]
 exact h _ w' (ha.put hlt _) hst'
theorem QRun.slice_from {S : World → Prop} {dst : Option Tmp} {a : Addr} {k : IntKind} {l sz : Nat} (hx : evo e x = some (.slice (some a) n c)) (hy : evo e y = some (.int k (l : Int))) (ht : C.P.underlying t = some (.slice el)) (hsz : cellsIn C.P el = some sz) (h2 : l < n) (h3 : n ≤ c) :
  QRun C e S ⟨dst,.slice t x (some y) none none,ty,pos,after,g⟩ (.slice (some (a.add (l * sz))) (n - l) (c - l)):=by
 have h:=QRun.slice_lo (S:=S) (dst:=dst) (ty:=ty) (pos:=pos) (after:=after) (g:=g) hx hy ht hsz (Nat.le_of_lt h2)
 rw [show offA (some a) c l sz = some (a.add (l * sz)) by unfold offA; rw [if_neg (by omega)]; rfl] at h
 exact h
theorem Rds.vec_take {W : World} {sz q : Nat} {xs : List Value} : Rds W I (Vec t sz A n c xs :: R) (ad A) (xs.take q):=fun j u hj => by
 refine Rd.vec ?_
 rw [List.getElem?_take] at hj
 split at hj
 ·exact hj
 ·cases hj
theorem Wr.vecNs0 {P : Program} {W : World} {sz b : Nat} {xs vs : List Value} (hi : vs.length ≤ n * sz) (h0 : 0 < vs.length) (h1 : ∀ v ∈ vs,v.oneCell' = true) : Wr P W I (Vec t sz (some ⟨b,0,none⟩) n c xs :: R) ⟨b,0,none⟩ vs (Vec t sz (some ⟨b,0,none⟩) n c (xs.take 0 ++ vs ++ xs.drop (0 + vs.length)) :: R):=by
 have h:=Wr.vecNs (P:=P) (W:=W) (I:=I) (R:=R) (t:=t) (A:=some ⟨b,0,none⟩) (n:=n) (c:=c) (sz:=sz) (i:=0) (xs:=xs) (vs:=vs) (by omega) h0 h1
 rw [ad_some,Addr.add_lit] at h
 exact h
structure Filled (cx : List Value) (sz n m : Nat) (xs : List Value) : Prop where
 len : xs.length = n * sz
 fill : xs.take (m * sz) = (List.replicate m cx).flatten
 one : ∀ v ∈ xs,v.oneCell' = true
theorem flat_rep_len {cx : List Value} {sz : Nat} (hcx : cx.length = sz) (m : Nat) : (List.replicate m cx).flatten.length = m * sz:=by
 induction m with
 | zero => simp
 | succ m ih => rw [List.replicate_succ,List.flatten_cons,lAp,ih,hcx,Nat.succ_mul]; omega
theorem Filled.step {cx : List Value} {sz n m k : Nat} {xs : List Value} (hcx : cx.length = sz) (h : Filled cx sz n m xs) (hk : k ≤ m) (hkn : m + k ≤ n) : Filled cx sz n (m + k) (xs.take (m * sz) ++ xs.take (k * sz) ++ xs.drop (m * sz + (xs.take (k * sz)).length)):=by
 have hl:=h.len
 have h1 : k * sz ≤ m * sz:=Nat.mul_le_mul_right _ hk
 have h2 : (m + k) * sz ≤ n * sz:=Nat.mul_le_mul_right _ hkn
 rw [Nat.add_mul] at h2
 have hkl : (xs.take (k * sz)).length = k * sz:=by rw [lTk]; omega
 have hml : (xs.take (m * sz)).length = m * sz:=by rw [lTk]; omega
 have hkf : xs.take (k * sz) = (List.replicate k cx).flatten:=by
  have : xs.take (k * sz) = (xs.take (m * sz)).take (k * sz):=by rw [List.take_take,Nat.min_eq_left h1]
  rw [this,h.fill]
  obtain ⟨j,rfl⟩ : ∃ j,m = k + j:=⟨m - k,by omega⟩
  rw [← List.replicate_append_replicate,List.flatten_append]
  exact List.take_left' (flat_rep_len hcx k)
 refine ⟨?_,?_,fun v hv => ?_⟩
 ·rw [lAp,lAp,hml,hkl,List.length_drop]; omega
 ·rw [List.take_left' (by rw [lAp,hml,hkl,Nat.add_mul]),h.fill,hkf,← List.flatten_append,List.replicate_append_replicate]
 ·rcases List.mem_append.1 hv with hv | hv
  ·rcases List.mem_append.1 hv with hv | hv
   ·exact h.one v (List.mem_of_mem_take hv)
   ·exact h.one v (List.mem_of_mem_take hv)
  ·exact h.one v (List.mem_of_mem_drop hv)
theorem Filled.start {cx : List Value} {sz n : Nat} {xs : List Value} (hcx : cx.length = sz) (h1 : ∀ v ∈ cx,v.oneCell' = true) (hl : xs.length = n * sz) (hx : ∀ v ∈ xs,v.oneCell' = true) (hn : 1 ≤ n) : Filled cx sz n 1 (xs.take 0 ++ cx ++ xs.drop (0 + cx.length)):=by
 have h2 : 1 * sz ≤ n * sz:=Nat.mul_le_mul_right _ hn
 refine ⟨?_,?_,fun v hv => ?_⟩
 ·rw [List.take_zero,List.nil_append,lAp,List.length_drop]; omega
 ·rw [List.take_zero,List.nil_append,List.take_left' (by omega)]; simp
 ·rw [List.take_zero,List.nil_append] at hv
  rcases List.mem_append.1 hv with hv | hv
  ·exact h1 v hv
  ·exact hx v (List.mem_of_mem_drop hv)
theorem Filled.done {cx : List Value} {sz n : Nat} {xs : List Value} (h : Filled cx sz n n xs) : xs = (List.replicate n cx).flatten:=by
 rw [← h.fill,← h.len,tLn]
end
end Go.Eng
namespace Go.Proofs.YtpcnapidlhpbkaaGreatDoor
def ml64_ren : Go.Shelf.Ren:=⟨fun | 264 => 119 | n => n,fun | 53 => 102 | 46 => 161 | n => n,fun | n => n⟩
theorem ml64 : Go.Proofs.Lays.n264 Tryz.prog ml64_ren where
 mixed:=by kernel_rfl
 f264:=Tryz.func119.trans (congrArg some (by kernel_rfl))
 t46:=Tryz.underlying161
 a46:=Tryz.isAgg161
 z46:=Tryz.sizeOf161
 v46:=Tryz.zeroValue161
 t53:=Tryz.underlying102
 a53:=Tryz.isAgg102
 z53:=Tryz.sizeOf102
 v53:=Tryz.zeroValue102
open Go.Eng Go.Sol
attribute [local irreducible] opK wpList Code.wp Exit.then Exit.inBlock fnPost bodyPost Nx Calls Oper.wp Rd Rds Wr Ent Stars Blk Again Vec FnSpec wpMix QRun Stop Upto wpAt
theorem mulU64_spec (x y : Nat) (hx : x < 18446744073709551616) (hy : y < 18446744073709551616) (I : PH) :
  FnSpec Tryz.prog 119 [.int .u64 x,.int .u64 y] I [] (fun v R' => v = .tuple #[.int .u64 ((x * y / 18446744073709551616 : Nat) : Int),.int .u64 ((x * y % 18446744073709551616 : Nat) : Int)] ∧ R' = []) :=
 FnSpec.of_same fun w _ _ _ => Any.bits_Mul64 ml64 x y hx hy w
theorem mulU_spec (y : Nat) (hy : y < 18446744073709551616) (I : PH) :
  FnSpec Tryz.prog 129 [.int .u64 1,.int .u64 y] I [] (fun v R' => v = .tuple #[.int .u64 0,.int .u64 (y : Int)] ∧ R' = []):=by
 have hM:=mulU64_spec 1 y (by omega) hy I
 rw [Nat.one_mul,Nat.div_eq_of_lt hy,Nat.mod_eq_of_lt hy] at hM
 refine FnSpec.enterP Tryz.func129 rfl Tryz.ntmps129 rfl fun w F => ?_
 repeat' first | refine kW ?_ | (refine Nx.zo ?_; first | refine kP ?_ | (refine kC hM ?_; rintro _ _ ⟨rfl,rfl⟩)) | refine kS ?_ | refine kB fun bx => ?_ | refine kA fun A2 c2 => ?_ | refine kX (fun hc => ?_) fun hc => ?_ | fail
 exact kT
theorem RepeatI_spec (cx : List Value) (hcx : cx.length = 1) (h1 : ∀ v ∈ cx,v.oneCell' = true) (b n : Nat) (hn1 : 1 ≤ n) (hn : n ≤ 4096) (I : PH) :
  FnSpec Tryz.prog 223 [.slice (some ⟨b,0,none⟩) 1 1,.int .i64 (n : Int)] I [Blk b 3 cx] (fun v R' => ∃ b',v = .slice (some ⟨b',0,none⟩) n n ∧ R' = [Vec 3 1 (some ⟨b',0,none⟩) n n (List.replicate n cx).flatten]):=by
 have hM:=mulU_spec n (by omega) I
 have hB : (n : Int) % B64 = n:=by unfold B64; omega
 have hB1 : ((1 : Nat) : Int) % B64 = 1:=by unfold B64; decide
 refine FnSpec.enterP Tryz.func223 rfl Tryz.ntmps223 rfl fun w F => ?_
 repeat' first | refine kW ?_ | (refine Nx.zo ?_; first | refine kP ?_ | (refine kC hM ?_; rintro _ _ ⟨rfl,rfl⟩) | (refine Nx.conv_u64 (p:=((1 : Nat) : Int)) rfl rfl rfl rfl ?_; rw [hB1]) | (refine Nx.conv_u64 (p:=(n : Int)) rfl rfl rfl rfl ?_; rw [hB]) | refine Nx.conv_i64 (p:=(n : Int)) rfl rfl rfl (by unfold I64; omega) rfl ?_ | refine Nx.makeSlice (by_:=8) (m:=n) rfl rfl rfl rfl rfl rfl rfl rfl rfl (by omega) (by unfold maxLen; omega) (fun bx => ?_)) | refine kS ?_ | refine kB fun bx => ?_ | refine kA fun A2 c2 => ?_ | refine kX (fun hc => ?_) fun hc => ?_ | fail
 revert bx; intro b7
 generalize hx0 : List.replicate n (Value.int .i64 0) = x0
 have hF0 : Filled cx 1 n 1 (x0.take 0 ++ cx ++ x0.drop (0 + cx.length)):=Filled.start hcx h1 (by rw [← hx0]; simp) (fun v hv => by rw [← hx0] at hv; rw [List.eq_of_mem_replicate hv]; rfl) hn1
 repeat' first | refine kW ?_ | (refine Nx.zo ?_; first | refine kP ?_ | refine Nx.copy_ (k:=1) (sz:=1) (cs:=cx) rfl rfl rfl rfl rfl rfl (by show 1 = min 1 n; omega) (by omega) (Rds.at_ 1 rfl) (Wr.vecNs0 (by omega) (by omega) h1) ?_) | refine kS ?_ | refine kB fun bx => ?_ | refine kA fun A2 c2 => ?_ | refine kX (fun hc => ?_) fun hc => ?_ | fail
 refine Nx.p_loop (σ:=Nat × List Value) (fun s => [(7,.slice (some ⟨b7,0,none⟩) n n),(8,.int .i64 (s.1 : Int))]) (fun s => [Vec 3 1 (some ⟨b7,0,none⟩) n n s.2,F]) (fun s => 1 ≤ s.1 ∧ s.1 ≤ n ∧ Filled cx 1 n s.1 s.2) (fun s => n - s.1) (1,x0.take 0 ++ cx ++ x0.drop (0 + cx.length)) rfl ⟨nLr _,hn1,hF0⟩ ⟨rfl,rfl,trivial⟩ (by exact zE) ?_
 rintro ⟨m,xs⟩ ⟨hm1,hmn,hF⟩
 dsimp only at hm1 hmn hF ⊢
 by_cases hlt : m < n
 case neg =>
  obtain rfl : m = n:=by omega
  have hd:=hF.done
  subst hd
  repeat' first | refine kS ?_ | refine kB fun bx => ?_ | refine kA fun A2 c2 => ?_ | refine kX (fun hc => ?_) fun hc => ?_ | fail
  exact Nx.ret_fn rfl [_] ⟨b7,rfl,rfl⟩ (by exact zE)
 have hst:=hF.step hcx (k:=min m (n - m)) (by omega) (by omega)
 have hxl:=hF.len
 repeat' first | ((with_reducible refine Nx.is_wp ?_); first | refine Nx.wo ?_ | refine Nx.p_drawF (id:=9) rfl [0,1,2,3,4,5,6,7,8,9] [7] [] _ rfl rfl (by kernel_rfl) (by kernel_rfl) rfl PanicOk.auto (Ent.eraseK 0 _) ?_) | (refine Nx.zo ?_; first | refine kP ?_ | refine Nx.copy_ (k:=min m (n - m)) (sz:=1) (cs:=xs.take (min m (n - m) * 1)) rfl rfl rfl rfl rfl rfl rfl (by rw [lTk]; omega) Rds.vec_take (Wr.vecNs (A:=some ⟨b7,0,none⟩) (i:=m * 1) (by rw [lTk]; omega) (by rw [lTk]; omega) (fun v hv => hF.one v (List.mem_of_mem_take hv))) ?_) | refine kS ?_ | refine kB fun bx => ?_ | refine kA fun A2 c2 => ?_ | ((with_reducible refine Nx.is_mix ?_); refine kQ rfl rfl rfl rfl (by first | exact .inl rfl | exact .inr ⟨_,_,_,rfl,rfl,rfl⟩) (by first | exact QRun.opr rfl | exact QRun.slice_from (sz:=1) rfl rfl rfl rfl hlt (nLr _) | exact QRun.slice_hi (sz:=1) rfl rfl rfl rfl hmn) ?_) | refine kX (fun hc => ?_) fun hc => ?_ | fail
 exact Nx.again (m + min m (n - m),_) ⟨by dsimp only; omega,by dsimp only; omega,hst⟩ (by dsimp only; omega) ⟨rfl,rfl,trivial⟩ (by exact zE)
end Go.Proofs.YtpcnapidlhpbkaaGreatDoor
