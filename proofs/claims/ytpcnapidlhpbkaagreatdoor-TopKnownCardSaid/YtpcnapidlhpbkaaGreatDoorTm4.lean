/- Contracts of functions of the given program, and lemmas. -/
import Derived.Tactics
import Derived.Tactics2
import Derived.Laws.Pointers
import Derived.Sort.Row
import Derived.Sort.Grow
import Derived.Shelf.SortM.Plain
import Derived.Shelf.SortM.SortNone
import Derived.Shelf.SlicesG.CompactI
import Derived.Test.YtpcnapidlhpbkaaGreatDoorTm3
set_option maxHeartbeats 32000000
set_option maxRecDepth 10000
namespace Go.Proofs.YtpcnapidlhpbkaaGreatDoor
open Go.Eng Go.Sol
attribute [local irreducible] opK wpList Code.wp Exit.then Exit.inBlock fnPost bodyPost Nx Calls Oper.wp Rd Rds Wr Ent Stars Blk Again Vec FnSpec wpMix QRun Stop Upto wpAt
def subK (s : Int) (ix a : List Int) : Nat → List Int
 | 0 => a
 | k + 1 => (subK s ix a k).set (ix.getD k default).toNat ((subK s ix a k).getD (ix.getD k default).toNat default - s)
theorem subK_len (s : Int) (ix a : List Int) : ∀ k,(subK s ix a k).length = a.length
 | 0 => rfl
 | k + 1 => by rw [subK,List.length_set,subK_len s ix a k]
theorem subK_at {l : List Eqn} {c : Nat} {s : Int} {a : List Int} (ha : a.length = l.length) : ∀ {k j : Nat},k ≤ (inL l c).length → j < l.length → (subK s (inL l c) a k).getD j default = a.getD j default - if (j : Int) ∈ (inL l c).take k then s else 0
 | 0,j,_,_ => by simp [subK]
 | k + 1,j,hk,hj => by
  obtain ⟨i,he,hi,_⟩:=inL_at (l:=l) (c:=c) (k:=k) (by omega)
  have ih:=subK_at (s:=s) (c:=c) ha (k:=k) (j:=j) (by omega) hj
  have hgi:=subK_at (s:=s) (c:=c) ha (k:=k) (j:=i) (by omega) hi
  have hkl : k < (inL l c).length:=by omega
  have hck : (inL l c)[k] = (i : Int):=by rw [← he,gEl,gEq hkl]; rfl
  have htk : (inL l c).take (k + 1) = (inL l c).take k ++ [(i : Int)]:=by rw [tSu hkl,hck]
  have hnd:=inL_nd l c
  have hni : (i : Int) ∉ (inL l c).take k:=fun hm => by
   have h1 : ((inL l c).take (k + 1)).Nodup:=hnd.sublist (List.take_sublist _ _)
   rw [htk,List.nodup_append] at h1
   exact h1.2.2 _ hm _ (by simp) rfl
  rw [subK,he,nCt,htk]
  rw [if_neg hni] at hgi
  by_cases hji : j = i
  ·subst hji
   rw [gEl,List.getElem?_set_self (by rw [subK_len,ha]; exact hj),if_pos (by simp),hgi]
   show a.getD j default - 0 - s = _
   omega
  ·rw [gEl,List.getElem?_set_ne (Ne.symm hji),← gEl,ih]
   by_cases hm : (j : Int) ∈ (inL l c).take k
   ·rw [if_pos hm,if_pos (by simp [hm])]
   ·rw [if_neg hm,if_neg (by
     simp only [List.mem_append,List.mem_singleton,not_or]
     exact ⟨hm,fun h => hji (by omega)⟩)]
theorem getD_extI {a b : List Int} (hl : a.length = b.length) (h : ∀ j,j < a.length → a.getD j default = b.getD j default) : a = b:=by
 refine List.ext_getElem hl fun i h1 h2 => ?_
 have:=h i h1
 rw [gEl,gEl,gEq h1,gEq h2] at this
 exact this
theorem getD_memE {l : List Eqn} {i : Nat} (hi : i < l.length) : l.getD i default ∈ l:=by rw [gEl,gEq hi]; exact List.getElem_mem _
theorem sub_rest {l : List Eqn} {c : Nat} {t : List Int} {v : Int} (ho : Once l) (hc : c < t.length) (h0 : t.getD c 0 = 0) : subK v (inL l c) (restL l t) (inL l c).length = restL l (t.set c v):=by
 refine getD_extI (by rw [subK_len,restL_len,restL_len]) fun j hj => ?_
 rw [subK_len,restL_len] at hj
 rw [subK_at (restL_len l t) (nLr _) hj,restL_at hj,restL_at hj,restQ_set hc (ho _ (getD_memE hj)) h0,tLn]
 congr 1
 by_cases h : c ∈ (l.getD j default).1
 ·rw [if_pos h,if_pos (mem_inL.2 ⟨hj,h⟩)]
 ·rw [if_neg h,if_neg fun hm => h (mem_inL.1 hm).2]
theorem add_rest {l : List Eqn} {c : Nat} {t : List Int} {v : Int} (ho : Once l) (hc : c < t.length) (h0 : t.getD c 0 = 0) : subK (-v) (inL l c) (restL l (t.set c v)) (inL l c).length = restL l t:=by
 refine getD_extI (by rw [subK_len,restL_len,restL_len]) fun j hj => ?_
 rw [subK_len,restL_len] at hj
 rw [subK_at (restL_len l _) (nLr _) hj,restL_at hj,restL_at hj,restQ_set hc (ho _ (getD_memE hj)) h0,tLn]
 by_cases h : c ∈ (l.getD j default).1
 ·rw [if_pos h,if_pos (mem_inL.2 ⟨hj,h⟩)]; omega
 ·rw [if_neg h,if_neg fun hm => h (mem_inL.1 hm).2]; omega
theorem sub_open {l : List Eqn} {c : Nat} {U : List Nat} (ho : Once l) (hc : c ∉ U) : subK 1 (inL l c) (openL l (c :: U)) (inL l c).length = openL l U:=by
 refine getD_extI (by rw [subK_len,openL_len,openL_len]) fun j hj => ?_
 rw [subK_len,openL_len] at hj
 rw [subK_at (openL_len l _) (nLr _) hj,openL_at hj,openL_at hj,openQ_cons (ho _ (getD_memE hj)) hc,tLn]
 by_cases h : c ∈ (l.getD j default).1
 ·rw [if_pos h,if_pos (mem_inL.2 ⟨hj,h⟩)]; omega
 ·rw [if_neg h,if_neg fun hm => h (mem_inL.1 hm).2]; omega
theorem add_open {l : List Eqn} {c : Nat} {U : List Nat} (ho : Once l) (hc : c ∉ U) : subK (-1) (inL l c) (openL l U) (inL l c).length = openL l (c :: U):=by
 refine getD_extI (by rw [subK_len,openL_len,openL_len]) fun j hj => ?_
 rw [subK_len,openL_len] at hj
 rw [subK_at (openL_len l _) (nLr _) hj,openL_at hj,openL_at hj,openQ_cons (ho _ (getD_memE hj)) hc,tLn]
 by_cases h : c ∈ (l.getD j default).1
 ·rw [if_pos h,if_pos (mem_inL.2 ⟨hj,h⟩)]; omega
 ·rw [if_neg h,if_neg fun hm => h (mem_inL.1 hm).2]; omega
theorem set_spec (p : Pl) (n : Nat) (l : List Eqn) (rest opn t : List Int) (I : PH) (hin : InI I p n l) (c : Nat) (hc : c < n) (hr : rest.length = l.length) (ho : opn.length = l.length) (ht : t.length = n) (hl9 : l.length ≤ 100000) (v : Int) (hv : 0 ≤ v ∧ v ≤ 1000000)
  (hrb : ∀ j,j < l.length → -10000000 ≤ rest.getD j default ∧ rest.getD j default ≤ 10000000) (hob : ∀ j,j < l.length → -10000000 ≤ opn.getD j default ∧ opn.getD j default ≤ 10000000) :
  FnSpec Tryz.prog 189 [.pointer (some ⟨p.b,0,none⟩),.int .i64 (c : Int),.int .i64 v,.int .i64 1] I [p.blk n l.length,iR p.Ar p.cr rest,iR p.Ao p.co opn,iR p.At p.ct t]
   (fun u R' => u = .tuple #[] ∧ R' = [p.blk n l.length,iR p.Ar p.cr (subK v (inL l c) rest (inL l c).length),iR p.Ao p.co (subK 1 (inL l c) opn (inL l c).length),iR p.At p.ct (t.set c v)]):=by
 obtain ⟨Ai,ci,ins,hiv,hil,hio,hir,hic⟩:=hin.ex
 have hinl:=hio.len
 have hrow:=hir _ (show ins.getD c default ∈ ins by rw [gEl,gEq (by omega)]; exact List.getElem_mem _)
 have hix:=hic c hc
 have hrd : ∀ (W : World) (R : List Res),Rd W I R ((ad Ai).add (c * 1)) (rowV (ins.getD c default)):=fun W R => hio.rd (by omega)
 generalize ins.getD c default = rw' at hrow hix hrd
 obtain ⟨Ax,cx,ix⟩:=rw'
 dsimp only at hrow hix
 replace hrd : ∀ (W : World) (R : List Res),Rd W I R ((ad Ai).add (c * 1)) (.slice Ax ix.length cx):=hrd
 have hixl:=hrow.len
 have hixb:=inL_len l c
 have hra:=fun (k j : Nat) (hk : k ≤ (inL l c).length) (hj : j < l.length) => subK_at (l:=l) (c:=c) (s:=v) (a:=rest) hr (k:=k) (j:=j) hk hj
 have hoa:=fun (k j : Nat) (hk : k ≤ (inL l c).length) (hj : j < l.length) => subK_at (l:=l) (c:=c) (s:=1) (a:=opn) ho (k:=k) (j:=j) hk hj
 have hatI:=fun (k : Nat) (hk : k < (inL l c).length) => inL_at (l:=l) (c:=c) hk
 rw [← hix] at hixb hra hoa hatI ⊢
 refine FnSpec.enterP Tryz.func189 rfl Tryz.ntmps189 rfl fun w F => ?_
 unfold Pl.blk
 rw [hiv]
 repeat' first | refine kW ?_ | (refine Nx.zo ?_; first | refine kP ?_ | refine Nx.indexAddr_nat (A:=Ai) (i:=c) (sz:=1) rfl rfl rfl rfl rfl (by omega) (hio.isSome (by omega)) ?_ | refine Nx.load rfl rfl rfl (hrd _ _) ?_) | refine kS ?_ | refine kB fun bx => ?_ | refine kA fun A2 c2 => ?_ | refine kX (fun hc => ?_) fun hc => ?_ | fail
 refine Nx.ent (R':=[Vec 3 1 p.Ar l.length p.cr (rest.map (Value.int .i64)),Vec 3 1 p.Ao l.length p.co (opn.map (Value.int .i64)),Blk p.b PT [p.tv,.slice Ai n ci,.slice p.Ar l.length p.cr,.slice p.Ao l.length p.co,.slice p.At n p.ct],Vec 3 1 p.At n p.ct (t.map (Value.int .i64)),F]) (by unfold iR; rw [hr,ho,ht]; (exact zE)) ?_
 refine Nx.vec_fact fun hv1 hv2 hv3 hAr => ?_
 refine Nx.ent (R':=[Vec 3 1 p.Ao l.length p.co (opn.map (Value.int .i64)),Vec 3 1 p.Ar l.length p.cr (rest.map (Value.int .i64)),Blk p.b PT [p.tv,.slice Ai n ci,.slice p.Ar l.length p.cr,.slice p.Ao l.length p.co,.slice p.At n p.ct],Vec 3 1 p.At n p.ct (t.map (Value.int .i64)),F]) (by exact zE) ?_
 refine Nx.vec_fact fun hv4 hv5 hv6 hAo => ?_
 refine Nx.ent (R':=[Vec 3 1 p.At n p.ct (t.map (Value.int .i64)),Vec 3 1 p.Ao l.length p.co (opn.map (Value.int .i64)),Vec 3 1 p.Ar l.length p.cr (rest.map (Value.int .i64)),Blk p.b PT [p.tv,.slice Ai n ci,.slice p.Ar l.length p.cr,.slice p.Ao l.length p.co,.slice p.At n p.ct],F]) (by exact zE) ?_
 refine Nx.vec_fact fun hv7 hv8 hv9 hAt => ?_
 refine Nx.p_loop (σ:=Nat) (fun k => [(0,.pointer (some ⟨p.b,0,none⟩)),(1,.int .i64 (c : Int)),(2,.int .i64 v),(3,.int .i64 1),(16,.slice Ax ix.length cx),(17,.int .i64 ix.length),(18,.int .i64 (k : Int))])
  (fun k => [Blk p.b PT [p.tv,.slice Ai n ci,.slice p.Ar l.length p.cr,.slice p.Ao l.length p.co,.slice p.At n p.ct],Vec 3 1 p.Ar l.length p.cr ((subK v ix rest k).map (Value.int .i64)),Vec 3 1 p.Ao l.length p.co ((subK 1 ix opn k).map (Value.int .i64)),Vec 3 1 p.At n p.ct (t.map (Value.int .i64)),F]) (fun k => k ≤ ix.length) (fun k => ix.length - k) 0 rfl (nZl _) zR (by exact zE) ?_
 intro k hk
 have hk : k ≤ ix.length:=hk
 have hsl:=subK_len v ix rest k
 have hso:=subK_len 1 ix opn k
 by_cases hkl : k < ix.length
 case neg =>
  obtain rfl : k = ix.length:=by omega
  have hw : t.set c (v * (1 + 1) / 2) = t.set c v:=congrArg (t.set c ·) (by omega)
  repeat' first | refine kW ?_ | (refine Nx.zo ?_; first | refine kP ?_ | refine Nx.indexAddr_nat (A:=p.At) (i:=c) (sz:=1) rfl rfl rfl rfl rfl (by omega) (hAt (by omega)) ?_ | refine Nx.store_of 3 (Value.int .i64) rfl rfl rfl rfl rfl rfl (by omega) ?_) | refine kS ?_ | refine kB fun bx => ?_ | refine kA fun A2 c2 => ?_ | refine kX (fun hc => ?_) fun hc => ?_ | fail
  exact Nx.end_fn rfl [_,_,_,_] ⟨rfl,rfl⟩ (by unfold iR; rw [hsl,hr,hso,ho,List.length_set,ht,← hw]; (exact zE))
 obtain ⟨i,he,hil',_⟩:=hatI k hkl
 have hixr : ∀ (W : World) (R : List Res),Rd W I R ((ad Ax).add (k * 1)) (.int .i64 (i : Int)):=fun W R => by rw [← he]; exact hrow.rd hkl
 have hrs : subK v ix rest (k + 1) = (subK v ix rest k).set i ((subK v ix rest k).getD i default - v):=by rw [subK,he,nCt]
 have hos : subK 1 ix opn (k + 1) = (subK 1 ix opn k).set i ((subK 1 ix opn k).getD i default - 1):=by rw [subK,he,nCt]
 have hrb':=hra k i (by omega) hil'
 have hob':=hoa k i (by omega) hil'
 have hrb'':=hrb i hil'
 have hob'':=hob i hil'
 have hrb3 : -20000000 ≤ (subK v ix rest k).getD i default ∧ (subK v ix rest k).getD i default ≤ 20000000:=by rw [hrb']; split <;> omega
 have hob3 : -20000000 ≤ (subK 1 ix opn k).getD i default ∧ (subK 1 ix opn k).getD i default ≤ 20000000:=by rw [hob']; split <;> omega
 generalize subK v ix rest k = ra at hsl hrs hrb3
 generalize subK 1 ix opn k = oa at hso hos hob3
 have hone : ra.set i (ra.getD i default - 1 * v) = ra.set i (ra.getD i default - v):=congrArg (ra.set i ·) (by omega)
 repeat' first | refine kW ?_ | (refine Nx.zo ?_; first | refine kP ?_ | refine Nx.indexAddr_nat (A:=Ax) (i:=k) (sz:=1) rfl rfl rfl rfl rfl (by omega) (hrow.isSome (by omega)) ?_ | refine Nx.load rfl rfl rfl (hixr _ _) ?_ | refine Nx.indexAddr_nat (A:=p.Ar) (i:=i) (sz:=1) rfl rfl rfl rfl rfl (by omega) (hAr (by omega)) ?_ | refine Nx.load rfl rfl rfl (Rd.vecEl 1 (f:=Value.int .i64) (l:=ra) (i:=i) rfl (by omega)) ?_ | refine Nx.indexAddr_nat (A:=p.Ao) (i:=i) (sz:=1) rfl rfl rfl rfl rfl (by omega) (hAo (by omega)) ?_ | refine Nx.load rfl rfl rfl (Rd.vecEl 2 (f:=Value.int .i64) (l:=oa) (i:=i) rfl (by omega)) ?_) | refine kS ?_ | refine kB fun bx => ?_ | refine kA fun A2 c2 => ?_ | refine kX (fun hc => ?_) fun hc => ?_ | fail
 exact Nx.again (k + 1) hkl (by omega) zR (by rw [hrs,hos,← hone]; (exact zE))
theorem unset_spec (p : Pl) (n : Nat) (l : List Eqn) (rest opn t : List Int) (I : PH) (hin : InI I p n l) (c : Nat) (hc : c < n) (hr : rest.length = l.length) (ho : opn.length = l.length) (ht : t.length = n) (hl9 : l.length ≤ 100000) (v : Int) (hv : 0 ≤ v ∧ v ≤ 1000000)
  (hrb : ∀ j,j < l.length → -10000000 ≤ rest.getD j default ∧ rest.getD j default ≤ 10000000) (hob : ∀ j,j < l.length → -10000000 ≤ opn.getD j default ∧ opn.getD j default ≤ 10000000) :
  FnSpec Tryz.prog 189 [.pointer (some ⟨p.b,0,none⟩),.int .i64 (c : Int),.int .i64 v,.int .i64 (-1)] I [p.blk n l.length,iR p.Ar p.cr rest,iR p.Ao p.co opn,iR p.At p.ct t]
   (fun u R' => u = .tuple #[] ∧ R' = [p.blk n l.length,iR p.Ar p.cr (subK (-v) (inL l c) rest (inL l c).length),iR p.Ao p.co (subK (-1) (inL l c) opn (inL l c).length),iR p.At p.ct (t.set c 0)]):=by
 obtain ⟨Ai,ci,ins,hiv,hil,hio,hir,hic⟩:=hin.ex
 have hinl:=hio.len
 have hrow:=hir _ (show ins.getD c default ∈ ins by rw [gEl,gEq (by omega)]; exact List.getElem_mem _)
 have hix:=hic c hc
 have hrd : ∀ (W : World) (R : List Res),Rd W I R ((ad Ai).add (c * 1)) (rowV (ins.getD c default)):=fun W R => hio.rd (by omega)
 generalize ins.getD c default = rw' at hrow hix hrd
 obtain ⟨Ax,cx,ix⟩:=rw'
 dsimp only at hrow hix
 replace hrd : ∀ (W : World) (R : List Res),Rd W I R ((ad Ai).add (c * 1)) (.slice Ax ix.length cx):=hrd
 have hixl:=hrow.len
 have hixb:=inL_len l c
 have hra:=fun (k j : Nat) (hk : k ≤ (inL l c).length) (hj : j < l.length) => subK_at (l:=l) (c:=c) (s:=-v) (a:=rest) hr (k:=k) (j:=j) hk hj
 have hoa:=fun (k j : Nat) (hk : k ≤ (inL l c).length) (hj : j < l.length) => subK_at (l:=l) (c:=c) (s:=-1) (a:=opn) ho (k:=k) (j:=j) hk hj
 have hatI:=fun (k : Nat) (hk : k < (inL l c).length) => inL_at (l:=l) (c:=c) hk
 rw [← hix] at hixb hra hoa hatI ⊢
 refine FnSpec.enterP Tryz.func189 rfl Tryz.ntmps189 rfl fun w F => ?_
 unfold Pl.blk
 rw [hiv]
 repeat' first | refine kW ?_ | (refine Nx.zo ?_; first | refine kP ?_ | refine Nx.indexAddr_nat (A:=Ai) (i:=c) (sz:=1) rfl rfl rfl rfl rfl (by omega) (hio.isSome (by omega)) ?_ | refine Nx.load rfl rfl rfl (hrd _ _) ?_) | refine kS ?_ | refine kB fun bx => ?_ | refine kA fun A2 c2 => ?_ | refine kX (fun hc => ?_) fun hc => ?_ | fail
 refine Nx.ent (R':=[Vec 3 1 p.Ar l.length p.cr (rest.map (Value.int .i64)),Vec 3 1 p.Ao l.length p.co (opn.map (Value.int .i64)),Blk p.b PT [p.tv,.slice Ai n ci,.slice p.Ar l.length p.cr,.slice p.Ao l.length p.co,.slice p.At n p.ct],Vec 3 1 p.At n p.ct (t.map (Value.int .i64)),F]) (by unfold iR; rw [hr,ho,ht]; (exact zE)) ?_
 refine Nx.vec_fact fun hv1 hv2 hv3 hAr => ?_
 refine Nx.ent (R':=[Vec 3 1 p.Ao l.length p.co (opn.map (Value.int .i64)),Vec 3 1 p.Ar l.length p.cr (rest.map (Value.int .i64)),Blk p.b PT [p.tv,.slice Ai n ci,.slice p.Ar l.length p.cr,.slice p.Ao l.length p.co,.slice p.At n p.ct],Vec 3 1 p.At n p.ct (t.map (Value.int .i64)),F]) (by exact zE) ?_
 refine Nx.vec_fact fun hv4 hv5 hv6 hAo => ?_
 refine Nx.ent (R':=[Vec 3 1 p.At n p.ct (t.map (Value.int .i64)),Vec 3 1 p.Ao l.length p.co (opn.map (Value.int .i64)),Vec 3 1 p.Ar l.length p.cr (rest.map (Value.int .i64)),Blk p.b PT [p.tv,.slice Ai n ci,.slice p.Ar l.length p.cr,.slice p.Ao l.length p.co,.slice p.At n p.ct],F]) (by exact zE) ?_
 refine Nx.vec_fact fun hv7 hv8 hv9 hAt => ?_
 refine Nx.p_loop (σ:=Nat) (fun k => [(0,.pointer (some ⟨p.b,0,none⟩)),(1,.int .i64 (c : Int)),(2,.int .i64 v),(3,.int .i64 (-1)),(16,.slice Ax ix.length cx),(17,.int .i64 ix.length),(18,.int .i64 (k : Int))])
  (fun k => [Blk p.b PT [p.tv,.slice Ai n ci,.slice p.Ar l.length p.cr,.slice p.Ao l.length p.co,.slice p.At n p.ct],Vec 3 1 p.Ar l.length p.cr ((subK (-v) ix rest k).map (Value.int .i64)),Vec 3 1 p.Ao l.length p.co ((subK (-1) ix opn k).map (Value.int .i64)),Vec 3 1 p.At n p.ct (t.map (Value.int .i64)),F]) (fun k => k ≤ ix.length) (fun k => ix.length - k) 0 rfl (nZl _) zR (by exact zE) ?_
 intro k hk
 have hk : k ≤ ix.length:=hk
 have hsl:=subK_len (-v) ix rest k
 have hso:=subK_len (-1) ix opn k
 by_cases hkl : k < ix.length
 case neg =>
  obtain rfl : k = ix.length:=by omega
  have hw : t.set c (v * (1 + -1) / 2) = t.set c 0:=congrArg (t.set c ·) (by omega)
  repeat' first | refine kW ?_ | (refine Nx.zo ?_; first | refine kP ?_ | refine Nx.indexAddr_nat (A:=p.At) (i:=c) (sz:=1) rfl rfl rfl rfl rfl (by omega) (hAt (by omega)) ?_ | refine Nx.store_of 3 (Value.int .i64) rfl rfl rfl rfl rfl rfl (by omega) ?_) | refine kS ?_ | refine kB fun bx => ?_ | refine kA fun A2 c2 => ?_ | refine kX (fun hc => ?_) fun hc => ?_ | fail
  exact Nx.end_fn rfl [_,_,_,_] ⟨rfl,rfl⟩ (by unfold iR; rw [hsl,hr,hso,ho,List.length_set,ht,← hw]; (exact zE))
 obtain ⟨i,he,hil',_⟩:=hatI k hkl
 have hixr : ∀ (W : World) (R : List Res),Rd W I R ((ad Ax).add (k * 1)) (.int .i64 (i : Int)):=fun W R => by rw [← he]; exact hrow.rd hkl
 have hrs : subK (-v) ix rest (k + 1) = (subK (-v) ix rest k).set i ((subK (-v) ix rest k).getD i default - -v):=by rw [subK,he,nCt]
 have hos : subK (-1) ix opn (k + 1) = (subK (-1) ix opn k).set i ((subK (-1) ix opn k).getD i default - -1):=by rw [subK,he,nCt]
 have hrb':=hra k i (by omega) hil'
 have hob':=hoa k i (by omega) hil'
 have hrb'':=hrb i hil'
 have hob'':=hob i hil'
 have hrb3 : -20000000 ≤ (subK (-v) ix rest k).getD i default ∧ (subK (-v) ix rest k).getD i default ≤ 20000000:=by rw [hrb']; split <;> omega
 have hob3 : -20000000 ≤ (subK (-1) ix opn k).getD i default ∧ (subK (-1) ix opn k).getD i default ≤ 20000000:=by rw [hob']; split <;> omega
 generalize subK (-v) ix rest k = ra at hsl hrs hrb3
 generalize subK (-1) ix opn k = oa at hso hos hob3
 have hone : ra.set i (ra.getD i default - -1 * v) = ra.set i (ra.getD i default - -v):=congrArg (ra.set i ·) (by omega)
 repeat' first | refine kW ?_ | (refine Nx.zo ?_; first | refine kP ?_ | refine Nx.indexAddr_nat (A:=Ax) (i:=k) (sz:=1) rfl rfl rfl rfl rfl (by omega) (hrow.isSome (by omega)) ?_ | refine Nx.load rfl rfl rfl (hixr _ _) ?_ | refine Nx.indexAddr_nat (A:=p.Ar) (i:=i) (sz:=1) rfl rfl rfl rfl rfl (by omega) (hAr (by omega)) ?_ | refine Nx.load rfl rfl rfl (Rd.vecEl 1 (f:=Value.int .i64) (l:=ra) (i:=i) rfl (by omega)) ?_ | refine Nx.indexAddr_nat (A:=p.Ao) (i:=i) (sz:=1) rfl rfl rfl rfl rfl (by omega) (hAo (by omega)) ?_ | refine Nx.load rfl rfl rfl (Rd.vecEl 2 (f:=Value.int .i64) (l:=oa) (i:=i) rfl (by omega)) ?_) | refine kS ?_ | refine kB fun bx => ?_ | refine kA fun A2 c2 => ?_ | refine kX (fun hc => ?_) fun hc => ?_ | fail
 exact Nx.again (k + 1) hkl (by omega) zR (by rw [hrs,hos,← hone]; (exact zE))
end Go.Proofs.YtpcnapidlhpbkaaGreatDoor
namespace Go.Eng
section
variable {C : Cx} {e : Env} {I : PH} {R : List Res} {K : Act → World → Prop} {Q : Exit → Act → World → Prop} {ds : List Deferred}
variable {d : Nat} {ty : TypeId} {pos : String} {after : Array Edge} {g : Option (Nat × Bool)}
theorem Nx.callP {fx : Operand} {args : Array Operand} {tys : Array TypeId} {f : FuncId} {c1 c2 : Array Value} {vs al : List Value} {Rpre Rrest : List Res} {Post : Value → List Res → Prop} {Pan : List PanicEntry → List Res → Prop}
  (hfx : evo e fx = some (.func (.func f) c1 c2)) (hvs : evs e args.toList = some vs) (hal : c1.toList ++ vs ++ c2.toList = al) (hc : callable C.P f = true) (hlt : Nat.blt d C.n = true)
  (hs : FnSpecP C.P f al I Rpre Post Pan) (hR : Ent R (Rpre ++ Rrest))
  (h : ∀ v R',Post v R' → Nx C ((d,v) :: e) I (R' ++ Rrest) K) (hp : ∀ ch R',Pan ch R' → Nx C e I (R' ++ Rrest) (Q (.panic ch))) : Nx C e I R (opK C.P ⟨some d,.call { callee:=.value fx,args,argTypes:=tys },ty,pos,after,g⟩ K Q):=by
 intro a w ha hw
 unfold opK Oper.wp
 rw [run_call rfl (ha.eval hfx) (ha.evals hvs) hal hc]
 refine Calls.mono (hs w (Stars Rrest) (hw.ent hR).split) ?_
 rintro en w' (⟨v,R',rfl,hv,hst⟩ | ⟨ch,R',rfl,hv,hst⟩)
 ·exact h v R' hv _ w' (ha.put hlt v) (hst.unsplit hw.still)
 ·exact hp ch R' hv _ w' ha (hst.unsplit hw.still)
theorem NxL.callP {fx : Operand} {args : Array Operand} {tys : Array TypeId} {f : FuncId} {c1 c2 : Array Value} {vs al : List Value} {Rpre Rrest : List Res} {Post : Value → List Res → Prop} {Pan : List PanicEntry → List Res → Prop}
  (hfx : evo e fx = some (.func (.func f) c1 c2)) (hvs : evs e args.toList = some vs) (hal : c1.toList ++ vs ++ c2.toList = al) (hc : callable C.P f = true) (hlt : Nat.blt d C.n = true)
  (hs : FnSpecP C.P f al I Rpre Post Pan) (hR : Ent R (Rpre ++ Rrest))
  (h : ∀ v R',Post v R' → Nx C ((d,v) :: e) I (R' ++ Rrest) (L ds K)) (hp : ∀ ch R',Pan ch R' → Nx C e I (R' ++ Rrest) (L ds (Q (.panic ch)))) : Nx C e I R (L ds (opK C.P ⟨some d,.call { callee:=.value fx,args,argTypes:=tys },ty,pos,after,g⟩ K Q)):=by
 intro a w ha hw
 unfold L opK Oper.wp
 rw [show ({ a with defers:=ds } : Act).eval = a.eval from rfl,run_call rfl (ha.eval hfx) (ha.evals hvs) hal hc]
 refine Calls.mono (hs w (Stars Rrest) (hw.ent hR).split) ?_
 rintro en w' (⟨v,R',rfl,hv,hst⟩ | ⟨ch,R',rfl,hv,hst⟩)
 ·have:=h v R' hv _ w' (ha.put hlt v) (hst.unsplit hw.still)
  unfold L at this
  rw [put_defers] at this
  exact this
 ·exact hp ch R' hv _ w' ha (hst.unsplit hw.still)
theorem Nx.use (h : Nx C e I R K) {a : Act} {w : World} (ha : Mod C.n e a) (hw : St C.W I R w) : K a w:=h a w ha hw
theorem Nx.of (h : ∀ a w,Mod C.n e a → St C.W I R w → K a w) : Nx C e I R K:=h
theorem Nx.makeIface {t : TypeId} {v : Value} {x : Operand} (hx : evo e x = some v) (hv : pureRun C.P (Instr.makeInterface t v) = some (.iface t v)) (hlt : Nat.blt d C.n = true) (h : Nx C ((d,.iface t v) :: e) I R K) : Nx C e I R (opK C.P ⟨some d,.makeInterface t x,ty,pos,after,g⟩ K Q) :=
 Nx.op_run rfl hlt (fun a w ha _ => by simp only [execOp,ha.eval hx]; exact run_v (run_of_pureRun hv w)) h
theorem Nx.typeAssert {t u : TypeId} {v : Value} {x : Operand} {b : Bool} (vr : Value) (hx : evo e x = some v) (hv : pureRun C.P (Instr.typeAssert v t u b) = some vr) (hlt : Nat.blt d C.n = true) (h : Nx C ((d,vr) :: e) I R K) : Nx C e I R (opK C.P ⟨some d,.typeAssert x t u b,ty,pos,after,g⟩ K Q) :=
 Nx.op_run rfl hlt (fun a w ha _ => by simp only [execOp,ha.eval hx]; exact run_v (run_of_pureRun hv w)) h
theorem NxL.end_D {fn : Func} {F : Res} {Post : Value → List Res → Prop} {v : Value} {q : FuncId} {cap dargs : Array Value} {al : List Value} (hv : resV e fn.results.toList = some v) (hal : dargs.toList ++ cap.toList = al) (hc : callable C.P q = true)
  (hd : ∀ w,CallsD C.P q al.toArray .returning w fun en u' w' => (∃ z,en = .returned z) ∧ u' = .returning ∧ w' = w) (R' : List Res) (hp : Post v R') (hR : Ent R (R' ++ [F])) : Nx C e I R (L [{ target:=.fn (.func q) cap,args:=dargs }] (fnPostD C.P fn I F C.W Post .normal)) :=
 NxL.ret_D hv hal hc hd R' hp hR
theorem NxL.pan_G {fn : Func} {F : Res} {Post : Value → List Res → Prop} {v pv : Value} {q : FuncId} {cap dargs : Array Value} {al : List Value} (hv : resV e fn.results.toList = some v) (hal : dargs.toList ++ cap.toList = al) (hc : callable C.P q = true)
  (hd : ∀ w,St C.W I R w → CallsD C.P q al.toArray (.panicking [{ v:=pv,recovered:=false }]) w fun en u' w' => (∃ z,en = .returned z) ∧ u' = .panicking [{ v:=pv,recovered:=true }] ∧ St C.W I R w') (R' : List Res) (hp : Post v R') (hR : Ent R (R' ++ [F])) :
  Nx C e I R (L [{ target:=.fn (.func q) cap,args:=dargs }] (fnPostD C.P fn I F C.W Post (.panic [{ v:=pv,recovered:=false }]))):=by
 intro a w ha hw
 have e1 : dargs ++ cap = al.toArray:=by rw [← hal]; apply Array.ext'; simp
 refine leaves_cons (f:=q) (args:=al.toArray) (by simp) (by show (callFunc q (dargs ++ cap)).run C.P w = _; rw [e1]; exact run_callFunc hc _ w) ?_
 refine (hd w hw).mono ?_
 rintro en u' w' ⟨⟨z,rfl⟩,rfl,hgr⟩
 exact ⟨v,resV_run ha hv,v,R',rfl,hp,hgr.ent hR⟩
end
end Go.Eng
namespace Go.Sol
theorem foldStop_go {σ α : Type} {f : σ → α → σ × Bool} {s p p' : σ} {x y : List α} {b : Bool} (h1 : foldStop f s x = (p,true)) (h2 : foldStop f p y = (p',b)) : foldStop f s (x ++ y) = (p',b):=by
 rw [foldStop_append,h1]; exact h2
theorem foldStop_cut {σ α : Type} {f : σ → α → σ × Bool} {s p : σ} {x y : List α} (h1 : foldStop f s x = (p,false)) : foldStop f s (x ++ y) = (p,false):=by
 rw [foldStop_append,h1]; rfl
theorem flat_snoc {α : Type} (g : Nat → List α) (k : Nat) : (List.range (k + 1)).flatMap g = (List.range k).flatMap g ++ g k:=by
 rw [List.range_succ,List.flatMap_append]; simp
theorem flat_at {α : Type} (g : Nat → List α) {k N : Nat} (h : k < N) : ∃ z,(List.range N).flatMap g = (List.range k).flatMap g ++ (g k ++ z):=by
 obtain ⟨m,rfl⟩ : ∃ m,N = (k + 1) + m:=⟨N - (k + 1),by omega⟩
 rw [List.range_add,List.flatMap_append,flat_snoc,List.append_assoc]
 exact ⟨_,rfl⟩
end Go.Sol
namespace Go.Proofs.YtpcnapidlhpbkaaGreatDoor
open Go.Eng Go.Sol
attribute [local irreducible] opK wpList Code.wp Exit.then Exit.inBlock fnPost bodyPost Nx Calls Oper.wp Rd Rds Wr Ent Stars Blk Again Vec FnSpec wpMix QRun Stop Upto wpAt
attribute [local irreducible] fnPostP FnSpecP
theorem CloneI_spec (A : Option Addr) (c : Nat) (l : List Int) (I : PH) (hl : Ints I A c l) (h9 : l.length ≤ 1000000) :
  FnSpec Tryz.prog 69 [.slice A l.length c] I [] (fun v R' => ∃ A' c',v = .slice A' l.length c' ∧ R' = [iR A' c' l]):=by
 cases A with
 | none =>
  have h0 : l = []:=by
   rcases Nat.eq_zero_or_pos l.length with h | h
   ·exact List.eq_nil_of_length_eq_zero h
   ·have:=hl.isSome h; cases this
  subst h0
  refine FnSpec.enterP Tryz.func69 rfl Tryz.ntmps69 rfl fun w F => ?_
  repeat' first | refine kS ?_ | refine kB fun bx => ?_ | refine kA fun A2 c2 => ?_ | refine kX (fun hc => ?_) fun hc => ?_ | fail
  refine Nx.ret_fn rfl [iR none 0 []] ⟨none,0,rfl,rfl⟩ (Ent.vec_nil _ _ _)
 | some a =>
  refine FnSpec.enterP Tryz.func69 rfl Tryz.ntmps69 rfl fun w F => ?_
  repeat' first | refine kS ?_ | refine kB fun bx => ?_ | refine kA fun A2 c2 => ?_ | refine kX (fun hc => ?_) fun hc => ?_ | fail
  refine Nx.blk_vec 0 0 1 rfl rfl (by omega) ?_
  refine Nx.at_op rfl rfl ?_
  refine Nx.append rfl rfl rfl rfl (by kernel_rfl) rfl (Src.arr hl.arr (by simp) (by omega) (fun u hu => by obtain ⟨z,_,rfl⟩:=List.mem_map.1 hu; rfl)) (by omega) fun A' c' => ?_
  rw [Nat.zero_add,List.nil_append]
  repeat' first | refine kS ?_ | refine kB fun bx => ?_ | refine kA fun A2 c2 => ?_ | refine kX (fun hc => ?_) fun hc => ?_ | fail
  exact Nx.ret_fn rfl [_] ⟨A',c',rfl,rfl⟩ (by unfold iR; (exact zE))
structure Found {σ π : Type} (fid : FuncId) (caps : List Value) (I : PH) (n : Nat) (TR : σ → Res) (pl : σ → π) (ok : π → Prop) (f : π → List Int → π × Bool) : Prop where
 able : callable Tryz.prog fid = true
 run : ∀ s A c tab,tab.length = n → ok (pl s) → FnSpec Tryz.prog fid (.slice A tab.length c :: caps) I [TR s,iR A c tab] (fun v R' => v = .bool (f (pl s) tab).2 ∧ ∃ s',pl s' = (f (pl s) tab).1 ∧ ((f (pl s) tab).2 = true → ok (pl s')) ∧ R' = [TR s'])
def Sane (l : List Eqn) : Prop:=Once l ∧ l.length ≤ 100000 ∧ ∀ q ∈ l,0 ≤ q.2 ∧ q.2 ≤ 1000000 ∧ q.1.length ≤ 100000
theorem sumC_nn {t : List Int} (h : ∀ c,0 ≤ t.getD c 0) (cs : List Nat) : 0 ≤ sumC t cs:=sumC_nonneg fun c _ => h c
theorem rest_bd {l : List Eqn} {U : List Nat} {n : Nat} {t : List Int} (hs : Sane l) (hi : Inv n l U t) (hn : ∀ c,0 ≤ t.getD c 0) : ∀ j,j < l.length → -10000000 ≤ (restL l t).getD j default ∧ (restL l t).getD j default ≤ 10000000:=fun j hj => by
 rw [restL_at hj]
 have h1:=hi.pos _ (getD_memE hj)
 have h2:=hs.2.2 _ (getD_memE hj)
 have h3:=sumC_nn hn (l.getD j default).1
 unfold restQ at h1 ⊢
 omega
theorem open_bd {l : List Eqn} {U : List Nat} (hs : Sane l) : ∀ j,j < l.length → -10000000 ≤ (openL l U).getD j default ∧ (openL l U).getD j default ≤ 10000000:=fun j hj => by
 rw [openL_at hj]
 have h2:=hs.2.2 _ (getD_memE hj)
 have : openQ U (l.getD j default) ≤ (l.getD j default).1.length:=List.length_filter_le _ _
 omega
theorem set_zero {t : List Int} {c : Nat} {v : Int} (hc : c < t.length) (h0 : t.getD c 0 = 0) : (t.set c v).set c 0 = t:=by
 rw [List.set_set]
 refine ext_len (by simp) fun d => ?_
 rw [getD_setI hc]
 split
 ·rename_i h; rw [h,h0]
 ·rfl
theorem nn_set {t : List Int} {c : Nat} {v : Int} (hc : c < t.length) (hv : 0 ≤ v) (hn : ∀ c,0 ≤ t.getD c 0) : ∀ d,0 ≤ (t.set c v).getD d 0:=fun d => by
 rw [getD_setI hc]
 split
 ·exact hv
 ·exact hn d
abbrev enoughV : Value:=.iface 215 (.agg #[])
theorem visit_spec {σ π : Type} {fid : FuncId} {caps : List Value} {TR : σ → Res} {pl : σ → π} {ok : π → Prop} {f : π → List Int → π × Bool} (p : Pl) (n : Nat) (l : List Eqn) (I : PH) (hin : InI I p n l) (hF : Found fid caps I n TR pl ok f) (hs : Sane l) (hn9 : n ≤ 1000000)
  (Aq : Option Addr) (cq : Nat) (ord : List Nat) (hord : Ints I Aq cq (ord.map Int.ofNat)) (down : Bool) (bo bf bp bd bv : Nat)
  (h1 : ∀ (W : World) (R : List Res),Rd W I R ⟨bo,0,none⟩ (.slice Aq ord.length cq)) (h2 : ∀ (W : World) (R : List Res),Rd W I R ⟨bf,0,none⟩ (.func (.func fid) #[] caps.toArray))
  (h3 : ∀ (W : World) (R : List Res),Rd W I R ⟨bp,0,none⟩ (.pointer (some ⟨p.b,0,none⟩))) (h4 : ∀ (W : World) (R : List Res),Rd W I R ⟨bd,0,none⟩ (.bool down))
  (h5 : ∀ (W : World) (R : List Res),Rd W I R ⟨bv,0,none⟩ (.func (.func 187) #[] #[.pointer (some ⟨bo,0,none⟩),.pointer (some ⟨bf,0,none⟩),.pointer (some ⟨bp,0,none⟩),.pointer (some ⟨bd,0,none⟩),.pointer (some ⟨bv,0,none⟩)])) :
  ∀ (U : List Nat) (i : Nat),i ≤ ord.length → ord.drop i = U → ∀ (s : σ) (t : List Int),Inv n l U t → (∀ c,0 ≤ t.getD c 0) → ok (pl s) →
   FnSpecP Tryz.prog 187 [.int .i64 (i : Int),.pointer (some ⟨bo,0,none⟩),.pointer (some ⟨bf,0,none⟩),.pointer (some ⟨bp,0,none⟩),.pointer (some ⟨bd,0,none⟩),.pointer (some ⟨bv,0,none⟩)] I
    [p.blk n l.length,iR p.Ar p.cr (restL l t),iR p.Ao p.co (openL l U),iR p.At p.ct t,TR s]
    (fun v R' => v = .tuple #[] ∧ ∃ s',foldStop f (pl s) (enum 1000000 l (down && decide (i = 0)) U t) = (pl s',true) ∧ ok (pl s') ∧ R' = [p.blk n l.length,iR p.Ar p.cr (restL l t),iR p.Ao p.co (openL l U),iR p.At p.ct t,TR s'])
    (fun ch R' => ch = [{ v:=enoughV,recovered:=false }] ∧ ∃ s' G,foldStop f (pl s) (enum 1000000 l (down && decide (i = 0)) U t) = (pl s',false) ∧ R' = [TR s',G])
 | [],i,hi,hdr,s,t,hinv,hnn,hok => by
  have hol:=hord.len
  rw [lMp] at hol
  have hil : i = ord.length:=by
   have:=congrArg List.length hdr
   rw [List.length_drop,List.length_nil] at this
   omega
  subst hil
  have htl:=hinv.len
  have hrun : ∀ A c,FnSpec Tryz.prog fid (.slice A n c :: caps) I [TR s,Vec 3 1 A n c (t.map (Value.int .i64))] (fun v R' => v = .bool (f (pl s) t).2 ∧ ∃ s',pl s' = (f (pl s) t).1 ∧ ((f (pl s) t).2 = true → ok (pl s')) ∧ R' = [TR s']):=fun A c => by
   have h:=hF.run s A c t htl hok
   unfold iR at h
   rw [htl] at h
   exact h
  have hcl : ∀ I',Ints I' p.At p.ct t → FnSpec Tryz.prog 69 [.slice p.At n p.ct] I' [] (fun v R' => ∃ A' c',v = .slice A' n c' ∧ R' = [Vec 3 1 A' n c' (t.map (Value.int .i64))]):=fun I' hm => by
   have h:=CloneI_spec p.At p.ct t I' hm (by omega)
   unfold iR at h
   rw [htl] at h
   exact h
  have hfs : foldStop f (pl s) (enum 1000000 l (down && decide (ord.length = 0)) [] t) = ((f (pl s) t).1,(f (pl s) t).2):=by
   unfold enum foldStop
   cases (f (pl s) t).2 <;> rfl
  rw [hfs]
  cases hb : (f (pl s) t).2 with
  | true =>
   rw [hb] at hrun
   refine FnSpecP.enterP Tryz.func187 rfl Tryz.ntmps187 rfl fun w F => ?_
   repeat' first | ((with_reducible refine Nx.is_wp ?_); first | refine Nx.wo ?_ | refine Nx.p_drawF (id:=1) rfl [0,1,2,3,4,5] [5] [6,7] _ rfl rfl (by kernel_rfl) (by kernel_rfl) rfl (by repeat first | exact PanicOk.fn | exact PanicOk.fnP | refine PanicOk.then_ ?_ | refine PanicOk.inB ?_) (Ent.refl _) ?_) | (refine Nx.zo ?_; first | refine kP ?_ | refine Nx.load rfl rfl rfl (h1 _ _) ?_ | (refine Nx.call_lendR 3 rfl rfl rfl (by kernel_rfl) rfl rfl (fun m I' hI hm h => hcl I' (Vec.sliceOf hm h)) ?_; rintro _ _ ⟨A',c',rfl,rfl⟩) | (refine Nx.call rfl rfl rfl hF.able rfl (hrun A' c') (by exact zE) ?_; rintro _ _ ⟨rfl,s',hs',hok',rfl⟩)) | refine kS ?_ | refine kB fun bx => ?_ | refine kA fun A2 c2 => ?_ | ((with_reducible refine Nx.is_mix ?_); refine kQ rfl rfl rfl rfl (by first | exact .inl rfl | exact .inr ⟨_,_,_,rfl,rfl,rfl⟩) (by first | exact QRun.opr rfl | exact QRun.load rfl rfl (h2 _ _) | exact QRun.load rfl rfl (h3 _ _)) ?_) | refine kX (fun hc => ?_) fun hc => ?_ | fail
   exact Nx.ret_fnP rfl [_,_,_,_,_] ⟨rfl,s',by rw [hs'],hok' rfl,rfl⟩ (by exact zE)
  | false =>
   rw [hb] at hrun
   refine FnSpecP.enterP Tryz.func187 rfl Tryz.ntmps187 rfl fun w F => ?_
   repeat' first | ((with_reducible refine Nx.is_wp ?_); first | refine Nx.wo ?_ | refine Nx.p_drawF (id:=1) rfl [0,1,2,3,4,5] [5] [6,7] _ rfl rfl (by kernel_rfl) (by kernel_rfl) rfl (by repeat first | exact PanicOk.fn | exact PanicOk.fnP | refine PanicOk.then_ ?_ | refine PanicOk.inB ?_) (Ent.refl _) ?_) | (refine Nx.zo ?_; first | refine kP ?_ | refine Nx.load rfl rfl rfl (h1 _ _) ?_ | (refine Nx.call_lendR 3 rfl rfl rfl (by kernel_rfl) rfl rfl (fun m I' hI hm h => hcl I' (Vec.sliceOf hm h)) ?_; rintro _ _ ⟨A',c',rfl,rfl⟩) | (refine Nx.call rfl rfl rfl hF.able rfl (hrun A' c') (by exact zE) ?_; rintro _ _ ⟨rfl,s',hs',hok',rfl⟩) | refine Nx.makeIface rfl rfl rfl ?_ | refine Nx.panic_ rfl ?_) | refine kS ?_ | refine kB fun bx => ?_ | refine kA fun A2 c2 => ?_ | ((with_reducible refine Nx.is_mix ?_); refine kQ rfl rfl rfl rfl (by first | exact .inl rfl | exact .inr ⟨_,_,_,rfl,rfl,rfl⟩) (by first | exact QRun.opr rfl | exact QRun.load rfl rfl (h2 _ _) | exact QRun.load rfl rfl (h3 _ _)) ?_) | refine kX (fun hc => ?_) fun hc => ?_ | fail
   all_goals repeat first | refine Nx.then_panic ?_ | refine Nx.in_panic ?_
   exact Nx.pan_fnP [_,_] ⟨rfl,s',_,by rw [hs'],rfl⟩ (by exact zE)
 | c :: U,i,hi,hdr,s,t,hinv,hnn,hok => by
  have hol:=hord.len
  rw [lMp] at hol
  have hil : i < ord.length:=by
   rcases Nat.lt_or_ge i ord.length with h | h
   ·exact h
   ·rw [List.drop_eq_nil_of_le h] at hdr; cases hdr
  have hdc:=List.drop_eq_getElem_cons hil
  rw [hdr] at hdc
  obtain ⟨hci,hdU⟩:=List.cons.inj hdc
  have hordi : ∀ (W : World) (R : List Res),Rd W I R ((ad Aq).add (i * 1)) (.int .i64 (c : Int)):=fun W R => by
   have h:=hord.rd (W:=W) (R:=R) (k:=i) (by rw [lMp]; exact hil)
   rw [gEl,gMp,gEq hil,← hci] at h
   exact h
  have htl:=hinv.len
  have hcn : c < n:=hinv.lt c (by simp)
  have hc0:=hinv.zero c (by simp)
  obtain ⟨hcU,_⟩:=List.nodup_cons.1 hinv.nd
  have hSp:=span_spec p n l (restL l t) (openL l (c :: U)) t I hin c hcn (restL_len _ _) (openL_len _ _) htl hs.2.1
  rw [lowK_all,highK_all] at hSp
  have hSet : ∀ v : Int,lowF t (c :: U) c l ≤ v → v ≤ highF 1000000 t c l → _:=fun v hv1 hv2 => set_spec p n l (restL l t) (openL l (c :: U)) t I hin c hcn (restL_len _ _) (openL_len _ _) htl hs.2.1 v ⟨(lowF_le.1 hv1).1,(le_highF.1 hv2).1⟩ (rest_bd hs hinv hnn) (open_bd hs)
  have hUn : ∀ v : Int,lowF t (c :: U) c l ≤ v → v ≤ highF 1000000 t c l → _:=fun v hv1 hv2 => unset_spec p n l (restL l (t.set c v)) (openL l U) (t.set c v) I hin c hcn (restL_len _ _) (openL_len _ _) (by rw [List.length_set]; exact htl) hs.2.1 v ⟨(lowF_le.1 hv1).1,(le_highF.1 hv2).1⟩ (rest_bd hs (hinv.step hs.1 hv1 hv2) (nn_set (by omega) (lowF_le.1 hv1).1 hnn)) (open_bd hs)
  simp only [sub_rest hs.1 (show c < t.length by omega) hc0,sub_open hs.1 hcU] at hSet
  simp only [add_rest hs.1 (show c < t.length by omega) hc0,add_open hs.1 hcU,set_zero (show c < t.length by omega) hc0] at hUn
  have hV : ∀ v : Int,lowF t (c :: U) c l ≤ v → v ≤ highF 1000000 t c l → ∀ s,ok (pl s) → _:=fun v hv1 hv2 s hok => visit_spec p n l I hin hF hs hn9 Aq cq ord hord down bo bf bp bd bv h1 h2 h3 h4 h5 U (i + 1) hil hdU.symm s (t.set c v) (hinv.step hs.1 hv1 hv2) (nn_set (by omega) (lowF_le.1 hv1).1 hnn) hok
  rw [show (down && decide (i + 1 = 0)) = false by simp] at hV
  have hl0 : 0 ≤ lowF t (c :: U) c l:=(lowF_le.1 (Int.le_refl _)).1
  have hh9 : highF 1000000 t c l ≤ 1000000:=(le_highF.1 (Int.le_refl _)).1
  have hh0 : 0 ≤ highF 1000000 t c l:=le_highF.2 ⟨by omega,fun q hq _ => hinv.pos q hq⟩
  have hl9 : lowF t (c :: U) c l ≤ 1000000:=lowF_le.2 ⟨by omega,fun q hq _ _ => by
   have:=sumC_nn hnn q.1
   have:=hs.2.2 q hq
   unfold restQ; omega⟩
  unfold enum
  generalize hg : (fun (k : Nat) => enum 1000000 l false U (t.set c (if (down && decide (i = 0)) = true then highF 1000000 t c l - (k : Int) else lowF t (c :: U) c l + (k : Int)))) = g
  have hgk : ∀ k : Nat,g k = enum 1000000 l false U (t.set c (if (down && decide (i = 0)) = true then highF 1000000 t c l - (k : Int) else lowF t (c :: U) c l + (k : Int))):=fun k => by rw [← hg]
  generalize lowF t (c :: U) c l = lo at *
  generalize highF 1000000 t c l = top at *
  generalize hN : (top - lo + 1).toNat = N
  refine FnSpecP.enterP Tryz.func187 rfl Tryz.ntmps187 rfl fun w F => ?_
  repeat' first | refine kW ?_ | (refine Nx.zo ?_; first | refine kP ?_ | refine Nx.load rfl rfl rfl (h1 _ _) ?_ | refine Nx.load rfl rfl rfl (h3 _ _) ?_ | refine Nx.indexAddr_nat rfl rfl rfl rfl rfl (by omega) (hord.isSome (by rw [lMp]; omega)) ?_ | refine Nx.load rfl rfl rfl (hordi _ _) ?_ | (refine Nx.call rfl rfl rfl (by kernel_rfl) rfl hSp (by exact zE) ?_; rintro _ _ ⟨rfl,rfl⟩)) | refine kS ?_ | refine kB fun bx => ?_ | refine kA fun A2 c2 => ?_ | refine kX (fun hc => ?_) fun hc => ?_ | fail
  refine Nx.p_loop (σ:=Nat × σ) (fun x => [(0,.int .i64 (i : Int)),(1,.pointer (some ⟨bo,0,none⟩)),(2,.pointer (some ⟨bf,0,none⟩)),(3,.pointer (some ⟨bp,0,none⟩)),(4,.pointer (some ⟨bd,0,none⟩)),(5,.pointer (some ⟨bv,0,none⟩)),(7,.int .i64 (c : Int)),(8,.int .i64 lo),(9,.int .i64 top),(40,.int .i64 (max 0 (top - lo + 1))),(41,.int .i64 (x.1 : Int))])
   (fun x => [p.blk n l.length,iR p.Ar p.cr (restL l t),iR p.Ao p.co (openL l (c :: U)),iR p.At p.ct t,TR x.2,F]) (fun x => x.1 ≤ N ∧ foldStop f (pl s) ((List.range x.1).flatMap g) = (pl x.2,true) ∧ ok (pl x.2)) (fun x => N - x.1) (0,s) rfl ⟨nZl _,rfl,hok⟩ zR (by exact zE) ?_
  rintro ⟨k,s1⟩ ⟨hk,hfs,hok1⟩
  dsimp only at hk hfs hok1 ⊢
  by_cases hkl : k < N
  case neg =>
   obtain rfl : k = N:=by omega
   repeat' first | refine kS ?_ | refine kB fun bx => ?_ | refine kA fun A2 c2 => ?_ | refine kX (fun hc => ?_) fun hc => ?_ | fail
   exact Nx.end_fnP rfl [_,_,_,_,_] ⟨rfl,s1,hfs,hok1,rfl⟩ (by exact zE)
  obtain ⟨z,hz⟩:=flat_at g hkl
  have hgk:=hgk k
  obtain ⟨v,hv⟩ : ∃ v : Int,v = if (down && decide (i = 0)) = true then top - (k : Int) else lo + (k : Int):=⟨_,rfl⟩
  rw [← hv] at hgk
  have hv1 : lo ≤ v:=by rw [hv]; split <;> omega
  have hv2 : v ≤ top:=by rw [hv]; split <;> omega
  have hS:=hSet v hv1 hv2
  have hU:=hUn v hv1 hv2
  have hR:=hV v hv1 hv2 s1 hok1
  rw [← hgk] at hR
  clear hSet hUn hV hSp
  cases down with
  | false =>
   obtain rfl : v = lo + (k : Int):=by rw [hv]; simp
   repeat' first | refine kW ?_ | (refine Nx.zo ?_; first | refine kP ?_ | refine Nx.load rfl rfl rfl (h3 _ _) ?_ | refine Nx.load rfl rfl rfl (h4 _ _) ?_ | refine Nx.load rfl rfl rfl (h5 _ _) ?_ | (refine Nx.call rfl rfl rfl (by kernel_rfl) rfl hS (by exact zE) ?_; rintro _ _ ⟨rfl,rfl⟩) | (refine Nx.call rfl rfl rfl (by kernel_rfl) rfl hU (by exact zE) ?_; rintro _ _ ⟨rfl,rfl⟩) | (refine Nx.callP rfl rfl rfl (by kernel_rfl) rfl hR (by exact zE) ?_ (by rintro _ _ ⟨rfl,s2,G,hf2,rfl⟩; (repeat first | refine Nx.then_panic ?_ | refine Nx.in_panic ?_); exact Nx.pan_fnP [_,_] ⟨rfl,s2,_,by rw [hz]; exact foldStop_go hfs (foldStop_cut hf2),rfl⟩ (by exact zE)); rintro _ _ ⟨rfl,s2,hf2,hok2,rfl⟩)) | refine kS ?_ | refine kB fun bx => ?_ | refine kA fun A2 c2 => ?_ | refine kX (fun hc => ?_) fun hc => ?_ | fail
   exact Nx.again (k + 1,s2) ⟨hkl,by dsimp only; rw [flat_snoc]; exact foldStop_go hfs hf2,hok2⟩ (by dsimp only; omega) zR (by exact zE)
  | true =>
   by_cases hi0 : i = 0
   ·subst hi0
    obtain rfl : v = top - (k : Int):=by rw [hv]; simp
    repeat' first | refine kW ?_ | (refine Nx.zo ?_; first | refine kP ?_ | refine Nx.load rfl rfl rfl (h3 _ _) ?_ | refine Nx.load rfl rfl rfl (h4 _ _) ?_ | refine Nx.load rfl rfl rfl (h5 _ _) ?_ | (refine Nx.call rfl rfl rfl (by kernel_rfl) rfl hS (by exact zE) ?_; rintro _ _ ⟨rfl,rfl⟩) | (refine Nx.call rfl rfl rfl (by kernel_rfl) rfl hU (by exact zE) ?_; rintro _ _ ⟨rfl,rfl⟩) | (refine Nx.callP rfl rfl rfl (by kernel_rfl) rfl hR (by exact zE) ?_ (by rintro _ _ ⟨rfl,s2,G,hf2,rfl⟩; (repeat first | refine Nx.then_panic ?_ | refine Nx.in_panic ?_); exact Nx.pan_fnP [_,_] ⟨rfl,s2,_,by rw [hz]; exact foldStop_go hfs (foldStop_cut hf2),rfl⟩ (by exact zE)); rintro _ _ ⟨rfl,s2,hf2,hok2,rfl⟩)) | refine kS ?_ | refine kB fun bx => ?_ | refine kA fun A2 c2 => ?_ | refine kX (fun hc => ?_) fun hc => ?_ | fail
    exact Nx.again (k + 1,s2) ⟨hkl,by dsimp only; rw [flat_snoc]; exact foldStop_go hfs hf2,hok2⟩ (by dsimp only; omega) zR (by exact zE)
   ·obtain rfl : v = lo + (k : Int):=by rw [hv]; simp [hi0]
    repeat' first | refine kW ?_ | (refine Nx.zo ?_; first | refine kP ?_ | refine Nx.load rfl rfl rfl (h3 _ _) ?_ | refine Nx.load rfl rfl rfl (h4 _ _) ?_ | refine Nx.load rfl rfl rfl (h5 _ _) ?_ | (refine Nx.call rfl rfl rfl (by kernel_rfl) rfl hS (by exact zE) ?_; rintro _ _ ⟨rfl,rfl⟩) | (refine Nx.call rfl rfl rfl (by kernel_rfl) rfl hU (by exact zE) ?_; rintro _ _ ⟨rfl,rfl⟩) | (refine Nx.callP rfl rfl rfl (by kernel_rfl) rfl hR (by exact zE) ?_ (by rintro _ _ ⟨rfl,s2,G,hf2,rfl⟩; (repeat first | refine Nx.then_panic ?_ | refine Nx.in_panic ?_); exact Nx.pan_fnP [_,_] ⟨rfl,s2,_,by rw [hz]; exact foldStop_go hfs (foldStop_cut hf2),rfl⟩ (by exact zE)); rintro _ _ ⟨rfl,s2,hf2,hok2,rfl⟩)) | refine kS ?_ | refine kB fun bx => ?_ | refine kA fun A2 c2 => ?_ | refine kX (fun hc => ?_) fun hc => ?_ | fail
    exact Nx.again (k + 1,s2) ⟨hkl,by dsimp only; rw [flat_snoc]; exact foldStop_go hfs hf2,hok2⟩ (by dsimp only; omega) zR (by exact zE)
end Go.Proofs.YtpcnapidlhpbkaaGreatDoor
namespace Go.Eng
theorem Blk.cell {b k : Nat} {t : TypeId} {cs : List Value} {v : Value} {m : PH} (h : Blk b t cs m) (hk : nthL cs k = some v) : cellH m ⟨b,k,none⟩ = some v:=by
 rw [nthL_eq] at hk
 simp [cellH,show m b = _ from h]
 exact hk
end Go.Eng
namespace Go.Proofs.YtpcnapidlhpbkaaGreatDoor
open Go.Eng Go.Sol
attribute [local irreducible] opK wpList Code.wp Exit.then Exit.inBlock fnPost bodyPost Nx Calls Oper.wp Rd Rds Wr Ent Stars Blk Again Vec FnSpec wpMix QRun Stop Upto wpAt
attribute [local irreducible] fnPostP FnSpecP fnPostD
theorem catch_pan (W : World) (I : PH) (R : List Res) (w : World) (hw : St W I R w) : CallsD Tryz.prog 186 #[] (.panicking [{ v:=enoughV,recovered:=false }]) w fun en u' w' => (∃ z,en = .returned z) ∧ u' = .panicking [{ v:=enoughV,recovered:=true }] ∧ St W I R w':=by
 refine callsD_of_wpS Tryz.func186 rfl fun c₀ cs hu => ?_
 apply wpS_seq
 apply wpS_region
 simp [wpOpsS,go_sem,recoverD,hu,Tryz.ntmps186,Exit.thenS]
 refine wpS_of_wp ?_
 suffices h : Nx ⟨Tryz.prog,14,W⟩ [(0,enoughV)] I R ((cr (bodyOf Tryz.f186)).wp Tryz.prog fun e a w' => bodyPostS Tryz.prog Tryz.f186 c₀ cs (fun en u' w' => (∃ z,en = .returned z) ∧ u' = .panicking [{ v:=enoughV,recovered:=true }] ∧ St W I R w') e a ({ c₀ with mode:=.panicking [{ v:=enoughV,recovered:=true }] } :: cs) w') by
  refine h.use ⟨by simp,rfl,fun t v ht => ?_⟩ hw
  match t,ht with
  | 0,ht => exact ht ▸ rfl
 repeat' first | refine kW ?_ | (refine Nx.zo ?_; first | refine kP ?_ | refine Nx.typeAssert (.tuple #[.agg #[],.bool true]) rfl rfl rfl ?_) | refine kS ?_ | refine kB fun bx => ?_ | refine kA fun A2 c2 => ?_ | refine kX (fun hc => ?_) fun hc => ?_ | fail
 exact Nx.of fun a w' ha hw' => ⟨ha.defers,_,rfl,_,resV_run ha (v:=.tuple #[]) rfl,⟨_,rfl⟩,rfl,hw'.ent (Ent.drop (Ent.refl _))⟩
theorem catch_idle (w : World) : CallsD Tryz.prog 186 #[] .returning w fun en u' w' => (∃ z,en = .returned z) ∧ u' = .returning ∧ w' = w:=by
 refine callsD_of_wpS Tryz.func186 rfl fun c₀ cs hu => ?_
 apply wpS_seq
 apply wpS_region
 simp [wpOpsS,go_sem,recoverD,hu,Tryz.ntmps186,Exit.thenS]
 apply wpS_seq
 apply wpS_region
 simp [wpOpsS,go_sem,recoverD,hu,Exit.thenS]
 refine wpS_cond (t:=false) (by simp [Act.eval,Array.replicate]) ?_
 simp only [Bool.false_eq_true,if_false]
 refine wpS_of_wp (wp_skip ?_)
 cases c₀
 simp_all [bodyPostS,results,Tryz.results186]
theorem search_spec {σ π : Type} {fid : FuncId} {caps : List Value} {TR : σ → Res} {pl : σ → π} {ok : π → Prop} {f : π → List Int → π × Bool} (p : Pl) (n : Nat) (l : List Eqn) (I : PH) (hin : InI I p n l) (hF : ∀ I',PH.le I I' → Found fid caps I' n TR pl ok f) (hs : Sane l) (hn9 : n ≤ 1000000)
  (Aq : Option Addr) (cq : Nat) (ord : List Nat) (hord : Ints I Aq cq (ord.map Int.ofNat)) (down : Bool) (s : σ) (t : List Int) (hinv : Inv n l ord t) (hnn : ∀ c,0 ≤ t.getD c 0) (hok : ok (pl s)) :
  FnSpec Tryz.prog 133 [.pointer (some ⟨p.b,0,none⟩),.slice Aq ord.length cq,.bool down,.func (.func fid) #[] caps.toArray] I
   [p.blk n l.length,iR p.Ar p.cr (restL l t),iR p.Ao p.co (openL l ord),iR p.At p.ct t,TR s]
   (fun v R' => v = .tuple #[] ∧ ∃ s' G,pl s' = (foldStop f (pl s) (enum 1000000 l down ord t)).1 ∧ R' = [TR s',G]):=by
 refine FnSpec.enterD Tryz.func133 rfl Tryz.ntmps133 rfl fun w F => ?_
 repeat' first | refine kW ?_ | (refine Nx.zo ?_; first | refine kP ?_ | refine Nx.defer_ rfl rfl ?_) | refine kS ?_ | refine kB fun bx => ?_ | refine kA fun A2 c2 => ?_ | refine kX (fun hc => ?_) fun hc => ?_ | fail
 revert bx; intro b4
 revert bx; intro b3
 revert bx; intro b2
 revert bx; intro b1
 repeat first | refine NxL.at_end rfl ?_ | refine NxL.then_normal ?_ | refine NxL.p_seq rfl ?_ | refine NxL.p_region rfl ?_ | (refine NxL.at_op rfl rfl ?_; refine NxL.op rfl ?_)
 refine Nx.alloc rfl rfl fun b5 => ?_
 repeat first | refine NxL.at_end rfl ?_ | refine NxL.then_normal ?_ | refine NxL.p_seq rfl ?_ | refine NxL.p_region rfl ?_ | (refine NxL.at_op rfl rfl ?_; refine NxL.op rfl ?_)
 refine Nx.makeFunc rfl rfl rfl ?_
 repeat first | refine NxL.at_end rfl ?_ | refine NxL.then_normal ?_ | refine NxL.p_seq rfl ?_ | refine NxL.p_region rfl ?_ | (refine NxL.at_op rfl rfl ?_; refine NxL.op rfl ?_)
 refine Nx.store_blk 0 rfl rfl rfl rfl rfl rfl rfl ?_
 refine Nx.freezeAt 0 rfl fun I1 m1 hI1 hm1 h1 => ?_
 refine Nx.freezeAt 0 rfl fun I2 m2 hI2 hm2 h2 => ?_
 refine Nx.freezeAt 0 rfl fun I3 m3 hI3 hm3 h3 => ?_
 refine Nx.freezeAt 0 rfl fun I4 m4 hI4 hm4 h4 => ?_
 refine Nx.freezeAt 0 rfl fun I5 m5 hI5 hm5 h5 => ?_
 have hI:=(((hI1.trans hI2).trans hI3).trans hI4).trans hI5
 have r5 : ∀ (W : World) (R : List Res),Rd W I5 R ⟨b5,0,none⟩ (.func (.func 187) #[] #[.pointer (some ⟨b2,0,none⟩),.pointer (some ⟨b4,0,none⟩),.pointer (some ⟨b1,0,none⟩),.pointer (some ⟨b3,0,none⟩),.pointer (some ⟨b5,0,none⟩)]):=fun W R => Rd.imm (cellH_mono ((((hm1.trans hI2).trans hI3).trans hI4).trans hI5) (Blk.cell h1 rfl))
 have r4 : ∀ (W : World) (R : List Res),Rd W I5 R ⟨b4,0,none⟩ (.func (.func fid) #[] caps.toArray):=fun W R => Rd.imm (cellH_mono (((hm2.trans hI3).trans hI4).trans hI5) (Blk.cell h2 rfl))
 have r3 : ∀ (W : World) (R : List Res),Rd W I5 R ⟨b3,0,none⟩ (.bool down):=fun W R => Rd.imm (cellH_mono ((hm3.trans hI4).trans hI5) (Blk.cell h3 rfl))
 have r2 : ∀ (W : World) (R : List Res),Rd W I5 R ⟨b2,0,none⟩ (.slice Aq ord.length cq):=fun W R => Rd.imm (cellH_mono (hm4.trans hI5) (Blk.cell h4 rfl))
 have r1 : ∀ (W : World) (R : List Res),Rd W I5 R ⟨b1,0,none⟩ (.pointer (some ⟨p.b,0,none⟩)):=fun W R => Rd.imm (cellH_mono hm5 (Blk.cell h5 rfl))
 have hV:=visit_spec p n l I5 (hin.mono hI) (hF I5 hI) hs hn9 Aq cq ord (hord.mono hI) down b2 b4 b1 b3 b5 r2 r4 r1 r3 r5 ord 0 (nZl _) rfl s t hinv hnn hok
 rw [show (down && decide (0 = 0)) = down by simp] at hV
 repeat first | refine NxL.at_end rfl ?_ | refine NxL.then_normal ?_ | refine NxL.p_seq rfl ?_ | refine NxL.p_region rfl ?_ | (refine NxL.at_op rfl rfl ?_; refine NxL.op rfl ?_)
 refine Nx.load rfl rfl rfl (r5 _ _) ?_
 repeat first | refine NxL.at_end rfl ?_ | refine NxL.then_normal ?_ | refine NxL.p_seq rfl ?_ | refine NxL.p_region rfl ?_ | (refine NxL.at_op rfl rfl ?_; refine NxL.op rfl ?_)
 refine NxL.at_op rfl rfl ?_
 refine NxL.callP rfl rfl rfl (by kernel_rfl) rfl hV (by exact zE) ?_ ?_
 ·rintro _ _ ⟨rfl,s',hfs,_,rfl⟩
  repeat first | refine NxL.at_end rfl ?_ | refine NxL.then_normal ?_ | refine NxL.p_seq rfl ?_ | refine NxL.p_region rfl ?_ | (refine NxL.at_op rfl rfl ?_; refine NxL.op rfl ?_)
  exact Nx.imm_le hI (NxL.end_D rfl rfl (by kernel_rfl) (fun w => catch_idle w) [_,_] ⟨rfl,s',iR p.At p.ct t,by rw [hfs],rfl⟩ (by exact zE))
 ·rintro _ _ ⟨rfl,s',G,hfs,rfl⟩
  repeat refine NxL.then_panic ?_
  exact Nx.imm_le hI (NxL.pan_G rfl rfl (by kernel_rfl) (fun w hw => catch_pan _ _ _ w hw) [_,_] ⟨rfl,s',G,by rw [hfs],rfl⟩ (by exact zE))
end Go.Proofs.YtpcnapidlhpbkaaGreatDoor
namespace Go.Eng
open Go.Sort
section
variable {I : PH} {R : List Res} {W w : World} {t : TypeId} {α : Type} [Inhabited α]
theorem putCells_take (f : α → Value) (d : Array α) (c : Array Value) (h : d.size ≤ c.size) : (putCells f 0 d c).toList.take d.size = d.toList.map f:=by
 refine List.ext_getElem? fun k => ?_
 rw [List.getElem?_take]
 unfold putCells
 by_cases hk : k < d.size
 ·rw [if_pos hk,Array.getElem?_toList,Array.getElem?_mapIdx,Array.getElem?_eq_getElem (by omega),Option.map_some,if_pos ⟨nZl _,by omega⟩,Nat.sub_zero,gMp,Array.getElem?_toList,Array.getElem?_eq_getElem hk,Option.map_some,getElem!_pos d k hk]
 ·rw [if_neg hk,gMp,Array.getElem?_toList,Array.getElem?_eq_none (by omega)]; rfl
theorem putCells_size (f : α → Value) (off : Nat) (d : Array α) (c : Array Value) : (putCells f off d c).size = c.size:=by unfold putCells; simp
theorem heap_grow (w : World) (os : Array Obj) (i : Nat) (h : i < w.heap.size) : (grow w os).heap[i]? = w.heap[i]?:=by
 unfold grow
 simp only
 rw [Array.getElem?_append_left h]
theorem heap_putRow (f : α → Value) (w : World) (b off : Nat) (d : Array α) (i : Nat) : (putRow f w b off d).heap[i]? = if b = i then (w.heap[i]?).map (onCells (putCells f off d)) else w.heap[i]?:=by
 unfold putRow mapBlock
 simp only
 rw [Array.getElem?_modify]
theorem St.putRow {f : α → Value} {b c : Nat} {l l' : List α} (hl : l'.length = l.length) (h : St W I (Vec t 1 (some ⟨b,0,none⟩) l.length c (l.map f) :: R) w) (n : Nat) (os : Array Obj) :
  St W I (Vec t 1 (some ⟨b,0,none⟩) l'.length c (l'.map f) :: R) (grow (Sort.putRow f (Go.Sort.ahead w n) b 0 l'.toArray) os):=by
 obtain ⟨⟨m,⟨m1,m2,hd,rfl,hv,h2⟩,hs⟩,hst⟩:=id h
 rcases hv.2 with ⟨h0,_,_⟩ | ⟨b',cur,he,hb,hnc,hcm,hsz,htake⟩
 ·cases h0
 cases he
 have hb0 : w.heap[b]? = some (.cells cur t (0,0)):=hs.own _ _ (PH.le_or_left _ _ _ _ hb)
 have hlt:=(Array.getElem?_eq_some_iff.1 hb0).1
 have hsize : (Sort.putRow f (Go.Sort.ahead w n) b 0 l'.toArray).heap.size = w.heap.size:=by unfold Sort.putRow mapBlock Go.Sort.ahead; simp
 have hheap : ∀ i,i < w.heap.size → (grow (Sort.putRow f (Go.Sort.ahead w n) b 0 l'.toArray) os).heap[i]? = if b = i then (w.heap[i]?).map (onCells (putCells f 0 l'.toArray)) else w.heap[i]?:=fun i hi => by
  rw [heap_grow _ _ _ (by rw [hsize]; exact hi),heap_putRow]; rfl
 refine h.upd (o:=.cells (putCells f 0 l'.toArray cur) t (0,0)) (b:=b) (fun mm hm => ?_) ?_ (fun i hne o' ho => ?_) ⟨rfl,rfl,rfl,?_,by unfold grow Sort.putRow mapBlock Go.Sort.ahead; exact Nat.le_add_right _ _⟩
 ·rcases hm.2 with ⟨h0,_,_⟩ | ⟨b',cur',he,hb',_,_,_,_⟩
  ·cases h0
  cases he
  refine ⟨by rw [hb']; rfl,by simp,.inr ⟨b,putCells f 0 l'.toArray cur,rfl,by simp,by omega,hcm,by rw [putCells_size]; exact hsz,?_⟩⟩
  have:=putCells_take f l'.toArray cur (by simp; omega)
  simpa using this
 ·rw [hheap b hlt,if_pos rfl,hb0]; rfl
 ·rw [hheap i (Array.getElem?_eq_some_iff.1 ho).1,if_neg (fun h => hne h.symm)]; exact ho
 ·unfold grow; simp only [Array.size_append]; rw [hsize]; omega
theorem Vec.holds {f : α → Value} {b c : Nat} {l : List α} (h : St W I (Vec t 1 (some ⟨b,0,none⟩) l.length c (l.map f) :: R) w) : Holds f w b 0 l.toArray ∧ b < w.heap.size:=by
 obtain ⟨⟨m,⟨m1,m2,hd,rfl,hv,h2⟩,hs⟩,hst⟩:=id h
 rcases hv.2 with ⟨h0,_,_⟩ | ⟨b',cur,he,hb,hnc,hcm,hsz,htake⟩
 ·cases h0
 cases he
 have hb0 : w.heap[b]? = some (.cells cur t (0,0)):=hs.own _ _ (PH.le_or_left _ _ _ _ hb)
 refine ⟨fun j hj => ?_,(Array.getElem?_eq_some_iff.1 hb0).1⟩
 have hj' : j < l.length:=by simpa using hj
 rw [Nat.zero_add]
 refine ⟨?_,frozen_of_row w b j cur t hb0⟩
 rw [cell_of_row w b j cur t (0,0) hb0,getElem!_pos l.toArray j hj]
 have h1 : (cur.toList.take (l.length * 1))[j]? = (l.map f)[j]?:=by rw [htake]
 rw [List.getElem?_take,if_pos (by omega),Array.getElem?_toList,gMp,gEq hj'] at h1
 rw [h1]; simp
end
end Go.Eng
namespace Go.Proofs.YtpcnapidlhpbkaaGreatDoor
def srt_ren : Go.Shelf.Ren:=⟨fun | 5 => 130 | 8 => 185 | 7 => 184 | 19 => 233 | 20 => 234 | 10 => 224 | 11 => 225 | 12 => 226 | 13 => 227 | 14 => 228 | 15 => 229 | 16 => 230 | 17 => 231 | 18 => 232 | 30 => 252 | 31 => 253 | 32 => 254 | 33 => 255 | 34 => 256 | 35 => 236 | 40 => 281 | n => n,fun | 23 => 31 | 25 => 3 | 3 => 3 | 32 => 161 | 22 => 31 | 0 => 0 | 44 => 209 | 46 => 102 | 4 => 4 | 36 => 245 | 35 => 244 | 41 => 120 | 5 => 5 | 9 => 9 | 53 => 264 | 57 => 268 | 63 => 285 | 64 => 218 | n => n,fun | n => n⟩
theorem srt : Go.Proofs.SlLaysM.n5 Tryz.prog srt_ren where
 mixed:=by kernel_rfl
 f5 := ⟨ "slices.Sort[[]int,int]", by decide, Tryz.func130.trans (congrArg some (by kernel_rfl))⟩
 f7 := ⟨ "slices.pdqsortOrdered[int]", by decide, Tryz.func184.trans (congrArg some (by kernel_rfl))⟩
 f8:=Tryz.func185.trans (congrArg some (by kernel_rfl))
 f10 := ⟨ "slices.insertionSortOrdered[int]", by decide, Tryz.func224.trans (congrArg some (by kernel_rfl))⟩
 f11 := ⟨ "slices.heapSortOrdered[int]", by decide, Tryz.func225.trans (congrArg some (by kernel_rfl))⟩
 f12 := ⟨ "slices.breakPatternsOrdered[int]", by decide, Tryz.func226.trans (congrArg some (by kernel_rfl))⟩
 f13 := ⟨ "slices.choosePivotOrdered[int]", by decide, Tryz.func227.trans (congrArg some (by kernel_rfl))⟩
 f14 := ⟨ "slices.reverseRangeOrdered[int]", by decide, Tryz.func228.trans (congrArg some (by kernel_rfl))⟩
 f15 := ⟨ "slices.partialInsertionSortOrdered[int]", by decide, Tryz.func229.trans (congrArg some (by kernel_rfl))⟩
 f16 := ⟨ "cmp.Less[int]", by decide, Tryz.func230.trans (congrArg some (by kernel_rfl))⟩
 f17 := ⟨ "slices.partitionEqualOrdered[int]", by decide, Tryz.func231.trans (congrArg some (by kernel_rfl))⟩
 f18 := ⟨ "slices.partitionOrdered[int]", by decide, Tryz.func232.trans (congrArg some (by kernel_rfl))⟩
 f19:=Tryz.func233.trans (congrArg some (by kernel_rfl))
 f20:=Tryz.func234.trans (congrArg some (by kernel_rfl))
 f30 := ⟨ "slices.siftDownOrdered[int]", by decide, Tryz.func252.trans (congrArg some (by kernel_rfl))⟩
 f31:=Tryz.func253.trans (congrArg some (by kernel_rfl))
 f32:=Tryz.func254.trans (congrArg some (by kernel_rfl))
 f33 := ⟨ "slices.medianAdjacentOrdered[int]", by decide, Tryz.func255.trans (congrArg some (by kernel_rfl))⟩
 f34 := ⟨ "slices.medianOrdered[int]", by decide, Tryz.func256.trans (congrArg some (by kernel_rfl))⟩
 f35 := ⟨ "cmp.isNaN[int]", by decide, Tryz.func236.trans (congrArg some (by kernel_rfl))⟩
 f40 := ⟨ "slices.order2Ordered[int]", by decide, Tryz.func281.trans (congrArg some (by kernel_rfl))⟩
 t0:=Tryz.underlying0
 a0:=Tryz.isAgg0
 z0:=Tryz.sizeOf0
 v0:=Tryz.zeroValue0
 t3:=Tryz.underlying3
 a3:=Tryz.isAgg3
 z3:=Tryz.sizeOf3
 v3:=Tryz.zeroValue3
 t4:=Tryz.underlying4
 a4:=Tryz.isAgg4
 z4:=Tryz.sizeOf4
 v4:=Tryz.zeroValue4
 t5:=Tryz.underlying5
 a5:=Tryz.isAgg5
 z5:=Tryz.sizeOf5
 v5:=Tryz.zeroValue5
 t9:=Tryz.underlying9
 a9:=Tryz.isAgg9
 z9:=Tryz.sizeOf9
 v9:=Tryz.zeroValue9
 t22:=Tryz.underlying31
 a22:=Tryz.isAgg31
 z22:=Tryz.sizeOf31
 v22:=Tryz.zeroValue31
 t23:=Tryz.underlying31
 a23:=Tryz.isAgg31
 z23:=Tryz.sizeOf31
 v23:=Tryz.zeroValue31
 t25:=Tryz.underlying3
 a25:=Tryz.isAgg3
 z25:=Tryz.sizeOf3
 v25:=Tryz.zeroValue3
 t32:=Tryz.underlying161
 a32:=Tryz.isAgg161
 z32:=Tryz.sizeOf161
 v32:=Tryz.zeroValue161
 t35:=Tryz.underlying244
 a35:=Tryz.isAgg244
 z35:=Tryz.sizeOf244
 v35:=Tryz.zeroValue244
 t36:=Tryz.underlying245
 a36:=Tryz.isAgg245
 z36:=Tryz.sizeOf245
 v36:=Tryz.zeroValue245
 t41:=Tryz.underlying120
 a41:=Tryz.isAgg120
 z41:=Tryz.sizeOf120
 v41:=Tryz.zeroValue120
 t44:=Tryz.underlying209
 a44:=Tryz.isAgg209
 z44:=Tryz.sizeOf209
 v44:=Tryz.zeroValue209
 t46:=Tryz.underlying102
 a46:=Tryz.isAgg102
 z46:=Tryz.sizeOf102
 v46:=Tryz.zeroValue102
 t53:=Tryz.underlying264
 a53:=Tryz.isAgg264
 z53:=Tryz.sizeOf264
 v53:=Tryz.zeroValue264
 t57:=Tryz.underlying268
 a57:=Tryz.isAgg268
 z57:=Tryz.sizeOf268
 v57:=Tryz.zeroValue268
 t63:=Tryz.underlying285
 a63:=Tryz.isAgg285
 z63:=Tryz.sizeOf285
 v63:=Tryz.zeroValue285
 t64:=Tryz.underlying218
 a64:=Tryz.isAgg218
 z64:=Tryz.sizeOf218
 v64:=Tryz.zeroValue218
def cpt_ren : Go.Shelf.Ren:=⟨fun | 43 => 131 | n => n,fun | 22 => 31 | 23 => 3 | 3 => 3 | 4 => 4 | 0 => 0 | n => n,fun | n => n⟩
theorem cpt : Go.Proofs.SlLaysN.n43 Tryz.prog cpt_ren where
 mixed:=by kernel_rfl
 f43 := ⟨ "slices.Compact[[]int,int]", by decide, Tryz.func131.trans (congrArg some (by kernel_rfl))⟩
 t0:=Tryz.underlying0
 a0:=Tryz.isAgg0
 z0:=Tryz.sizeOf0
 v0:=Tryz.zeroValue0
 t3:=Tryz.underlying3
 a3:=Tryz.isAgg3
 z3:=Tryz.sizeOf3
 v3:=Tryz.zeroValue3
 t4:=Tryz.underlying4
 a4:=Tryz.isAgg4
 z4:=Tryz.sizeOf4
 v4:=Tryz.zeroValue4
 t22:=Tryz.underlying31
 a22:=Tryz.isAgg31
 z22:=Tryz.sizeOf31
 v22:=Tryz.zeroValue31
 t23:=Tryz.underlying3
 a23:=Tryz.isAgg3
 z23:=Tryz.sizeOf3
 v23:=Tryz.zeroValue3
 i23:=by kernel_rfl
open Go.Eng
def srtL (l : List Int) : List Int:=l.mergeSort fun x y => decide (x ≤ y)
theorem srtL_len (l : List Int) : (srtL l).length = l.length:=List.length_mergeSort _
theorem vec_cases {I : PH} {R : List Res} {W w : World} {t : TypeId} {A : Option Addr} {c : Nat} {l : List Int} (h : St W I (Vec t 1 A l.length c (l.map (Value.int .i64)) :: R) w) : (A = none ∧ l = [] ∧ c = 0) ∨ ∃ b,A = some ⟨b,0,none⟩ ∧ l.length ≤ c:=by
 obtain ⟨⟨m,⟨m1,m2,hd,rfl,hv,h2⟩,hs⟩,hst⟩:=h
 rcases hv.2 with ⟨rfl,h1,rfl⟩ | ⟨b,cur,rfl,_,h1,_⟩
 ·exact .inl ⟨rfl,List.eq_nil_of_length_eq_zero h1,rfl⟩
 ·exact .inr ⟨b,rfl,h1⟩
theorem Sort_spec (A : Option Addr) (c : Nat) (l : List Int) (I : PH) (hl : l.length < 4611686018427387904) :
  FnSpec Tryz.prog 130 [.slice A l.length c] I [Vec 3 1 A l.length c (l.map (Value.int .i64))] (fun v R' => v = .tuple #[] ∧ R' = [Vec 3 1 A (srtL l).length c ((srtL l).map (Value.int .i64))]):=by
 intro w F hw
 rcases vec_cases hw with ⟨rfl,rfl,rfl⟩ | ⟨b,rfl,hle⟩
 ·refine (AnyM.slices_Sort_int_none srt none 0 w).mono fun e w' => ?_
  rintro ⟨rfl,rfl⟩
  refine ⟨_,_,rfl,⟨rfl,rfl⟩,?_⟩
  have : srtL [] = []:=List.eq_nil_of_length_eq_zero (srtL_len [])
  rw [this]
  exact hw
 ·obtain ⟨h1,h2⟩:=Vec.holds hw
  refine (AnyM.slices_Sort_int srt b 0 c l w h1 h2 hl).mono fun e w' => ?_
  rintro ⟨rfl,n,os,rfl⟩
  exact ⟨_,_,rfl,⟨rfl,rfl⟩,hw.putRow (srtL_len l) n os⟩
theorem vec_shrink {t : TypeId} {A : Option Addr} {c n : Nat} {l r : List Int} (hn : n = l.length + r.length) : ∀ m,Vec t 1 A n c ((l ++ r).map (Value.int .i64)) m → Vec t 1 A l.length c (l.map (Value.int .i64)) m:=by
 rintro m ⟨h1,h2⟩
 refine ⟨by simp,?_⟩
 rcases h2 with ⟨rfl,h0,rfl⟩ | ⟨b,cur,rfl,hb,hnc,hcm,hsz,htake⟩
 ·exact .inl ⟨rfl,by omega,rfl⟩
 ·refine .inr ⟨b,cur,rfl,hb,by omega,hcm,hsz,?_⟩
  have : (cur.toList.take (n * 1)).take (l.length * 1) = ((l ++ r).map (Value.int .i64)).take (l.length * 1):=by rw [htake]
  rw [List.take_take,Nat.min_eq_left (by omega),mAp,List.take_append_of_le_length (by simp),List.take_of_length_le (l:=List.map (Value.int .i64) l) (by simp)] at this
  exact this
theorem compact_len (l : List Int) : (Lib.compact l).length ≤ l.length:=by
 unfold Lib.compact Lib.compactUpTo
 rw [lMp]
 exact Nat.le_trans (List.length_filter_le _ _) (by simp)
theorem Compact_spec (A : Option Addr) (c : Nat) (l : List Int) (I : PH) (hl : l.length ≤ 9223372036854775807) :
  FnSpec Tryz.prog 131 [.slice A l.length c] I [Vec 3 1 A l.length c (l.map (Value.int .i64))] (fun v R' => v = .slice A (Lib.compact l).length c ∧ R' = [Vec 3 1 A (Lib.compact l).length c ((Lib.compact l).map (Value.int .i64))]):=by
 intro w F hw
 rcases vec_cases hw with ⟨rfl,rfl,rfl⟩ | ⟨b,rfl,hle⟩
 ·refine (AnyG.slices_Compact_int_empty cpt none 0 w).mono fun e w' => ?_
  rintro ⟨rfl,rfl⟩
  exact ⟨_,_,rfl,⟨rfl,rfl⟩,hw⟩
 ·obtain ⟨h1,h2⟩:=Vec.holds hw
  refine (AnyG.slices_Compact_int cpt b 0 c l w h1 hl hle).mono fun e w' => ?_
  rintro ⟨rfl,q,rfl⟩
  refine ⟨_,_,rfl,⟨rfl,rfl⟩,?_⟩
  have hcl:=compact_len l
  have hlen : (Lib.compact l ++ List.replicate (l.length - (Lib.compact l).length) (0 : Int)).length = l.length:=by rw [lAp,List.length_replicate]; omega
  have h3:=hw.putRow hlen q #[]
  have h4 : Sort.grow (Sort.putRow (Value.int .i64) (Sort.ahead w q) b 0 (Lib.compact l ++ List.replicate (l.length - (Lib.compact l).length) 0).toArray) #[] = Sort.putRow (Value.int .i64) (Sort.ahead w q) b 0 (Lib.compact l ++ List.replicate (l.length - (Lib.compact l).length) 0).toArray:=by unfold Sort.grow; simp; rfl
  rw [← h4]
  exact h3.ent (Ent.head (vec_shrink (by rw [List.length_replicate]; omega)))
structure IsSet (r : List Int) (p : Int → Prop) : Prop where
 asc : r.Pairwise (· < ·)
 mem : ∀ x,x ∈ r ↔ p x
theorem asc_ext : ∀ {a b : List Int},a.Pairwise (· < ·) → b.Pairwise (· < ·) → (∀ x,x ∈ a ↔ x ∈ b) → a = b
 | [],[],_,_,_ => rfl
 | [],y :: s,_,_,h => by have:=(h y).2 (by simp); cases this
 | x :: r,[],_,_,h => by have:=(h x).1 (by simp); cases this
 | x :: r,y :: s,ha,hb,h => by
  rw [List.pairwise_cons] at ha hb
  have h1 : x = y:=by
   have h2:=(h x).1 (by simp)
   have h3:=(h y).2 (by simp)
   rcases List.mem_cons.1 h2 with rfl | h2
   ·rfl
   ·rcases List.mem_cons.1 h3 with h3 | h3
    ·exact h3.symm
    ·have:=ha.1 y h3; have:=hb.1 x h2; omega
  subst h1
  rw [asc_ext ha.2 hb.2 (fun z => ?_)]
  have hz:=h z
  simp only [List.mem_cons] at hz
  constructor
  ·intro h4
   rcases hz.1 (.inr h4) with h5 | h5
   ·have:=ha.1 z h4; omega
   ·exact h5
  ·intro h4
   rcases hz.2 (.inr h4) with h5 | h5
   ·have:=hb.1 z h4; omega
   ·exact h5
theorem get_bang (l : List Int) (m : Nat) : l.toArray[m]! = l.getD m default:=by
 by_cases h : m < l.length
 ·rw [getElem!_pos l.toArray m (by simpa using h),gEl,gEq h]; simp
 ·rw [getElem!_neg l.toArray m (by simpa using h),gEl,List.getElem?_eq_none (by omega)]; rfl
theorem getD_memI {l : List Int} {k : Nat} (h : k < l.length) : l.getD k default ∈ l:=by
 rw [gEl,gEq h]; exact List.getElem_mem _
theorem mem_getDI {l : List Int} {x : Int} (h : x ∈ l) : ∃ k,k < l.length ∧ l.getD k default = x:=by
 obtain ⟨k,hk,he⟩:=List.mem_iff_getElem.1 h
 exact ⟨k,hk,by rw [gEl,gEq hk]; exact he⟩
theorem sorted_at {l : List Int} (h : l.Pairwise (· ≤ ·)) {i j : Nat} (hij : i ≤ j) (hj : j < l.length) : l.getD i default ≤ l.getD j default:=by
 rw [gEl,gEl,gEq (by omega),gEq hj]
 show l[i] ≤ l[j]
 rcases Nat.lt_or_ge i j with h1 | h1
 ·exact (List.pairwise_iff_getElem.1 h) i j (by omega) hj h1
 ·obtain rfl : i = j:=by omega
  exact Int.le_refl _
theorem compactUpTo_set {l : List Int} (h : l.Pairwise (· ≤ ·)) : ∀ m,m ≤ l.length → (Lib.compactUpTo l.toArray m).Pairwise (· < ·) ∧ ∀ x,x ∈ Lib.compactUpTo l.toArray m ↔ ∃ j,j < m ∧ l.getD j default = x
 | 0,_ => ⟨by simp [Lib.compactUpTo],fun x => by simp [Lib.compactUpTo]⟩
 | m + 1,hm => by
  obtain ⟨h1,h2⟩:=compactUpTo_set h m (by omega)
  rw [Lib.compactUpTo_succ]
  by_cases hk : Lib.keeps l.toArray m = true
  ·rw [if_pos hk,get_bang]
   have hlt : ∀ x ∈ Lib.compactUpTo l.toArray m,x < l.getD m default:=fun x hx => by
    obtain ⟨j,hj,rfl⟩:=(h2 x).1 hx
    have hs:=sorted_at h (i:=j) (j:=m - 1) (by omega) (by omega)
    have hs2:=sorted_at h (i:=m - 1) (j:=m) (by omega) (by omega)
    unfold Lib.keeps at hk
    rw [get_bang,get_bang] at hk
    simp at hk
    rcases hk with hk | hk
    ·omega
    ·have : l.getD m default ≠ l.getD (m - 1) default:=by simpa [gEl] using hk
     omega
   refine ⟨List.pairwise_append.2 ⟨h1,by simp,fun a ha b hb => by simp at hb; rw [gEl] at hlt; subst hb; exact hlt a ha⟩,fun x => ?_⟩
   rw [List.mem_append,h2,List.mem_singleton]
   constructor
   ·rintro (⟨j,hj,he⟩ | he)
    ·exact ⟨j,by omega,he⟩
    ·exact ⟨m,by omega,he.symm⟩
   ·rintro ⟨j,hj,he⟩
    by_cases hjm : j = m
    ·subst hjm; exact .inr he.symm
    ·exact .inl ⟨j,by omega,he⟩
  ·rw [if_neg hk,List.append_nil]
   refine ⟨h1,fun x => ?_⟩
   rw [h2]
   have hm0 : 0 < m:=by
    rcases Nat.eq_zero_or_pos m with h0 | h0
    ·subst h0; exact absurd (Lib.keeps_lt_one l.toArray 0 (by omega)) hk
    ·exact h0
   have heq : l.getD m default = l.getD (m - 1) default:=Decidable.byContradiction fun hne => hk (Lib.keeps_pos (by rw [get_bang,get_bang]; exact hne))
   constructor
   ·rintro ⟨j,hj,he⟩; exact ⟨j,by omega,he⟩
   ·rintro ⟨j,hj,he⟩
    by_cases hjm : j = m
    ·subst hjm; exact ⟨j - 1,by omega,by rw [← he,heq]⟩
    ·exact ⟨j,by omega,he⟩
theorem compact_set {l : List Int} (h : l.Pairwise (· ≤ ·)) : IsSet (Lib.compact l) (· ∈ l):=by
 obtain ⟨h1,h2⟩:=compactUpTo_set h l.length (nLr _)
 refine ⟨h1,fun x => (h2 x).trans ⟨fun ⟨j,hj,he⟩ => he ▸ getD_memI hj,fun hx => ?_⟩⟩
 obtain ⟨k,hk,he⟩:=mem_getDI hx
 exact ⟨k,hk,he⟩
theorem srtL_sorted (l : List Int) : (srtL l).Pairwise (· ≤ ·):=by
 have:=List.pairwise_mergeSort (le:=fun x y : Int => decide (x ≤ y)) (fun a b c h1 h2 => by simp at *; omega) (fun a b => by simp; omega) l
 exact this.imp fun h => by simpa using h
theorem srtL_mem (l : List Int) (x : Int) : x ∈ srtL l ↔ x ∈ l:=List.mem_mergeSort
theorem set_of (l : List Int) : IsSet (Lib.compact (srtL l)) (· ∈ l):=by
 have:=compact_set (srtL_sorted l)
 exact ⟨this.asc,fun x => (this.mem x).trans (srtL_mem l x)⟩
open Go.Sol
attribute [local irreducible] opK wpList Code.wp Exit.then Exit.inBlock fnPost bodyPost Nx Calls Oper.wp Rd Rds Wr Ent Stars Blk Again Vec FnSpec wpMix QRun Stop Upto wpAt
abbrev EqR:=Row × Int
def eqC (q : EqR) : List Value:=[.slice q.1.1 q.1.2.2.length q.1.2.1,.int .i64 q.2]
structure Eqs (I : PH) (A : Option Addr) (c : Nat) (l : List EqR) : Prop where
 outer : SliceN eqC 2 I A c l
 inner : ∀ q ∈ l,Ints I q.1.1 q.1.2.1 q.1.2.2
theorem Eqs.mono {I I' : PH} {A : Option Addr} {c : Nat} {l : List EqR} (hle : PH.le I I') (h : Eqs I A c l) : Eqs I' A c l:=⟨h.outer.mono hle,fun q hq => (h.inner q hq).mono hle⟩
theorem Eqs.len {I : PH} {A : Option Addr} {c : Nat} {l : List EqR} (h : Eqs I A c l) : (l.length : Int) ≤ 9223372036854775807:=h.outer.len
theorem getD_memQ {l : List EqR} {k : Nat} (h : k < l.length) : l.getD k default ∈ l:=by rw [gEl,gEq h]; exact List.getElem_mem _
theorem take_snocQ {l : List EqR} {k : Nat} (h : k < l.length) : l.take (k + 1) = l.take k ++ [l.getD k default]:=by rw [tSu h,gEl,gEq h]; rfl
theorem take_snocJ {l : List Int} {k : Nat} (h : k < l.length) : l.take (k + 1) = l.take k ++ [l.getD k default]:=by rw [tSu h,gEl,gEq h]; rfl
theorem eqC_len (q : EqR) : (eqC q).length = 2:=rfl
structure GoodE (n : Nat) (q : EqR) : Prop where
 ne : q.1.2.2 ≠ []
 val : 0 ≤ q.2 ∧ q.2 ≤ 1000000
 asc : q.1.2.2.Pairwise (· < ·)
 lt : ∀ x ∈ q.1.2.2,0 ≤ x ∧ x < n
def eqn (q : EqR) : Eqn:=(q.1.2.2.map Int.toNat,q.2)
def eqns (l : List EqR) : List Eqn:=l.map eqn
def allC (l : List EqR) : List Int:=l.flatMap fun q => q.1.2.2
theorem allC_snoc {l : List EqR} {k : Nat} (h : k < l.length) : allC (l.take (k + 1)) = allC (l.take k) ++ (l.getD k default).1.2.2:=by unfold allC; rw [take_snocQ h,List.flatMap_append]; simp
theorem allC_le {l : List EqR} (k : Nat) : (allC (l.take k)).length ≤ (allC l).length:=by
 have : allC l = allC (l.take k) ++ allC (l.drop k):=by unfold allC; rw [← List.flatMap_append,List.take_append_drop]
 rw [this,lAp]; omega
theorem allC_le1 {l : List EqR} {k : Nat} (h : k < l.length) : (allC (l.take k)).length + (l.getD k default).1.2.2.length ≤ (allC l).length:=by
 have:=allC_le (l:=l) (k + 1)
 rw [allC_snoc h,lAp] at this
 exact this
def touch (n : Nat) (L : List Eqn) : List Nat:=(List.range n).filter fun c => L.any fun q => decide (c ∈ q.1)
theorem mem_touch {n : Nat} {L : List Eqn} {c : Nat} : c ∈ touch n L ↔ c < n ∧ ∃ q ∈ L,c ∈ q.1:=by
 unfold touch
 rw [List.mem_filter,List.mem_range,List.any_eq_true]
 simp only [decide_eq_true_eq]
theorem touch_asc (n : Nat) (L : List Eqn) : (touch n L).Pairwise (· < ·):=List.pairwise_lt_range.filter _
theorem touch_nd (n : Nat) (L : List Eqn) : (touch n L).Nodup:=(touch_asc n L).imp fun h => Nat.ne_of_lt h
theorem touch_set {n : Nat} {l : List EqR} (hg : ∀ q ∈ l,GoodE n q) : Lib.compact (srtL (allC l)) = (touch n (eqns l)).map Int.ofNat:=by
 refine asc_ext (set_of _).asc ?_ fun x => ?_
 ·rw [List.pairwise_map]
  exact (touch_asc n _).imp fun h => Int.ofNat_lt.2 h
 ·rw [(set_of _).mem,List.mem_map]
  unfold allC
  rw [List.mem_flatMap]
  constructor
  ·rintro ⟨q,hq,hx⟩
   obtain ⟨h1,h2⟩:=(hg q hq).lt x hx
   refine ⟨x.toNat,mem_touch.2 ⟨by omega,eqn q,List.mem_map.2 ⟨q,hq,rfl⟩,List.mem_map.2 ⟨x,hx,rfl⟩⟩,?_⟩
   show ((x.toNat : Nat) : Int) = x
   omega
  ·rintro ⟨c,hc,rfl⟩
   obtain ⟨_,q,hq,hcq⟩:=mem_touch.1 hc
   obtain ⟨q',hq',rfl⟩:=List.mem_map.1 hq
   obtain ⟨y,hy,he⟩:=List.mem_map.1 hcq
   have:=(hg q' hq').lt y hy
   refine ⟨q',hq',?_⟩
   have : Int.ofNat c = y:=by show (c : Int) = y; omega
   rw [this]; exact hy
theorem Touched_spec (A : Option Addr) (c : Nat) (l : List EqR) (n : Nat) (I : PH) (hl : Eqs I A c l) (hg : ∀ q ∈ l,GoodE n q) (h9 : (allC l).length ≤ 1000000) :
  FnSpec Tryz.prog 75 [.int .i64 (n : Int),.slice A l.length c] I [] (fun v R' => ∃ A' c',v = .slice A' (touch n (eqns l)).length c' ∧ R' = [iR A' c' ((touch n (eqns l)).map Int.ofNat)]):=by
 have hlen:=hl.len
 refine FnSpec.enterP Tryz.func75 rfl Tryz.ntmps75 rfl fun w F => ?_
 repeat' first | refine kS ?_ | refine kB fun bx => ?_ | refine kA fun A2 c2 => ?_ | refine kX (fun hc => ?_) fun hc => ?_ | fail
 refine Nx.p_loop (σ:=Nat × Option Addr × Nat) (fun s => [(0,.int .i64 (n : Int)),(5,.slice s.2.1 (allC (l.take s.1)).length s.2.2),(10,.slice A l.length c),(11,.int .i64 l.length),(12,.int .i64 (s.1 : Int))])
  (fun s => [iR s.2.1 s.2.2 (allC (l.take s.1)),F]) (fun s => s.1 ≤ l.length) (fun s => l.length - s.1) (0,none,0) rfl (nZl _) zR ((Ent.vec_nil _ _ _).trans (by exact zE)) ?_
 rintro ⟨k,A1,c1⟩ hk
 dsimp only at hk ⊢
 by_cases hlt : k < l.length
 case neg =>
  obtain rfl : k = l.length:=by omega
  rw [tLn]
  have hS:=Sort_spec A1 c1 (allC l) I (by omega)
  have hC:=Compact_spec A1 c1 (srtL (allC l)) I (by rw [srtL_len]; omega)
  rw [touch_set hg,srtL_len] at hC
  rw [srtL_len] at hS
  repeat' first | refine kW ?_ | (refine Nx.zo ?_; first | refine kP ?_ | (refine Nx.call rfl rfl rfl (by kernel_rfl) rfl hS (by unfold iR; (exact zE)) ?_; rintro _ _ ⟨rfl,rfl⟩) | (refine Nx.call rfl rfl rfl (by kernel_rfl) rfl hC (by exact zE) ?_; rintro _ _ ⟨rfl,rfl⟩)) | refine kS ?_ | refine kB fun bx => ?_ | refine kA fun A2 c2 => ?_ | refine kX (fun hc => ?_) fun hc => ?_ | fail
  exact Nx.ret_fn rfl [_] ⟨A1,c1,by rw [lMp],rfl⟩ (by unfold iR; (exact zE))
 have hin:=hl.inner _ (getD_memQ hlt)
 have hbd:=allC_le1 hlt
 have hsn:=allC_snoc hlt
 have hgq:=(hg _ (getD_memQ hlt)).lt
 have hrds : ∀ (W : World) (R : List Res),Rds W I R ((ad A).add (k * 2)) (eqC (l.getD k default)):=fun W R => hl.outer.rds hlt
 generalize l.getD k default = q at *
 obtain ⟨⟨Ax,cx,ix⟩,z⟩:=q
 dsimp only at hin hbd hsn hgq
 replace hrds : ∀ (W : World) (R : List Res),Rds W I R ((ad A).add (k * 2)) [.slice Ax ix.length cx,.int .i64 z]:=hrds
 have hixl:=hin.len
 repeat' first | refine kW ?_ | (refine Nx.zo ?_; first | refine kP ?_ | refine Nx.indexAddr_nat rfl rfl rfl rfl rfl (by omega) (hl.outer.isSome (by omega) (by omega)) ?_ | refine Nx.loads rfl rfl rfl rfl (hrds _ _) rfl ?_) | refine kS ?_ | refine kB fun bx => ?_ | refine kA fun A2 c2 => ?_ | refine kX (fun hc => ?_) fun hc => ?_ | fail
 refine Nx.p_loop (σ:=Nat × Option Addr × Nat) (fun s => [(0,.int .i64 (n : Int)),(5,.slice s.2.1 (allC (l.take k) ++ ix.take s.1).length s.2.2),(10,.slice A l.length c),(11,.int .i64 l.length),(12,.int .i64 (k : Int)),(17,.slice Ax ix.length cx),(18,.int .i64 ix.length),(19,.int .i64 (s.1 : Int))])
  (fun s => [iR s.2.1 s.2.2 (allC (l.take k) ++ ix.take s.1),F]) (fun s => s.1 ≤ ix.length) (fun s => ix.length - s.1) (0,A1,c1) rfl (nZl _) ⟨rfl,by dsimp only; rw [List.take_zero,List.append_nil]; rfl,rfl,rfl,rfl,rfl,rfl,rfl,trivial⟩ (by dsimp only; rw [List.take_zero,List.append_nil]; (exact zE)) ?_
 rintro ⟨j,A9,c9⟩ hj
 dsimp only at hj ⊢
 by_cases hjl : j < ix.length
 ·have hsj:=take_snocJ hjl
  have hx:=hgq (ix.getD j default) (by rw [gEl,gEq hjl]; exact List.getElem_mem _)
  have hlj : (ix.take j).length = j:=by rw [lTk]; omega
  have hla : (allC (l.take k) ++ ix.take j).length ≤ 1000000:=by rw [lAp]; omega
  generalize hacc : allC (l.take k) ++ ix.take j = acc at hla ⊢
  repeat' first | refine kW ?_ | (refine Nx.zo ?_; first | refine kP ?_ | refine Nx.indexAddr_nat rfl rfl rfl rfl rfl (by omega) (hin.isSome (by omega)) ?_ | refine Nx.load rfl rfl rfl (hin.rd (by omega)) ?_) | refine kS ?_ | refine kB fun bx => ?_ | refine kA fun A2 c2 => ?_ | refine kX (fun hc => ?_) fun hc => ?_ | fail
  refine Nx.again (j + 1,A2,c2) hjl (by dsimp only; omega) ⟨rfl,by dsimp only; rw [hsj,← List.append_assoc,hacc,lAp]; rfl,rfl,rfl,rfl,rfl,rfl,rfl,trivial⟩ ?_
  dsimp only
  rw [hsj,← List.append_assoc,hacc]
  refine Ent.pickE 0 rfl ?_ (by exact zE)
  unfold iR
  rw [lAp,mAp]
  rfl
 ·obtain rfl : j = ix.length:=by omega
  rw [tLn,← hsn]
  repeat' first | refine kS ?_ | refine kB fun bx => ?_ | refine kA fun A2 c2 => ?_ | refine kX (fun hc => ?_) fun hc => ?_ | fail
  exact Nx.again (k + 1,A9,c9) hlt (by dsimp only; omega) zR (by exact zE)
end Go.Proofs.YtpcnapidlhpbkaaGreatDoor
namespace Go.Eng
section
variable {P : Program} {ops : Array Oper} {Q : Exit → Act → World → Prop} {S : World → Prop} {loud fin : List Nat}
def wpFork (P : Program) (ops : Array Oper) (Q : Exit → Act → World → Prop) (S : World → Prop) (loud fin : List Nat) : Nat → Array Bool → Act → World → Prop
 | 0,_,_,_ => False
 | n + 1,listed,a,w => (mixOk ops loud fin listed = true ∧ fin.length ≤ n + 1 ∧ wpMix P ops Q S loud fin a w) ∨
  (Region.ready .any ops listed ≠ [] ∧ ∀ i ∈ Region.ready .any ops listed,wpOp P ops Q i (fun a' w' => S w' ∧ wpFork P ops Q S loud fin n (listed.setIfInBounds i true) a' w') a w)
theorem wpFork_any (hs : Region.noSelect ops = true) (hQ : PanicOk Q) : ∀ (n : Nat) (listed : Array Bool) (a : Act) (w : World),wpFork P ops Q S loud fin n listed a w → S w → wpAnyH P .any ops Q S n listed a w
 | 0,_,_,_,h,_ => h.elim
 | n + 1,listed,a,w,h,hS => by
  rcases h with ⟨h1,h2,h3⟩ | ⟨h1,h2⟩
  ·exact wpMix_any hs hQ fin (n + 1) listed a w h1 h2 hS h3
  ·exact wpAnyH_all rfl h1 fun i hi => wpOp_mono (fun a' w' ⟨h3,h4⟩ => ⟨h3,wpFork_any hs hQ n _ a' w' h4 h3⟩) (h2 i hi)
end
def listedOf (n : Nat) (q : List Nat) : Array Bool:=q.foldl (fun a i => a.setIfInBounds i true) (Array.replicate n false)
section
variable {C : Cx} {e e' : Env} {I : PH} {R R' R0 : List Res} {K K' : Act → World → Prop} {Q : Exit → Act → World → Prop} {W : World}
variable {ops : Array Oper} {S : World → Prop} {loud fin : List Nat} {c : Code} {n i j : Nat} {o oi oj : Oper} {listed : Array Bool}
theorem Nx.p_fork {id : Nat} (hid : cid c = id) (q fin loud : List Nat) (R0 : List Res) (fuel : Nat) (hk : ck c = 2) (hm : C.P.follows .mixedOrders = true) (hs : Region.noSelect (cops c) = true)
  (hok : preOk (cops c) (fun l => l == listedOf (cops c).size q) q (Array.replicate (cops c).size false) = true) (hlen : fuel + q.length = (cops c).size) (hQ : PanicOk Q) (hR : Ent R R0)
  (h : Nx C e I R (wpMix C.P (cops c) (Exit.then (wpFork C.P (cops c) Q (St C.W I R0) loud fin fuel (listedOf (cops c).size q)) Q) (St C.W I R0) [] q)) : Nx C e I R (c.wp C.P Q):=by
 have hc : c = .region (cid c) (cops c) true:=by
  cases c <;> first | (simp [ck] at hk; done) | skip
  rename_i b
  cases b with
  | false => simp [ck] at hk
  | true => rfl
 clear hid
 rw [hc]
 intro a w ha hw
 refine wp_region_held (S:=St C.W I R0) hm ?_
 have key:=fun hT => wpMix_pre (fuel:=fuel) (S:=St C.W I R0) (Q:=Q) hs hQ hT q _ a _ hok (hw.drew.ent hR) (h a _ ha hw.drew)
 rw [hlen] at key
 refine key (fun listed a w hpo hSw hT => ?_)
 have hl : listed = listedOf (cops c).size q:=by simpa using hpo
 subst hl
 exact wpFork_any hs hQ fuel _ a w hT hSw
theorem Nx.fork_fin (hok : mixOk ops loud fin listed = true) (hl : Nat.ble fin.length (n + 1) = true) (h : Nx C e I R (wpMix C.P ops Q S loud fin)) : Nx C e I R (wpFork C.P ops Q S loud fin (n + 1) listed) :=
 fun a w ha hw => .inl ⟨hok,Nat.le_of_ble_eq_true hl,h a w ha hw⟩
theorem wpOp_of {k : Nat} (ho : opAt ops.toList k = some o) (hg : o.guard = none) (h : Nx C e I R (opK C.P o K Q)) : ∀ a w,Mod C.n e a → St C.W I R w → wpOp C.P ops Q k K a w:=fun a w ha hw => by
 unfold wpOp
 rw [opAt_arr ho]
 dsimp only
 rw [if_pos (by simp [Region.wanted,hg])]
 exact .inl (h a w ha hw)
theorem Nx.fork1 (hr : Region.ready .any ops listed = [i]) (ho : opAt ops.toList i = some oi) (hg : oi.guard = none)
  (h : Nx C e I R (opK C.P oi (fun a w => S w ∧ wpFork C.P ops Q S loud fin n (listed.setIfInBounds i true) a w) Q)) : Nx C e I R (wpFork C.P ops Q S loud fin (n + 1) listed):=fun a w ha hw =>
 .inr ⟨by rw [hr]; simp,fun k hk => by
  rw [hr,List.mem_singleton] at hk
  subst hk
  exact wpOp_of ho hg h a w ha hw⟩
theorem Nx.fork2 (hr : Region.ready .any ops listed = [i,j]) (hoi : opAt ops.toList i = some oi) (hgi : oi.guard = none) (hoj : opAt ops.toList j = some oj) (hgj : oj.guard = none)
  (hi : Nx C e I R (opK C.P oi (fun a w => S w ∧ wpFork C.P ops Q S loud fin n (listed.setIfInBounds i true) a w) Q))
  (hj : Nx C e I R (opK C.P oj (fun a w => S w ∧ wpFork C.P ops Q S loud fin n (listed.setIfInBounds j true) a w) Q)) : Nx C e I R (wpFork C.P ops Q S loud fin (n + 1) listed):=fun a w ha hw =>
 .inr ⟨by rw [hr]; simp,fun k hk => by
  rw [hr,List.mem_cons,List.mem_singleton] at hk
  rcases hk with rfl | rfl
  ·exact wpOp_of hoi hgi hi a w ha hw
  ·exact wpOp_of hoj hgj hj a w ha hw⟩
end
end Go.Eng
namespace Go.Eng
section
variable {P : Program} {ops : Array Oper} {Q : Exit → Act → World → Prop} {S : World → Prop} {fs fin fq : List Nat}
def lateW (ops : Array Oper) (fin : List Nat) (listed : Array Bool) (i : Nat) : Bool:=fin.all fun j => listed.getD j false || finWaits .any ops [j] i
theorem wpAnyF_firstL {i : Nat} {oi : Oper} {v : Value} (hi : ops[i]? = some oi) (hs : Region.noSelect ops = true) (hQ : PanicOk Q) :
  ∀ (n : Nat) (listed : Array Bool) (a : Act) (w : World),Closed .any ops listed → (∀ j,fin.contains j = true → listed.getD j false = true ∨ finWaits .any ops [j] i = true) →
   (∀ j oj,ops[j]? = some oj → j ≠ i → listed.getD j true = false → (∀ e ∈ oj.after,Region.binds .any e = true → e.on ≠ i) → oi.apart ops oj = true) →
   i ∈ Region.ready .any ops listed → YieldsIf P ops S oi v a → S w →
   wpAnyF P .any ops Q S fin n (listed.setIfInBounds i true) (a.put oi.dst v) w → wpAnyF P .any ops Q S fin (n + 1) listed a w
 | n,listed,a,w,hcl,hfin,hap,hr,hy,hS,H => by
  refine ⟨fun h0 => (by rw [h0] at hr; cases hr),fun j hj => ?_⟩
  by_cases hji : j = i
  ·subst hji; exact hy.wpOp hi hS ⟨fun _ => hS,H⟩
  ·have hj2:=ready_mono hj hji
   obtain ⟨hjun,oj,hoj,_⟩:=mem_ready.1 hj
   have hno:=ready_waits hr hj hoj
   have hnf : fin.contains j = false:=by
    cases hf : fin.contains j with
    | false => rfl
    | true =>
     exfalso
     rcases hfin j hf with h0 | h0
     ·rcases Nat.lt_or_ge j listed.size with h' | h'
      ·simp [h'] at hjun h0
       rw [hjun] at h0; cases h0
      ·simp [Array.getElem?_eq_none h'] at h0
     ·have:=finWaits_not hcl h0 hr hj
      simp at this
   match n,H with
   | 0,H => rw [H.1] at hj2; cases hj2
   | n + 1,H =>
    have h1:=H.2 j hj2
    have h2:=wpOp_putIf hoj (hap j oj hoj hji hjun hno) (fun cs b => Region.noSelect_spec hs i oi cs b hi) (fun cs b => Region.noSelect_spec hs j oj cs b hoj) (fun c a w => hQ c oi.dst v a w) hy h1
    refine wpOp_mono (fun a' w' h3 => ?_) h2
    obtain ⟨hy',hS',H'⟩:=h3
    refine ⟨fun _ => hS' hnf,wpAnyF_firstL hi hs hQ n (listed.setIfInBounds j true) a' w' (hcl.set hj) (fun k hk => (hfin k hk).imp (fun h => getD_set_true h) id) (fun k ok hk hki hun hnk => ?_) (ready_mono hr (Ne.symm hji)) hy' (hS' hnf) ?_⟩
    ·refine hap k ok hk hki ?_ hnk
     by_cases hjk : j = k
     ·subst hjk; exact hjun
     ·rwa [getD_set_ne true hjk] at hun
    ·rw [Array.setIfInBounds_comm _ _ hji]
     exact H'
def preOkF (ops : Array Oper) (fin : List Nat) (k : Array Bool → Bool) : List Nat → Array Bool → Bool
 | [],listed => k listed
 | q :: r,listed => Region.free .any ops listed q && (Region.ready .any ops listed).contains q && lateW ops fin listed q && preOkF ops fin k r (listed.setIfInBounds q true)
def wpForkF (P : Program) (ops : Array Oper) (Q : Exit → Act → World → Prop) (S : World → Prop) (fs fin fq : List Nat) : Nat → Array Bool → Act → World → Prop
 | 0,_,_,_ => False
 | n + 1,listed,a,w => (mixOk ops fq fin listed = true ∧ fin.all (fs.contains ·) = true ∧ fin.length ≤ n + 1 ∧ wpMix P ops Q AnyW fq fin a w) ∨
  (∃ i,(fs.contains i && Region.free .any ops listed i && (Region.ready .any ops listed).contains i) = true ∧ wpMix P ops (Exit.then (wpForkF P ops Q S fs fin fq n (listed.setIfInBounds i true)) Q) AnyW [] [i] a w) ∨
  (∃ i,preOkF ops fs (fun _ => true) [i] listed = true ∧ wpMix P ops (Exit.then (wpForkF P ops Q S fs fin fq n (listed.setIfInBounds i true)) Q) S [] [i] a w) ∨
  (Region.ready .any ops listed ≠ [] ∧ ∀ i ∈ Region.ready .any ops listed,wpOp P ops Q i (fun a' w' => S w' ∧ wpForkF P ops Q S fs fin fq n (listed.setIfInBounds i true) a' w') a w)
theorem wpForkF_any (hs : Region.noSelect ops = true) (hQ : PanicOk Q) : ∀ (n : Nat) (listed : Array Bool) (a : Act) (w : World),Closed .any ops listed → wpForkF P ops Q S fs fin fq n listed a w → S w → wpAnyF P .any ops Q S fs n listed a w
 | 0,_,_,_,_,h,_ => h.elim
 | n + 1,listed,a,w,hcl,h,hS => by
  rcases h with ⟨h1,h0,h2,h3⟩ | ⟨i,h1,h2⟩ | ⟨i,h1,h2⟩ | ⟨h1,h2⟩
  ·exact wpMix_finQ hs hQ (fun k hk => by simpa using hk) fin (n + 1) listed a w (fun k hk => by simpa using List.all_eq_true.1 h0 k hk) h1 h2 h3
  ·obtain ⟨o,ho,h⟩:=h2
   simp only [Bool.and_eq_true] at h1
   rw [if_neg (by simp)] at h
   obtain ⟨v,hy,h⟩:=h
   exact wpAnyF_firstA ho hs hQ h1.1.1 n listed a w (Region.free_spec ho h1.1.2) (by simpa using h1.2) hy (wpForkF_any hs hQ n _ _ w (hcl.set (by simpa using h1.2)) h hS)
  ·obtain ⟨o,ho,h⟩:=h2
   simp only [preOkF,Bool.and_eq_true] at h1
   rw [if_neg (by simp)] at h
   obtain ⟨v,hy,h⟩:=h
   exact wpAnyF_firstL ho hs hQ n listed a w hcl (fun j hj => by have:=List.all_eq_true.1 h1.1.2 j (by simpa using hj); simpa using this) (Region.free_spec ho h1.1.1.1) (by simpa using h1.1.1.2) hy hS (wpForkF_any hs hQ n _ _ w (hcl.set (by simpa using h1.1.1.2)) h hS)
  ·exact ⟨fun h0 => absurd h0 h1,fun i hi => wpOp_mono (fun a' w' ⟨h3,h4⟩ => ⟨fun _ => h3,wpForkF_any hs hQ n _ a' w' (hcl.set hi) h4 h3⟩) (h2 i hi)⟩
end
section
variable {C : Cx} {e e' : Env} {I : PH} {R R' R0 : List Res} {K K' : Act → World → Prop} {Q : Exit → Act → World → Prop} {W : World}
variable {ops : Array Oper} {S : World → Prop} {fs fin fq : List Nat} {c : Code} {n i j k : Nat} {o oi oj ok : Oper} {listed : Array Bool}
theorem Nx.p_forkF {id : Nat} (hid : cid c = id) (fs fin fq : List Nat) (R0 : List Res) {sz : Nat} (hsz : (cops c).size = sz) (hk : ck c = 2) (hm : C.P.follows .mixedOrders = true) (hs : Region.noSelect (cops c) = true) (hQ : PanicOk Q) (hR : Ent R R0)
  (h : Nx C e I R (wpForkF C.P (cops c) Q (St C.W I R0) fs fin fq sz (Array.replicate sz false))) : Nx C e I R (c.wp C.P Q):=by
 have hc : c = .region (cid c) (cops c) true:=by
  cases c <;> first | (simp [ck] at hk; done) | skip
  rename_i b
  cases b with
  | false => simp [ck] at hk
  | true => rfl
 clear hid
 subst hsz
 rw [hc]
 intro a w ha hw
 exact wp_region_any hm (wpAny_of_fin _ _ _ _ (wpForkF_any (S:=St C.W I R0) hs hQ _ _ a _ (Closed.start _) (h a _ ha hw.drew) (hw.drew.ent hR)))
theorem Nx.forkF_fin (hok : mixOk ops fq fin listed = true) (h0 : fin.all (fs.contains ·) = true) (hl : Nat.ble fin.length (n + 1) = true) (h : Nx C e I R (wpMix C.P ops Q AnyW fq fin)) : Nx C e I R (wpForkF C.P ops Q S fs fin fq (n + 1) listed) :=
 fun a w ha hw => .inl ⟨hok,h0,Nat.le_of_ble_eq_true hl,h a w ha hw⟩
theorem Nx.forkF_m (i : Nat) (hok : (fs.contains i && Region.free .any ops listed i && (Region.ready .any ops listed).contains i) = true) (h : Nx C e I R (wpMix C.P ops (Exit.then (wpForkF C.P ops Q S fs fin fq n (listed.setIfInBounds i true)) Q) AnyW [] [i])) : Nx C e I R (wpForkF C.P ops Q S fs fin fq (n + 1) listed) :=
 fun a w ha hw => .inr (.inl ⟨i,hok,h a w ha hw⟩)
theorem forkF_pre {P : Program} : ∀ (qs : List Nat) (listed : Array Bool) (a : Act) (w : World),preOkF ops fs (fun _ => true) qs listed = true → wpMix P ops (Exit.then (wpForkF P ops Q S fs fin fq n (qs.foldl (fun l i => l.setIfInBounds i true) listed)) Q) S [] qs a w → wpForkF P ops Q S fs fin fq (n + qs.length) listed a w
 | [],_,_,_,_,h => h
 | q :: r,listed,a,w,hok,h => by
  obtain ⟨o,ho,h⟩:=h
  simp only [preOkF,Bool.and_eq_true] at hok
  rw [if_neg (by simp)] at h
  obtain ⟨v,hy,h⟩:=h
  have ih:=forkF_pre r (listed.setIfInBounds q true) _ w hok.2 h
  refine .inr (.inr (.inl ⟨q,by simp only [preOkF,Bool.and_eq_true]; exact ⟨hok.1,trivial⟩,o,ho,?_⟩))
  rw [if_neg (by simp)]
  exact ⟨v,hy,ih⟩
theorem Nx.forkF_qs (qs : List Nat) (n : Nat) {m : Nat} (hm : m = n + qs.length) (hok : preOkF ops fs (fun _ => true) qs listed = true) (h : Nx C e I R (wpMix C.P ops (Exit.then (wpForkF C.P ops Q S fs fin fq n (qs.foldl (fun l i => l.setIfInBounds i true) listed)) Q) S [] qs)) : Nx C e I R (wpForkF C.P ops Q S fs fin fq m listed) :=
 fun a w ha hw => hm ▸ forkF_pre qs listed a w hok (h a w ha hw)
theorem Nx.forkF1 (hr : Region.ready .any ops listed = [i]) (ho : opAt ops.toList i = some oi) (hg : oi.guard = none)
  (h : Nx C e I R (opK C.P oi (fun a w => S w ∧ wpForkF C.P ops Q S fs fin fq n (listed.setIfInBounds i true) a w) Q)) : Nx C e I R (wpForkF C.P ops Q S fs fin fq (n + 1) listed):=fun a w ha hw =>
 .inr (.inr (.inr ⟨by rw [hr]; simp,fun k hk => by
  rw [hr,List.mem_singleton] at hk
  subst hk
  exact wpOp_of ho hg h a w ha hw⟩))
theorem Nx.forkF2 (hr : Region.ready .any ops listed = [i,j]) (hoi : opAt ops.toList i = some oi) (hgi : oi.guard = none) (hoj : opAt ops.toList j = some oj) (hgj : oj.guard = none)
  (hi : Nx C e I R (opK C.P oi (fun a w => S w ∧ wpForkF C.P ops Q S fs fin fq n (listed.setIfInBounds i true) a w) Q))
  (hj : Nx C e I R (opK C.P oj (fun a w => S w ∧ wpForkF C.P ops Q S fs fin fq n (listed.setIfInBounds j true) a w) Q)) : Nx C e I R (wpForkF C.P ops Q S fs fin fq (n + 1) listed):=fun a w ha hw =>
 .inr (.inr (.inr ⟨by rw [hr]; simp,fun k hk => by
  rw [hr,List.mem_cons,List.mem_singleton] at hk
  rcases hk with rfl | rfl
  ·exact wpOp_of hoi hgi hi a w ha hw
  ·exact wpOp_of hoj hgj hj a w ha hw⟩))
theorem Nx.forkF3 (hr : Region.ready .any ops listed = [i,j,k]) (hoi : opAt ops.toList i = some oi) (hgi : oi.guard = none) (hoj : opAt ops.toList j = some oj) (hgj : oj.guard = none) (hok : opAt ops.toList k = some ok) (hgk : ok.guard = none)
  (hi : Nx C e I R (opK C.P oi (fun a w => S w ∧ wpForkF C.P ops Q S fs fin fq n (listed.setIfInBounds i true) a w) Q))
  (hj : Nx C e I R (opK C.P oj (fun a w => S w ∧ wpForkF C.P ops Q S fs fin fq n (listed.setIfInBounds j true) a w) Q))
  (hk : Nx C e I R (opK C.P ok (fun a w => S w ∧ wpForkF C.P ops Q S fs fin fq n (listed.setIfInBounds k true) a w) Q)) : Nx C e I R (wpForkF C.P ops Q S fs fin fq (n + 1) listed):=fun a w ha hw =>
 .inr (.inr (.inr ⟨by rw [hr]; simp,fun m hm => by
  rw [hr,List.mem_cons,List.mem_cons,List.mem_singleton] at hm
  rcases hm with rfl | rfl | rfl
  ·exact wpOp_of hoi hgi hi a w ha hw
  ·exact wpOp_of hoj hgj hj a w ha hw
  ·exact wpOp_of hok hgk hk a w ha hw⟩))
end
end Go.Eng
namespace Go.Proofs.YtpcnapidlhpbkaaGreatDoor
open Go.Eng Go.Sol
attribute [local irreducible] opK wpList Code.wp Exit.then Exit.inBlock fnPost bodyPost Nx Calls Oper.wp Rd Rds Wr Ent Stars Blk Again Vec FnSpec wpMix QRun Stop Upto wpAt
attribute [local irreducible] wpForkF
theorem start_r1 (w : World) (K : Act → World → Prop) (Q : Exit → Act → World → Prop) (hQ : PanicOk Q) (F : Res) (A : Option Addr) (c : Nat) (l : List EqR) (n : Nat) (I : PH) (hl : Eqs I A c l) (hg : ∀ q ∈ l,GoodE n q) (hn : n ≤ 4096) (h9 : (allC l).length ≤ 1000000)
  (h : ∀ At ct bi bt b,Nx ⟨Tryz.prog,75,w⟩ [(0,.int .i64 (n : Int)),(1,.slice A l.length c),(5,.pointer (some ⟨b,0,none⟩))] I [Blk b PT [.slice At (touch n (eqns l)).length ct,.slice (some ⟨bi,0,none⟩) n n,.slice none 0 0,.slice none 0 0,.slice (some ⟨bt,0,none⟩) n n],iR At ct ((touch n (eqns l)).map Int.ofNat),Vec 31 1 (some ⟨bi,0,none⟩) n n (List.replicate n (.slice none 0 0)),Vec 3 1 (some ⟨bt,0,none⟩) n n ((List.replicate n (0 : Int)).map (Value.int .i64)),F] K) :
  Nx ⟨Tryz.prog,75,w⟩ [(0,.int .i64 (n : Int)),(1,.slice A l.length c)] I [F] (Code.wp Tryz.prog (cl (cr (bodyOf Tryz.f132))) (Exit.then K Q)):=by
 have hlen:=hl.len
 have hT:=Touched_spec A c l n I hl hg h9
 refine Nx.p_forkF (id:=1) rfl [7,8,9] [7,8,9] [8] [] rfl rfl (by kernel_rfl) (by kernel_rfl) (PanicOk.then_ hQ) (Ent.nil _) ?_
 refine Nx.forkF_qs [0,1,3,5] 6 rfl (by kernel_rfl) ?_
 repeat' first | refine kS ?_ | refine kB fun bx => ?_ | refine kA fun A2 c2 => ?_ | refine kX (fun hc => ?_) fun hc => ?_ | fail
 refine Nx.forkF3 (i:=2) (j:=4) (k:=6) (by kernel_rfl) rfl rfl rfl rfl rfl rfl ?_ ?_ ?_
 ·refine kC hT ?_
  rintro _ _ ⟨At,ct,rfl,rfl⟩
  refine Nx.mix_S (Ent.nil _) ?_
  refine Nx.forkF2 (i:=4) (j:=6) (by kernel_rfl) rfl rfl rfl rfl ?_ ?_
  ·refine Nx.makeSlice (by_:=24) rfl rfl rfl rfl rfl rfl rfl rfl rfl (by omega) (by unfold maxLen; omega) (fun bi => ?_)
   refine Nx.mix_S (Ent.nil _) ?_
   refine Nx.forkF1 (i:=6) (by kernel_rfl) rfl rfl ?_
   refine Nx.makeInts rfl rfl rfl rfl rfl rfl rfl rfl (by omega) (fun bt => ?_)
   refine Nx.mix_S (Ent.nil _) ?_
   refine Nx.forkF_fin (by kernel_rfl) (by kernel_rfl) rfl ?_
   repeat' first | refine kS ?_ | refine kB fun bx => ?_ | refine kA fun A2 c2 => ?_ | refine kX (fun hc => ?_) fun hc => ?_ | fail
   exact Nx.weak (by exact zR) (by unfold iR; (exact zE)) (h At ct bi bt _)
  ·refine Nx.makeInts rfl rfl rfl rfl rfl rfl rfl rfl (by omega) (fun bt => ?_)
   refine Nx.mix_S (Ent.nil _) ?_
   refine Nx.forkF1 (i:=4) (by kernel_rfl) rfl rfl ?_
   refine Nx.makeSlice (by_:=24) rfl rfl rfl rfl rfl rfl rfl rfl rfl (by omega) (by unfold maxLen; omega) (fun bi => ?_)
   refine Nx.mix_S (Ent.nil _) ?_
   refine Nx.forkF_fin (by kernel_rfl) (by kernel_rfl) rfl ?_
   repeat' first | refine kS ?_ | refine kB fun bx => ?_ | refine kA fun A2 c2 => ?_ | refine kX (fun hc => ?_) fun hc => ?_ | fail
   exact Nx.weak (by exact zR) (by unfold iR; (exact zE)) (h At ct bi bt _)
 ·refine Nx.makeSlice (by_:=24) rfl rfl rfl rfl rfl rfl rfl rfl rfl (by omega) (by unfold maxLen; omega) (fun bi => ?_)
  refine Nx.mix_S (Ent.nil _) ?_
  refine Nx.forkF2 (i:=2) (j:=6) (by kernel_rfl) rfl rfl rfl rfl ?_ ?_
  ·refine kC hT ?_
   rintro _ _ ⟨At,ct,rfl,rfl⟩
   refine Nx.mix_S (Ent.nil _) ?_
   refine Nx.forkF1 (i:=6) (by kernel_rfl) rfl rfl ?_
   refine Nx.makeInts rfl rfl rfl rfl rfl rfl rfl rfl (by omega) (fun bt => ?_)
   refine Nx.mix_S (Ent.nil _) ?_
   refine Nx.forkF_fin (by kernel_rfl) (by kernel_rfl) rfl ?_
   repeat' first | refine kS ?_ | refine kB fun bx => ?_ | refine kA fun A2 c2 => ?_ | refine kX (fun hc => ?_) fun hc => ?_ | fail
   exact Nx.weak (by exact zR) (by unfold iR; (exact zE)) (h At ct bi bt _)
  ·refine Nx.makeInts rfl rfl rfl rfl rfl rfl rfl rfl (by omega) (fun bt => ?_)
   refine Nx.mix_S (Ent.nil _) ?_
   refine Nx.forkF1 (i:=2) (by kernel_rfl) rfl rfl ?_
   refine kC hT ?_
   rintro _ _ ⟨At,ct,rfl,rfl⟩
   refine Nx.mix_S (Ent.nil _) ?_
   refine Nx.forkF_fin (by kernel_rfl) (by kernel_rfl) rfl ?_
   repeat' first | refine kS ?_ | refine kB fun bx => ?_ | refine kA fun A2 c2 => ?_ | refine kX (fun hc => ?_) fun hc => ?_ | fail
   exact Nx.weak (by exact zR) (by unfold iR; (exact zE)) (h At ct bi bt _)
 ·refine Nx.makeInts rfl rfl rfl rfl rfl rfl rfl rfl (by omega) (fun bt => ?_)
  refine Nx.mix_S (Ent.nil _) ?_
  refine Nx.forkF2 (i:=2) (j:=4) (by kernel_rfl) rfl rfl rfl rfl ?_ ?_
  ·refine kC hT ?_
   rintro _ _ ⟨At,ct,rfl,rfl⟩
   refine Nx.mix_S (Ent.nil _) ?_
   refine Nx.forkF1 (i:=4) (by kernel_rfl) rfl rfl ?_
   refine Nx.makeSlice (by_:=24) rfl rfl rfl rfl rfl rfl rfl rfl rfl (by omega) (by unfold maxLen; omega) (fun bi => ?_)
   refine Nx.mix_S (Ent.nil _) ?_
   refine Nx.forkF_fin (by kernel_rfl) (by kernel_rfl) rfl ?_
   repeat' first | refine kS ?_ | refine kB fun bx => ?_ | refine kA fun A2 c2 => ?_ | refine kX (fun hc => ?_) fun hc => ?_ | fail
   exact Nx.weak (by exact zR) (by unfold iR; (exact zE)) (h At ct bi bt _)
  ·refine Nx.makeSlice (by_:=24) rfl rfl rfl rfl rfl rfl rfl rfl rfl (by omega) (by unfold maxLen; omega) (fun bi => ?_)
   refine Nx.mix_S (Ent.nil _) ?_
   refine Nx.forkF1 (i:=2) (by kernel_rfl) rfl rfl ?_
   refine kC hT ?_
   rintro _ _ ⟨At,ct,rfl,rfl⟩
   refine Nx.mix_S (Ent.nil _) ?_
   refine Nx.forkF_fin (by kernel_rfl) (by kernel_rfl) rfl ?_
   repeat' first | refine kS ?_ | refine kB fun bx => ?_ | refine kA fun A2 c2 => ?_ | refine kX (fun hc => ?_) fun hc => ?_ | fail
   exact Nx.weak (by exact zR) (by unfold iR; (exact zE)) (h At ct bi bt _)
theorem start_r5 (w : World) (K : Act → World → Prop) (Q : Exit → Act → World → Prop) (hQ : PanicOk Q) (RR : List Res) (v0 v1 v19 tv iv av : Value) (b b7 m j k : Nat) (Ar Ao Ax : Option Addr) (crr coo cx : Nat) (re op ix : List Int) (z : Int) (I : PH) (hr9 : re.length ≤ 1000000) (ho9 : op.length ≤ 1000000)
  (h : ∀ A2 c2 A3 c3,Nx ⟨Tryz.prog,75,w⟩ [(0,v0),(1,v1),(5,.pointer (some ⟨b,0,none⟩)),(6,.int .i64 (j : Int)),(7,.pointer (some ⟨b7,0,none⟩)),(19,v19),(20,.int .i64 (m : Int)),(21,.int .i64 (k : Int))] I
   (Blk b PT [tv,iv,.slice A2 (re ++ [z]).length c2,.slice A3 (op ++ [(ix.length : Int)]).length c3,av] :: Blk b7 46 [.slice Ax ix.length cx,.int .i64 z] :: iR A2 c2 (re ++ [z]) :: iR A3 c3 (op ++ [(ix.length : Int)]) :: RR) K) :
  Nx ⟨Tryz.prog,75,w⟩ [(0,v0),(1,v1),(5,.pointer (some ⟨b,0,none⟩)),(6,.int .i64 (j : Int)),(7,.pointer (some ⟨b7,0,none⟩)),(19,v19),(20,.int .i64 (m : Int)),(21,.int .i64 (k : Int))] I
   (Blk b PT [tv,iv,.slice Ar re.length crr,.slice Ao op.length coo,av] :: Blk b7 46 [.slice Ax ix.length cx,.int .i64 z] :: iR Ar crr re :: iR Ao coo op :: RR) (Code.wp Tryz.prog (cl (cr (cl (cl (cr (cr (cl (cl (cr (cl (cr (cr (bodyOf Tryz.f132)))))))))))) ) (Exit.then K Q)):=by
 refine Nx.p_forkF (id:=5) rfl [1,19,20,21,22,23,24] [19,20,21,22,23,24] [21,24] [Blk b PT [tv,iv,.slice Ar re.length crr,.slice Ao op.length coo,av],Blk b7 46 [.slice Ax ix.length cx,.int .i64 z]] rfl rfl (by kernel_rfl) (by kernel_rfl) (PanicOk.then_ hQ) (by exact zE) ?_
 refine Nx.forkF_m 1 (by kernel_rfl) ?_
 repeat' first | refine kS ?_ | refine kB fun bx => ?_ | refine kA fun A2 c2 => ?_ | refine kX (fun hc => ?_) fun hc => ?_ | fail
 refine Nx.forkF_qs [0,2,3,4,5,6,7,10,11,12,13,14,15,16] 10 rfl (by kernel_rfl) ?_
 repeat' first | refine kS ?_ | refine kB fun bx => ?_ | refine kA fun A2 c2 => ?_ | refine kX (fun hc => ?_) fun hc => ?_ | fail
 refine Nx.forkF2 (i:=8) (j:=17) (by kernel_rfl) rfl rfl rfl rfl ?_ ?_
 ·refine Nx.sb (fun b8 => ?_)
  refine Nx.mix_S (by exact zE) ?_
  refine Nx.forkF2 (i:=9) (j:=17) (by kernel_rfl) rfl rfl rfl rfl ?_ ?_
  ·refine Nx.sa (fun A2 c2 => ?_)
   refine Nx.mix_S (by exact zE) ?_
   refine Nx.forkF1 (i:=17) (by kernel_rfl) rfl rfl ?_
   refine Nx.sb (fun b17 => ?_)
   refine Nx.mix_S (by exact zE) ?_
   refine Nx.forkF1 (i:=18) (by kernel_rfl) rfl rfl ?_
   refine Nx.sa (fun A3 c3 => ?_)
   refine Nx.mix_S (by exact zE) ?_
   refine Nx.forkF_fin (by kernel_rfl) (by kernel_rfl) rfl ?_
   repeat' first | refine kS ?_ | refine kB fun bx => ?_ | refine kA fun A2 c2 => ?_ | refine kX (fun hc => ?_) fun hc => ?_ | fail
   exact Nx.weak (by exact zR) (by unfold iR; rw [lAp,lAp,mAp,mAp]; (exact zE)) (h A2 c2 A3 c3)
  ·refine Nx.sb (fun b17 => ?_)
   refine Nx.mix_S (by exact zE) ?_
   refine Nx.forkF1 (i:=9) (by kernel_rfl) rfl rfl ?_
   refine Nx.ent (Ent.swap _ _ _) ?_
   refine Nx.sa (fun A2 c2 => ?_)
   refine Nx.mix_S (by exact zE) ?_
   refine Nx.forkF1 (i:=18) (by kernel_rfl) rfl rfl ?_
   refine Nx.ent (Ent.swap _ _ _) ?_
   refine Nx.sa (fun A3 c3 => ?_)
   refine Nx.mix_S (by exact zE) ?_
   refine Nx.forkF_fin (by kernel_rfl) (by kernel_rfl) rfl ?_
   repeat' first | refine kS ?_ | refine kB fun bx => ?_ | refine kA fun A2 c2 => ?_ | refine kX (fun hc => ?_) fun hc => ?_ | fail
   exact Nx.weak (by exact zR) (by unfold iR; rw [lAp,lAp,mAp,mAp]; (exact zE)) (h A2 c2 A3 c3)
 ·refine Nx.sb (fun b17 => ?_)
  refine Nx.mix_S (by exact zE) ?_
  refine Nx.forkF1 (i:=8) (by kernel_rfl) rfl rfl ?_
  refine Nx.sb (fun b8 => ?_)
  refine Nx.mix_S (by exact zE) ?_
  refine Nx.forkF1 (i:=9) (by kernel_rfl) rfl rfl ?_
  refine Nx.sa (fun A2 c2 => ?_)
  refine Nx.mix_S (by exact zE) ?_
  refine Nx.forkF1 (i:=18) (by kernel_rfl) rfl rfl ?_
  refine Nx.ent (Ent.swap _ _ _) ?_
  refine Nx.sa (fun A3 c3 => ?_)
  refine Nx.mix_S (by exact zE) ?_
  refine Nx.forkF_fin (by kernel_rfl) (by kernel_rfl) rfl ?_
  repeat' first | refine kS ?_ | refine kB fun bx => ?_ | refine kA fun A2 c2 => ?_ | refine kX (fun hc => ?_) fun hc => ?_ | fail
  exact Nx.weak (by exact zR) (by unfold iR; rw [lAp,lAp,mAp,mAp]; (exact zE)) (h A2 c2 A3 c3)
abbrev rwR (r : Row) : Res:=iR r.1 r.2.1 r.2.2
theorem nil_rwR (n : Nat) {R : List Res} : Ent R (Stars ((List.replicate n ((none,0,[]) : Row)).map rwR) :: R):=by
 induction n with
 | zero => exact Ent.stars_nil _
 | succ n ih =>
  rw [List.replicate_succ']
  rw [mAp]
  exact ih.trans ((Ent.vec_nil _ _ _).trans Ent.bundle)
theorem inL_snoc (L : List Eqn) (q : Eqn) (c : Nat) : inL (L ++ [q]) c = inL L c ++ if c ∈ q.1 then [(L.length : Int)] else []:=by
 unfold inL
 rw [lAp,List.length_singleton,List.range_succ,List.filter_append,mAp]
 congr 1
 ·congr 1
  refine List.filter_congr fun i hi => ?_
  have hi:=List.mem_range.1 hi
  rw [gEl,gEl,List.getElem?_append_left hi]
 ·have e : (L ++ [q]).getD L.length default = q:=by rw [gEl,List.getElem?_append_right (nLr _)]; simp
  by_cases h : c ∈ q.1
  ·rw [if_pos h,List.filter_cons_of_pos (by rw [e]; exact decide_eq_true h)]; rfl
  ·rw [if_neg h,List.filter_cons_of_neg (by rw [e]; simpa using h)]; rfl
theorem eqns_len (l : List EqR) : (eqns l).length = l.length:=lMp _
theorem eqns_snoc {l : List EqR} {k : Nat} (h : k < l.length) : eqns (l.take (k + 1)) = eqns (l.take k) ++ [eqn (l.getD k default)]:=by unfold eqns; rw [take_snocQ h,mAp]; rfl
theorem mem_eqn {n : Nat} {q : EqR} (hg : GoodE n q) {c : Nat} : c ∈ (eqn q).1 ↔ (c : Int) ∈ q.1.2.2:=by
 unfold eqn
 rw [List.mem_map]
 constructor
 ·rintro ⟨x,hx,rfl⟩
  have:=(hg.lt x hx).1
  rw [show ((x.toNat : Nat) : Int) = x by omega]; exact hx
 ·intro h
  exact ⟨_,h,nCt c⟩
theorem sumC_zero (n : Nat) : ∀ cs,sumC (List.replicate n 0) cs = 0
 | [] => rfl
 | c :: cs => by
  rw [sumC,sumC_zero n cs]
  rw [gEl,List.getElem?_replicate]
  split <;> rfl
def valsL (l : List EqR) : List Int:=l.map (·.2)
def sizesL (l : List EqR) : List Int:=l.map fun q => (q.1.2.2.length : Int)
theorem rest_start (n : Nat) (l : List EqR) : restL (eqns l) (List.replicate n 0) = valsL l:=by
 unfold restL eqns valsL
 rw [List.map_map]
 refine List.map_congr_left fun q _ => ?_
 show q.2 - sumC _ _ = q.2
 rw [sumC_zero]; omega
theorem open_start {n : Nat} {l : List EqR} (hg : ∀ q ∈ l,GoodE n q) : openL (eqns l) (touch n (eqns l)) = sizesL l:=by
 unfold openL sizesL
 rw [show eqns l = l.map eqn from rfl,List.map_map]
 refine List.map_congr_left fun q hq => ?_
 show ((openQ _ (eqn q) : Nat) : Int) = _
 unfold openQ
 rw [List.filter_eq_self.2 fun c hc => ?_]
 ·show (((q.1.2.2.map Int.toNat).length : Nat) : Int) = _
  rw [lMp]
 ·refine decide_eq_true (mem_touch.2 ⟨?_,eqn q,List.mem_map.2 ⟨q,hq,rfl⟩,hc⟩)
  have:=(hg q hq).lt _ ((mem_eqn (hg q hq)).1 hc)
  omega
def StartPost (n : Nat) (l : List EqR) (v : Value) (R' : List Res) : Prop :=
 ∃ (p : Pl) (Atd : Option Addr) (ctd : Nat) (Ai : Option Addr) (ci : Nat) (ins : List Row),v = .pointer (some ⟨p.b,0,none⟩) ∧ p.tv = .slice Atd (touch n (eqns l)).length ctd ∧ p.iv = .slice Ai n ci ∧ ins.length = n ∧ (∀ c,c < n → (ins.getD c default).2.2 = inL (eqns l) c) ∧
  R' = [p.blk n l.length,iR p.Ar p.cr (valsL l),iR p.Ao p.co (sizesL l),iR p.At p.ct (List.replicate n 0),Vec 31 1 Ai n ci (ins.map rowV),Stars (ins.map rwR),iR Atd ctd ((touch n (eqns l)).map Int.ofNat)]
theorem vals_snoc {l : List EqR} {k : Nat} (h : k < l.length) : valsL (l.take (k + 1)) = valsL (l.take k) ++ [(l.getD k default).2]:=by unfold valsL; rw [take_snocQ h,mAp]; rfl
theorem sizes_snoc {l : List EqR} {k : Nat} (h : k < l.length) : sizesL (l.take (k + 1)) = sizesL (l.take k) ++ [((l.getD k default).1.2.2.length : Int)]:=by unfold sizesL; rw [take_snocQ h,mAp]; rfl
theorem vals_len (l : List EqR) : (valsL l).length = l.length:=lMp _
theorem sizes_len (l : List EqR) : (sizesL l).length = l.length:=lMp _
theorem start_tail (w : World) (F : Res) (A : Option Addr) (c : Nat) (l : List EqR) (n : Nat) (I : PH) (hl : Eqs I A c l) (hg : ∀ q ∈ l,GoodE n q) (hll : l.length ≤ 100000) (At : Option Addr) (ct bi bt b : Nat) :
  Nx ⟨Tryz.prog,75,w⟩ [(0,.int .i64 (n : Int)),(1,.slice A l.length c),(5,.pointer (some ⟨b,0,none⟩))] I [Blk b PT [.slice At (touch n (eqns l)).length ct,.slice (some ⟨bi,0,none⟩) n n,.slice none 0 0,.slice none 0 0,.slice (some ⟨bt,0,none⟩) n n],iR At ct ((touch n (eqns l)).map Int.ofNat),Vec 31 1 (some ⟨bi,0,none⟩) n n (List.replicate n (.slice none 0 0)),Vec 3 1 (some ⟨bt,0,none⟩) n n ((List.replicate n (0 : Int)).map (Value.int .i64)),F]
   (Code.wp Tryz.prog (cr (cr (bodyOf Tryz.f132))) (fnPost Tryz.prog Tryz.f132 I F w (StartPost n l))):=by
 have hlen:=hl.len
 repeat' first | refine kS ?_ | refine kB fun bx => ?_ | refine kA fun A2 c2 => ?_ | refine kX (fun hc => ?_) fun hc => ?_ | fail
 refine Nx.p_loop (σ:=Nat × Option Addr × Nat × Option Addr × Nat × List Row) (fun s => [(0,.int .i64 (n : Int)),(1,.slice A l.length c),(5,.pointer (some ⟨b,0,none⟩)),(19,.slice A l.length c),(20,.int .i64 l.length),(21,.int .i64 (s.1 : Int))])
  (fun s => [Blk b PT [.slice At (touch n (eqns l)).length ct,.slice (some ⟨bi,0,none⟩) n n,.slice s.2.1 (valsL (l.take s.1)).length s.2.2.1,.slice s.2.2.2.1 (sizesL (l.take s.1)).length s.2.2.2.2.1,.slice (some ⟨bt,0,none⟩) n n],iR s.2.1 s.2.2.1 (valsL (l.take s.1)),iR s.2.2.2.1 s.2.2.2.2.1 (sizesL (l.take s.1)),Vec 31 1 (some ⟨bi,0,none⟩) n n (s.2.2.2.2.2.map rowV),Stars (s.2.2.2.2.2.map rwR),iR At ct ((touch n (eqns l)).map Int.ofNat),Vec 3 1 (some ⟨bt,0,none⟩) n n ((List.replicate n (0 : Int)).map (Value.int .i64)),F])
  (fun s => s.1 ≤ l.length ∧ s.2.2.2.2.2.length = n ∧ ∀ x,x < n → (s.2.2.2.2.2.getD x default).2.2 = inL (eqns (l.take s.1)) x) (fun s => l.length - s.1) (0,none,0,none,0,List.replicate n (none,0,[])) rfl ⟨nZl _,by simp,fun x hx => by rw [gEl,List.getElem?_replicate,if_pos hx]; rfl⟩ zR ?_ ?_
 ·have e0 : (List.replicate n ((none,0,[]) : Row)).map rowV = List.replicate n (.slice none 0 0):=by rw [List.map_replicate]; rfl
  dsimp only
  rw [e0]
  exact (nil_rwR n).trans ((Ent.vec_nil _ _ _).trans ((Ent.vec_nil _ _ _).trans (by exact zE)))
 rintro ⟨k,Ar,crr,Ao,coo,ins⟩ ⟨hk,hil,hins⟩
 dsimp only at hk hil hins ⊢
 by_cases hlt : k < l.length
 case neg =>
  obtain rfl : k = l.length:=by omega
  rw [tLn] at hins ⊢
  repeat' first | refine kS ?_ | refine kB fun bx => ?_ | refine kA fun A2 c2 => ?_ | refine kX (fun hc => ?_) fun hc => ?_ | fail
  refine Nx.ret_fn rfl [_,_,_,_,_,_,_] ⟨⟨b,_,_,Ar,crr,Ao,coo,some ⟨bt,0,none⟩,n⟩,At,ct,some ⟨bi,0,none⟩,n,ins,rfl,rfl,rfl,hil,hins,rfl⟩ ?_
  unfold Pl.blk iR
  rw [vals_len,sizes_len,List.length_replicate]
  (exact zE)
 have hin:=hl.inner _ (getD_memQ hlt)
 have hgk:=hg _ (getD_memQ hlt)
 have hvs:=vals_snoc hlt
 have hss:=sizes_snoc hlt
 have hes:=eqns_snoc hlt
 have hrds : ∀ (W : World) (R : List Res),Rds W I R ((ad A).add (k * 2)) (eqC (l.getD k default)):=fun W R => hl.outer.rds hlt
 generalize l.getD k default = q at *
 obtain ⟨⟨Ax,cx,ix⟩,z⟩:=q
 dsimp only at hin hvs hss
 replace hrds : ∀ (W : World) (R : List Res),Rds W I R ((ad A).add (k * 2)) [.slice Ax ix.length cx,.int .i64 z]:=hrds
 have hixl:=hin.len
 repeat' first | refine kW ?_ | (refine Nx.zo ?_; first | refine kP ?_ | refine Nx.indexAddr_nat rfl rfl rfl rfl rfl (by omega) (hl.outer.isSome (by omega) (by omega)) ?_ | refine Nx.loads rfl rfl rfl rfl (hrds _ _) rfl ?_) | refine kS ?_ | refine kB fun bx => ?_ | refine kA fun A2 c2 => ?_ | refine kX (fun hc => ?_) fun hc => ?_ | fail
 revert bx; intro b7
 have hvl : (valsL (l.take k)).length ≤ 1000000:=by rw [vals_len,lTk]; omega
 have hsl : (sizesL (l.take k)).length ≤ 1000000:=by rw [sizes_len,lTk]; omega
 refine Nx.weak (e':=[(0,.int .i64 (n : Int)),(1,.slice A l.length c),(5,.pointer (some ⟨b,0,none⟩)),(6,.int .i64 (k : Int)),(7,.pointer (some ⟨b7,0,none⟩)),(19,.slice A l.length c),(20,.int .i64 (l.length : Int)),(21,.int .i64 (k : Int))]) (by exact zR)
  (R':=Blk b PT [.slice At (touch n (eqns l)).length ct,.slice (some ⟨bi,0,none⟩) n n,.slice Ar (valsL (l.take k)).length crr,.slice Ao (sizesL (l.take k)).length coo,.slice (some ⟨bt,0,none⟩) n n] :: Blk b7 46 [.slice Ax ix.length cx,.int .i64 z] :: iR Ar crr (valsL (l.take k)) :: iR Ao coo (sizesL (l.take k)) :: [Vec 31 1 (some ⟨bi,0,none⟩) n n (ins.map rowV),Stars (ins.map rwR),iR At ct ((touch n (eqns l)).map Int.ofNat),Vec 3 1 (some ⟨bt,0,none⟩) n n ((List.replicate n (0 : Int)).map (Value.int .i64)),F]) (by exact zE)
  (start_r5 w _ _ PanicOk.auto [Vec 31 1 (some ⟨bi,0,none⟩) n n (ins.map rowV),Stars (ins.map rwR),iR At ct ((touch n (eqns l)).map Int.ofNat),Vec 3 1 (some ⟨bt,0,none⟩) n n ((List.replicate n (0 : Int)).map (Value.int .i64)),F] (.int .i64 (n : Int)) (.slice A l.length c) (.slice A l.length c) (.slice At (touch n (eqns l)).length ct) (.slice (some ⟨bi,0,none⟩) n n) (.slice (some ⟨bt,0,none⟩) n n) b b7 l.length k k Ar Ao Ax crr coo cx (valsL (l.take k)) (sizesL (l.take k)) ix z I hvl hsl fun A7 c7 A8 c8 => ?_)
 rw [← hvs,← hss]
 repeat' first | refine kS ?_ | refine kB fun bx => ?_ | refine kA fun A2 c2 => ?_ | refine kX (fun hc => ?_) fun hc => ?_ | fail
 refine Nx.p_loop (σ:=Nat × List Row) (fun s => [(0,.int .i64 (n : Int)),(1,.slice A l.length c),(5,.pointer (some ⟨b,0,none⟩)),(6,.int .i64 (k : Int)),(19,.slice A l.length c),(20,.int .i64 l.length),(21,.int .i64 (k : Int)),(50,.slice Ax ix.length cx),(51,.int .i64 ix.length),(52,.int .i64 (s.1 : Int))])
  (fun s => [Blk b PT [.slice At (touch n (eqns l)).length ct,.slice (some ⟨bi,0,none⟩) n n,.slice A7 (valsL (l.take (k + 1))).length c7,.slice A8 (sizesL (l.take (k + 1))).length c8,.slice (some ⟨bt,0,none⟩) n n],iR A7 c7 (valsL (l.take (k + 1))),iR A8 c8 (sizesL (l.take (k + 1))),Vec 31 1 (some ⟨bi,0,none⟩) n n (s.2.map rowV),Stars (s.2.map rwR),iR At ct ((touch n (eqns l)).map Int.ofNat),Vec 3 1 (some ⟨bt,0,none⟩) n n ((List.replicate n (0 : Int)).map (Value.int .i64)),F])
  (fun s => s.1 ≤ ix.length ∧ s.2.length = n ∧ ∀ x,x < n → (s.2.getD x default).2.2 = inL (eqns (l.take k)) x ++ if (x : Int) ∈ ix.take s.1 then [(k : Int)] else []) (fun s => ix.length - s.1) (0,ins) rfl ⟨nZl _,hil,fun x hx => by rw [hins x hx]; simp⟩ zR (by exact zE) ?_
 rintro ⟨j,o⟩ ⟨hj,hol,ho⟩
 dsimp only at hj hol ho ⊢
 by_cases hjl : j < ix.length
 case neg =>
  obtain rfl : j = ix.length:=by omega
  repeat' first | refine kS ?_ | refine kB fun bx => ?_ | refine kA fun A2 c2 => ?_ | refine kX (fun hc => ?_) fun hc => ?_ | fail
  refine Nx.again (k + 1,A7,c7,A8,c8,o) ⟨hlt,hol,fun x hx => ?_⟩ (by dsimp only; omega) zR (by exact zE)
  dsimp only
  rw [ho x hx,hes,inL_snoc,tLn,eqns_len,lTk,Nat.min_eq_left (by omega)]
  congr 1
  by_cases hm : (x : Int) ∈ ix
  ·rw [if_pos hm,if_pos ((mem_eqn hgk).2 hm)]
  ·rw [if_neg hm,if_neg fun h => hm ((mem_eqn hgk).1 h)]
 have hixj:=hgk.lt (ix.getD j default) (by rw [gEl,gEq hjl]; exact List.getElem_mem _)
 obtain ⟨y,hy⟩ : ∃ y : Nat,ix.getD j default = (y : Int):=⟨(ix.getD j default).toNat,by omega⟩
 have hyn : y < n:=by omega
 have hixr : ∀ (W : World) (R : List Res),Rd W I R ((ad Ax).add (j * 1)) (.int .i64 (y : Int)):=fun W R => by rw [← hy]; exact hin.rd hjl
 have hoy:=ho y hyn
 have hget : (o.map rwR)[y]? = some (rwR (o.getD y default)):=by
  rw [gMp,gEq (by omega),gEl,gEq (by omega)]; rfl
 have hrv : ∀ (W : World) (R : List Res),Rd W I (Vec 31 1 (some ⟨bi,0,none⟩) n n (o.map rowV) :: R) ((ad (some ⟨bi,0,none⟩)).add (y * 1)) (rowV (o.getD y default)):=fun W R => Rd.vecEl 0 (f:=rowV) (l:=o) (i:=y) rfl (by omega)
 have hyj : (y : Int) ∉ ix.take j:=fun hm => by
  obtain ⟨a,ha,he⟩:=List.mem_iff_getElem.1 hm
  rw [lTk] at ha
  rw [List.getElem_take] at he
  have hlt2:=(List.pairwise_iff_getElem.1 hgk.asc) a j (by dsimp only; omega) hjl (by omega)
  dsimp only at hlt2
  rw [gEl,gEq hjl] at hy
  have hy : ix[j] = (y : Int):=hy
  omega
 rw [if_neg hyj,List.append_nil] at hoy
 have hrow9:=inL_len (eqns (l.take k)) y
 rw [← hoy,eqns_len,lTk] at hrow9
 refine Nx.ent (R':=[Stars (o.map rwR),Vec 31 1 (some ⟨bi,0,none⟩) n n (o.map rowV),Blk b PT [.slice At (touch n (eqns l)).length ct,.slice (some ⟨bi,0,none⟩) n n,.slice A7 (valsL (l.take (k + 1))).length c7,.slice A8 (sizesL (l.take (k + 1))).length c8,.slice (some ⟨bt,0,none⟩) n n],iR A7 c7 (valsL (l.take (k + 1))),iR A8 c8 (sizesL (l.take (k + 1))),iR At ct ((touch n (eqns l)).map Int.ofNat),Vec 3 1 (some ⟨bt,0,none⟩) n n ((List.replicate n (0 : Int)).map (Value.int .i64)),F]) (by exact zE) ?_
 refine Nx.ent (Ent.takeOut y hget) ?_
 generalize hrow' : o.getD y default = rw' at hoy hget hrv hrow9
 obtain ⟨Ay,cy,row⟩:=rw'
 dsimp only at hoy hrow9
 replace hrv : ∀ (W : World) (R : List Res),Rd W I (Vec 31 1 (some ⟨bi,0,none⟩) n n (o.map rowV) :: R) ((ad (some ⟨bi,0,none⟩)).add (y * 1)) (.slice Ay row.length cy):=hrv
 refine Nx.ent (R':=[Vec 3 1 Ay row.length cy (row.map (Value.int .i64)),Vec 31 1 (some ⟨bi,0,none⟩) n n (o.map rowV),Stars ((o.map rwR).eraseIdx y),Blk b PT [.slice At (touch n (eqns l)).length ct,.slice (some ⟨bi,0,none⟩) n n,.slice A7 (valsL (l.take (k + 1))).length c7,.slice A8 (sizesL (l.take (k + 1))).length c8,.slice (some ⟨bt,0,none⟩) n n],iR A7 c7 (valsL (l.take (k + 1))),iR A8 c8 (sizesL (l.take (k + 1))),iR At ct ((touch n (eqns l)).map Int.ofNat),Vec 3 1 (some ⟨bt,0,none⟩) n n ((List.replicate n (0 : Int)).map (Value.int .i64)),F]) (by unfold rwR iR; (exact zE)) ?_
 repeat' first | ((with_reducible refine Nx.is_wp ?_); first | refine Nx.wo ?_ | refine Nx.p_drawF (id:=9) rfl [0,1,2,3,4,5,6,7,8,9,10,11,12,13,14,15] [13,14] [16] _ rfl rfl (by kernel_rfl) (by kernel_rfl) rfl PanicOk.auto (Ent.eraseK 0 _) ?_) | (refine Nx.zo ?_; first | refine kP ?_ | refine Nx.indexAddr_nat rfl rfl rfl rfl rfl (by omega) (hin.isSome (by omega)) ?_ | refine Nx.load rfl rfl rfl (hixr _ _) ?_ | refine Nx.store_of 1 rowV (z:=(A2,c2,row ++ [(k : Int)])) rfl (by unfold rowV; dsimp only; rw [lAp]; rfl) rfl rfl rfl rfl (by omega) ?_) | refine kS ?_ | refine kB fun bx => ?_ | refine kA fun A2 c2 => ?_ | ((with_reducible refine Nx.is_mix ?_); refine kQ rfl rfl rfl rfl (by first | exact .inl rfl | exact .inr ⟨_,_,_,rfl,rfl,rfl⟩) (by first | exact QRun.opr rfl | exact QRun.idx rfl rfl rfl rfl (by omega) rfl | exact QRun.load rfl rfl (hrv _ _)) ?_) | refine kX (fun hc => ?_) fun hc => ?_ | fail
 refine Nx.again (j + 1,o.set y (A2,c2,row ++ [(k : Int)])) ⟨hjl,by dsimp only; rw [List.length_set]; exact hol,fun x hx => ?_⟩ (by dsimp only; omega) zR ?_
 ·dsimp only
  rw [take_snocJ hjl,hy]
  by_cases hxy : x = y
  ·subst hxy
   rw [gEl,List.getElem?_set_self (by omega),if_pos (by simp),← hoy]
   rfl
  ·rw [gEl,List.getElem?_set_ne (Ne.symm hxy),← gEl,ho x hx]
   congr 1
   have e : ((x : Int) ∈ ix.take j ++ [(y : Int)]) ↔ (x : Int) ∈ ix.take j:=by
    rw [List.mem_append,List.mem_singleton]
    exact ⟨fun h => h.resolve_right (by omega),.inl⟩
   by_cases hm : (x : Int) ∈ ix.take j
   ·rw [if_pos hm,if_pos (e.2 hm)]
   ·rw [if_neg hm,if_neg fun h => hm (e.1 h)]
 ·dsimp only
  have hS : (o.set y (A2,c2,row ++ [(k : Int)])).map rwR = (o.map rwR).set y (rwR (A2,c2,row ++ [(k : Int)])):=List.map_set
  rw [hS]
  have hput:=Ent.putIn y (B:=o.map rwR) (R:=[Blk b PT [.slice At (touch n (eqns l)).length ct,.slice (some ⟨bi,0,none⟩) n n,.slice A7 (valsL (l.take (k + 1))).length c7,.slice A8 (sizesL (l.take (k + 1))).length c8,.slice (some ⟨bt,0,none⟩) n n],iR A7 c7 (valsL (l.take (k + 1))),iR A8 c8 (sizesL (l.take (k + 1))),Vec 31 1 (some ⟨bi,0,none⟩) n n ((o.set y (A2,c2,row ++ [(k : Int)])).map rowV),iR At ct ((touch n (eqns l)).map Int.ofNat),Vec 3 1 (some ⟨bt,0,none⟩) n n ((List.replicate n (0 : Int)).map (Value.int .i64)),F]) (r:=rwR (A2,c2,row ++ [(k : Int)])) (by rw [lMp]; omega)
  refine Ent.trans ?_ (hput.trans (by exact zE))
  unfold rwR iR
  dsimp only
  rw [lAp,mAp]
  (exact zE)
theorem start_spec (A : Option Addr) (c : Nat) (l : List EqR) (n : Nat) (I : PH) (hl : Eqs I A c l) (hg : ∀ q ∈ l,GoodE n q) (hn : n ≤ 4096) (hll : l.length ≤ 100000) (h9 : (allC l).length ≤ 1000000) :
  FnSpec Tryz.prog 132 [.int .i64 (n : Int),.slice A l.length c] I [] (StartPost n l):=by
 refine FnSpec.enterP Tryz.func132 rfl Tryz.ntmps132 rfl fun w F => ?_
 repeat' first | refine kS ?_ | refine kB fun bx => ?_ | refine kA fun A2 c2 => ?_ | refine kX (fun hc => ?_) fun hc => ?_ | fail
 exact Nx.weak (by exact ⟨rfl,rfl,trivial⟩) (by exact zE) (start_r1 w _ _ PanicOk.auto F A c l n I hl hg hn h9 fun At ct bi bt b => start_tail w F A c l n I hl hg hll At ct bi bt b)
end Go.Proofs.YtpcnapidlhpbkaaGreatDoor
