/- Contracts of functions of the given program, and lemmas. -/
import Derived.Shelf.SortM.Plain
import Derived.Shelf.SortM.SortNone
import Derived.Test.YtpcnapidlhpbkaaGreatDoorRows
import Derived.Test.YtpcnapidlhpbkaaGreatDoorChecked
import Derived.WalkKit
import Derived.ProofKit
import Derived.OpenShut
import Derived.LaidHandle
import Derived.LaidLaws
import Derived.Lib.LaidTab
import Derived.Stop.LaidErr
import Derived.Lib.ItoaMem
import Derived.Test.YtpcnapidlhpbkaaGreatDoorTm12
set_option maxHeartbeats 32000000
set_option maxRecDepth 10000
namespace Go.Proofs.YtpcnapidlhpbkaaGreatDoor
open Go.Eng
theorem bless : ∀ (x y : List UInt8),Op.bytesLess x y = decide (x < y)
 | [],[] => by simp [Op.bytesLess]
 | [],b :: y => by simp [Op.bytesLess]
 | a :: x,[] => by simp [Op.bytesLess]
 | a :: x,b :: y => by
  simp only [Op.bytesLess,bless x y,List.cons_lt_cons_iff]
  rw [Bool.eq_iff_iff]
  simp
theorem strLt_eq (a b : List UInt8) : strLt a b = decide (a < b):=bless a b
theorem before_iff (a b : Shift) : beforeB a b = true ↔ (a.2.1 < b.2.1 ∨ (a.2.1 = b.2.1 ∧ a.1 < b.1)):=by
 unfold beforeB
 rw [strLt_eq]
 simp
theorem before_trans {a b c : Shift} (h1 : beforeB a b = true) (h2 : beforeB b c = true) : beforeB a c = true:=by
 rw [before_iff] at *
 rcases h1 with h1 | ⟨h1,h3⟩ <;> rcases h2 with h2 | ⟨h2,h4⟩
 ·exact .inl (by omega)
 ·exact .inl (by omega)
 ·exact .inl (by omega)
 ·exact .inr ⟨by omega,List.lt_trans h3 h4⟩
structure Rota (l : List Shift) : Prop where
 few : l.length ≤ 60
 each : ∀ x ∈ l,singleE x = 0
 asc : l.Pairwise fun a b => beforeB a b = true
 apart : l.Pairwise fun a b => meetB a b = false
theorem sh_at {l : List Shift} {j : Nat} (h : j < l.length) : l.getD j default = l[j]:=by rw [gEl,gEq h]; rfl
theorem checkN_zero {l : List Shift} : ∀ {n : Nat},checkN l n = 0 ↔ ∀ k,k < n → checkAt l k = 0
 | 0 => ⟨fun _ k hk => absurd hk (Nat.not_lt_zero _),fun _ => rfl⟩
 | n + 1 => by
  unfold checkN
  constructor
  ·intro h k hk
   by_cases h0 : checkN l n = 0
   ·rw [if_neg (by omega)] at h
    by_cases hkn : k = n
    ·rw [hkn]; exact h
    ·exact (checkN_zero.1 h0) k (by omega)
   ·rw [if_pos h0] at h; exact absurd h h0
  ·intro h
   have h0 : checkN l n = 0:=checkN_zero.2 fun k hk => h k (by omega)
   rw [if_neg (by omega)]
   exact h n (by omega)
theorem checkAt_zero {l : List Shift} {k : Nat} : checkAt l k = 0 ↔ singleE (l.getD k default) = 0 ∧ (0 < k → beforeB (l.getD (k - 1) default) (l.getD k default) = true) ∧ meetsB (l.take k) (l.getD k default) = false:=by
 unfold checkAt
 by_cases h1 : singleE (l.getD k default) = 0
 ·rw [if_neg (by omega)]
  by_cases h2 : 0 < k ∧ beforeB (l.getD (k - 1) default) (l.getD k default) = false
  ·rw [if_pos h2]
   exact ⟨fun h => by omega,fun h => by have:=h.2.1 h2.1; rw [h2.2] at this; cases this⟩
  ·rw [if_neg h2]
   have h3 : 0 < k → beforeB (l.getD (k - 1) default) (l.getD k default) = true:=fun h => by
    cases hb : beforeB (l.getD (k - 1) default) (l.getD k default) with
    | true => rfl
    | false => exact absurd ⟨h,hb⟩ h2
   cases hm : meetsB (l.take k) (l.getD k default) with
   | true => simp
   | false => exact ⟨fun _ => ⟨h1,h3,rfl⟩,fun _ => by simp⟩
 ·rw [if_pos h1]
  exact ⟨fun h => absurd h h1,fun h => absurd h.1 h1⟩
theorem asc_of {l : List Shift} (h : ∀ k,0 < k → k < l.length → beforeB (l.getD (k - 1) default) (l.getD k default) = true) : l.Pairwise fun a b => beforeB a b = true:=by
 rw [List.pairwise_iff_getElem]
 have key : ∀ d i,(h1 : i + d + 1 < l.length) → beforeB (l.getD i default) (l.getD (i + d + 1) default) = true:=by
  intro d
  induction d with
  | zero => intro i h1; have:=h (i + 1) (by omega) h1; rw [Nat.add_sub_cancel] at this; exact this
  | succ d ih =>
   intro i h1
   have h2:=ih i (by omega)
   have h3:=h (i + d + 1 + 1) (by omega) (by omega)
   rw [Nat.add_sub_cancel] at h3
   exact before_trans h2 (by rw [show i + (d + 1) + 1 = i + d + 1 + 1 by omega]; exact h3)
 intro i j hi hj hij
 have:=key (j - i - 1) i (by omega)
 rw [show i + (j - i - 1) + 1 = j by omega,sh_at hi,sh_at hj] at this
 exact this
theorem rota_iff {l : List Shift} : checkE l = 0 ↔ Rota l:=by
 unfold checkE
 constructor
 ·intro h
  by_cases h60 : 60 < l.length
  ·rw [if_pos h60] at h; omega
  ·rw [if_neg h60] at h
   have hk:=checkN_zero.1 h
   refine ⟨by omega,fun x hx => ?_,asc_of fun k h0 hk' => (checkAt_zero.1 (hk k hk')).2.1 h0,?_⟩
   ·obtain ⟨k,hk',rfl⟩:=List.mem_iff_getElem.1 hx
    have:=(checkAt_zero.1 (hk k hk')).1
    rw [sh_at hk'] at this
    exact this
   ·rw [List.pairwise_iff_getElem]
    intro i j hi hj hij
    have:=(checkAt_zero.1 (hk j hj)).2.2
    unfold meetsB at this
    rw [List.any_eq_false] at this
    have:=this l[i] (by rw [List.mem_take_iff_getElem]; exact ⟨i,by omega,rfl⟩)
    rw [sh_at hj] at this
    simpa using this
 ·rintro ⟨h1,h2,h3,h4⟩
  rw [if_neg (by omega),checkN_zero]
  rw [List.pairwise_iff_getElem] at h3 h4
  intro k hk
  rw [checkAt_zero,sh_at hk]
  refine ⟨h2 _ (List.getElem_mem _),fun h0 => ?_,?_⟩
  ·rw [sh_at (by omega)]; exact h3 _ _ _ _ (by omega)
  ·unfold meetsB
   rw [List.any_eq_false]
   intro y hy
   rw [List.mem_take_iff_getElem] at hy
   obtain ⟨i,hi,rfl⟩:=hy
   rw [h4 i k (by omega) hk (by omega)]
   decide
def srtS_ren : Go.Shelf.Ren:=⟨fun | 6 => 205 | 8 => 185 | 9 => 243 | 19 => 233 | 20 => 234 | 21 => 267 | 22 => 268 | 23 => 269 | 24 => 270 | 25 => 271 | 26 => 272 | 27 => 273 | 28 => 274 | 29 => 275 | 36 => 285 | 31 => 253 | 32 => 254 | 37 => 286 | 38 => 287 | 39 => 265 | 41 => 290 | n => n,fun | 27 => 132 | 29 => 9 | 3 => 3 | 32 => 161 | 26 => 132 | 0 => 0 | 44 => 209 | 46 => 102 | 4 => 4 | 36 => 245 | 35 => 244 | 41 => 120 | 5 => 5 | 9 => 9 | 53 => 264 | 57 => 268 | 63 => 285 | 64 => 218 | n => n,fun | n => n⟩
theorem srtS : Go.Proofs.SlLaysM.n6 Tryz.prog srtS_ren where
 mixed := by kernel_rfl
 f6 := ⟨ "slices.Sort[[]string,string]", by decide, Tryz.func205.trans (congrArg some (by kernel_rfl))⟩
 f8 := Tryz.func185.trans (congrArg some (by kernel_rfl))
 f9 := ⟨ "slices.pdqsortOrdered[string]", by decide, Tryz.func243.trans (congrArg some (by kernel_rfl))⟩
 f19 := Tryz.func233.trans (congrArg some (by kernel_rfl))
 f20 := Tryz.func234.trans (congrArg some (by kernel_rfl))
 f21 := ⟨ "slices.insertionSortOrdered[string]", by decide, Tryz.func267.trans (congrArg some (by kernel_rfl))⟩
 f22 := ⟨ "slices.heapSortOrdered[string]", by decide, Tryz.func268.trans (congrArg some (by kernel_rfl))⟩
 f23 := ⟨ "slices.breakPatternsOrdered[string]", by decide, Tryz.func269.trans (congrArg some (by kernel_rfl))⟩
 f24 := ⟨ "slices.choosePivotOrdered[string]", by decide, Tryz.func270.trans (congrArg some (by kernel_rfl))⟩
 f25 := ⟨ "slices.reverseRangeOrdered[string]", by decide, Tryz.func271.trans (congrArg some (by kernel_rfl))⟩
 f26 := ⟨ "slices.partialInsertionSortOrdered[string]", by decide, Tryz.func272.trans (congrArg some (by kernel_rfl))⟩
 f27 := ⟨ "cmp.Less[string]", by decide, Tryz.func273.trans (congrArg some (by kernel_rfl))⟩
 f28 := ⟨ "slices.partitionEqualOrdered[string]", by decide, Tryz.func274.trans (congrArg some (by kernel_rfl))⟩
 f29 := ⟨ "slices.partitionOrdered[string]", by decide, Tryz.func275.trans (congrArg some (by kernel_rfl))⟩
 f31 := Tryz.func253.trans (congrArg some (by kernel_rfl))
 f32 := Tryz.func254.trans (congrArg some (by kernel_rfl))
 f36 := ⟨ "slices.siftDownOrdered[string]", by decide, Tryz.func285.trans (congrArg some (by kernel_rfl))⟩
 f37 := ⟨ "slices.medianAdjacentOrdered[string]", by decide, Tryz.func286.trans (congrArg some (by kernel_rfl))⟩
 f38 := ⟨ "slices.medianOrdered[string]", by decide, Tryz.func287.trans (congrArg some (by kernel_rfl))⟩
 f39 := ⟨ "cmp.isNaN[string]", by decide, Tryz.func265.trans (congrArg some (by kernel_rfl))⟩
 f41 := ⟨ "slices.order2Ordered[string]", by decide, Tryz.func290.trans (congrArg some (by kernel_rfl))⟩
 t0 := Tryz.underlying0
 a0 := Tryz.isAgg0
 z0 := Tryz.sizeOf0
 v0 := Tryz.zeroValue0
 t3 := Tryz.underlying3
 a3 := Tryz.isAgg3
 z3 := Tryz.sizeOf3
 v3 := Tryz.zeroValue3
 t4 := Tryz.underlying4
 a4 := Tryz.isAgg4
 z4 := Tryz.sizeOf4
 v4 := Tryz.zeroValue4
 t5 := Tryz.underlying5
 a5 := Tryz.isAgg5
 z5 := Tryz.sizeOf5
 v5 := Tryz.zeroValue5
 t9 := Tryz.underlying9
 a9 := Tryz.isAgg9
 z9 := Tryz.sizeOf9
 v9 := Tryz.zeroValue9
 t26 := Tryz.underlying132
 a26 := Tryz.isAgg132
 z26 := Tryz.sizeOf132
 v26 := Tryz.zeroValue132
 t27 := Tryz.underlying132
 a27 := Tryz.isAgg132
 z27 := Tryz.sizeOf132
 v27 := Tryz.zeroValue132
 t29 := Tryz.underlying9
 a29 := Tryz.isAgg9
 z29 := Tryz.sizeOf9
 v29 := Tryz.zeroValue9
 t32 := Tryz.underlying161
 a32 := Tryz.isAgg161
 z32 := Tryz.sizeOf161
 v32 := Tryz.zeroValue161
 t35 := Tryz.underlying244
 a35 := Tryz.isAgg244
 z35 := Tryz.sizeOf244
 v35 := Tryz.zeroValue244
 t36 := Tryz.underlying245
 a36 := Tryz.isAgg245
 z36 := Tryz.sizeOf245
 v36 := Tryz.zeroValue245
 t41 := Tryz.underlying120
 a41 := Tryz.isAgg120
 z41 := Tryz.sizeOf120
 v41 := Tryz.zeroValue120
 t44 := Tryz.underlying209
 a44 := Tryz.isAgg209
 z44 := Tryz.sizeOf209
 v44 := Tryz.zeroValue209
 t46 := Tryz.underlying102
 a46 := Tryz.isAgg102
 z46 := Tryz.sizeOf102
 v46 := Tryz.zeroValue102
 t53 := Tryz.underlying264
 a53 := Tryz.isAgg264
 z53 := Tryz.sizeOf264
 v53 := Tryz.zeroValue264
 t57 := Tryz.underlying268
 a57 := Tryz.isAgg268
 z57 := Tryz.sizeOf268
 v57 := Tryz.zeroValue268
 t63 := Tryz.underlying285
 a63 := Tryz.isAgg285
 z63 := Tryz.sizeOf285
 v63 := Tryz.zeroValue285
 t64 := Tryz.underlying218
 a64 := Tryz.isAgg218
 z64 := Tryz.sizeOf218
 v64 := Tryz.zeroValue218
def srtT (l : List (List UInt8)) : List (List UInt8):=l.mergeSort fun x y => decide (x ≤ y)
theorem srtT_len (l : List (List UInt8)) : (srtT l).length = l.length:=List.length_mergeSort _
theorem vecT_cases {I : PH} {R : List Res} {W w : World} {t : TypeId} {A : Option Addr} {c : Nat} {l : List (List UInt8)} (h : St W I (Vec t 1 A l.length c (l.map strV) :: R) w) : (A = none ∧ l = [] ∧ c = 0) ∨ ∃ b,A = some ⟨b,0,none⟩ ∧ l.length ≤ c:=by
 obtain ⟨⟨m,⟨m1,m2,hd,rfl,hv,h2⟩,hs⟩,hst⟩:=h
 rcases hv.2 with ⟨rfl,h1,rfl⟩ | ⟨b,cur,rfl,_,h1,_⟩
 ·exact .inl ⟨rfl,List.eq_nil_of_length_eq_zero h1,rfl⟩
 ·exact .inr ⟨b,rfl,h1⟩
abbrev textsR (A : Option Addr) (c : Nat) (l : List (List UInt8)) : Res:=Vec 9 1 A l.length c (l.map strV)
theorem SortT_spec (A : Option Addr) (c : Nat) (l : List (List UInt8)) (I : PH) (hl : l.length < 4611686018427387904) :
  FnSpec Tryz.prog 205 [.slice A l.length c] I [textsR A c l] (fun v R' => v = .tuple #[] ∧ R' = [textsR A c (srtT l)]):=by
 intro w F hw
 rcases vecT_cases hw with ⟨rfl,rfl,rfl⟩ | ⟨b,rfl,hle⟩
 ·refine (AnyM.slices_Sort_string_none srtS none 0 w).mono fun e w' => ?_
  rintro ⟨rfl,rfl⟩
  refine ⟨_,_,rfl,⟨rfl,rfl⟩,?_⟩
  have : srtT [] = []:=List.eq_nil_of_length_eq_zero (srtT_len [])
  rw [this]
  exact hw
 ·obtain ⟨h1,h2⟩:=Vec.holds hw
  refine (AnyM.slices_Sort_string srtS b 0 c l w h1 h2 hl).mono fun e w' => ?_
  rintro ⟨rfl,n,os,rfl⟩
  exact ⟨_,_,rfl,⟨rfl,rfl⟩,hw.putRow (srtT_len l) n os⟩
def onB (t : Int) (x : Shift) : Bool:=decide (x.2.1 ≤ t ∧ t < x.2.2)
def onP (l : List Shift) (t : Int) : List (List UInt8):=(l.filter (onB t)).map (·.1)
def onT (l : List Shift) (t : Int) : List (List UInt8):=srtT (onP l t)
theorem onP_len (l : List Shift) (t : Int) : (onP l t).length ≤ l.length:=by unfold onP; rw [lMp]; exact List.length_filter_le _ _
theorem onP_succ {l : List Shift} {t : Int} {k : Nat} (hk : k < l.length) : onP (l.take (k + 1)) t = if onB t (l.getD k default) = true then onP (l.take k) t ++ [(l.getD k default).1] else onP (l.take k) t:=by
 unfold onP
 rw [tSu hk,List.filter_append,sh_at hk]
 by_cases h : onB t l[k] = true
 ·rw [if_pos h]; simp [h]
 ·rw [if_neg h]; simp [h]
section
attribute [local irreducible] opK wpList Code.wp Exit.then Exit.inBlock fnPost bodyPost Nx Calls Oper.wp Rd Rds Wr Ent Stars Blk Again Vec FnSpec wpMix QRun Stop Upto wpAt
theorem on_spec (A : Option Addr) (c : Nat) (l : List Shift) (t : Int) (I : PH) (hl : Shifts I A c l) (h9 : l.length ≤ 1000) :
  FnSpec Tryz.prog 148 [.slice A l.length c,.int .i64 t] I [] (fun v R' => ∃ A' c',v = .slice A' (onT l t).length c' ∧ R' = [textsR A' c' (onT l t)]):=by
 have hlen:=hl.len
 refine FnSpec.enterP Tryz.func148 rfl Tryz.ntmps148 rfl fun w F => ?_
 repeat' first | refine kS ?_ | refine kB fun bx => ?_ | refine kA fun A2 c2 => ?_ | refine kX (fun hc => ?_) fun hc => ?_ | fail
 refine Nx.p_loop (σ:=Nat × Option Addr × Nat) (fun s => [(1,.int .i64 t),(5,.slice s.2.1 (onP (l.take s.1) t).length s.2.2),(8,.slice A l.length c),(9,.int .i64 l.length),(10,.int .i64 (s.1 : Int))])
  (fun s => [textsR s.2.1 s.2.2 (onP (l.take s.1) t),F]) (fun s => s.1 ≤ l.length) (fun s => l.length - s.1) (0,none,0) rfl (nZl _) zR ((Ent.vec_nil _ _ _).trans (by exact zE)) ?_
 rintro ⟨k,A1,c1⟩ hk
 dsimp only at hk ⊢
 have hpl:=onP_len (l.take k) t
 rw [lTk] at hpl
 by_cases hlt : k < l.length
 ·have hs:=onP_succ (t:=t) hlt
  by_cases hon : onB t (l.getD k default) = true
  ·rw [if_pos hon] at hs
   have hon':=of_decide_eq_true hon
   repeat' first | refine kW ?_ | (refine Nx.zo ?_; first | refine kP ?_ | refine Nx.indexAddr_nat rfl rfl rfl rfl rfl (by omega) (hl.isSome (by omega) (by omega)) ?_ | refine Nx.loads rfl rfl rfl rfl (hl.rds (by omega)) rfl ?_) | refine kS ?_ | refine kB fun bx => ?_ | refine kA fun A2 c2 => ?_ | refine kX (fun hc => ?_) fun hc => ?_ | fail
   refine Nx.again (k + 1,A2,c2) hlt (by dsimp only; omega) ⟨rfl,by dsimp only; rw [hs,lAp]; rfl,rfl,rfl,rfl,trivial⟩ ?_
   dsimp only
   rw [hs]
   refine Ent.pickE 0 rfl ?_ (by exact zE)
   unfold textsR
   rw [lAp,mAp]
   rfl
  ·rw [if_neg hon] at hs
   have hon':=of_decide_eq_false (show onB t (l.getD k default) = false by simpa using hon)
   repeat' first | refine kW ?_ | (refine Nx.zo ?_; first | refine kP ?_ | refine Nx.indexAddr_nat rfl rfl rfl rfl rfl (by omega) (hl.isSome (by omega) (by omega)) ?_ | refine Nx.loads rfl rfl rfl rfl (hl.rds (by omega)) rfl ?_) | refine kS ?_ | refine kB fun bx => ?_ | refine kA fun A2 c2 => ?_ | refine kX (fun hc => ?_) fun hc => ?_ | fail
   all_goals first
    | exact Nx.again (k + 1,A1,c1) hlt (by dsimp only; omega) ⟨rfl,by dsimp only; rw [hs]; rfl,rfl,rfl,rfl,trivial⟩ (by dsimp only; rw [hs]; (exact zE))
    | (exfalso; omega)
 ·obtain rfl : k = l.length:=by omega
  rw [tLn] at hpl ⊢
  repeat' first | refine kS ?_ | refine kB fun bx => ?_ | refine kA fun A2 c2 => ?_ | refine kX (fun hc => ?_) fun hc => ?_ | fail
  refine Nx.at_op rfl rfl ?_
  refine Nx.call rfl rfl rfl (by kernel_rfl) rfl (SortT_spec A1 c1 (onP l t) I (by omega)) (by exact zE) ?_
  rintro _ R' ⟨rfl,rfl⟩
  repeat' first | refine kS ?_ | refine kB fun bx => ?_ | refine kA fun A2 c2 => ?_ | refine kX (fun hc => ?_) fun hc => ?_ | fail
  exact Nx.ret_fn rfl [textsR A1 c1 (onT l t)] ⟨A1,c1,by rw [show (onT l t).length = (onP l t).length from srtT_len _],rfl⟩ (by unfold onT; (exact zE))
end
attribute [local irreducible] opK wpList Code.wp Exit.then Exit.inBlock fnPost bodyPost Nx Calls Oper.wp Rd Rds Wr Ent Stars Blk Again Vec FnSpec wpMix QRun Stop Upto wpAt
theorem On_spec2 (A : Option Addr) (c : Nat) (l : List Shift) (t : Int) (I : PH) (hl : Shifts I A c l) (ho : ∀ x ∈ l,shOk x) (hE : checkE l = 0) :
  FnSpec Tryz.prog 79 [.slice A l.length c,.int .i64 t] I [] (fun v R' => ∃ A' c',v = .slice A' (onT l t).length c' ∧ R' = [textsR A' c' (onT l t)]):=by
 have h60:=(rota_iff.1 hE).few
 have hCk:=rtCheck_spec A c l I hl ho
 rw [hE] at hCk
 refine FnSpec.enterP Tryz.func79 rfl Tryz.ntmps79 rfl fun w F => ?_
 repeat' first | refine kW ?_ | (refine Nx.zo ?_; first | refine kP ?_ | refine kV hCk ?_) | refine kS ?_ | refine kB fun bx => ?_ | refine kA fun A2 c2 => ?_ | refine kX (fun hc => ?_) fun hc => ?_ | fail
 refine Nx.at_op rfl rfl ?_
 refine Nx.call rfl rfl rfl (by kernel_rfl) rfl (on_spec A c l t I hl (by omega)) (by exact zE) ?_
 rintro _ R' ⟨A3,c3,rfl,rfl⟩
 repeat' first | refine kS ?_ | refine kB fun bx => ?_ | refine kA fun A2 c2 => ?_ | refine kX (fun hc => ?_) fun hc => ?_ | fail
 exact Nx.ret_fn rfl [_] ⟨A3,c3,rfl,rfl⟩ (by exact zE)
def full3 : List Shift:=[([97,110,110],0,1000),([98,111,98],0,1000),([99,121,100],10,500)]
theorem full3_ok : checkE full3 = 0:=by decide
theorem full3_sh : ∀ x ∈ full3,shOk x:=by
 intro x hx
 simp only [full3,List.mem_cons,List.not_mem_nil,or_false] at hx
 rcases hx with rfl | rfl | rfl <;> exact ⟨by decide,by unfold I64; decide,by unfold I64; decide⟩
theorem Full_spec (I : PH) : FnSpec Tryz.prog 80 [] I [] (fun v R' => ∃ A' c',v = .slice A' full3.length c' ∧ R' = [shiftsR A' c' full3]):=by
 refine FnSpec.enterP Tryz.func80 rfl Tryz.ntmps80 rfl fun w F => ?_
 repeat' first | refine kS ?_ | refine kB fun bx => ?_ | refine kA fun A2 c2 => ?_ | refine kX (fun hc => ?_) fun hc => ?_ | fail
 refine Nx.blk_vec 0 3 3 rfl rfl (by omega) ?_
 exact Nx.ret_fn rfl [shiftsR (some ⟨bx,0,none⟩) 3 full3] ⟨_,_,rfl,rfl⟩ (by exact zE)
open Go.Sol
def exTw (g : Nat) : List Row:=[(some ⟨g,0,none⟩,3,[0,1,2])]
def exTr (v g : Nat) (A : Option Addr) : Rel:=⟨0,some ⟨v,0,none⟩,1,exTw g,(A,3,[1,5,4])⟩
theorem exPu (g : Nat) : sums (pubOf [3] (exTw g)) [1,5,4] (prod (szs (exTw g))).toNat 3 = [1,5,4]:=by kernel_rfl
theorem exPr (g : Nat) : (prod (szs (exTw g))).toNat = 3:=by kernel_rfl
theorem exL0 (v g : Nat) (A : Option Addr) : pbF [3] [] (exTr v g A) 3 [0] 1 0 = false:=by kernel_rfl
theorem exL1 (v g : Nat) (A : Option Addr) : pbF [3] [] (exTr v g A) 3 [0] 1 1 = true:=by kernel_rfl
theorem exLE (v g : Nat) (A : Option Addr) : lstE [3] [] (exTr v g A) [1,1,1] [0] 1 = 0:=by kernel_rfl
theorem exLeast2 {v g : Nat} {A : Option Addr} {res : Option Nat} (h : IsLeast [1,1,1] (pbF [3] [] (exTr v g A) 3 [0] 1) res) : res = some 1:=by
 cases res with
 | none =>
  have:=h 1 (by decide)
  rw [exL1] at this; cases this
 | some s =>
  obtain ⟨h1,h2,h3⟩:=h
  have h3:=h3 1 (by decide) (exL1 _ _ _)
  have h1 : s < 8:=h1
  have h4 : s = 0 ∨ s = 1 ∨ s = 2 ∨ s = 3 ∨ s = 4 ∨ s = 5 ∨ s = 6 ∨ s = 7:=by omega
  rcases h4 with rfl | rfl | rfl | rfl | rfl | rfl | rfl | rfl
  ·rw [exL0] at h2; cases h2
  ·rfl
  ·exact absurd h3 (by decide)
  ·exact absurd h3 (by decide)
  ·exact absurd h3 (by decide)
  ·exact absurd h3 (by decide)
  ·exact absurd h3 (by decide)
  ·exact absurd h3 (by decide)
theorem exOn : (onT full3 0).length = 2:=by
 unfold onT
 rw [srtT_len]
 rfl
theorem exS33 : Sizes [3]:=⟨by decide,by decide,by decide⟩
theorem awakeT_spec (I : PH) : FnSpec Tryz.prog 26 [] I [] (fun v R' => v = .bool true ∧ R' = []):=by
 refine FnSpec.enterP Tryz.func26 rfl Tryz.ntmps26 rfl fun w F => ?_
 repeat' first | ((with_reducible refine Nx.is_wp ?_); first | refine Nx.p_stopr 3 rfl ?_ | refine Nx.wo ?_) | refine kS ?_ | refine kB fun bx => ?_ | refine kA fun A2 c2 => ?_ | refine kX (fun hc => ?_) fun hc => ?_ | fail
 refine Nx.unstop ?_
 rename_i bsz b1 g1 v1
 revert bx; intro b2
 refine Nx.ent (R':=Stars [Blk v1 31 [.slice (some ⟨g1,0,none⟩) 3 3],Blk g1 3 [.int .i64 0,.int .i64 1,.int .i64 2],Blk bsz 3 [.int .i64 3]] :: [Blk b2 114 [.slice (some ⟨v1,0,none⟩) 1 1],Blk b1 54 [.slice (some ⟨bsz,0,none⟩) 1 1],F]) (Ent.trans (R':=[Blk v1 31 [.slice (some ⟨g1,0,none⟩) 3 3],Blk g1 3 [.int .i64 0,.int .i64 1,.int .i64 2],Blk bsz 3 [.int .i64 3]] ++ [Blk b2 114 [.slice (some ⟨v1,0,none⟩) 1 1],Blk b1 54 [.slice (some ⟨bsz,0,none⟩) 1 1],F]) (by exact zE) Ent.stars) ?_
 refine Nx.freezeAt 0 rfl fun I1 m1 hI1 hm1 h1 => ?_
 obtain ⟨k0,l0,c0⟩:=Stars.get 0 h1 rfl
 obtain ⟨k1,l1,c1⟩:=Stars.get 1 h1 rfl
 obtain ⟨k2,l2,c2⟩:=Stars.get 2 h1 rfl
 have hsz : Ints I1 (some ⟨bsz,0,none⟩) 1 [3]:=Blk.sliceOf (t:=3) (l:=[3]) (l2.trans hm1) c2 (by decide)
 have hG1 : Ints I1 (some ⟨g1,0,none⟩) 3 [0,1,2]:=Blk.sliceOf (t:=3) (l:=[0,1,2]) (l1.trans hm1) c1 (by decide)
 have hR1 : RowsOf I1 (some ⟨v1,0,none⟩) 1 (exTw g1):=⟨Blk.sliceOf (t:=31) (l:=exTw g1) (l0.trans hm1) c0 (by unfold maxLen; simp [exTw]),fun r hr => by rw [List.mem_singleton.1 hr]; exact hG1⟩
 have hw1 : Viewed [3] (exTw g1):=⟨rfl,fun k hk => by
  obtain rfl : k = 0:=by simpa [exTw] using hk
  exact ⟨rfl,rfl⟩⟩
 have hPu:=fun (bt : Nat) (m I' : PH) (hle : PH.le I1 I') (hm : PH.le m I') (hv : Stars [Blk bt 3 [.int .i64 1,.int .i64 5,.int .i64 4]] m) => (by
  obtain ⟨q1,z1,y1⟩:=Stars.get 0 hv rfl
  have h:=Publish_spec (some ⟨bsz,0,none⟩) (some ⟨v1,0,none⟩) (some ⟨bt,0,none⟩) 1 1 3 [3] [1,5,4] (exTw g1) I' (hsz.mono hle) exS33 (hR1.mono hle) hw1 (Blk.sliceOf (t:=3) (l:=[1,5,4]) (z1.trans hm) y1 (by decide)) ⟨rfl,fun j hj => by
   have : j = 0 ∨ j = 1 ∨ j = 2:=by have : j < 3:=hj; omega
   rcases this with rfl | rfl | rfl <;> decide⟩
  rw [show ([1,5,4] : List Int).length = 3 from rfl,exPu,exPr] at h
  exact h :
  FnSpec Tryz.prog 77 [.agg #[.slice (some ⟨bsz,0,none⟩) 1 1],.agg #[.slice (some ⟨v1,0,none⟩) 1 1],.slice (some ⟨bt,0,none⟩) 3 3] I' [] (fun u R' => ∃ A',u = .tuple #[.slice A' 3 3,.int .i64 0] ∧ R' = [Vec 3 1 A' 3 3 (([1,5,4] : List Int).map (Value.int .i64))]))
 repeat' first | ((with_reducible refine Nx.is_wp ?_); first | refine Nx.p_stopr 4 rfl ?_ | refine Nx.wo ?_) | (refine Nx.zo ?_; first | refine kP ?_ | (refine Nx.call rfl rfl rfl (by kernel_rfl) rfl (FnSpec.keep [Blk _ 3 [.int .i64 1,.int .i64 5,.int .i64 4]] fun m I' hle hm' hv => hPu _ m I' hle hm' hv) (by exact zE) ?_; rintro _ _ ⟨_,⟨Ap,rfl,rfl⟩,rfl⟩)) | refine kS ?_ | refine kB fun bx => ?_ | refine kA fun A2 c2 => ?_ | refine kX (fun hc => ?_) fun hc => ?_ | fail
 refine Nx.unstop ?_
 refine Nx.ent (R':=[Vec 3 1 Ap 3 3 (([1,5,4] : List Int).map (Value.int .i64)),Blk b2 114 [.slice (some ⟨v1,0,none⟩) 1 1],Blk b1 54 [.slice (some ⟨bsz,0,none⟩) 1 1],F]) (by exact zE) ?_
 refine Nx.freezeAt 0 rfl fun I2 m2 hI2 hm2 h2 => ?_
 have hX : Ints I2 Ap 3 [1,5,4]:=Vec.sliceOf (l:=[1,5,4]) hm2 h2
 have hnil : Rels I2 none 0 []:=⟨Vec.sliceN (t:=116) (A:=none) (l:=([] : List Rel)) (f:=relC) (sz:=3) hm2 Vec.nil (fun _ _ => rfl),fun r hr => (by cases hr),fun r hr => (by cases hr)⟩
 have hLe:=fun (bw bp : Nat) (m I' : PH) (hle : PH.le I2 I') (hm : PH.le m I') (hv : Stars [Blk bw 3 [.int .i64 1,.int .i64 1,.int .i64 1],Blk bp 3 [.int .i64 0]] m) => (by
  obtain ⟨q1,z1,y1⟩:=Stars.get 0 hv rfl
  obtain ⟨q2,z2,y2⟩:=Stars.get 1 hv rfl
  have h:=LeastP_spec (some ⟨bsz,0,none⟩) none (some ⟨bw,0,none⟩) (some ⟨bp,0,none⟩) 1 0 3 1 [3] [] (exTr v1 g1 Ap) [1,1,1] [0] 1 I' (hsz.mono (hI2.trans hle)) exS33 (hnil.mono hle) (fun r hr => (by cases hr)) (nZl _) (hR1.mono (hI2.trans hle)) (hX.mono hle) hw1 (show 3 ≤ 6 by decide) (Blk.sliceOf (t:=3) (l:=[1,1,1]) (z1.trans hm) y1 (by decide)) (Blk.sliceOf (t:=3) (l:=[0]) (z2.trans hm) y2 (by decide)) (by decide)
  refine FnSpec.mono h fun u R' hu => ?_
  obtain ⟨res,A',c',hil,rfl,rfl⟩:=hu
  have hres:=exLeast2 (hil (exLE _ _ _))
  rw [exLE,hres]
  exact ⟨A',c',rfl,rfl⟩ :
  FnSpec Tryz.prog 78 [.agg #[.slice (some ⟨bsz,0,none⟩) 1 1],.slice none 0 0,.agg #[.int .i64 0,.slice (some ⟨v1,0,none⟩) 1 1,.slice Ap 3 3],.slice (some ⟨bw,0,none⟩) 3 3,.slice (some ⟨bp,0,none⟩) 1 1,.int .i64 1] I' [] (fun u R' => ∃ (A' : Option Addr) (c' : Nat),u = .tuple #[.slice A' 1 c',.int .i64 1,.int .i64 0] ∧ R' = [iR A' c' [0]]))
 repeat' first | ((with_reducible refine Nx.is_wp ?_); first | refine Nx.p_stopr 5 rfl ?_ | refine Nx.wo ?_) | (refine Nx.zo ?_; first | refine kP ?_ | (refine Nx.call rfl rfl rfl (by kernel_rfl) rfl (FnSpec.keep [Blk _ 3 [.int .i64 1,.int .i64 1,.int .i64 1],Blk _ 3 [.int .i64 0]] fun m I' hle hm' hv => hLe _ _ m I' hle hm' hv) (by exact zE) ?_; rintro _ _ ⟨_,⟨A5,c5,rfl,rfl⟩,rfl⟩)) | refine kS ?_ | refine kB fun bx => ?_ | refine kA fun A2 c2 => ?_ | refine kX (fun hc => ?_) fun hc => ?_ | fail
 refine Nx.unstop ?_
 refine Nx.ent (R':=[iR A5 c5 [0],F]) (by exact zE) ?_
 refine Nx.freezeAt 0 rfl fun I3 m3 hI3 hm3 h3 => ?_
 have h5 : Ints I3 A5 c5 [0]:=Vec.sliceOf hm3 h3
 have hOn:=fun (A' : Option Addr) (c' : Nat) (m I' : PH) (hle : PH.le I3 I') (hm : PH.le m I') (hv : Stars [shiftsR A' c' full3] m) => (by
  obtain ⟨q1,z1,y1⟩:=Stars.get 0 hv rfl
  have h:=On_spec2 A' c' full3 0 I' (Vec.sliceN (z1.trans hm) y1 (fun _ _ => rfl)) full3_sh full3_ok
  rw [exOn] at h
  exact h :
  FnSpec Tryz.prog 79 [.slice A' 3 c',.int .i64 0] I' [] (fun v R' => ∃ A2 c2,v = .slice A2 2 c2 ∧ R' = [textsR A2 c2 (onT full3 0)]))
 repeat' first | refine kW ?_ | (refine Nx.zo ?_; first | refine kP ?_ | (refine Nx.call (Rpre:=[]) rfl rfl rfl (by kernel_rfl) rfl (Full_spec _) (Ent.refl _) ?_; rintro _ _ ⟨A6,c6,rfl,rfl⟩) | (refine Nx.call rfl rfl rfl (by kernel_rfl) rfl (FnSpec.keep [shiftsR _ _ full3] fun m I' hle hm' hv => hOn _ _ m I' hle hm' hv) (by exact zE) ?_; rintro _ _ ⟨_,⟨A7,c7,rfl,rfl⟩,rfl⟩) | refine Nx.indexAddr_nat (A:=A5) (i:=0) (sz:=1) rfl rfl rfl rfl rfl (by decide) (h5.isSome (by decide)) ?_ | refine Nx.load rfl rfl rfl (h5.rd (k:=0) (by decide)) ?_) | refine kS ?_ | refine kB fun bx => ?_ | refine kA fun A2 c2 => ?_ | refine kX (fun hc => ?_) fun hc => ?_ | fail
 exact Nx.imm_le ((hI1.trans hI2).trans hI3) kT
theorem right_in {n m : Nat} {cell : Nat} {up : Bool} {x w : Nat → Rat} {D : Int} {q : Bl.Eqs} (hqn : q.cnt = n) (hqm : q.m = m) (hc : cell < n) (hz : Bl.PrSz q x w D) {I : PH} {b' : Nat} {A' : Option Addr} {c' : Nat} (hp : Rats I (some ⟨b',0,none⟩) n (rl n x)) (hw : Rats I A' c' (rl m w)) :
  PrIn I ⟨cell,up,rawOf (x cell),some ⟨b',0,none⟩,n,(rl n x).map rawOf,A',c',(rl m w).map rawOf⟩:=by
 have hle:=hz.le
 have hrx : ∀ k,k < n → RB (x k):=fun k hk => by
  obtain ⟨p,h1,h2⟩:=hz.pnt k (by omega)
  exact Bl.rb_of hz.ne h1 (by omega) (by omega)
 have hrw : ∀ j,j < m → RB (w j):=fun j hj => by
  obtain ⟨p,h1,h2⟩:=hz.wgt j (by omega)
  exact Bl.rb_of hz.ne h1 (by omega) (by omega)
 refine ⟨Raws.of hp,Raws.of hw,rawOf_i64 (hrx cell hc),fun y hy => ?_,fun y hy => ?_⟩
 ·obtain ⟨z,hz',rfl⟩:=List.mem_map.1 hy
  obtain ⟨j,hj,rfl⟩:=List.mem_map.1 hz'
  exact rawOf_i64 (hrx j (List.mem_range.1 hj))
 ·obtain ⟨z,hz',rfl⟩:=List.mem_map.1 hy
  obtain ⟨j,hj,rfl⟩:=List.mem_map.1 hz'
  exact rawOf_i64 (hrw j (List.mem_range.1 hj))
theorem bcheck_right {n : Nat} {l : List EqR} {cell : Nat} {up : Bool} {x w : Nat → Rat} {D : Int} (hb : BEq n l) (hv : validB n l = true) (hc : cell < n) (h : Bl.PrOk (toQ n l) cell up x w) (hz : Bl.PrSz (toQ n l) x w D) (A : Option Addr) (c : Nat) (I : PH) (hT : TabI I) (hl : Eqs I A c l) (b' : Nat) (A' : Option Addr) (c' : Nat) (hp : Rats I (some ⟨b',0,none⟩) n (rl n x)) (hw : Rats I A' c' (rl l.length w)) :
  FnSpec Tryz.prog 14 [.int .i64 (n : Int),.slice A l.length c,proofV cell up (x cell) (.slice (some ⟨b',0,none⟩) n n) (.slice A' l.length c')] I [] (fun v R' => v = .bool true ∧ R' = []):=by
 have:=bCheck_spec (n : Int) A c l ⟨cell,up,rawOf (x cell),some ⟨b',0,none⟩,n,(rl n x).map rawOf,A',c',(rl l.length w).map rawOf⟩ I hl (right_in rfl rfl hc hz hp hw) hT
 rw [chkP_ok hb hv hc h hz] at this
 unfold PrM.V at this
 dsimp only at this
 rw [lMp,lMp,rl_len,rl_len] at this
 exact this
theorem iv_lowC {W : World} {I I' : PH} {R : List Res} {A : Option Addr} {c : Nat} {L : List IvR} {k : Nat} {lo hi : Rat} {op : Bool} (h : SliceN ivC 5 I A c L) (hk : k < L.length) (he : L.getD k default = (lo,hi,op)) (hle : PH.le I I') : Rds W I' R (((ad A).add (k * 5)).add 0) (ratC lo):=by
 have:=iv_low (W:=W) (R:=R) (h.mono hle) hk
 rwa [he] at this
def ProofPost (n : Nat) (l : List EqR) (cell : Nat) (up : Bool) (v : Value) (R' : List Res) : Prop :=
 ∃ (x w : Nat → Rat) (D : Int) (b' : Nat) (A' : Option Addr) (c' : Nat),Bl.PrOk (toQ n l) cell up x w ∧ Bl.PrSz (toQ n l) x w D ∧ Bl.IsOpt (toQ n l) cell up (x cell) ∧ v = .tuple #[proofV cell up (x cell) (.slice (some ⟨b',0,none⟩) n n) (.slice A' l.length c'),.int .i64 0] ∧ R' = [ratsR (some ⟨b',0,none⟩) n n (rl n x),ratsR A' l.length c' (rl l.length w)]
theorem bProve_yes {n : Nat} {l : List EqR} (hb : BEq n l) (hv : validB n l = true) {cell : Nat} (hc : cell < n) {up : Bool} (hfe : ∃ x,Bl.Feas (toQ n l) x) (hnu : ¬(up = true ∧ Unb (toQ n l) cell)) (A : Option Addr) (c : Nat) (I : PH) (hl : Eqs I A c l) (hT : TabI I) :
  FnSpec Tryz.prog 30 [.int .i64 (n : Int),.slice A l.length c,.int .i64 (cell : Int),.bool up] I [] (ProofPost n l cell up):=by
 refine FnSpec.mono (bProve_spec (n : Int) A c l (cell : Int) up I hl hT) fun v R' h => ?_
 rcases h.2 (chkB_of hb hv ⟨by omega,by omega⟩) with ⟨hno,_⟩ | ⟨_,hu,_⟩ | ⟨_,_,x,w,D,b',A',c',g1,g2,g3,g4,g5⟩
 ·exact absurd hfe hno
 ·exact absurd hu hnu
 ·exact ⟨x,w,D,b',A',c',g1,g2,g3,g4,g5⟩
theorem run_lssF {P : Program} {t : TypeId} {x y : Operand} {a b : Int} (h : ¬ a < b) (w : World) : (do eqGuard .lss t x y (.int .i64 a) (.int .i64 b); binOp .lss t (.int .i64 a) (.int .i64 b)).run P w = .ok (.bool false) w :=
 (binRun_sound (v:=.bool (decide (a < b))) (by simp [binRun]) w).trans (by rw [decide_eq_false h])
theorem run_gtrF {P : Program} {t : TypeId} {x y : Operand} {a b : Int} (h : ¬ b < a) (w : World) : (do eqGuard .gtr t x y (.int .i64 a) (.int .i64 b); binOp .gtr t (.int .i64 a) (.int .i64 b)).run P w = .ok (.bool false) w :=
 (binRun_sound (v:=.bool (decide (b < a))) (by simp [binRun]) w).trans (by rw [decide_eq_false h])
theorem run_neqF {P : Program} {t : TypeId} {x y : Operand} {a : Int} (w : World) : (do eqGuard .neq t x y (.int .i64 a) (.int .i64 a); binOp .neq t (.int .i64 a) (.int .i64 a)).run P w = .ok (.bool false) w :=
 (binRun_sound (v:=.bool (decide (a ≠ a))) (by simp [binRun]) w).trans (by rw [decide_eq_false (by simp)])
theorem bBounds_red {N : Nat} {qs : List EqR} (hb : BEq N qs) (hn : 1 ≤ N ∧ N ≤ 48) (hfe : ∃ x,Bl.Feas (toQ N qs) x) (A : Option Addr) (c : Nat) (I : PH) (hl : Eqs I A c qs) (hT : TabI I) :
  FnSpec Tryz.prog 17 [.int .i64 (N : Int),.slice A qs.length c] I []
   (fun v R' => ∃ (A' : Option Addr) (c' : Nat) (L : List IvR),L.length = N ∧ (∀ k,k < N → IvOk (toQ N qs) k (L.getD k default)) ∧ v = .tuple #[.slice A' L.length c',.int .i64 0] ∧ R' = [Vec 50 5 A' L.length c' (L.flatMap ivC)]):=by
 have hc:=chkB_of hb (valid30 hn (by have:=hb.len; omega) hb.good) (k:=0) (by omega)
 refine FnSpec.mono (bBounds_spec (N : Int) A c qs I hl hT) fun v R' hv => ?_
 rcases hv.2 hc with ⟨hno,_⟩ | ⟨_,A',c',L,hL,hok,h1,h2⟩
 ·exact absurd hfe hno
 ·rw [nCt] at hL hok
  exact ⟨A',c',L,hL,hok,h1,h2⟩
theorem getD_mapX {es : List Exp} {xs : List Int} (h : es.map (fun e => e.1) = xs) {k : Nat} (hk : k < xs.length) : (es.getD k default).1 = xs.getD k default:=by
 have hl : es.length = xs.length:=by rw [← h,lMp]
 rw [← h,gEl,gEl,gMp,gEq (show k < es.length by omega)]
 rfl
theorem TopKnown_spec (A : Option Addr) (c : Nat) (l : List Int) (I : PH) (hl : Bytes I A c l) (hx : ∀ x ∈ l,0 ≤ x ∧ x < 256) (hT0 : TabI I) :
  FnSpec Tryz.prog 5 [.slice A l.length c] I [] (fun v R' => v = .bool true ∧ R' = []):=by
 have hL:=bytes_take hl hx
 refine FnSpec.enterP Tryz.func5 rfl Tryz.ntmps5 rfl fun w F => ?_
 repeat' first | ((with_reducible refine Nx.is_wp ?_); first | refine Nx.p_stopr 3 rfl ?_ | refine Nx.wo ?_) | (refine Nx.zo ?_; first | refine kP ?_ | (refine kC (New_codes A c l I hl) ?_; rintro _ _ ⟨b,rfl,rfl⟩) | (refine Nx.call rfl rfl rfl (by kernel_rfl) rfl (Told_made8 b A c _ 0 2 3 I hL (nZl _) (by omega) (by omega)) (by exact zE) ?_; rintro _ _ ⟨B,c',s,At,ct,t,As,ca,rs,k1,rfl,⟨hs,hs8⟩,hT,hrn,hro,hk1,rfl⟩)) | refine kS ?_ | refine kB fun bx => ?_ | refine kA fun A2 c2 => ?_ | refine kX (fun hc => ?_) fun hc => ?_ | fail
 refine Nx.unstop ?_
 revert bx; intro b4
 refine Nx.giveTold (B:=B) (c':=c') (s:=s) (At:=At) (ct:=ct) (t:=t) (As:=As) (ca:=ca) (rs:=rs) (RR:=[Blk b4 54 [.slice B s.length c'],F]) (by refine Ent.trans (R':=toldR B c' s At ct t As ca rs ++ [Blk b4 54 [.slice B s.length c'],F]) ?_ Ent.stars; unfold toldR; (exact zE)) fun I1 hI1 hz ht hrs => ?_
 have hzs:=size_ok hs
 have hM:=made_a hs hT hro (by omega)
 have hV:=relsV_of hs hT (by decide) (by decide) hro (by omega)
 have hwv:=views_of hro
 have htn:=hT.1
 have htb : ∀ j,j < t.length → 0 ≤ t.getD j default ∧ t.getD j default ≤ 2:=fun j hj => hT.2 j hj
 have hCt:=RCount_spec B c' s I1 hz hs
 have hAl:=EAll_spec B As c' ca s rs I1 hz hs hrs hwv
 rw [hM.rel] at hAl
 rw [if_pos rfl] at hAl
 repeat' first | ((with_reducible refine Nx.is_wp ?_); first | refine Nx.p_stopr 5 rfl ?_ | refine Nx.wo ?_) | (refine Nx.zo ?_; first | refine kP ?_ | refine kV hCt ?_ | (refine kC hAl ?_; rintro _ _ ⟨Am,cm,qs,rfl,hqs,hql,rfl⟩)) | refine kS ?_ | refine kB fun bx => ?_ | refine kA fun A2 c2 => ?_ | refine kX (fun hc => ?_) fun hc => ?_ | fail
 refine Nx.unstop ?_
 refine Nx.giveE (A:=Am) (c:=cm) (qs:=qs) (RR:=[Blk b4 54 [.slice B s.length c'],F]) (by exact zE) fun I2 hI2 hE => ?_
 have hqg : ∀ q ∈ qs,GoodE (prod s).toNat q:=cont_good hqs (told_good hs hV)
 have hqt : ∀ q ∈ qs,sumC t (eqn q).1 = q.2:=fun q hq => (told_eq hs hT (by decide) (by decide) hro (by omega) (hqs ▸ List.mem_map.2 ⟨q,hq,rfl⟩)).2
 have hRd:=EReduce_spec Am cm (prod s).toNat t qs I2 hE ⟨by omega,by omega⟩ hql hqg hqt
 rw [hzs.2.2] at hRd
 repeat' first | ((with_reducible refine Nx.is_wp ?_); first | refine Nx.p_stop 6 rfl ?_ | refine Nx.wo ?_) | (refine Nx.zo ?_; first | refine kP ?_ | (refine kC hRd ?_; rintro _ _ ⟨Ar,cr',ds,rfl,hds,hdl,rfl⟩)) | refine kS ?_ | refine kB fun bx => ?_ | refine kA fun A2 c2 => ?_ | refine kX (fun hc => ?_) fun hc => ?_ | fail
 refine Nx.unstop ?_
 refine Nx.giveE (A:=Ar) (c:=cr') (qs:=ds) (RR:=[Blk b4 54 [.slice B s.length c'],F]) (by exact zE) fun I3 hI3 hD => ?_
 have hR:=red_ok (qs:=ds) hs hT hro (by omega) fun p => by rw [hds p,hqs]
 have hI23:=hI2.trans hI3
 have hI13:=hI1.trans hI23
 replace hz:=hz.mono hI23
 replace ht:=ht.mono hI23
 replace hrs:=hrs.mono hI23
 have hdl2 : ds.length ≤ 1152:=by omega
 have hAg:=Agrees_spec Ar At cr' ct (prod s).toNat t ds I3 hD ht (by omega) (fun j hj => by have:=htb j hj; omega) (by omega) hR.good hR.sum
 have hal:=allC_good hR.good
 have hRe:=Reaches_spec (prod s) Ar cr' ds I3 hD (by have:=Nat.mul_le_mul hdl2 (show (prod s).toNat ≤ 8 by omega); omega)
 rw [hR.rch hs hM hdl2] at hRe
 have hto:=(hR.tol hs hM hdl2).2
 by_cases h0 : tolE s rs = 0
 case neg =>
  rw [if_neg h0] at hRe
  have h1 : tolE s rs = 1:=hto.resolve_left h0
  rw [h1] at hRe
  repeat' first | refine kW ?_ | (refine Nx.zo ?_; first | refine kP ?_ | refine kV hAg ?_ | (refine kC hRe ?_; rintro _ _ ⟨A1,c1,rfl,rfl⟩) | refine Nx.callv rfl rfl rfl (by kernel_rfl) rfl (awakeT_spec _) ?_) | refine kS ?_ | refine kB fun bx => ?_ | refine kA fun A2 c2 => ?_ | refine kX (fun hc => ?_) fun hc => ?_ | fail
  exact Nx.imm_le hI13 kT
 rw [if_pos h0] at hRe
 by_cases h10 : ds.length ≤ 10
 case neg =>
  generalize (List.range (prod s).toNat).map (reachAt (prod s).toNat (eqns ds)) = ra at hRe
  repeat' first | refine kW ?_ | (refine Nx.zo ?_; first | refine kP ?_ | refine kV hAg ?_ | (refine kC hRe ?_; rintro _ _ ⟨A1,c1,rfl,rfl⟩) | refine Nx.callv rfl rfl rfl (by kernel_rfl) rfl (awakeT_spec _) ?_) | refine kS ?_ | refine kB fun bx => ?_ | refine kA fun A2 c2 => ?_ | refine kX (fun hc => ?_) fun hc => ?_ | fail
  exact Nx.imm_le hI13 kT
 have hT3:=tab_mono hI13 hT0
 have hbe:=hR.beq hs hT (by omega) h10
 have hvd:=valid30 (N:=(prod s).toNat) (by omega) hdl2 hR.good
 have hfe:=hR.feas hT
 have hB:=bBounds_red hbe (by omega) ⟨_,hfe⟩ Ar cr' I3 hD hT3
 rw [hzs.2.2] at hB
 have hCe:=Certain_spec B As c' ca s rs I3 hz hs hrs hwv
 rw [hM.cer,if_pos h0] at hCe
 dsimp only at hCe
 have hAll:=allN_spec (prod s).toNat (by omega) I3
 rw [hzs.2.2] at hAll
 obtain ⟨he2,hem⟩:=exp_cert hs hT hro (by omega) h0
 unfold natI at he2 hem
 have hX:=fun (A2 : Option Addr) (c2 : Nat) (m' I' : PH) (hle : PH.le I3 I') (hm' : PH.le m' I') (hv : Stars [iR A2 c2 ((List.range (prod s).toNat).map Int.ofNat)] m') => (by
  obtain ⟨q0,z0,y0⟩:=Stars.get 0 hv rfl
  exact Exposed_spec B As A2 c' ca c2 s rs ((List.range (prod s).toNat).map Int.ofNat) 1 I' (hz.mono hle) hs (hrs.mono hle) hwv (Vec.sliceOf (t:=3) (z0.trans hm') y0) (by rw [lMp,List.length_range]; omega) :
  FnSpec Tryz.prog 28 [.agg #[.slice B s.length c'],.slice As rs.length ca,.slice A2 ((List.range (prod s).toNat).map Int.ofNat).length c2,.int .i64 1] I' [] (fun u R' => ∃ (A' : Option Addr) (c' : Nat),u = .tuple #[.slice A' (expD s rs ((List.range (prod s).toNat).map Int.ofNat) 1).1.length c',.int .i64 (expD s rs ((List.range (prod s).toNat).map Int.ofNat) 1).2] ∧ R' = [expR A' c' (expD s rs ((List.range (prod s).toNat).map Int.ofNat) 1).1]))
 rw [he2] at hX
 generalize (expD s rs ((List.range (prod s).toNat).map Int.ofNat) 1).1 = es at hX hem
 have hcl : (certL (prod s).toNat (eqns (qsOf s rs))).length ≤ (prod s).toNat:=Nat.le_trans (certU_len _) (touch_len _ _)
 generalize certL (prod s).toNat (eqns (qsOf s rs)) = xs at hCe hem hcl
 have hxe : xs.length = es.length:=by rw [← hem,lMp]
 generalize (List.range (prod s).toNat).map Int.ofNat = ns at hX hAll
 have hra : ∀ x,x < (prod s).toNat → ((List.range (prod s).toNat).map (reachAt (prod s).toNat (eqns ds))).getD x default = reachAt (prod s).toNat (eqns ds) x:=fun x hx => range_at hx
 have hla : ((List.range (prod s).toNat).map (reachAt (prod s).toNat (eqns ds))).length = (prod s).toNat:=by simp
 generalize (List.range (prod s).toNat).map (reachAt (prod s).toNat (eqns ds)) = ra at hRe hra hla
 dsimp only at hRe
 have hNs : ((prod s).toNat : Int) = prod s:=hzs.2.2
 have hraN : (ra.length : Int) = prod s:=by omega
 repeat' first | ((with_reducible refine Nx.is_wp ?_); first | refine Nx.wo ?_ | refine kD 13 [0,1,2,3,4,5,6,7,8,9] [3,4] ?_) | (refine Nx.zo ?_; first | refine kP ?_ | refine kV hAg ?_ | (refine kC hRe ?_; rintro _ _ ⟨A1,c1,rfl,rfl⟩) | (refine kC hB ?_; rintro v R' ⟨A3,c3,L,hLl,hok,rfl,rfl⟩) | (refine kC hCe ?_; rintro _ _ ⟨Ac,cc,rfl,rfl⟩) | (refine kC hAll ?_; rintro _ _ ⟨A2,c2,rfl,rfl⟩) | (refine Nx.call rfl rfl rfl (by kernel_rfl) rfl (FnSpec.keep [iR A2 c2 ns] fun m' I' hle hm' hv => hX _ _ m' I' hle hm' hv) (by exact zE) ?_; rintro _ _ ⟨_,⟨Ae,ce,rfl,rfl⟩,rfl⟩)) | refine kS ?_ | refine kB fun bx => ?_ | refine kA fun A2 c2 => ?_ | refine kX (fun hc => ?_) fun hc => ?_ | fail
 refine Nx.ent (R':=[expR Ae ce es,iR Ac cc xs,Vec 50 5 A3 L.length c3 (L.flatMap ivC),rcR A1 c1 ra,Blk b4 54 [.slice B s.length c'],F]) (by exact zE) ?_
 refine Nx.freezeAt 0 rfl fun I4 m4 hI4 hm4 h4 => ?_
 refine Nx.freezeAt 0 rfl fun I5 m5 hI5 hm5 h5 => ?_
 refine Nx.freezeAt 0 rfl fun I6 m6 hI6 hm6 h6 => ?_
 refine Nx.freezeAt 0 rfl fun I7 m7 hI7 hm7 h7 => ?_
 have hEs : SliceN exC 5 I7 Ae ce es:=(Vec.sliceN (t:=75) hm4 h4 fun x _ => exC_len x).mono ((hI5.trans hI6).trans hI7)
 have hXs : Ints I7 Ac cc xs:=(Vec.sliceOf (t:=3) hm5 h5).mono (hI6.trans hI7)
 have hIv : SliceN ivC 5 I7 A3 c3 L:=(Vec.sliceN (t:=50) hm6 h6 fun _ _ => rfl).mono hI7
 have hRa : Rchs I7 A1 c1 ra:=Vec.sliceN hm7 h7 fun x _ => rcC_len x
 have hI37 : PH.le I3 I7:=((hI4.trans hI5).trans hI6).trans hI7
 have hI17:=hI13.trans hI37
 replace hD:=hD.mono hI37
 replace ht:=ht.mono hI37
 have hT7:=tab_mono hI37 hT3
 have hLN : (L.length : Int) = prod s:=by omega
 clear hX hAll hCe hB hRe hAg
 refine Nx.p_loop (σ:=Nat) (fun x => [(5,.slice At t.length ct),(7,.int .i64 (prod s)),(8,.slice Ar ds.length cr'),(11,.slice A1 ra.length c1),(13,.slice A3 L.length c3),(15,.slice Ac xs.length cc),(17,.slice Ae es.length ce),(125,.int .i64 xs.length),(126,.int .i64 (x : Int))])
  (fun _ => [Blk b4 54 [.slice B s.length c'],F]) (fun x => x ≤ xs.length) (fun x => xs.length - x) 0 rfl (nZl _) zR (by exact zE) ?_
 intro x hx'
 have hx' : x ≤ xs.length:=hx'
 by_cases hxl : x < xs.length
 case pos =>
  have hex : (es.getD x default).1 = xs.getD x default:=getD_mapX hem hxl
  have e0:=fun (W : World) (R : List Res) => SliceN.fld (W:=W) (R:=R) (v:=.int .i64 (es.getD x default).1) hEs (show x < es.length by omega) 0 rfl
  rw [hex] at e0
  have x0 : ∀ (W : World) (R : List Res),Rd W I7 R ((ad Ac).add (x * 1)) (.int .i64 (xs.getD x default)):=fun W R => hXs.rd hxl
  have hAc:=hXs.isSome (by omega)
  have hAe:=hEs.isSome (by omega) (by omega)
  generalize xs.getD x default = y at e0 x0
  have hNe:=fun {p q : Operand} (w : World) => run_neqF (P:=Tryz.prog) (t:=3) (x:=p) (y:=q) (a:=y) w
  repeat' first | ((with_reducible refine Nx.is_wp ?_); first | refine Nx.wo ?_ | refine kD 19 [0,1,2,3,4,5,6,7,8,9] [] ?_) | refine kS ?_ | refine kB fun bx => ?_ | refine kA fun A2 c2 => ?_ | ((with_reducible refine Nx.is_mix ?_); refine kQ rfl rfl rfl rfl (by first | exact .inl rfl | exact .inr ⟨_,_,_,rfl,rfl,rfl⟩) (by first | exact QRun.fld (A:=(ad Ae).add (x * 5)) rfl rfl | exact QRun.binr rfl rfl hNe | exact QRun.opr rfl | exact QRun.idx (A:=Ae) (i:=x) (sz:=5) rfl rfl rfl rfl (by omega) hAe | exact QRun.idx (A:=Ac) (i:=x) (sz:=1) rfl rfl rfl rfl hxl hAc | exact QRun.load rfl rfl (e0 _ _) | exact QRun.load rfl rfl (x0 _ _)) ?_) | refine kX (fun hc => ?_) fun hc => ?_ | fail
  exact Nx.again (x + 1) hxl (by omega) zR (by exact zE)
 clear hEs hXs hem
 repeat' first | refine kS ?_ | refine kB fun bx => ?_ | refine kA fun A2 c2 => ?_ | refine kX (fun hc => ?_) fun hc => ?_ | fail
 refine Nx.p_loop (σ:=Nat) (fun x => [(5,.slice At t.length ct),(7,.int .i64 (prod s)),(8,.slice Ar ds.length cr'),(11,.slice A1 ra.length c1),(13,.slice A3 L.length c3),(141,.int .i64 ra.length),(142,.int .i64 (x : Int))])
  (fun _ => [Blk b4 54 [.slice B s.length c'],F]) (fun x => x ≤ ra.length) (fun x => ra.length - x) 0 rfl (nZl _) zR (by exact zE) ?_
 intro x hx'
 have hx' : x ≤ ra.length:=hx'
 by_cases hxr : x < ra.length
 case neg =>
  repeat' first | refine kW ?_ | (refine Nx.zo ?_; first | refine kP ?_ | refine Nx.callv rfl rfl rfl (by kernel_rfl) rfl (awakeT_spec _) ?_) | refine kS ?_ | refine kB fun bx => ?_ | refine kA fun A2 c2 => ?_ | refine kX (fun hc => ?_) fun hc => ?_ | fail
  exact Nx.imm_le hI17 kT
 have hxN : x < (prod s).toNat:=by omega
 have hxL : x < L.length:=by omega
 have hxt : x < t.length:=by omega
 have hokx:=hok x hxN
 have hA1:=hRa.isSome (by omega) (by omega)
 have hA3:=hIv.isSome (by omega) (by omega)
 have hAt:=ht.isSome (by omega)
 generalize hivd : L.getD x default = iv at hokx
 obtain ⟨lo,hi,op⟩:=iv
 obtain ⟨w1,w2,w3,w4,w5⟩:=reach_in hR.good (by rw [hR.sols]; exact hM.ne) hxN hokx
 obtain ⟨tx,htx⟩ : ∃ tx,tx = t.getD x default:=⟨_,rfl⟩
 obtain ⟨v1,v2⟩:=reach_table hR.good hR.want hxN (htb x hxt).1
 replace v1 : (reachAt (prod s).toNat (eqns ds) x).1 ≤ tx:=by rw [htx]; exact v1
 replace v2 : (reachAt (prod s).toNat (eqns ds) x).2.2 = false → tx ≤ (reachAt (prod s).toNat (eqns ds) x).2.1:=by rw [htx]; exact v2
 have tk : ∀ (W : World) (R : List Res),Rd W I7 R ((ad At).add (x * 1)) (.int .i64 tx):=fun W R => by rw [htx]; exact ht.rd hxt
 have hax:=hra x hxN
 have a0:=fun (W : World) (R : List Res) => SliceN.fld (W:=W) (R:=R) (v:=.int .i64 (ra.getD x default).1) hRa hxr 0 rfl
 have a1:=fun (W : World) (R : List Res) => SliceN.fld (W:=W) (R:=R) (v:=.int .i64 (ra.getD x default).2.1) hRa hxr 1 rfl
 have a2:=fun (W : World) (R : List Res) => SliceN.fld (W:=W) (R:=R) (v:=.bool (ra.getD x default).2.2) hRa hxr 2 rfl
 rw [hax] at a0 a1 a2
 rw [w1] at a2 v2
 clear hax htx
 generalize reachAt (prod s).toNat (eqns ds) x = pa at w2 w3 w4 w5 v1 v2 a0 a1
 obtain ⟨rlo,rhi,ro⟩:=pa
 dsimp only at w2 w3 w4 w5 v1 v2 a0 a1
 have b0:=fun (W : World) (R : List Res) => iv_lowD (W:=W) (R:=R) hIv hxL hivd
 have b1:=fun (W : World) (R : List Res) => iv_highD (W:=W) (R:=R) hIv hxL hivd
 have b2:=fun (W : World) (R : List Res) => iv_openD (W:=W) (R:=R) hIv hxL hivd
 have hRl : RB (rlo : Rat):=RB_int (by omega)
 have hRh : RB (rhi : Rat):=RB_int (by omega)
 have hLs1:=rLess_rat (rlo : Rat) lo hRl hokx.rlow I7
 rw [decide_eq_false (Rat.not_lt.2 w2)] at hLs1
 have hlopt:=hokx.low
 have hP1:=bProve_yes (up:=false) hbe hvd hxN ⟨_,hfe⟩ (fun h => Bool.noConfusion h.1) Ar cr' I7 hD hT7
 rw [hzs.2.2] at hP1
 have hLt:=fun {p q : Operand} (w : World) => run_lssF (P:=Tryz.prog) (t:=3) (x:=p) (y:=q) (show ¬ tx < rlo by omega) w
 have hE1:=fun {x y : Operand} (w : World) => neq_fracK (x:=x) (y:=y) lo.num lo.den lo.num lo.den false (decide_eq_false fun hh => hh ⟨rfl,rfl⟩) w
 have hBn:=fun {p q : Operand} (w : World) => (run_boolne (t:=4) (x:=p) (y:=q) Tryz.underlying4 op op w).trans (show _ = Result.ok (Value.bool false) w by cases op <;> rfl)
 have hLs2 : op = false → FnSpec Tryz.prog 19 [ratV hi,ratV (rhi : Rat)] I7 [] (fun v R' => v = .bool false ∧ R' = []):=fun h => by
  have:=rLess_rat hi (rhi : Rat) hokx.rhigh hRh I7
  rwa [decide_eq_false (Rat.not_lt.2 (w3 h))] at this
 have hGt:=fun (h : op = false) {p q : Operand} (w : World) => run_gtrF (P:=Tryz.prog) (t:=3) (x:=p) (y:=q) (show ¬ rhi < tx by have:=v2 h; omega) w
 clear w3 v2 w4 w5
 cases op
 all_goals
  repeat' first | ((with_reducible refine Nx.is_wp ?_); first | refine Nx.p_stopr 27 rfl ?_ | refine Nx.wo ?_ | refine kF 25 [0,1,2,3,4,5,6,7,8,9,10,11,12,13,14,15,16,17,18,19,20,21,22,23,24,25,26,27,28,29,30,31,32,33,34,35,36,37,38,39,40,41,42,43,44,45,46,47,48,49,50,51,52,53,54,55,56,57,58,59,60,61,62,63,64,65,66,67,68,69,70,71,72,73,74,75,76,77,78] [55,76] [] ?_) | (refine Nx.zo ?_; first | refine kP ?_ | refine kV hLs1 ?_ | refine kV (hLs2 rfl) ?_) | ((with_reducible refine Nx.is_mix ?_); refine kQ rfl rfl rfl rfl (by first | exact .inl rfl | exact .inr ⟨_,_,_,rfl,rfl,rfl⟩) (by first | exact QRun.fld (A:=(ad A3).add (x * 5)) rfl rfl | exact QRun.fld (A:=(ad A1).add (x * 3)) rfl rfl | exact QRun.binr rfl rfl hBn | exact QRun.binr rfl rfl hLt | exact QRun.binr rfl rfl (hGt rfl) | exact QRun.opr rfl | exact QRun.idx (A:=A3) (i:=x) (sz:=5) rfl rfl rfl rfl hxL hA3 | exact QRun.idx (A:=A1) (i:=x) (sz:=3) rfl rfl rfl rfl hxr hA1 | exact QRun.idx (A:=At) (i:=x) (sz:=1) rfl rfl rfl rfl hxt hAt | exact QRun.load rfl rfl (b2 _ _) | exact QRun.load rfl rfl (a2 _ _) | exact QRun.load rfl rfl (a0 _ _) | exact QRun.load rfl rfl (a1 _ _) | exact QRun.load rfl rfl (tk _ _) | exact QRun.loads rfl rfl rfl (b0 _ _) rfl | exact QRun.loads rfl rfl rfl (b1 _ _) rfl) ?_) | refine kS ?_ | refine kB fun bx => ?_ | refine kA fun A2 c2 => ?_ | refine kX (fun hc => ?_) fun hc => ?_ | fail
  refine Nx.unstop ?_
  repeat' first | refine kW ?_ | (refine Nx.zo ?_; first | refine kP ?_ | (refine kC hP1 ?_; rintro v R' ⟨px,wt,D,b',A',c'',g1,g2,g3,rfl,rfl⟩)) | refine kS ?_ | refine kB fun bx => ?_ | refine kA fun A2 c2 => ?_ | refine kX (fun hc => ?_) fun hc => ?_ | fail
  revert bx; intro b21
  have hxl : px x = lo:=g3.uniq hlopt
  rw [hxl]
  refine Nx.ent (R':=[ratsR (some ⟨b',0,none⟩) (prod s).toNat (prod s).toNat (rl (prod s).toNat px),ratsR A' ds.length c'' (rl ds.length wt),Blk b21 27 [.int .i64 (x : Int),.bool false,.int .i64 lo.num,.int .i64 lo.den,.slice (some ⟨b',0,none⟩) (prod s).toNat (prod s).toNat,.slice A' ds.length c''],Blk b4 54 [.slice B s.length c'],F]) (by exact zE) ?_
  refine Nx.freezeAt 0 rfl fun I8 m8 hI8 hm8 hf8 => ?_
  refine Nx.freezeAt 0 rfl fun I9 m9 hI9 hm9 hf9 => ?_
  have hI79:=hI8.trans hI9
  have hC1:=bcheck_right hbe hvd hxN g1 g2 Ar cr' I9 (tab_mono hI79 hT7) (hD.mono hI79) b' A' c'' (Vec.sliceN (t:=24) (hm8.trans hI9) (by rw [rl_len]; exact hf8) fun _ _ => rfl) (Vec.sliceN (t:=24) hm9 (by rw [rl_len]; exact hf9) fun _ _ => rfl)
  rw [hxl,hzs.2.2] at hC1
  have b09:=fun (W : World) (R : List Res) => iv_lowC (W:=W) (R:=R) hIv hxL hivd hI79
  repeat' first | ((with_reducible refine Nx.is_wp ?_); first | refine Nx.wo ?_ | refine kF 28 [0,1,2,3,4,5,6,7,8,9,10,11,12,13,14,15,16,17,18] [6] [] ?_) | (refine Nx.zo ?_; first | refine kP ?_ | refine kV hC1 ?_) | ((with_reducible refine Nx.is_mix ?_); refine kQ rfl rfl rfl rfl (by first | exact .inl rfl | exact .inr ⟨_,_,_,rfl,rfl,rfl⟩) (by first | exact QRun.fld (A:=(ad A3).add (x * 5)) rfl rfl | exact QRun.binr rfl rfl hE1 | exact QRun.opr rfl | exact QRun.idx (A:=A3) (i:=x) (sz:=5) rfl rfl rfl rfl hxL hA3 | exact QRun.loads rfl rfl rfl (b09 _ _) rfl | exact QRun.loads rfl rfl rfl (Rds.cut 0 2 rfl rfl) rfl | exact QRun.loads rfl rfl rfl (Rds.cut 0 6 rfl rfl) rfl) ?_) | refine kS ?_ | refine kB fun bx => ?_ | refine kA fun A2 c2 => ?_ | refine kX (fun hc => ?_) fun hc => ?_ | fail
  exact Nx.imm_le hI79 (Nx.again (x + 1) hxr (by omega) zR (by exact zE))
end Go.Proofs.YtpcnapidlhpbkaaGreatDoor
namespace Go.Proofs.YtpcnapidlhpbkaaGreatDoor
open Go.Eng
theorem g64 : Tryz.prog.globalNamed  "math/bits.deBruijn64tab" = some 1 := by kernel_rfl
theorem g64T : (Tryz.prog.globals[1]?).map (·.type) = some 291:=by kernel_rfl
theorem c5 : Tryz.prog.cellsOf 5 = 1:=by kernel_rfl
theorem c79 : Tryz.prog.cellsOf 291 = 64:=by kernel_rfl
abbrev laid3 : List (String × DataW Unit) := [( "math/bits.deBruijn32tab", Rows.laid_math_bits_deBruijn32tab), ("math/bits.deBruijn64tab", Rows.laid_math_bits_deBruijn64tab), ("internal/strconv.uint64pow10", Rows.laid_internal_strconv_uint64pow10)]
def tab32 : List Int:=[0,1,28,2,29,14,24,3,30,22,20,15,25,17,4,8,31,27,13,23,21,19,16,7,26,12,18,6,11,5,10,9]
def setBlk (cs : List Value) : Obj → Obj
 | .cells _ t frozen => .cells cs.toArray t frozen
 | o => o
noncomputable def laidWorld (os : Os) : World :=
 { World.holding Tryz.prog os ⟨#[],#[],[]⟩ with heap:=(((World.holding Tryz.prog os ⟨#[],#[],[]⟩).heap.modify 1 (setBlk (Lib.deBruijn64tab.map fun z : Nat => Value.int .u8 z))).modify 0 (setBlk (Lib.pow10Tab.map fun z => Value.int .u64 z))).modify 2 (setBlk (tab32.map fun z => Value.int .u8 z)) }
theorem laidWorld_met (os : Os) (args : Array Value) : laidMetH Tryz.prog laid3 ((laidWorld os).forCall (fun _ _ => 0) ⟨#[],args,[]⟩).memory :=
 laidMetH_of_parts (laidMet_of_run' 8 (by kernel_rfl) (by kernel_rfl)) (by kernel_rfl)
theorem heap_keep {W w0 w : World} {R : List Res} (h : St w0 (fun i => W.heap[i]?) R w) {i : Nat} {o : Obj} (ho : W.heap[i]? = some o) : w.heap[i]? = some o:=by
 obtain ⟨m,_,hs⟩:=h.mem
 exact hs.imm i o ho
theorem var_keep {W w0 w : World} {R : List Res} (h : St w0 (fun i => W.heap[i]?) R w) {P : Program} {name : String} {k : IntKind} {zs : List Int} (ht : Lib.TabIs P W name k zs) : Lib.TabIs P w name k zs:=by
 unfold Lib.TabIs World.var? at *
 cases hg : P.globalNamed name with
 | none => simp [hg] at ht
 | some g =>
  simp only [hg,Option.bind_some] at ht ⊢
  cases ho : W.heap[g]? with
  | none => rw [ho] at ht; simp at ht
  | some o => rw [heap_keep h ho]; rw [ho] at ht; exact ht
theorem tab_of {W : World} (h : laidMetH Tryz.prog laid3 W) : TabI (fun i => W.heap[i]?) := fun _ _ _ hst j hj => by
 have h1 : Lib.TabIs Tryz.prog W  "math/bits.deBruijn64tab" .u8 (Lib.deBruijn64tab.map fun z : Nat => (z : Int)) := Lib.tabIs_of_head g64 g64T Tryz.underlying291 Tryz.underlying5 c5 c79 (laidMet.tail (h : laidMet Tryz.prog laid3 W))
 have h2 := (var_keep hst h1).cell g64 j (by rw [lMp]; exact hj)
 rw [show (Lib.deBruijn64tab.map fun z : Nat => (z : Int)).getD j 0 = ((Lib.deBruijn64tab.getD j 0 : Nat) : Int) by
  rw [gEl, gEl, gMp]
  cases Lib.deBruijn64tab[j]? <;> rfl] at h2
 exact h2
end Go.Proofs.YtpcnapidlhpbkaaGreatDoor
