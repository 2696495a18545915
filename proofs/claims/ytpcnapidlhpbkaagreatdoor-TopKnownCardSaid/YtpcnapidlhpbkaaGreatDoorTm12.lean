/- Contracts of functions of the given program, and lemmas. -/
import Derived.Shelf.SlSortCmp.Whole1
import Derived.Test.YtpcnapidlhpbkaaGreatDoorProg
import Derived.Test.YtpcnapidlhpbkaaGreatDoorTm11
set_option maxHeartbeats 32000000
set_option maxRecDepth 10000
namespace Go.Proofs.YtpcnapidlhpbkaaGreatDoor
open Go.Eng Go.Sol
attribute [local irreducible] opK wpList Code.wp Exit.then Exit.inBlock fnPost bodyPost Nx Calls Oper.wp Rd Rds Wr Ent Stars Blk Again Vec FnSpec wpMix QRun Stop Upto wpAt
def bitsL (s n : Nat) : List Int:=((List.range n).filter (fun k => s.testBit k)).map (fun k : Nat => (k : Int))
theorem bitsL_succ (s n : Nat) : bitsL s (n + 1) = bitsL s n ++ if s.testBit n = true then [(n : Int)] else []:=by
 unfold bitsL
 rw [List.range_succ,List.filter_append,mAp]
 congr 1
 by_cases h : s.testBit n = true
 ·rw [if_pos h,List.filter_cons_of_pos h,List.filter_nil]; rfl
 ·rw [if_neg h,List.filter_cons_of_neg h,List.filter_nil]; rfl
theorem bitsL_same {s n : Nat} (h : s < 2 ^ n) : ∀ m,bitsL s (n + m) = bitsL s n
 | 0 => rfl
 | m + 1 => by
  rw [← Nat.add_assoc,bitsL_succ,bitsL_same h m,if_neg,List.append_nil]
  rw [Nat.testBit_lt_two_pow (Nat.lt_of_lt_of_le h (Nat.pow_le_pow_right (by decide) (by omega)))]
  decide
theorem bitsL_len (s n : Nat) : (bitsL s n).length ≤ n:=by
 unfold bitsL
 rw [lMp]
 exact Nat.le_trans (List.length_filter_le _ _) (by simp)
theorem bitsL_mem {s n : Nat} {x : Int} : x ∈ bitsL s n ↔ ∃ k : Nat,x = k ∧ k < n ∧ s.testBit k = true:=by
 unfold bitsL
 simp only [List.mem_map,List.mem_filter,List.mem_range]
 constructor
 ·rintro ⟨k,⟨h1,h2⟩,rfl⟩; exact ⟨k,rfl,h1,h2⟩
 ·rintro ⟨k,rfl,h1,h2⟩; exact ⟨k,⟨h1,h2⟩,rfl⟩
theorem run_andI {P : Program} {t : TypeId} {x y : Operand} {a q : Nat} (ha : a < 64) (hq : q = a % 2) : pureRun P (do eqGuard .and t x y (.int .i64 (a : Int)) (.int .i64 1); binOp .and t (.int .i64 (a : Int)) (.int .i64 1)) = some (.int .i64 (q : Int)):=by
 subst hq
 have h : (BitVec.ofInt 64 (a : Int) &&& BitVec.ofInt 64 (1 : Int)) = BitVec.ofInt 64 ((a % 2 : Nat) : Int):=by
  apply BitVec.eq_of_toNat_eq
  rw [BitVec.toNat_and,show ((1 : Int) = ((1 : Nat) : Int)) from rfl,ofInt_nat (by omega),ofInt_nat (by omega),ofInt_nat (by omega),Nat.and_one_is_mod]
 have h2 : a % 2 = 0 ∨ a % 2 = 1:=by omega
 generalize a % 2 = q at h h2
 have h3 : pureRun P (do eqGuard .and t x y (.int .i64 (a : Int)) (.int .i64 1); binOp .and t (.int .i64 (a : Int)) (.int .i64 1)) = some (.int .i64 (IntKind.i64.wrap ((BitVec.ofInt 64 (a : Int) &&& BitVec.ofInt 64 (1 : Int)).toNat))):=rfl
 rw [h3,h]
 rcases h2 with rfl | rfl <;> rfl
theorem run_shrK {P : Program} {t : TypeId} {x y : Operand} {k : IntKind} {a n q : Nat} {z : Int} (hz : z = (n : Int)) (hn : n ≤ 64) (hq : q = a / 2 ^ n) : pureRun P (do eqGuard .shr t x y (.int .i64 (a : Int)) (.int k z); binOp .shr t (.int .i64 (a : Int)) (.int k z)) = some (.int .i64 (q : Int)):=by
 rw [hz,run_shrI hn,hq,Int.natCast_ediv,Int.natCast_pow]; rfl
theorem run_shlK {P : Program} {t : TypeId} {x y : Operand} {n p : Nat} {z : Int} {k : IntKind} (hk : k = .i64 ∨ k = .u64) (hz : z = (n : Int)) (hn : n ≤ 6) (hp : p = 2 ^ n) : pureRun P (do eqGuard .shl t x y (.int .i64 1) (.int k z); binOp .shl t (.int .i64 1) (.int k z)) = some (.int .i64 (p : Int)):=by
 subst hz hp
 have : n = 0 ∨ n = 1 ∨ n = 2 ∨ n = 3 ∨ n = 4 ∨ n = 5 ∨ n = 6:=by omega
 rcases hk with rfl | rfl <;> rcases this with rfl | rfl | rfl | rfl | rfl | rfl | rfl <;> rfl
theorem bit_mod (s k : Nat) : s.testBit k = true ↔ s / 2 ^ k % 2 = 1:=by rw [Nat.testBit_eq_decide_div_mod_eq,decide_eq_true_eq]
theorem list_spec (s : Nat) (hs : s < 64) (I : PH) : FnSpec Tryz.prog 145 [.int .i64 (s : Int)] I [] (fun u R' => ∃ (A' : Option Addr) (c' : Nat),u = .slice A' (bitsL s 6).length c' ∧ R' = [iR A' c' (bitsL s 6)]):=by
 refine FnSpec.enterP Tryz.func145 rfl Tryz.ntmps145 rfl fun w F => ?_
 repeat' first | refine kS ?_ | refine kB fun bx => ?_ | refine kA fun A2 c2 => ?_ | refine kX (fun hc => ?_) fun hc => ?_ | fail
 refine Nx.p_loop (σ:=Nat × Option Addr × Nat) (fun q => [(0,.int .i64 (s : Int)),(3,.slice q.2.1 (bitsL s q.1).length q.2.2),(4,.int .i64 (q.1 : Int))])
  (fun q => [iR q.2.1 q.2.2 (bitsL s q.1),F]) (fun q => q.1 ≤ 6) (fun q => 6 - q.1) (0,none,0) rfl (nZl _) zR ((Ent.vec_nil 3 1 _).trans (by exact zE)) ?_
 rintro ⟨k,A',c'⟩ hk
 dsimp only at hk ⊢
 obtain ⟨d,hd⟩ : ∃ d,d = s / 2 ^ k:=⟨_,rfl⟩
 by_cases h0 : d = 0
 ·subst h0
  have hlt : s < 2 ^ k:=by
   rcases Nat.lt_or_ge s (2 ^ k) with h | h
   ·exact h
   ·have:=Nat.div_pos h (Nat.two_pow_pos k); omega
  have:=bitsL_same hlt (6 - k)
  rw [show k + (6 - k) = 6 by omega] at this
  rw [← this]
  repeat' first | refine kW ?_ | (refine Nx.zo ?_; first | refine kP ?_ | refine Nx.bin rfl rfl (run_shrK (n:=k) rfl (by omega) hd) rfl ?_) | refine kS ?_ | refine kB fun bx => ?_ | refine kA fun A2 c2 => ?_ | refine kX (fun hc => ?_) fun hc => ?_ | fail
  exact Nx.ret_fn rfl [_] ⟨A',c',rfl,rfl⟩ (by exact zE)
 have hd64 : d < 64:=Nat.lt_of_le_of_lt (by rw [hd]; exact Nat.div_le_self _ _) hs
 have hk6 : k < 6:=by
  rcases Nat.lt_or_ge k 6 with h | h
  ·exact h
  ·have : k = 6:=by omega
   subst this
   have : s / 2 ^ 6 = 0:=Nat.div_eq_of_lt hs
   omega
 have hsn:=bitsL_succ s k
 have hbm:=bit_mod s k
 have hln:=bitsL_len s k
 rw [← hd] at hbm
 obtain ⟨b,hb⟩ : ∃ b,b = d % 2:=⟨_,rfl⟩
 rw [← hb] at hbm
 by_cases h1 : b = 1
 ·rw [if_pos (hbm.2 h1)] at hsn
  subst h1
  repeat' first | refine kW ?_ | (refine Nx.zo ?_; first | refine kP ?_ | refine Nx.bin rfl rfl (run_shrK (n:=k) rfl (by omega) hd) rfl ?_ | refine Nx.bin rfl rfl (run_andI hd64 hb) rfl ?_) | refine kS ?_ | refine kB fun bx => ?_ | refine kA fun A2 c2 => ?_ | refine kX (fun hc => ?_) fun hc => ?_ | fail
  exact Nx.again (k + 1,A2,c2) hk6 (by dsimp only; omega) ⟨rfl,by dsimp only; rw [hsn,lAp]; rfl,rfl,trivial⟩ (by dsimp only; rw [hsn]; unfold iR; rw [lAp,mAp]; (exact zE))
 ·rw [if_neg fun h => h1 (hbm.1 h),List.append_nil] at hsn
  repeat' first | refine kW ?_ | (refine Nx.zo ?_; first | refine kP ?_ | refine Nx.bin rfl rfl (run_shrK (n:=k) rfl (by omega) hd) rfl ?_ | refine Nx.bin rfl rfl (run_andI hd64 hb) rfl ?_) | refine kS ?_ | refine kB fun bx => ?_ | refine kA fun A2 c2 => ?_ | refine kX (fun hc => ?_) fun hc => ?_ | fail
  exact Nx.again (k + 1,A',c') hk6 (by dsimp only; omega) ⟨rfl,by dsimp only; rw [hsn]; rfl,rfl,trivial⟩ (by dsimp only; rw [hsn]; (exact zE))
def wSum (w : List Int) (L : List Int) : Int:=(L.map fun k => w.getD k.toNat default).sum
theorem wSum_snoc (w L : List Int) (x : Int) : wSum w (L ++ [x]) = wSum w L + w.getD x.toNat default:=by
 unfold wSum
 rw [mAp,List.sum_append]
 simp
def WOk (w : List Int) : Prop:=∀ x ∈ w,0 ≤ x ∧ x ≤ 1000
theorem wSum_bd {w : List Int} (hw : WOk w) : ∀ L : List Int,(∀ k ∈ L,0 ≤ k ∧ k < w.length) → 0 ≤ wSum w L ∧ wSum w L ≤ 1000 * L.length
 | [],_ => by simp [wSum]
 | x :: L,h => by
  have ih:=wSum_bd hw L fun k hk => h k (List.mem_cons_of_mem _ hk)
  have hx:=h x List.mem_cons_self
  have : 0 ≤ w.getD x.toNat default ∧ w.getD x.toNat default ≤ 1000:=hw _ (by rw [gEl,gEq (by omega)]; exact List.getElem_mem _)
  have e : wSum w (x :: L) = w.getD x.toNat default + wSum w L:=by unfold wSum; simp
  rw [e,List.length_cons]
  omega
theorem bitsL_in {s n : Nat} : ∀ k ∈ bitsL s n,0 ≤ k ∧ k < n:=fun k hk => by
 obtain ⟨j,rfl,hj,_⟩:=bitsL_mem.1 hk
 omega
theorem sum_spec (A : Option Addr) (ca : Nat) (w : List Int) (s : Nat) (I : PH) (hA : Ints I A ca w) (hw : WOk w) (hw6 : w.length ≤ 6) (hs : s < 2 ^ w.length) :
  FnSpec Tryz.prog 146 [.slice A w.length ca,.int .i64 (s : Int)] I [] (fun u R' => u = .int .i64 (wSum w (bitsL s w.length)) ∧ R' = []):=by
 have hs6 : s < 64:=Nat.lt_of_lt_of_le hs (by have:=Nat.pow_le_pow_right (n:=2) (by decide) hw6; simpa using this)
 have hLs:=list_spec s hs6 I
 have h6:=bitsL_same hs (6 - w.length)
 rw [show w.length + (6 - w.length) = 6 by omega] at h6
 rw [h6] at hLs
 have hL:=bitsL_in (s:=s) (n:=w.length)
 have hll:=bitsL_len s w.length
 generalize bitsL s w.length = L at hLs hL hll
 refine FnSpec.enterP Tryz.func146 rfl Tryz.ntmps146 rfl fun w0 F => ?_
 repeat' first | refine kW ?_ | (refine Nx.zo ?_; first | refine kP ?_ | (refine kC hLs ?_; rintro _ _ ⟨B,cb,rfl,rfl⟩)) | refine kS ?_ | refine kB fun bx => ?_ | refine kA fun A2 c2 => ?_ | refine kX (fun hc => ?_) fun hc => ?_ | fail
 refine Nx.freezeAt 0 rfl fun I1 m1 hI1 hm1 h1 => ?_
 have hB : Ints I1 B cb L:=Vec.sliceOf hm1 h1
 replace hA:=hA.mono hI1
 refine Nx.p_loop (σ:=Nat) (fun q => [(0,.slice A w.length ca),(5,.int .i64 (wSum w (L.take q))),(9,.slice B L.length cb),(10,.int .i64 L.length),(11,.int .i64 (q : Int))])
  (fun _ => [F]) (fun q => q ≤ L.length) (fun q => L.length - q) 0 rfl (nZl _) zR (by exact zE) ?_
 intro q hq
 have hq : q ≤ L.length:=hq
 by_cases hql : q < L.length
 case neg =>
  rw [List.take_of_length_le (by omega)]
  repeat' first | refine kS ?_ | refine kB fun bx => ?_ | refine kA fun A2 c2 => ?_ | refine kX (fun hc => ?_) fun hc => ?_ | fail
  exact Nx.imm_le hI1 kT
 have htk:=take_snocJ hql
 have hx:=hL _ (getD_memI hql)
 have hbd:=wSum_bd hw (L.take q) fun k hk => hL k (List.mem_of_mem_take hk)
 rw [lTk] at hbd
 have hsn:=wSum_snoc w (L.take q) (L.getD q default)
 rw [← htk] at hsn
 have hrd : ∀ (W : World) (R : List Res),Rd W I1 R ((ad B).add (q * 1)) (.int .i64 (L.getD q default)):=fun W R => hB.rd hql
 generalize L.getD q default = x at hx hsn hrd
 obtain ⟨y,rfl⟩ : ∃ y : Nat,x = y:=⟨x.toNat,by omega⟩
 have hyl : y < w.length:=by omega
 rw [nCt] at hsn
 have hwy:=hw _ (getD_memI hyl)
 have hrw : ∀ (W : World) (R : List Res),Rd W I1 R ((ad A).add (y * 1)) (.int .i64 (w.getD y default)):=fun W R => hA.rd hyl
 generalize w.getD y default = z at hsn hwy hrw
 generalize wSum w (L.take q) = sm at hbd hsn
 repeat' first | refine kW ?_ | (refine Nx.zo ?_; first | refine kP ?_ | refine Nx.indexAddr_nat (A:=B) (i:=q) (sz:=1) rfl rfl rfl rfl rfl hql (hB.isSome (by omega)) ?_ | refine Nx.indexAddr_nat (A:=A) (i:=y) (sz:=1) rfl rfl rfl rfl rfl hyl (hA.isSome (by omega)) ?_ | refine Nx.load rfl rfl rfl (hrd _ _) ?_ | refine Nx.load rfl rfl rfl (hrw _ _) ?_) | refine kS ?_ | refine kB fun bx => ?_ | refine kA fun A2 c2 => ?_ | refine kX (fun hc => ?_) fun hc => ?_ | fail
 exact Nx.again (q + 1) hql (by omega) ⟨rfl,by rw [hsn]; rfl,rfl,rfl,rfl,trivial⟩ (by exact zE)
end Go.Proofs.YtpcnapidlhpbkaaGreatDoor
namespace Go.Eng
open Go.Sort Go.Proofs Go.Shelf Go.RowKit Go.Lib
section
variable {I : PH} {R : List Res} {W w : World} {t : TypeId}
theorem FnSpec.to_growI {P : Program} {f : FuncId} {args : List Value} {v : Value} (h : FnSpec P f args I [] (fun u R' => u = v ∧ R' = [])) (w : World) (hI : ∀ i o,I i = some o → w.heap[i]? = some o) :
  Calls P f args.toArray w fun e w' => e = .returned v ∧ ∃ q os,w' = grow (w.drewN q) os:=by
 obtain ⟨H,hH⟩ : ∃ H : PH,H = fun i => match I i with | some _ => none | none => w.heap[i]?:=⟨_,rfl⟩
 have hst : St w I ([] ++ [fun m => m = H]) w:=⟨⟨H,⟨H,fun _ => none,fun _ => .inr rfl,by funext i; unfold PH.or; cases H i <;> rfl,rfl,trivial⟩,⟨hI,fun i o e => (by rw [hH] at e; dsimp only at e; split at e; cases e; exact e),fun i => by
  cases hi : I i with
  | none => exact .inl rfl
  | some o => exact .inr (by rw [hH]; dsimp only; rw [hi])⟩⟩,Still.refl w⟩
 refine (h w _ hst).mono fun e w' => ?_
 rintro ⟨u,R',he,⟨rfl,rfl⟩,⟨⟨m,⟨m1,m2,hd,rfl,h1,h2⟩,hs⟩,hst'⟩⟩
 subst h1
 refine ⟨he,w'.drawn - w.drawn,w'.heap.extract w.heap.size w'.heap.size,?_⟩
 have hsz:=hst'.size
 have hheap : w'.heap = w.heap ++ w'.heap.extract w.heap.size w'.heap.size:=by
  refine Array.ext (by simp; omega) fun i h3 h4 => ?_
  by_cases hi : i < w.heap.size
  ·rw [Array.getElem_append_left hi]
   have h5 : w'.heap[i]? = some w.heap[i]:=by
    cases hIi : I i with
    | some o =>
     have e1:=hI i o hIi
     rw [Array.getElem?_eq_getElem hi] at e1
     rw [hs.imm i o hIi,e1]
    | none => exact hs.own i w.heap[i] (PH.le_or_left _ _ _ _ (by rw [hH]; dsimp only; rw [hIi]; exact Array.getElem?_eq_getElem hi))
   rw [Array.getElem?_eq_getElem h3] at h5
   exact Option.some.inj h5
  ·rw [Array.getElem_append_right (by omega),Array.getElem_extract]
   congr 1; omega
 have hdr : w'.drawn = w.drawn + (w'.drawn - w.drawn):=by have:=hst'.drawn; omega
 have e1:=hst'.os
 have e2:=hst'.tape
 have e3:=hst'.output
 generalize w'.heap.extract w.heap.size w'.heap.size = xs at hheap ⊢
 generalize w'.drawn - w.drawn = q at hdr ⊢
 unfold grow World.drewN
 cases w'
 simp only at hheap hdr e1 e2 e3
 subst hheap hdr e1 e2 e3
 rfl
theorem St.imm_row {α : Type} [Inhabited α] {enc : α → Value} {b n c : Nat} {vs : List Value} (h : St W I (Vec t 1 (some ⟨b,0,none⟩) n c vs :: R) w) (m : Nat) (d : Array α) (os : Array Obj) :
  ∀ i o,I i = some o → (sortWorld enc w b 0 m d os).heap[i]? = some o:=fun i o hi => by
 obtain ⟨⟨mm,⟨m1,m2,hd,rfl,hv,h2⟩,hs⟩,hst⟩:=id h
 have hi0:=hs.imm i o hi
 have hlt:=(Array.getElem?_eq_some_iff.1 hi0).1
 have hne : b ≠ i:=fun hb => by
  subst hb
  rcases hv.2 with ⟨h0,_,_⟩ | ⟨b',cur,he,hb,_⟩
  ·cases h0
  cases he
  rcases hs.dis b with h3 | h3
  ·rw [hi] at h3; cases h3
  ·have:=PH.le_or_left m1 m2 _ _ hb
   rw [h3] at this; cases this
 have hsize : (Sort.putRow enc (Go.Sort.ahead w m) b 0 d).heap.size = w.heap.size:=by unfold Sort.putRow mapBlock Go.Sort.ahead; simp
 unfold sortWorld
 rw [heap_grow _ _ _ (by rw [hsize]; exact hlt),heap_putRow,if_neg hne]
 exact hi0
theorem sort1_spec {P : Program} {ρ : Ren} {α : Type} [Inhabited α] (L : SlLaysF.n6 P ρ) (enc : α → Value) (h1 : OneCell enc) (cf : α → α → Int) (hO : SWO (ltOf cf)) (g : Nat) (cb : List Value) (eg : ∀ args w,(callFunc g args).run P w = .ok (.enter g args) w)
  (hcmp : ∀ x y,FnSpec P g (enc x :: enc y :: cb) I [] (fun v R' => v = .int .i64 (cf x y) ∧ R' = []))
  (b c : Nat) (l : List α) (hl : l.length < 4611686018427387904) :
  FnSpec P (ρ.f 6) [.slice (some ⟨b,0,none⟩) l.length c,.func (.func g) #[] cb.toArray] I [Vec t 1 (some ⟨b,0,none⟩) l.length c (l.map enc)]
   (fun v R' => v = .tuple #[] ∧ ∃ l' : List α,l'.Perm l ∧ l'.Pairwise (fun x y => ltOf cf y x = false) ∧ R' = [Vec t 1 (some ⟨b,0,none⟩) l'.length c (l'.map enc)]):=by
 intro w F hw
 obtain ⟨hH,hb⟩:=Vec.holds hw
 have hC : CmpLays1 P g cb.toArray enc cf b 0 l.toArray.size w:=fun m os dk _ x y => by
  have:=FnSpec.to_growI (hcmp x y) (sortWorld enc w b 0 m dk os) (hw.imm_row m dk os)
  rwa [show (enc x :: enc y :: cb).toArray = #[enc x,enc y] ++ cb.toArray by simp] at this
 have hcall:=Any.slices_SortFunc L enc h1 cf hO g cb.toArray b 0 c l.toArray w eg hC hH hb (by simpa using hl)
 rw [List.size_toArray] at hcall
 refine hcall.mono fun e w' => ?_
 rintro ⟨rfl,d',n,os,hp,hs,rfl⟩
 have hsz : d'.size = l.length:=by simpa using hp.1
 have hperm : d'.toList.Perm l:=by
  have:=hp.2.2
  rw [← hsz,Array.extract_size,hsz] at this
  simpa using this
 refine ⟨_,_,rfl,⟨rfl,d'.toList,hperm,?_,rfl⟩,?_⟩
 ·rw [List.pairwise_iff_getElem]
  intro i j hi hj hij
  have:=hs i j (nZl _) hij (by rw [← hsz]; simpa using hj)
  rw [getElem!_pos d' j (by simpa using hj),getElem!_pos d' i (by simpa using hi)] at this
  simpa using this
 ·have h3:=hw.putRow (l':=d'.toList) hperm.length_eq n os
  rwa [Array.toArray_toList] at h3
end
end Go.Eng
namespace Go.Proofs.YtpcnapidlhpbkaaGreatDoor
def srtF_ren : Go.Shelf.Ren:=⟨fun | 6 => 195 | 15 => 185 | 14 => 235 | 28 => 233 | 29 => 234 | 20 => 257 | 21 => 258 | 22 => 259 | 23 => 260 | 24 => 261 | 25 => 262 | 26 => 263 | 27 => 264 | 46 => 282 | 47 => 253 | 48 => 254 | 49 => 283 | 50 => 284 | 57 => 289 | n => n,fun | 22 => 31 | 24 => 3 | 25 => 40 | 3 => 3 | 39 => 161 | 0 => 0 | 53 => 209 | 55 => 102 | 4 => 4 | 46 => 245 | 45 => 244 | 50 => 120 | 5 => 5 | 9 => 9 | 66 => 264 | 70 => 268 | 76 => 285 | 77 => 218 | n => n,fun | n => n⟩
theorem srtF : Go.Proofs.SlLaysF.n6 Tryz.prog srtF_ren where
 mixed := by kernel_rfl
 f6 := ⟨ "slices.SortFunc[[]int,int]", by decide, Tryz.func195.trans (congrArg some (by kernel_rfl))⟩
 f14 := ⟨ "slices.pdqsortCmpFunc[int]", by decide, Tryz.func235.trans (congrArg some (by kernel_rfl))⟩
 f15 := Tryz.func185.trans (congrArg some (by kernel_rfl))
 f20 := ⟨ "slices.insertionSortCmpFunc[int]", by decide, Tryz.func257.trans (congrArg some (by kernel_rfl))⟩
 f21 := ⟨ "slices.heapSortCmpFunc[int]", by decide, Tryz.func258.trans (congrArg some (by kernel_rfl))⟩
 f22 := ⟨ "slices.breakPatternsCmpFunc[int]", by decide, Tryz.func259.trans (congrArg some (by kernel_rfl))⟩
 f23 := ⟨ "slices.choosePivotCmpFunc[int]", by decide, Tryz.func260.trans (congrArg some (by kernel_rfl))⟩
 f24 := ⟨ "slices.reverseRangeCmpFunc[int]", by decide, Tryz.func261.trans (congrArg some (by kernel_rfl))⟩
 f25 := ⟨ "slices.partialInsertionSortCmpFunc[int]", by decide, Tryz.func262.trans (congrArg some (by kernel_rfl))⟩
 f26 := ⟨ "slices.partitionEqualCmpFunc[int]", by decide, Tryz.func263.trans (congrArg some (by kernel_rfl))⟩
 f27 := ⟨ "slices.partitionCmpFunc[int]", by decide, Tryz.func264.trans (congrArg some (by kernel_rfl))⟩
 f28 := Tryz.func233.trans (congrArg some (by kernel_rfl))
 f29 := Tryz.func234.trans (congrArg some (by kernel_rfl))
 f46 := ⟨ "slices.siftDownCmpFunc[int]", by decide, Tryz.func282.trans (congrArg some (by kernel_rfl))⟩
 f47 := Tryz.func253.trans (congrArg some (by kernel_rfl))
 f48 := Tryz.func254.trans (congrArg some (by kernel_rfl))
 f49 := ⟨ "slices.medianAdjacentCmpFunc[int]", by decide, Tryz.func283.trans (congrArg some (by kernel_rfl))⟩
 f50 := ⟨ "slices.medianCmpFunc[int]", by decide, Tryz.func284.trans (congrArg some (by kernel_rfl))⟩
 f57 := ⟨ "slices.order2CmpFunc[int]", by decide, Tryz.func289.trans (congrArg some (by kernel_rfl))⟩
 t0 := Tryz.underlying0
 a0 := Tryz.isAgg0
 z0 := Tryz.sizeOf0
 v0 := Tryz.zeroValue0
 t3 := Tryz.underlying3
 a3 := Tryz.isAgg3
 z3 := Tryz.sizeOf3
 v3 := Tryz.zeroValue3
 t4 := Tryz.underlying4
 a4 := Tryz.isAgg4
 z4 := Tryz.sizeOf4
 v4 := Tryz.zeroValue4
 t5 := Tryz.underlying5
 a5 := Tryz.isAgg5
 z5 := Tryz.sizeOf5
 v5 := Tryz.zeroValue5
 t9 := Tryz.underlying9
 a9 := Tryz.isAgg9
 z9 := Tryz.sizeOf9
 v9 := Tryz.zeroValue9
 t22 := Tryz.underlying31
 a22 := Tryz.isAgg31
 z22 := Tryz.sizeOf31
 v22 := Tryz.zeroValue31
 a24 := Tryz.isAgg3
 z24 := Tryz.sizeOf3
 t25 := Tryz.underlying40
 a25 := Tryz.isAgg40
 z25 := Tryz.sizeOf40
 v25 := Tryz.zeroValue40
 t39 := Tryz.underlying161
 a39 := Tryz.isAgg161
 z39 := Tryz.sizeOf161
 v39 := Tryz.zeroValue161
 t45 := Tryz.underlying244
 a45 := Tryz.isAgg244
 z45 := Tryz.sizeOf244
 v45 := Tryz.zeroValue244
 t46 := Tryz.underlying245
 a46 := Tryz.isAgg245
 z46 := Tryz.sizeOf245
 v46 := Tryz.zeroValue245
 t50 := Tryz.underlying120
 a50 := Tryz.isAgg120
 z50 := Tryz.sizeOf120
 v50 := Tryz.zeroValue120
 t53 := Tryz.underlying209
 a53 := Tryz.isAgg209
 z53 := Tryz.sizeOf209
 v53 := Tryz.zeroValue209
 t55 := Tryz.underlying102
 a55 := Tryz.isAgg102
 z55 := Tryz.sizeOf102
 v55 := Tryz.zeroValue102
 t66 := Tryz.underlying264
 a66 := Tryz.isAgg264
 z66 := Tryz.sizeOf264
 v66 := Tryz.zeroValue264
 t70 := Tryz.underlying268
 a70 := Tryz.isAgg268
 z70 := Tryz.sizeOf268
 v70 := Tryz.zeroValue268
 t76 := Tryz.underlying285
 a76 := Tryz.isAgg285
 z76 := Tryz.sizeOf285
 v76 := Tryz.zeroValue285
 t77 := Tryz.underlying218
 a77 := Tryz.isAgg218
 z77 := Tryz.sizeOf218
 v77 := Tryz.zeroValue218
open Go.Eng Go.Sol
attribute [local irreducible] opK wpList Code.wp Exit.then Exit.inBlock fnPost bodyPost Nx Calls Oper.wp Rd Rds Wr Ent Stars Blk Again Vec FnSpec wpMix QRun Stop Upto wpAt
def cmpI (a b : Int) : Int:=if a < b then -1 else if b < a then 1 else 0
def cmpL : List Int → List Int → Int
 | [],[] => 0
 | [],_ :: _ => -1
 | _ :: _,[] => 1
 | a :: p,b :: q => if cmpI a b ≠ 0 then cmpI a b else cmpL p q
def orC {α : Type} (f g : α → α → Int) (a b : α) : Int:=if f a b ≠ 0 then f a b else g a b
structure LeC {α : Type} (f : α → α → Int) : Prop where
 anti : ∀ a b,f b a = - f a b
 tr : ∀ a b c,f a b ≤ 0 → f b c ≤ 0 → f a c ≤ 0
theorem cmpI_le : LeC cmpI:=⟨fun a b => by unfold cmpI; split <;> split <;> omega,fun a b c h1 h2 => by
 unfold cmpI at *
 split at h1 <;> split at h2 <;> split <;> (try split) <;> (try split at h1) <;> (try split at h2) <;> omega⟩
theorem LeC.comap {α β : Type} {f : β → β → Int} (h : LeC f) (k : α → β) : LeC fun a b => f (k a) (k b):=⟨fun _ _ => h.anti _ _,fun _ _ _ => h.tr _ _ _⟩
theorem LeC.or {α : Type} {f g : α → α → Int} (hf : LeC f) (hg : LeC g) : LeC (orC f g):=by
 refine ⟨fun a b => ?_,fun a b c h1 h2 => ?_⟩
 ·have:=hf.anti a b
  have:=hg.anti a b
  unfold orC
  split <;> split <;> omega
 ·have t1:=hf.tr a b c
  have t2:=hf.tr c a b
  have t3:=hf.tr b c a
  have a1:=hf.anti a c
  have a2:=hf.anti b c
  have a3:=hf.anti a b
  have t4:=hg.tr a b c
  unfold orC at *
  split at h1 <;> split at h2 <;> split <;> omega
theorem cmpL_cons (a b : Int) (p q : List Int) : cmpL (a :: p) (b :: q) = if cmpI a b ≠ 0 then cmpI a b else cmpL p q:=by rw [cmpL]
theorem cmpL_anti : ∀ a b : List Int,cmpL b a = - cmpL a b
 | [],[] => rfl
 | [],_ :: _ => rfl
 | _ :: _,[] => rfl
 | x :: p,y :: q => by
  have h1:=cmpI_le.anti x y
  have h2:=cmpL_anti p q
  rw [cmpL_cons,cmpL_cons]
  split <;> split <;> omega
theorem cmpL_tr : ∀ a b c : List Int,cmpL a b ≤ 0 → cmpL b c ≤ 0 → cmpL a c ≤ 0
 | [],_,[],_,_ => by simp [cmpL]
 | [],_,_ :: _,_,_ => by simp [cmpL]
 | _ :: _,[],_,h,_ => by simp [cmpL] at h
 | _ :: _,_ :: _,[],_,h => by simp [cmpL] at h
 | x :: p,y :: q,z :: r,h1,h2 => by
  have t1:=cmpI_le.tr x y z
  have t2:=cmpI_le.tr z x y
  have t3:=cmpI_le.tr y z x
  have a1:=cmpI_le.anti x z
  have a2:=cmpI_le.anti y z
  have a3:=cmpI_le.anti x y
  have t4:=cmpL_tr p q r
  rw [cmpL_cons] at h1 h2 ⊢
  split at h1 <;> split at h2 <;> split <;> omega
theorem cmpL_le : LeC cmpL:=⟨cmpL_anti,cmpL_tr⟩
theorem LeC.swo {α : Type} {f : α → α → Int} (h : LeC f) : Go.Sort.SWO (ltOf f) where
 irrefl x:=by have:=h.anti x x; unfold ltOf; exact decide_eq_false (by omega)
 trans x y z h1 h2:=by
  unfold ltOf at *
  rw [decide_eq_true_eq] at *
  have:=h.tr x y z; have:=h.tr z x y; have:=h.anti x z; have:=h.anti y z
  omega
 ntrans x y z h1 h2:=by
  unfold ltOf at *
  rw [decide_eq_false_iff_not] at *
  have:=h.tr z y x; have:=h.anti x y; have:=h.anti y z; have:=h.anti x z
  omega
theorem isNaN_spec (a : Int) (I : PH) : FnSpec Tryz.prog 236 [.int .i64 a] I [] (fun u R' => u = .bool false ∧ R' = []):=by
 refine FnSpec.enterP Tryz.func236 rfl Tryz.ntmps236 rfl fun w F => ?_
 repeat' first | refine kS ?_ | refine kB fun bx => ?_ | refine kA fun A2 c2 => ?_ | refine kX (fun hc => ?_) fun hc => ?_ | fail
 exact Nx.ret_fn rfl [] ⟨by rw [decide_eq_false (fun h => h rfl)],rfl⟩ (by exact zE)
theorem Compare_spec (a b : Int) (I : PH) : FnSpec Tryz.prog 198 [.int .i64 a,.int .i64 b] I [] (fun u R' => u = .int .i64 (cmpI a b) ∧ R' = []):=by
 have h1:=isNaN_spec a I
 have h2:=isNaN_spec b I
 unfold cmpI
 refine FnSpec.enterP Tryz.func198 rfl Tryz.ntmps198 rfl fun w F => ?_
 by_cases hab : a < b
 ·rw [if_pos hab]
  repeat' first | refine kW ?_ | (refine Nx.zo ?_; first | refine kP ?_ | refine kV h1 ?_ | refine kV h2 ?_) | refine kS ?_ | refine kB fun bx => ?_ | refine kA fun A2 c2 => ?_ | refine kX (fun hc => ?_) fun hc => ?_ | fail
  exact kT
 rw [if_neg hab]
 by_cases hba : b < a
 ·rw [if_pos hba]
  repeat' first | refine kW ?_ | (refine Nx.zo ?_; first | refine kP ?_ | refine kV h1 ?_ | refine kV h2 ?_) | refine kS ?_ | refine kB fun bx => ?_ | refine kA fun A2 c2 => ?_ | refine kX (fun hc => ?_) fun hc => ?_ | fail
  exact kT
 rw [if_neg hba]
 repeat' first | refine kW ?_ | (refine Nx.zo ?_; first | refine kP ?_ | refine kV h1 ?_ | refine kV h2 ?_) | refine kS ?_ | refine kB fun bx => ?_ | refine kA fun A2 c2 => ?_ | refine kX (fun hc => ?_) fun hc => ?_ | fail
 exact kT
def firstNZ : List Int → Int
 | [] => 0
 | x :: l => if x ≠ 0 then x else firstNZ l
theorem Or_spec (A : Option Addr) (c : Nat) (l : List Int) (I : PH) (hl : Ints I A c l) : FnSpec Tryz.prog 197 [.slice A l.length c] I [] (fun u R' => u = .int .i64 (firstNZ l) ∧ R' = []):=by
 have hlen:=hl.len
 refine FnSpec.enterP Tryz.func197 rfl Tryz.ntmps197 rfl fun w F => ?_
 obtain ⟨z,hz⟩ : ∃ z,z = firstNZ l:=⟨_,rfl⟩
 rw [← hz]
 repeat' first | refine kS ?_ | refine kB fun bx => ?_ | refine kA fun A2 c2 => ?_ | refine kX (fun hc => ?_) fun hc => ?_ | fail
 refine Nx.p_loop (σ:=Nat) (fun q => [(3,.int .i64 0),(6,.slice A l.length c),(7,.int .i64 l.length),(8,.int .i64 (q : Int))])
  (fun _ => [F]) (fun q => q ≤ l.length ∧ z = firstNZ (l.drop q)) (fun q => l.length - q) 0 rfl ⟨nZl _,hz⟩ ⟨rfl,rfl,rfl,rfl,trivial⟩ (by exact zE) ?_
 rintro q ⟨hq,he⟩
 by_cases hql : q < l.length
 case neg =>
  rw [List.drop_eq_nil_of_le (by omega),firstNZ] at he
  rw [he]
  repeat' first | refine kS ?_ | refine kB fun bx => ?_ | refine kA fun A2 c2 => ?_ | refine kX (fun hc => ?_) fun hc => ?_ | fail
  exact kT
 rw [drop_atI hql,firstNZ] at he
 have hrd : ∀ (W : World) (R : List Res),Rd W I R ((ad A).add (q * 1)) (.int .i64 (l.getD q default)):=fun W R => hl.rd hql
 generalize l.getD q default = x at he hrd
 by_cases hx : x = 0
 ·rw [if_neg (fun h => h hx)] at he
  repeat' first | refine kW ?_ | (refine Nx.zo ?_; first | refine kP ?_ | refine Nx.indexAddr_nat (A:=A) (i:=q) (sz:=1) rfl rfl rfl rfl rfl hql (hl.isSome (by omega)) ?_ | refine Nx.load rfl rfl rfl (hrd _ _) ?_) | refine kS ?_ | refine kB fun bx => ?_ | refine kA fun A2 c2 => ?_ | refine kX (fun hc => ?_) fun hc => ?_ | fail
  exact Nx.again (q + 1) ⟨hql,he⟩ (by omega) zR (by exact zE)
 ·rw [if_pos hx] at he
  rw [he]
  repeat' first | refine kW ?_ | (refine Nx.zo ?_; first | refine kP ?_ | refine Nx.indexAddr_nat (A:=A) (i:=q) (sz:=1) rfl rfl rfl rfl rfl hql (hl.isSome (by omega)) ?_ | refine Nx.load rfl rfl rfl (hrd _ _) ?_) | refine kS ?_ | refine kB fun bx => ?_ | refine kA fun A2 c2 => ?_ | refine kX (fun hc => ?_) fun hc => ?_ | fail
  exact kT
theorem CompareL_spec (A B : Option Addr) (ca cb : Nat) (l r : List Int) (I : PH) (hl : Ints I A ca l) (hr : Ints I B cb r) : FnSpec Tryz.prog 200 [.slice A l.length ca,.slice B r.length cb] I [] (fun u R' => u = .int .i64 (cmpL l r) ∧ R' = []):=by
 have hlen:=hl.len
 have hrlen:=hr.len
 refine FnSpec.enterP Tryz.func200 rfl Tryz.ntmps200 rfl fun w F => ?_
 obtain ⟨z,hz⟩ : ∃ z,z = cmpL l r:=⟨_,rfl⟩
 rw [← hz]
 repeat' first | refine kS ?_ | refine kB fun bx => ?_ | refine kA fun A2 c2 => ?_ | refine kX (fun hc => ?_) fun hc => ?_ | fail
 refine Nx.p_loop (σ:=Nat) (fun q => [(0,.slice A l.length ca),(1,.slice B r.length cb),(9,.slice A l.length ca),(10,.int .i64 l.length),(11,.int .i64 (q : Int))])
  (fun _ => [F]) (fun q => q ≤ l.length ∧ q ≤ r.length ∧ z = cmpL (l.drop q) (r.drop q)) (fun q => l.length - q) 0 rfl ⟨nZl _,nZl _,hz⟩ zR (by exact zE) ?_
 rintro q ⟨hq,hqr,he⟩
 by_cases hql : q < l.length
 case neg =>
  have hdl : l.drop q = []:=List.drop_eq_nil_of_le (by omega)
  rw [hdl] at he
  by_cases hrq : q < r.length
  ·rw [drop_atI hrq,cmpL] at he
   rw [he]
   repeat' first | refine kS ?_ | refine kB fun bx => ?_ | refine kA fun A2 c2 => ?_ | refine kX (fun hc => ?_) fun hc => ?_ | fail
   exact kT
  ·have hdr : r.drop q = []:=List.drop_eq_nil_of_le (by omega)
   rw [hdr,cmpL] at he
   rw [he]
   repeat' first | refine kS ?_ | refine kB fun bx => ?_ | refine kA fun A2 c2 => ?_ | refine kX (fun hc => ?_) fun hc => ?_ | fail
   exact kT
 have h1 : ∀ (W : World) (R : List Res),Rd W I R ((ad A).add (q * 1)) (.int .i64 (l.getD q default)):=fun W R => hl.rd hql
 rw [drop_atI hql] at he
 by_cases hrq : q < r.length
 case neg =>
  have hdr : r.drop q = []:=List.drop_eq_nil_of_le (by omega)
  rw [hdr,cmpL] at he
  rw [he]
  repeat' first | refine kW ?_ | (refine Nx.zo ?_; first | refine kP ?_ | refine Nx.indexAddr_nat (A:=A) (i:=q) (sz:=1) rfl rfl rfl rfl rfl hql (hl.isSome (by omega)) ?_ | refine Nx.load rfl rfl rfl (h1 _ _) ?_) | refine kS ?_ | refine kB fun bx => ?_ | refine kA fun A2 c2 => ?_ | refine kX (fun hc => ?_) fun hc => ?_ | fail
  exact kT
 rw [drop_atI hrq,cmpL] at he
 have h2 : ∀ (W : World) (R : List Res),Rd W I R ((ad B).add (q * 1)) (.int .i64 (r.getD q default)):=fun W R => hr.rd hrq
 have hC:=Compare_spec (l.getD q default) (r.getD q default) I
 generalize l.getD q default = x at he h1 hC
 generalize r.getD q default = y at he h2 hC
 generalize cmpI x y = d at he hC
 by_cases hd : d = 0
 ·rw [if_neg (fun h => h hd)] at he
  repeat' first | refine kW ?_ | (refine Nx.zo ?_; first | refine kP ?_ | refine Nx.indexAddr_nat (A:=A) (i:=q) (sz:=1) rfl rfl rfl rfl rfl hql (hl.isSome (by omega)) ?_ | refine Nx.indexAddr_nat (A:=B) (i:=q) (sz:=1) rfl rfl rfl rfl rfl hrq (hr.isSome (by omega)) ?_ | refine Nx.load rfl rfl rfl (h1 _ _) ?_ | refine Nx.load rfl rfl rfl (h2 _ _) ?_ | refine kV hC ?_) | refine kS ?_ | refine kB fun bx => ?_ | refine kA fun A2 c2 => ?_ | refine kX (fun hc => ?_) fun hc => ?_ | fail
  exact Nx.again (q + 1) ⟨hql,hrq,he⟩ (by omega) zR (by exact zE)
 ·rw [if_pos hd] at he
  rw [he]
  repeat' first | refine kW ?_ | (refine Nx.zo ?_; first | refine kP ?_ | refine Nx.indexAddr_nat (A:=A) (i:=q) (sz:=1) rfl rfl rfl rfl rfl hql (hl.isSome (by omega)) ?_ | refine Nx.indexAddr_nat (A:=B) (i:=q) (sz:=1) rfl rfl rfl rfl rfl hrq (hr.isSome (by omega)) ?_ | refine Nx.load rfl rfl rfl (h1 _ _) ?_ | refine Nx.load rfl rfl rfl (h2 _ _) ?_ | refine kV hC ?_) | refine kS ?_ | refine kB fun bx => ?_ | refine kA fun A2 c2 => ?_ | refine kX (fun hc => ?_) fun hc => ?_ | fail
  exact kT
end Go.Proofs.YtpcnapidlhpbkaaGreatDoor
namespace Go.Proofs.YtpcnapidlhpbkaaGreatDoor
open Go.Eng Go.Sol
theorem QRun.convN {C : Cx} {e : Env} {S : World → Prop} {dst : Option Tmp} {ty : TypeId} {pos : String} {after : Array Edge} {g : Option (Nat × Bool)} {t u : TypeId} {x : Operand} {k : IntKind} {p : Int} {q : Nat} {s : TypeDesc} (hx : evo e x = some (.int k p)) (hs : C.P.underlying t = some s) (ht : C.P.underlying u = some (.int .u64)) (hp : p % B64 = (q : Int)) : QRun C e S ⟨dst,.convert t u x,ty,pos,after,g⟩ (.int .u64 (q : Int)):=fun a w ha _ => by
 simp only [execOp,ha.eval hx]
 refine run_v ?_
 unfold convert
 rw [Sem.run_bind,run_underlying hs,Result.andThen_ok,Sem.run_bind,run_underlying ht,Result.andThen_ok]
 show Result.ok (Value.int .u64 (IntKind.u64.wrap p)) w = _
 rw [IntKind.wrap_u64,← hp]
attribute [local irreducible] opK wpList Code.wp Exit.then Exit.inBlock fnPost bodyPost Nx Calls Oper.wp Rd Rds Wr Ent Stars Blk Again Vec FnSpec wpMix QRun Stop Upto wpAt
section
variable {P : Program} {t : TypeId} {x y : Operand} {k : IntKind} {a b n q : Nat} {p z : Int}
theorem run_shrUN (hz : z = (n : Int)) (hn : n ≤ 64) (hq : q = a / 2 ^ n) : pureRun P (do eqGuard .shr t x y (.int .u64 (a : Int)) (.int k z); binOp .shr t (.int .u64 (a : Int)) (.int k z)) = some (.int .u64 (q : Int)):=by
 rw [hz,run_shrU hn,hq,Int.natCast_ediv,Int.natCast_pow]; rfl
theorem run_andUN (hz : z = (b : Int)) (ha : a < 18446744073709551616) (hb : b < 18446744073709551616) (hq : q = a &&& b) : pureRun P (do eqGuard .and t x y (.int .u64 (a : Int)) (.int .u64 z); binOp .and t (.int .u64 (a : Int)) (.int .u64 z)) = some (.int .u64 (q : Int)):=by
 rw [hz,hq,run_andU ha hb]
theorem run_addUN (hq : q = a + b) (hlt : q < 18446744073709551616) : pureRun P (do eqGuard .add t x y (.int .u64 (a : Int)) (.int .u64 (b : Int)); binOp .add t (.int .u64 (a : Int)) (.int .u64 (b : Int))) = some (.int .u64 (q : Int)):=by
 rw [run_addU,show ((a : Int) + b) % B64 = (q : Int) by unfold B64; omega]
theorem run_and127 (ha : a ≤ 6) : pureRun P (do eqGuard .and t x y (.int .i64 (a : Int)) (.int .i64 127); binOp .and t (.int .i64 (a : Int)) (.int .i64 127)) = some (.int .i64 (a : Int)):=by
 have : a = 0 ∨ a = 1 ∨ a = 2 ∨ a = 3 ∨ a = 4 ∨ a = 5 ∨ a = 6:=by omega
 rcases this with rfl | rfl | rfl | rfl | rfl | rfl | rfl <;> rfl
end
def oc8 (s : Nat) : Nat:=(s / 2 ^ 1 &&& 6148914691236517205) + (s &&& 6148914691236517205)
def oc14 (s : Nat) : Nat:=(oc8 s / 2 ^ 2 &&& 3689348814741910323) + (oc8 s &&& 3689348814741910323)
def oc18 (s : Nat) : Nat:=oc14 s / 2 ^ 4 + oc14 s
def oc19 (s : Nat) : Nat:=oc18 s &&& 1085102592571150095
def oc23 (s : Nat) : Nat:=oc19 s + oc19 s / 2 ^ 8
def oc27 (s : Nat) : Nat:=oc23 s + oc23 s / 2 ^ 16
def oc31 (s : Nat) : Nat:=oc27 s + oc27 s / 2 ^ 32
theorem oc_ok : ∀ s,s < 64 → oc8 s < 1000 ∧ oc14 s < 1000 ∧ oc18 s < 1000 ∧ oc19 s < 1000 ∧ oc23 s < 1000 ∧ oc27 s < 1000 ∧ oc31 s = (bitsL s 6).length:=by decide
theorem Ones64_spec (s : Nat) (hs : s < 64) (I : PH) : FnSpec Tryz.prog 238 [.int .u64 (s : Int)] I [] (fun u R' => u = .int .i64 ((bitsL s 6).length : Int) ∧ R' = []):=by
 obtain ⟨g8,g14,g18,g19,g23,g27,g31⟩:=oc_ok s hs
 have hl6:=bitsL_len s 6
 rw [← g31] at hl6 ⊢
 obtain ⟨v4,h4⟩ : ∃ v,v = s / 2 ^ 1:=⟨_,rfl⟩
 obtain ⟨v5,h5⟩ : ∃ v,v = v4 &&& 6148914691236517205:=⟨_,rfl⟩
 obtain ⟨v7,h7⟩ : ∃ v,v = s &&& 6148914691236517205:=⟨_,rfl⟩
 have h8 : oc8 s = v5 + v7:=by rw [h5,h7,h4]; rfl
 have e10 : oc14 s = (oc8 s / 2 ^ 2 &&& 3689348814741910323) + (oc8 s &&& 3689348814741910323):=rfl
 have e18 : oc18 s = oc14 s / 2 ^ 4 + oc14 s:=rfl
 have e19 : oc19 s = oc18 s &&& 1085102592571150095:=rfl
 have e23 : oc23 s = oc19 s + oc19 s / 2 ^ 8:=rfl
 have e27 : oc27 s = oc23 s + oc23 s / 2 ^ 16:=rfl
 have e31 : oc31 s = oc27 s + oc27 s / 2 ^ 32:=rfl
 generalize oc8 s = v8 at *
 generalize oc14 s = v14 at *
 generalize oc18 s = v18 at *
 generalize oc19 s = v19 at *
 generalize oc23 s = v23 at *
 generalize oc27 s = v27 at *
 generalize oc31 s = v31 at *
 obtain ⟨v10,h10⟩ : ∃ v,v = v8 / 2 ^ 2:=⟨_,rfl⟩
 rw [← h10] at e10
 obtain ⟨v11,h11⟩ : ∃ v,v = v10 &&& 3689348814741910323:=⟨_,rfl⟩
 obtain ⟨v13,h13⟩ : ∃ v,v = v8 &&& 3689348814741910323:=⟨_,rfl⟩
 rw [← h11,← h13] at e10
 obtain ⟨v16,h16⟩ : ∃ v,v = v14 / 2 ^ 4:=⟨_,rfl⟩
 rw [← h16] at e18
 obtain ⟨v22,h22⟩ : ∃ v,v = v19 / 2 ^ 8:=⟨_,rfl⟩
 rw [← h22] at e23
 obtain ⟨v26,h26⟩ : ∃ v,v = v23 / 2 ^ 16:=⟨_,rfl⟩
 rw [← h26] at e27
 obtain ⟨v30,h30⟩ : ∃ v,v = v27 / 2 ^ 32:=⟨_,rfl⟩
 rw [← h30] at e31
 have b4 : v4 < 64:=by rw [h4]; exact Nat.lt_of_le_of_lt (Nat.div_le_self _ _) hs
 have b10 : v10 < 1000:=by rw [h10]; exact Nat.lt_of_le_of_lt (Nat.div_le_self _ _) g8
 clear g31
 refine FnSpec.enterP Tryz.func238 rfl Tryz.ntmps238 rfl fun w F => ?_
 repeat' first | refine kW ?_ | (refine Nx.zo ?_; first | refine kP ?_ | refine Nx.bin rfl rfl (run_shrUN (n:=1) rfl (by omega) h4) rfl ?_ | refine Nx.bin rfl rfl (run_andUN (b:=6148914691236517205) rfl (by omega) (by omega) h5) rfl ?_ | refine Nx.bin rfl rfl (run_andUN (b:=6148914691236517205) rfl (by omega) (by omega) h7) rfl ?_ | refine Nx.bin rfl rfl (run_addUN h8 (by omega)) rfl ?_ | refine Nx.bin rfl rfl (run_shrUN (n:=2) rfl (by omega) h10) rfl ?_ | refine Nx.bin rfl rfl (run_andUN (b:=3689348814741910323) rfl (by omega) (by omega) h11) rfl ?_ | refine Nx.bin rfl rfl (run_andUN (b:=3689348814741910323) rfl (by omega) (by omega) h13) rfl ?_ | refine Nx.bin rfl rfl (run_addUN e10 (by omega)) rfl ?_ | refine Nx.bin rfl rfl (run_shrUN (n:=4) rfl (by omega) h16) rfl ?_ | refine Nx.bin rfl rfl (run_addUN e18 (by omega)) rfl ?_ | refine Nx.bin rfl rfl (run_andUN (b:=1085102592571150095) rfl (by omega) (by omega) e19) rfl ?_ | refine Nx.bin rfl rfl (run_shrUN (n:=8) rfl (by omega) h22) rfl ?_ | refine Nx.bin rfl rfl (run_addUN e23 (by omega)) rfl ?_ | refine Nx.bin rfl rfl (run_shrUN (n:=16) rfl (by omega) h26) rfl ?_ | refine Nx.bin rfl rfl (run_addUN e27 (by omega)) rfl ?_ | refine Nx.bin rfl rfl (run_shrUN (n:=32) rfl (by omega) h30) rfl ?_ | refine Nx.bin rfl rfl (run_addUN e31 (by omega)) rfl ?_ | refine Nx.conv_i64 (p:=(v31 : Int)) rfl rfl rfl (by unfold I64; omega) rfl ?_ | refine Nx.bin rfl rfl (run_and127 hl6) rfl ?_) | refine kS ?_ | refine kB fun bx => ?_ | refine kA fun A2 c2 => ?_ | refine kX (fun hc => ?_) fun hc => ?_ | fail
 exact kT
theorem Ones_spec (s : Nat) (hs : s < 64) (I : PH) : FnSpec Tryz.prog 199 [.int .u64 (s : Int)] I [] (fun u R' => u = .int .i64 ((bitsL s 6).length : Int) ∧ R' = []):=by
 have h:=Ones64_spec s hs I
 refine FnSpec.enterP Tryz.func199 rfl Tryz.ntmps199 rfl fun w F => ?_
 repeat' first | refine kW ?_ | (refine Nx.zo ?_; first | refine kP ?_ | refine kV h ?_) | refine kS ?_ | refine kB fun bx => ?_ | refine kA fun A2 c2 => ?_ | refine kX (fun hc => ?_) fun hc => ?_ | fail
 exact kT
def cfN (w : List Int) (n : Nat) : Nat → Nat → Int:=orC (fun a b => cmpI (wSum w (bitsL a n)) (wSum w (bitsL b n))) (orC (fun a b => cmpI ((bitsL a n).length : Int) ((bitsL b n).length : Int)) (fun a b => cmpL (bitsL a n) (bitsL b n)))
theorem cfN_le (w : List Int) (n : Nat) : LeC (cfN w n):=(cmpI_le.comap fun a => wSum w (bitsL a n)).or ((cmpI_le.comap fun a => ((bitsL a n).length : Int)).or (cmpL_le.comap fun a => bitsL a n))
theorem cfN_nz (w : List Int) (n a b : Nat) : firstNZ [cmpI (wSum w (bitsL a n)) (wSum w (bitsL b n)),cmpI ((bitsL a n).length : Int) ((bitsL b n).length : Int),cmpL (bitsL a n) (bitsL b n)] = cfN w n a b:=by
 unfold cfN orC
 dsimp only
 unfold firstNZ firstNZ firstNZ firstNZ
 split
 ·rfl
 ·split
  ·rfl
  ·split <;> omega
theorem ord_spec (A : Option Addr) (ca bb : Nat) (w : List Int) (a b : Nat) (I : PH) (hA : Ints I A ca w) (hw : WOk w) (hw6 : w.length ≤ 6) (ha : a < 2 ^ w.length) (hb : b < 2 ^ w.length) (rb : ∀ (W : World) (R : List Res),Rd W I R ⟨bb,0,none⟩ (.slice A w.length ca)) :
  FnSpec Tryz.prog 196 [.int .i64 (a : Int),.int .i64 (b : Int),.pointer (some ⟨bb,0,none⟩)] I [] (fun u R' => u = .int .i64 (cfN w w.length a b) ∧ R' = []):=by
 have h64 : ∀ s,s < 2 ^ w.length → s < 64:=fun s hs => Nat.lt_of_lt_of_le hs (by have:=Nat.pow_le_pow_right (n:=2) (by decide) hw6; simpa using this)
 have h6 : ∀ s,s < 2 ^ w.length → bitsL s 6 = bitsL s w.length:=fun s hs => by
  have:=bitsL_same hs (6 - w.length)
  rwa [show w.length + (6 - w.length) = 6 by omega] at this
 have hSa:=sum_spec A ca w a I hA hw hw6 ha
 have hSb:=sum_spec A ca w b I hA hw hw6 hb
 have hOa:=Ones_spec a (h64 a ha) I
 have hOb:=Ones_spec b (h64 b hb) I
 have hLa:=list_spec a (h64 a ha) I
 have hLb:=list_spec b (h64 b hb) I
 have hca : (a : Int) % B64 = (a : Int):=by unfold B64; have:=h64 a ha; omega
 have hcb : (b : Int) % B64 = (b : Int):=by unfold B64; have:=h64 b hb; omega
 have hnz:=cfN_nz w w.length a b
 rw [h6 a ha] at hOa hLa
 rw [h6 b hb] at hOb hLb
 have hC1:=Compare_spec (wSum w (bitsL a w.length)) (wSum w (bitsL b w.length)) I
 have hC2:=Compare_spec ((bitsL a w.length).length : Int) ((bitsL b w.length).length : Int) I
 generalize wSum w (bitsL a w.length) = wa at *
 generalize wSum w (bitsL b w.length) = wb at *
 have hC3:=fun (A1 A2 : Option Addr) (c1 c2 : Nat) (m' I' : PH) (hle : PH.le I I') (hm : PH.le m' I') (hv : Stars [iR A1 c1 (bitsL a w.length),iR A2 c2 (bitsL b w.length)] m') => (by
  obtain ⟨q0,z0,y0⟩:=Stars.get 0 hv rfl
  obtain ⟨q1,z1,y1⟩:=Stars.get 1 hv rfl
  exact CompareL_spec A1 A2 c1 c2 _ _ I' (Vec.sliceOf (z0.trans hm) y0) (Vec.sliceOf (z1.trans hm) y1) :
  FnSpec Tryz.prog 200 [.slice A1 (bitsL a w.length).length c1,.slice A2 (bitsL b w.length).length c2] I' [] (fun u R' => u = .int .i64 (cmpL (bitsL a w.length) (bitsL b w.length)) ∧ R' = []))
 generalize cmpI wa wb = d1 at hC1 hnz
 generalize cmpI ((bitsL a w.length).length : Int) ((bitsL b w.length).length : Int) = d2 at hC2 hnz
 generalize cmpL (bitsL a w.length) (bitsL b w.length) = d3 at hC3 hnz
 have hOr:=fun (bp : Nat) (m' I' : PH) (hle : PH.le I I') (hm : PH.le m' I') (hv : Stars [Blk bp 3 [.int .i64 d1,.int .i64 d2,.int .i64 d3]] m') => (by
  obtain ⟨q0,z0,y0⟩:=Stars.get 0 hv rfl
  have:=Or_spec (some ⟨bp,0,none⟩) 3 [d1,d2,d3] I' (Blk.sliceOf (t:=3) (l:=[d1,d2,d3]) (z0.trans hm) y0 (by unfold maxLen; simp))
  rw [hnz] at this
  exact this :
  FnSpec Tryz.prog 197 [.slice (some ⟨bp,0,none⟩) 3 3] I' [] (fun u R' => u = .int .i64 (cfN w w.length a b) ∧ R' = []))
 generalize cfN w w.length a b = z at hOr hnz
 clear hnz
 refine FnSpec.enterP Tryz.func196 rfl Tryz.ntmps196 rfl fun w0 F => ?_
 repeat' first | ((with_reducible refine Nx.is_wp ?_); first | refine Nx.wo ?_ | refine kD 1 [0,1,3,4,7,8,10,11,14,16,2,5,6,9,12,13,15,17,18,19,20,21] [2,5,6,9,12,13,15,17,18,19,20] ?_) | (refine Nx.zo ?_; first | refine kP ?_ | refine kV hSa ?_ | refine kV hSb ?_ | refine kV hC1 ?_ | refine kV hOa ?_ | refine kV hOb ?_ | refine kV hC2 ?_ | (refine kC hLa ?_; rintro _ _ ⟨A1,c1,rfl,rfl⟩) | (refine kC hLb ?_; rintro _ _ ⟨A2,c2,rfl,rfl⟩) | (refine Nx.call rfl rfl rfl (by kernel_rfl) rfl (FnSpec.keep [iR _ _ (bitsL a w.length),iR _ _ (bitsL b w.length)] fun m' I' hle hm' hv => hC3 _ _ _ _ m' I' hle hm' hv) (by exact zE) ?_; rintro _ _ ⟨_,⟨rfl,rfl⟩,rfl⟩) | (refine Nx.call rfl rfl rfl (by kernel_rfl) rfl (FnSpec.keep [Blk _ 3 [.int .i64 d1,.int .i64 d2,.int .i64 d3]] fun m' I' hle hm' hv => hOr _ m' I' hle hm' hv) (by exact zE) ?_; rintro _ _ ⟨_,⟨rfl,rfl⟩,rfl⟩)) | refine kS ?_ | refine kB fun bx => ?_ | refine kA fun A2 c2 => ?_ | ((with_reducible refine Nx.is_mix ?_); refine kQ rfl rfl rfl rfl (by first | exact .inl rfl | exact .inr ⟨_,_,_,rfl,rfl,rfl⟩) (by first | exact QRun.opr rfl | exact QRun.load rfl rfl (rb _ _) | exact QRun.convN (q:=a) rfl rfl rfl hca | exact QRun.convN (q:=b) rfl rfl rfl hcb) ?_) | refine kX (fun hc => ?_) fun hc => ?_ | fail
 exact kT
abbrev Sb (n : Nat):={s : Nat // s < 2 ^ n}
instance (n : Nat) : Inhabited (Sb n):=⟨⟨0,Nat.two_pow_pos n⟩⟩
def allS (n : Nat) : List (Sb n):=(List.range (2 ^ n)).attach.map fun x => ⟨x.1,List.mem_range.1 x.2⟩
theorem allS_val (n : Nat) : (allS n).map (fun x => (x.1 : Int)) = (List.range (2 ^ n)).map fun k : Nat => (k : Int):=by
 unfold allS
 rw [List.map_map]
 conv => rhs; rw [← List.attach_map_subtype_val (List.range (2 ^ n)),List.map_map]
 rfl
theorem mem_allS {n : Nat} (s : Sb n) : s ∈ allS n:=by
 unfold allS
 exact List.mem_map.2 ⟨⟨s.1,List.mem_range.2 s.2⟩,List.mem_attach _ _,rfl⟩
theorem allS_len (n : Nat) : (allS n).length = 2 ^ n:=by unfold allS; simp
end Go.Proofs.YtpcnapidlhpbkaaGreatDoor
namespace Go.Proofs.YtpcnapidlhpbkaaGreatDoor
open Go.Eng Go.Sol
def setsI {n : Nat} (L : List (Sb n)) : List Int:=L.map fun x => (x.1 : Int)
theorem setsI_len {n : Nat} (L : List (Sb n)) : (setsI L).length = L.length:=by unfold setsI; rw [lMp]
def encS {n : Nat} (x : Sb n) : Value:=.int .i64 (x.1 : Int)
theorem setsI_enc {n : Nat} (L : List (Sb n)) : (setsI L).map (Value.int .i64) = L.map encS:=by unfold setsI; rw [List.map_map]; rfl
theorem SortS_spec (A : Option Addr) (c : Nat) (Aw : Option Addr) (ca bb : Nat) (w : List Int) (I : PH) (hA : Ints I Aw ca w) (hw : WOk w) (hw6 : w.length ≤ 6) (rb : ∀ (W : World) (R : List Res),Rd W I R ⟨bb,0,none⟩ (.slice Aw w.length ca)) :
  FnSpec Tryz.prog 195 [.slice A (setsI (allS w.length)).length c,.func (.func 196) #[] #[.pointer (some ⟨bb,0,none⟩)]] I [iR A c (setsI (allS w.length))]
   (fun v R' => v = .tuple #[] ∧ ∃ L : List (Sb w.length),L.Perm (allS w.length) ∧ L.Pairwise (fun x y => ltOf (fun a b : Sb w.length => cfN w w.length a.1 b.1) y x = false) ∧ R' = [iR A c (setsI L)]):=by
 intro w0 F hw0
 rcases vec_cases (l:=setsI (allS w.length)) hw0 with ⟨_,h0,_⟩ | ⟨b,rfl,_⟩
 ·have h1:=setsI_len (allS w.length)
  rw [h0,allS_len] at h1
  have:=Nat.two_pow_pos w.length
  simp only [List.length_nil] at h1
  omega
 ·have h:=sort1_spec (I:=I) (t:=3) srtF encS (fun _ => rfl) (fun a b : Sb w.length => cfN w w.length a.1 b.1) ((cfN_le w w.length).comap fun a : Sb w.length => a.1).swo 196 [.pointer (some ⟨bb,0,none⟩)] (enters_of Tryz.func196 (by kernel_rfl) rfl) (fun x y => ord_spec Aw ca bb w x.1 y.1 I hA hw hw6 x.2 y.2 rb) b c (allS w.length) (by rw [allS_len]; have:=Nat.pow_le_pow_right (n:=2) (by decide) hw6; omega)
  have hw1 : St w0 I ([Vec 3 1 (some ⟨b,0,none⟩) (allS w.length).length c ((allS w.length).map encS)] ++ [F]) w0:=by
   unfold iR at hw0
   rw [setsI_len,setsI_enc] at hw0
   exact hw0
  rw [setsI_len]
  refine (h w0 F hw1).mono fun e w' => ?_
  rintro ⟨v,R',rfl,⟨rfl,L,hp,hs,rfl⟩,hst⟩
  refine ⟨_,_,rfl,⟨rfl,L,hp,hs,rfl⟩,?_⟩
  unfold iR
  rw [setsI_len,setsI_enc]
  exact hst
attribute [local irreducible] opK wpList Code.wp Exit.then Exit.inBlock fnPost bodyPost Nx Calls Oper.wp Rd Rds Wr Ent Stars Blk Again Vec FnSpec wpMix QRun Stop Upto wpAt
def rangeI (k : Nat) : List Int:=(List.range k).map fun j : Nat => (j : Int)
theorem rangeI_len (k : Nat) : (rangeI k).length = k:=by unfold rangeI; simp
theorem rangeI_succ (k : Nat) : rangeI (k + 1) = rangeI k ++ [(k : Int)]:=by unfold rangeI; rw [List.range_succ,mAp]; rfl
theorem ordered_spec (A : Option Addr) (ca : Nat) (w : List Int) (I : PH) (hA : Ints I A ca w) (hw : WOk w) (hw6 : w.length ≤ 6) :
  FnSpec Tryz.prog 143 [.slice A w.length ca] I [] (fun u R' => ∃ (A' : Option Addr) (c' : Nat) (L : List (Sb w.length)),u = .slice A' (setsI L).length c' ∧ L.Perm (allS w.length) ∧ L.Pairwise (fun x y => ltOf (fun a b : Sb w.length => cfN w w.length a.1 b.1) y x = false) ∧ R' = [iR A' c' (setsI L)]):=by
 obtain ⟨p,hp⟩ : ∃ p,p = 2 ^ w.length:=⟨_,rfl⟩
 have hp64 : p ≤ 64:=by rw [hp]; have:=Nat.pow_le_pow_right (n:=2) (by decide) hw6; simpa using this
 have hall : setsI (allS w.length) = rangeI p:=by rw [hp]; exact allS_val w.length
 have hSt:=fun (A' : Option Addr) (c' bb : Nat) (I' : PH) (hle : PH.le I I') (rb : ∀ (W : World) (R : List Res),Rd W I' R ⟨bb,0,none⟩ (.slice A w.length ca)) => SortS_spec A' c' A ca bb w I' (hA.mono hle) hw hw6 rb
 rw [hall,rangeI_len] at hSt
 refine FnSpec.enterP Tryz.func143 rfl Tryz.ntmps143 rfl fun w0 F => ?_
 repeat' first | refine kW ?_ | (refine Nx.zo ?_; first | refine kP ?_ | refine Nx.bin rfl rfl (run_shlK (.inl rfl) rfl hw6 hp) rfl ?_) | refine kS ?_ | refine kB fun bx => ?_ | refine kA fun A2 c2 => ?_ | refine kX (fun hc => ?_) fun hc => ?_ | fail
 revert bx; intro b1
 refine Nx.p_loop (σ:=Nat × Option Addr × Nat) (fun q => [(1,.pointer (some ⟨b1,0,none⟩)),(3,.slice q.2.1 q.1 q.2.2),(7,.int .i64 (p : Int)),(8,.int .i64 (q.1 : Int))])
  (fun q => [Vec 3 1 q.2.1 q.1 q.2.2 ((rangeI q.1).map (Value.int .i64)),Blk b1 31 [.slice A w.length ca],F]) (fun q => q.1 ≤ p) (fun q => p - q.1) (0,none,0) rfl (nZl _) zR ((Ent.vec_nil 3 1 _).trans (by exact zE)) ?_
 rintro ⟨k,A',c'⟩ hk
 dsimp only at hk ⊢
 by_cases hkp : k < p
 ·repeat' first | refine kS ?_ | refine kB fun bx => ?_ | refine kA fun A2 c2 => ?_ | refine kX (fun hc => ?_) fun hc => ?_ | fail
  exact Nx.again (k + 1,A2,c2) hkp (by dsimp only; omega) zR (by dsimp only; rw [rangeI_succ,mAp]; (exact zE))
 obtain rfl : k = p:=by omega
 refine Nx.freezeAt 1 rfl fun I2 m2 hI2 hm2 hb2 => ?_
 have rb : ∀ (W : World) (R : List Res),Rd W I2 R ⟨b1,0,none⟩ (.slice A w.length ca):=fun W R => Rd.imm (cellH_mono hm2 (Blk.cell hb2 rfl))
 repeat' first | refine kW ?_ | (refine Nx.zo ?_; first | refine kP ?_ | (refine Nx.call rfl rfl rfl (by kernel_rfl) rfl (hSt _ _ b1 I2 hI2 rb) (by unfold iR; rw [rangeI_len]; (exact zE)) ?_; rintro _ _ ⟨rfl,L,hpm,hps,rfl⟩)) | refine kS ?_ | refine kB fun bx => ?_ | refine kA fun A2 c2 => ?_ | refine kX (fun hc => ?_) fun hc => ?_ | fail
 have hl : (setsI L).length = k:=by rw [setsI_len,hpm.length_eq,allS_len,hp]
 exact Nx.imm_le hI2 (Nx.ret_fn rfl [_] ⟨A',c',L,by rw [hl],hpm,hps,rfl⟩ (by exact zE))
end Go.Proofs.YtpcnapidlhpbkaaGreatDoor
namespace Go.Proofs.YtpcnapidlhpbkaaGreatDoor
open Go.Eng Go.Sol
def vStrip (v : List Row) : List Row:=v.map fun r => (none,0,r.2.2)
theorem vStrip_len (v : List Row) : (vStrip v).length = v.length:=by unfold vStrip; rw [lMp]
theorem vStrip_at (v : List Row) (k : Nat) : ((vStrip v).getD k default).2.2 = (v.getD k default).2.2:=by
 unfold vStrip
 rw [gEl,gMp,gEl]
 cases v[k]? <;> rfl
theorem szs_strip (v : List Row) : szs (vStrip v) = szs v:=by unfold szs vStrip; rw [List.map_map]; rfl
theorem gsOf_strip (v : List Row) (xs : List Int) : gsOf (vStrip v) xs = gsOf v xs:=by
 unfold gsOf
 rw [vStrip_len]
 exact List.map_congr_left fun i _ => by rw [vStrip_at]
theorem pubOf_strip (l : List Int) (v : List Row) (n : Nat) : pubOf l (vStrip v) n = pubOf l v n:=by unfold pubOf; rw [gsOf_strip,szs_strip,vStrip_len]
theorem memK_strip (l : List Int) (v : List Row) (k : Int) (n : Nat) : memK l (vStrip v) k n = memK l v k n:=by
 unfold memK
 congr 1
 exact List.filter_congr fun j _ => by rw [pubOf_strip]
theorem toldK_strip (l : List Int) (v : List Row) (vs : List Int) : ∀ j,toldK l (vStrip v) vs j = toldK l v vs j
 | 0 => rfl
 | j + 1 => by rw [toldK,toldK,toldK_strip l v vs j,memK_strip]
def rStrip (r : Rel) : Rel:=⟨r.num,none,0,vStrip r.v,(none,0,r.val.2.2)⟩
theorem told_strip (l : List Int) (r : Rel) : told l (rStrip r) = told l r:=toldK_strip l r.v r.val.2.2 _
theorem relE_strip (l : List Int) (r : Rel) (b : Int) : relE l (rStrip r) b = relE l r b:=by
 unfold relE rStrip
 dsimp only
 rw [szs_strip]
theorem relsF_strip (l : List Int) : ∀ (rs : List Rel) (b : Int),relsF l b (rs.map rStrip) = relsF l b rs
 | [],_ => rfl
 | r :: rs,b => by
  rw [List.map_cons,relsF,relsF,relE_strip,relsF_strip l rs]
  rfl
theorem relsE_strip (l : List Int) (rs : List Rel) : relsE l (rs.map rStrip) = relsE l rs:=by unfold relsE; rw [lMp,relsF_strip]
theorem qsOf_strip (l : List Int) (rs : List Rel) : qsOf l (rs.map rStrip) = qsOf l rs:=by
 unfold qsOf
 rw [List.flatMap_map]
 rw [List.flatMap_def,List.flatMap_def,List.map_congr_left fun r _ => told_strip l r]
theorem rchD_strip (l : List Int) (rs : List Rel) : rchD l (rs.map rStrip) = rchD l rs:=by unfold rchD; rw [relsE_strip,qsOf_strip]
theorem chkD_strip (l : List Int) (rs : List Rel) (p : List Int) (m : Int) : chkD l (rs.map rStrip) p m = chkD l rs p m:=by unfold chkD; rw [relsE_strip]
theorem findD_strip (l : List Int) (rs : List Rel) (p : List Int) (m : Int) : findD l (rs.map rStrip) p m = findD l rs p m:=by unfold findD; rw [chkD_strip,rchD_strip]
theorem find_same {l : List Int} {rs rs' : List Rel} (h : rs.map rStrip = rs'.map rStrip) (p : List Int) (m : Int) : findD l rs p m = findD l rs' p m:=by rw [← findD_strip l rs,h,findD_strip]
theorem viewed_strip {l : List Int} {v v' : List Row} (h : vStrip v = vStrip v') (hw : Viewed l v) : Viewed l v':=by
 have hl : v.length = v'.length:=by rw [← vStrip_len v,h,vStrip_len]
 refine ⟨by rw [← hl]; exact hw.len,fun k hk => ?_⟩
 have h1:=vStrip_at v k
 rw [h,vStrip_at] at h1
 rw [h1]
 exact hw.each k hk
def hidL (vs L : List Int) : List Int:=L.foldl (fun vs k => vs.set k.toNat (-1)) vs
theorem hidL_snoc (vs L : List Int) (x : Int) : hidL vs (L ++ [x]) = (hidL vs L).set x.toNat (-1):=by unfold hidL; rw [List.foldl_append]; rfl
theorem hidL_len : ∀ (L vs : List Int),(hidL vs L).length = vs.length
 | [],_ => rfl
 | x :: L,vs => by
  have:=hidL_len L (vs.set x.toNat (-1))
  rw [List.length_set] at this
  exact this
def inB (n k : Int) : Bool:=decide (0 ≤ k ∧ k < n)
def hideE (vs L : List Int) : Int:=if L.Pairwise (· < ·) then if L.all (inB vs.length) = true then 0 else 2 else 11
def hidR (r : Rel) (L : List Int) : Rel:=⟨r.num,none,0,vStrip r.v,(none,0,hidL r.val.2.2 L)⟩
theorem vStrip_idem (v : List Row) : vStrip (vStrip v) = vStrip v:=by unfold vStrip; rw [List.map_map]; rfl
def protF (l : List Int) (es : List Rel) (r : Rel) (L p : List Int) (m : Int) : Bool × Int :=
 if hideE r.val.2.2 L ≠ 0 then (false,hideE r.val.2.2 L) else (safeB l (es ++ [hidR r L]) p m,(findD l (es ++ [hidR r L]) p m).2)
theorem prot_same {l : List Int} {es : List Rel} {r r' : Rel} {L p : List Int} {m : Int} (h1 : r'.num = r.num) (h2 : vStrip r'.v = vStrip r.v) (h3 : r'.val.2.2 = hidL r.val.2.2 L) : findD l (es ++ [r']) p m = findD l (es ++ [hidR r L]) p m:=by
 refine find_same ?_ p m
 rw [mAp,mAp]
 congr 1
 unfold hidR rStrip
 simp only [List.map_cons,List.map_nil]
 rw [h1,h2,h3,vStrip_idem]
attribute [local irreducible] opK wpList Code.wp Exit.then Exit.inBlock fnPost bodyPost Nx Calls Oper.wp Rd Rds Wr Ent Stars Blk Again Vec FnSpec wpMix QRun Stop Upto wpAt
theorem relR_nil (R : List Res) : Ent R (relR default :: R) :=
 (Ent.vec_nil 3 1 R).trans ((Ent.stars_nil _).trans ((Ent.vec_nil 31 1 _).trans ((Ent.stars (B:=[Vec 31 1 none 0 0 [],Stars []])).trans (Ent.stars (B:=[ViewR none 0 [],rowR (none,0,[])])))))
def HidePost (r : Rel) (L : List Int) (u : Value) (R' : List Res) : Prop :=
 ∃ r' : Rel,u = .tuple #[.agg (relC r').toArray,.int .i64 (hideE r.val.2.2 L)] ∧ (hideE r.val.2.2 L = 0 → r'.num = r.num ∧ vStrip r'.v = vStrip r.v ∧ r'.val.2.2 = hidL r.val.2.2 L) ∧ (hideE r.val.2.2 L ≠ 0 → r' = default) ∧ R' = [relR r']
theorem not_pw {L : List Int} {i : Nat} (hi : i + 1 < L.length) (h : ¬ L.getD i default < L.getD (i + 1) default) : ¬ L.Pairwise (· < ·):=fun hp => h (adj_of hp hi)
theorem HideP_spec (B : Option Addr) (cb : Nat) (L : List Int) (r : Rel) (I : PH) (hv : RowsOf I r.va r.vc r.v) (hd : Ints I r.val.1 r.val.2.1 r.val.2.2) (hB : Ints I B cb L) (hv9 : r.v.length ≤ 1000) (hrow : ∀ x ∈ r.v,x.2.2.length ≤ 1000) (hd9 : r.val.2.2.length ≤ 1000) :
  FnSpec Tryz.prog 201 [.agg #[.int .i64 r.num,.slice r.va r.v.length r.vc,rowV r.val],.slice B L.length cb] I [] (HidePost r L):=by
 obtain ⟨num,va,vc,v,D,cd,vs⟩:=r
 unfold HidePost
 dsimp only at hv hd hv9 hrow hd9 ⊢
 have hBl:=hB.len
 have hvl:=hv.outer.len
 refine FnSpec.enterP Tryz.func201 rfl Tryz.ntmps201 rfl fun w F => ?_
 repeat' first | refine kS ?_ | refine kB fun bx => ?_ | refine kA fun A2 c2 => ?_ | refine kX (fun hc => ?_) fun hc => ?_ | fail
 rename_i b2
 revert bx; intro b4
 refine Nx.p_loop (σ:=Nat) (fun i => [(1,.slice B L.length cb),(2,.pointer (some ⟨b2,0,none⟩)),(4,.pointer (some ⟨b4,0,none⟩)),(5,.int .i64 0),(6,.int .i64 ((i + 1 : Nat) : Int))])
  (fun _ => [Blk b4 116 [.int .i64 0,.slice none 0 0,.slice none 0 0],Blk b2 116 [.int .i64 num,.slice va v.length vc,.slice D vs.length cd],F]) (fun i => i ≤ L.length ∧ ∀ j,j < i → j + 1 < L.length → L.getD j default < L.getD (j + 1) default) (fun i => L.length - i) 0 rfl ⟨nZl _,fun j hj => absurd hj (Nat.not_lt_zero _)⟩ zR (by exact zE) ?_
 rintro i ⟨hi,hall⟩
 by_cases hlt : i + 1 < L.length
 ·have hnp:=not_pw hlt
  have r1:=fun (W : World) (R : List Res) => hB.rd (W:=W) (R:=R) (k:=i) (by omega)
  have r2:=fun (W : World) (R : List Res) => hB.rd (W:=W) (R:=R) hlt
  have hnx : ∀ j,j < i + 1 → L.getD i default < L.getD (i + 1) default → j + 1 < L.length → L.getD j default < L.getD (j + 1) default:=fun j hj hx h => by
   rcases Nat.lt_or_ge j i with h' | h'
   ·exact hall j h' h
   ·rw [show j = i by omega]; exact hx
  generalize L.getD i default = x at hnp r1 hnx
  generalize L.getD (i + 1) default = y at hnp r2 hnx
  have hi1 : (((i + 1 : Nat) : Int) - 1).toNat = i:=by omega
  have r1' : ∀ (W : World) (R : List Res),Rd W I R ((ad B).add ((((i + 1 : Nat) : Int) - 1).toNat * 1)) (.int .i64 x):=fun W R => by rw [hi1]; exact r1 W R
  by_cases hxy : x < y
  ·repeat' first | ((with_reducible refine Nx.is_wp ?_); first | refine Nx.wo ?_ | refine kD 4 [0,1,2,3,4,5,6,7,8,9] [] ?_ | refine kD 10 [0,1,2,3,4,5,6,7,8,9] [4,5,6,9] ?_) | refine kS ?_ | refine kB fun bx => ?_ | refine kA fun A2 c2 => ?_ | ((with_reducible refine Nx.is_mix ?_); refine kQ rfl rfl rfl rfl (by first | exact .inl rfl | exact .inr ⟨_,_,_,rfl,rfl,rfl⟩) (by first | exact QRun.opr rfl | exact QRun.idxi (A:=B) (i:=((i + 1 : Nat) : Int) - 1) (sz:=1) rfl rfl rfl rfl (by omega) (by omega) (hB.isSome (by omega)) | exact QRun.idx (A:=B) (i:=i + 1) (sz:=1) rfl rfl rfl rfl (by omega) (hB.isSome (by omega)) | exact QRun.load rfl rfl (r1' _ _) | exact QRun.load rfl rfl (r2 _ _)) ?_) | refine kX (fun hc => ?_) fun hc => ?_ | fail
   exact Nx.again (i + 1) ⟨by omega,fun j hj h => hnx j hj hxy h⟩ (by omega) zR (by exact zE)
  ·have he : hideE vs L = 11:=if_neg (hnp hxy)
   rw [he]
   repeat' first | ((with_reducible refine Nx.is_wp ?_); first | refine Nx.wo ?_ | refine kD 4 [0,1,2,3,4,5,6,7,8,9] [] ?_ | refine kD 10 [0,1,2,3,4,5,6,7,8,9] [4,5,6,9] ?_) | refine kS ?_ | refine kB fun bx => ?_ | refine kA fun A2 c2 => ?_ | ((with_reducible refine Nx.is_mix ?_); refine kQ rfl rfl rfl rfl (by first | exact .inl rfl | exact .inr ⟨_,_,_,rfl,rfl,rfl⟩) (by first | exact QRun.opr rfl | exact QRun.idxi (A:=B) (i:=((i + 1 : Nat) : Int) - 1) (sz:=1) rfl rfl rfl rfl (by omega) (by omega) (hB.isSome (by omega)) | exact QRun.idx (A:=B) (i:=i + 1) (sz:=1) rfl rfl rfl rfl (by omega) (hB.isSome (by omega)) | exact QRun.load rfl rfl (r1' _ _) | exact QRun.load rfl rfl (r2 _ _)) ?_) | refine kX (fun hc => ?_) fun hc => ?_ | fail
   exact Nx.ret2 rfl (ROne.cell 0 rfl rfl rfl rfl rfl) (ROne.tmp rfl) [relR default] ⟨default,rfl,fun h => absurd h (by decide),fun _ => rfl,rfl⟩ ((relR_nil _).trans (by exact zE))
 have hpw : L.Pairwise (· < ·):=pairwise_adj fun j hj => hall j (by omega) hj
 have hCl:=CloneI_spec D cd vs I hd (by omega)
 repeat' first | ((with_reducible refine Nx.is_wp ?_); first | refine Nx.p_stopr 7 rfl ?_ | refine Nx.wo ?_ | refine kF 4 [0,1,2,3,4,5,6,7,8,9] [] [] ?_ | refine Nx.p_poolF (id:=6) rfl [0,1,2,3,4,5] [4] [] [7] [7] [⟨6,7,116,_⟩] rfl rfl (by kernel_rfl) (by kernel_rfl) (by decide) (PoolFit.cons ⟨⟨_,_,_,rfl⟩,rfl,rfl⟩ PoolFit.nil) PanicOk.auto (Ent.refl _) ?_ | refine kF 10 [0,1,2,3,4,5] [4,5] [6,7,8,9] ?_) | ((first | refine Nx.at_op rfl rfl ?_ | refine Nx.m_loud rfl rfl rfl ?_ | refine Nx.at_do rfl rfl rfl rfl ?_ | refine Nx.m_loud_do rfl rfl rfl rfl rfl ?_ | refine GoodF.loud_ rfl rfl rfl rfl (fun ex X => ?_)); first | refine kP ?_ | (refine kC hCl ?_; rintro _ _ ⟨D2,cd2,rfl,rfl⟩)) | refine kS ?_ | refine kB fun bx => ?_ | refine kA fun A2 c2 => ?_ | ((with_reducible refine GoodF.is ?_); first | refine GoodF.quiet rfl rfl rfl rfl rfl rfl (by first | exact QRun.opr rfl |  exact QRun.std) ?_ | refine GoodF.done1 rfl (fun bx => ?_) | refine GoodF.done2 rfl (fun bx by_ => ?_) | refine GoodF.done3 rfl (fun bx by_ bz => ?_)) | refine kX (fun hc => ?_) fun hc => ?_ | fail | ((fail_if_success (with_reducible refine Nx.is_at ?_)); (fail_if_success (with_reducible refine Nx.is_wp ?_)); (fail_if_success (with_reducible refine Nx.is_mix ?_)); first | refine Nx.ex ?_ | refine Nx.pool_nextF 0 rfl (by exact zE) ?_ | refine Nx.pool_nextF 1 rfl (by exact zE) ?_ | refine Nx.pool_nextF 2 rfl (by exact zE) ?_ | refine Nx.pool_nextF 3 rfl (by exact zE) ?_)
 refine Nx.unstop ?_
 revert bx; intro b7
 refine Nx.weak (e':=[(1,.slice B L.length cb),(2,.pointer (some ⟨b2,0,none⟩)),(4,.pointer (some ⟨b4,0,none⟩)),(5,.int .i64 0),(7,.pointer (some ⟨b7,0,none⟩))]) (R':=[Blk b7 116 [.int .i64 num,.slice none 0 0,.slice D2 vs.length cd2],iR D2 cd2 vs,Blk b4 116 [.int .i64 0,.slice none 0 0,.slice none 0 0],Blk b2 116 [.int .i64 num,.slice va v.length vc,.slice D vs.length cd],F]) zR (by exact zE) ?_
 repeat' first | refine kS ?_ | refine kB fun bx => ?_ | refine kA fun A2 c2 => ?_ | refine kX (fun hc => ?_) fun hc => ?_ | fail
 refine Nx.p_loop (σ:=Nat × Option Addr × Nat × List Row) (fun s => [(1,.slice B L.length cb),(2,.pointer (some ⟨b2,0,none⟩)),(4,.pointer (some ⟨b4,0,none⟩)),(5,.int .i64 0),(7,.pointer (some ⟨b7,0,none⟩)),(37,.slice va v.length vc),(38,.int .i64 v.length),(39,.int .i64 (s.1 : Int))])
  (fun s => [Blk b7 116 [.int .i64 num,.slice s.2.1 s.2.2.2.length s.2.2.1,.slice D2 vs.length cd2],Vec 31 1 s.2.1 s.2.2.2.length s.2.2.1 (s.2.2.2.map rowV),Stars (s.2.2.2.map rowR),iR D2 cd2 vs,Blk b2 116 [.int .i64 num,.slice va v.length vc,.slice D vs.length cd],Blk b4 116 [.int .i64 0,.slice none 0 0,.slice none 0 0],F])
  (fun s => s.1 ≤ v.length ∧ s.2.2.2.length = s.1 ∧ vStrip s.2.2.2 = vStrip (v.take s.1)) (fun s => v.length - s.1) (0,none,0,[]) rfl ⟨nZl _,rfl,rfl⟩ zR (((Ent.vec_nil 31 1 _).trans (Ent.stars_nil _)).trans (by exact zE)) ?_
 rintro ⟨q,A1,c1,o⟩ ⟨hq,hol,hos⟩
 dsimp only at hq hol hos ⊢
 by_cases hqv : q < v.length
 ·have hrow1:=hv.at hqv
  have hg9:=hrow _ (show v.getD q default ∈ v by rw [gEl,gEq hqv]; exact List.getElem_mem _)
  have hrd : ∀ (W : World) (R : List Res),Rd W I R ((ad va).add (q * 1)) (rowV (v.getD q default)):=fun W R => hv.outer.rd hqv
  have htk : vStrip (v.take (q + 1)) = vStrip (v.take q) ++ [(none,0,(v.getD q default).2.2)]:=by
   unfold vStrip
   rw [tSu hqv,mAp,gEl,gEq hqv]; rfl
  generalize v.getD q default = rw1 at hrow1 hg9 hrd htk
  obtain ⟨G,cg,g⟩:=rw1
  dsimp only at hrow1 hg9 htk
  replace hrd : ∀ (W : World) (R : List Res),Rd W I R ((ad va).add (q * 1)) (.slice G g.length cg):=hrd
  have hCg:=CloneI_spec G cg g I hrow1 (by omega)
  repeat' first | ((with_reducible refine Nx.is_wp ?_); first | refine Nx.wo ?_ | refine kF 4 [0,1,2,3,4,5,6,7,8,9] [] [] ?_ | refine Nx.p_poolF (id:=6) rfl [0,1,2,3,4,5] [4] [] [7] [7] [⟨6,7,116,_⟩] rfl rfl (by kernel_rfl) (by kernel_rfl) (by decide) (PoolFit.cons ⟨⟨_,_,_,rfl⟩,rfl,rfl⟩ PoolFit.nil) PanicOk.auto (Ent.refl _) ?_ | refine kF 10 [0,1,2,3,4,5] [4,5] [6,7,8,9] ?_) | ((first | refine Nx.at_op rfl rfl ?_ | refine Nx.m_loud rfl rfl rfl ?_ | refine Nx.at_do rfl rfl rfl rfl ?_ | refine Nx.m_loud_do rfl rfl rfl rfl rfl ?_ | refine GoodF.loud_ rfl rfl rfl rfl (fun ex X => ?_)); first | refine kP ?_ | refine Nx.indexAddr_nat (A:=va) (i:=q) (sz:=1) rfl rfl rfl rfl rfl hqv (hv.outer.isSome (by omega)) ?_ | refine Nx.load rfl rfl rfl (hrd _ _) ?_ | (refine kC hCg ?_; rintro _ _ ⟨G2,cg2,rfl,rfl⟩)) | refine kS ?_ | refine kB fun bx => ?_ | refine kA fun A2 c2 => ?_ | ((with_reducible refine GoodF.is ?_); first | refine GoodF.quiet rfl rfl rfl rfl rfl rfl (by first | exact QRun.opr rfl |  exact QRun.std) ?_ | refine GoodF.done1 rfl (fun bx => ?_) | refine GoodF.done2 rfl (fun bx by_ => ?_) | refine GoodF.done3 rfl (fun bx by_ bz => ?_)) | refine kX (fun hc => ?_) fun hc => ?_ | fail | ((fail_if_success (with_reducible refine Nx.is_at ?_)); (fail_if_success (with_reducible refine Nx.is_wp ?_)); (fail_if_success (with_reducible refine Nx.is_mix ?_)); first | refine Nx.ex ?_ | refine Nx.pool_nextF 0 rfl (by exact zE) ?_ | refine Nx.pool_nextF 1 rfl (by exact zE) ?_ | refine Nx.pool_nextF 2 rfl (by exact zE) ?_ | refine Nx.pool_nextF 3 rfl (by exact zE) ?_)
  refine Nx.again (q + 1,A2,c2,o ++ [(G2,cg2,g)]) ⟨hqv,by simp [hol],?_⟩ (by dsimp only; omega) zR ?_
  ·dsimp only
   rw [htk,← hos]
   unfold vStrip
   rw [mAp]; rfl
  ·dsimp only
   rw [lAp (bs:=[_]),List.length_singleton]
   refine Ent.trans (R':=[rowR (G2,cg2,g),Stars (o.map rowR),Blk b7 116 [.int .i64 num,.slice A2 (o.length + 1) c2,.slice D2 vs.length cd2],Vec 31 1 A2 (o.length + 1) c2 (o.map rowV ++ [.slice G2 g.length cg2]),iR D2 cd2 vs,Blk b2 116 [.int .i64 num,.slice va v.length vc,.slice D vs.length cd],Blk b4 116 [.int .i64 0,.slice none 0 0,.slice none 0 0],F]) (by unfold rowR; (exact zE)) (Ent.bundle.trans ?_)
   rw [mAp,mAp]
   exact (by exact zE)
 obtain rfl : q = v.length:=by omega
 rw [tLn] at hos
 repeat' first | refine kS ?_ | refine kB fun bx => ?_ | refine kA fun A2 c2 => ?_ | refine kX (fun hc => ?_) fun hc => ?_ | fail
 refine Nx.p_loop (σ:=Nat) (fun q => [(2,.pointer (some ⟨b2,0,none⟩)),(4,.pointer (some ⟨b4,0,none⟩)),(5,.int .i64 0),(7,.pointer (some ⟨b7,0,none⟩)),(53,.slice B L.length cb),(54,.int .i64 L.length),(55,.int .i64 (q : Int))])
  (fun q => [Vec 3 1 D2 vs.length cd2 ((hidL vs (L.take q)).map (Value.int .i64)),Blk b7 116 [.int .i64 num,.slice A1 o.length c1,.slice D2 vs.length cd2],Vec 31 1 A1 o.length c1 (o.map rowV),Stars (o.map rowR),Blk b2 116 [.int .i64 num,.slice va v.length vc,.slice D vs.length cd],Blk b4 116 [.int .i64 0,.slice none 0 0,.slice none 0 0],F])
  (fun q => q ≤ L.length ∧ ∀ k ∈ L.take q,inB vs.length k = true) (fun q => L.length - q) 0 rfl ⟨nZl _,by simp⟩ zR (by exact zE) ?_
 rintro q ⟨hq2,hin⟩
 have hhl:=hidL_len (L.take q) vs
 by_cases hql : q < L.length
 case neg =>
  rw [List.take_of_length_le (by omega)] at hhl hin ⊢
  have he : hideE vs L = 0:=by unfold hideE; rw [if_pos hpw,if_pos (List.all_eq_true.2 hin)]
  rw [he]
  repeat' first | refine kS ?_ | refine kB fun bx => ?_ | refine kA fun A2 c2 => ?_ | refine kX (fun hc => ?_) fun hc => ?_ | fail
  refine Nx.ret2 rfl (ROne.cell 0 rfl rfl rfl rfl rfl) (ROne.tmp rfl) [relR ⟨num,A1,c1,o,(D2,cd2,hidL vs L)⟩] ⟨⟨num,A1,c1,o,(D2,cd2,hidL vs L)⟩,by unfold relC rowV; dsimp only; rw [hidL_len],fun _ => ⟨rfl,hos,rfl⟩,fun h => absurd rfl h,rfl⟩ ?_
  refine Ent.trans (R':=[Vec 31 1 A1 o.length c1 (o.map rowV),Stars (o.map rowR),rowR (D2,cd2,hidL vs L),F]) (by unfold rowR; dsimp only; rw [hidL_len]; (exact zE)) ?_
  exact Ent.pack2.trans Ent.pack2
 have htk:=take_snocJ hql
 have hrd : ∀ (W : World) (R : List Res),Rd W I R ((ad B).add (q * 1)) (.int .i64 (L.getD q default)):=fun W R => hB.rd hql
 have hbad : ¬ inB vs.length (L.getD q default) = true → hideE vs L = 2:=fun h => by
  unfold hideE
  rw [if_pos hpw,if_neg]
  intro hall
  exact h (List.all_eq_true.1 hall _ (getD_memI hql))
 have hsn:=hidL_snoc vs (L.take q) (L.getD q default)
 rw [← htk] at hsn
 generalize L.getD q default = x at htk hrd hbad hsn
 by_cases hx : 0 ≤ x ∧ x < vs.length
 ·obtain ⟨y,rfl⟩ : ∃ y : Nat,x = y:=⟨x.toNat,by omega⟩
  rw [nCt] at hsn
  have hyl : y < vs.length:=by omega
  refine Nx.vec_fact fun _ _ _ hD2 => ?_
  have hD2:=hD2 (by omega)
  repeat' first | refine kW ?_ | (refine Nx.zo ?_; first | refine kP ?_ | refine Nx.indexAddr_nat (A:=B) (i:=q) (sz:=1) rfl rfl rfl rfl rfl hql (hB.isSome (by omega)) ?_ | refine Nx.load rfl rfl rfl (hrd _ _) ?_ | refine Nx.indexAddr_nat (A:=D2) (i:=y) (sz:=1) rfl rfl rfl rfl rfl hyl hD2 ?_ | refine Nx.store_ints 0 (A:=D2) (i:=y) (l:=hidL vs (L.take q)) rfl rfl rfl rfl (by omega) ?_) | refine kS ?_ | refine kB fun bx => ?_ | refine kA fun A2 c2 => ?_ | refine kX (fun hc => ?_) fun hc => ?_ | fail
  exact Nx.again (q + 1) ⟨hql,by rw [htk]; intro k hk; rcases List.mem_append.1 hk with h | h; exact hin k h; rw [List.mem_singleton.1 h]; exact decide_eq_true hx⟩ (by omega) zR (by rw [hsn]; (exact zE))
 ·rw [hbad (by unfold inB; rw [decide_eq_true_eq]; exact hx)]
  by_cases hx0 : x < 0
  ·repeat' first | refine kW ?_ | (refine Nx.zo ?_; first | refine kP ?_ | refine Nx.indexAddr_nat (A:=B) (i:=q) (sz:=1) rfl rfl rfl rfl rfl hql (hB.isSome (by omega)) ?_ | refine Nx.load rfl rfl rfl (hrd _ _) ?_) | refine kS ?_ | refine kB fun bx => ?_ | refine kA fun A2 c2 => ?_ | refine kX (fun hc => ?_) fun hc => ?_ | fail
   exact Nx.ret2 rfl (ROne.cell 0 rfl rfl rfl rfl rfl) (ROne.tmp rfl) [relR default] ⟨default,rfl,fun h => absurd h (by decide),fun _ => rfl,rfl⟩ ((relR_nil _).trans (by exact zE))
  ·repeat' first | refine kW ?_ | (refine Nx.zo ?_; first | refine kP ?_ | refine Nx.indexAddr_nat (A:=B) (i:=q) (sz:=1) rfl rfl rfl rfl rfl hql (hB.isSome (by omega)) ?_ | refine Nx.load rfl rfl rfl (hrd _ _) ?_) | refine kS ?_ | refine kB fun bx => ?_ | refine kA fun A2 c2 => ?_ | refine kX (fun hc => ?_) fun hc => ?_ | fail
   exact Nx.ret2 rfl (ROne.cell 0 rfl rfl rfl rfl rfl) (ROne.tmp rfl) [relR default] ⟨default,rfl,fun h => absurd h (by decide),fun _ => rfl,rfl⟩ ((relR_nil _).trans (by exact zE))
theorem behind_spec (A : Option Addr) (c : Nat) (es : List Rel) (r : Rel) (I : PH) (he : SliceN relC 3 I A c es) (h9 : es.length ≤ 1000) :
  FnSpec Tryz.prog 142 [.slice A es.length c,.agg #[.int .i64 r.num,.slice r.va r.v.length r.vc,rowV r.val]] I [] (fun u R' => ∃ (A' : Option Addr) (c' : Nat),u = .slice A' (es ++ [r]).length c' ∧ R' = [rlR A' c' (es ++ [r])]):=by
 have hCl:=CloneR_spec A c es I he (by omega)
 have h1 : (es ++ [r]).length = es.length + 1:=by rw [lAp]; rfl
 have h2 : (es ++ [r]).flatMap relC = es.flatMap relC ++ [.int .i64 r.num,.slice r.va r.v.length r.vc,rowV r.val]:=by rw [List.flatMap_append,List.flatMap_cons,List.flatMap_nil,List.append_nil]; rfl
 obtain ⟨num,va,vc,v,D,cd,vs⟩:=r
 unfold rowV at h2 ⊢
 dsimp only at h2 ⊢
 rw [h1]
 unfold rlR
 rw [h1,h2]
 refine FnSpec.enterP Tryz.func142 rfl Tryz.ntmps142 rfl fun w F => ?_
 repeat' first | ((with_reducible refine Nx.is_wp ?_); first | refine Nx.p_stopr 1 rfl ?_ | refine Nx.wo ?_) | refine kS ?_ | refine kB fun bx => ?_ | refine kA fun A2 c2 => ?_ | refine kX (fun hc => ?_) fun hc => ?_ | fail
 refine Nx.unstop ?_
 revert bx; intro b3
 refine Nx.p_seq rfl ?_
 refine Nx.p_fork (id:=1) rfl [0,2] [5] [1,3,4] [Blk b3 116 [.int .i64 num,.slice va v.length vc,.slice D vs.length cd]] 4 rfl rfl (by kernel_rfl) (by kernel_rfl) (by kernel_rfl) PanicOk.auto (by exact zE) ?_
 repeat' first | refine kS ?_ | refine kB fun bx => ?_ | refine kA fun A2 c2 => ?_ | refine kX (fun hc => ?_) fun hc => ?_ | fail
 refine Nx.fork2 (i:=1) (j:=3) (by kernel_rfl) rfl rfl rfl rfl ?_ ?_
 ·refine kC hCl ?_
  rintro _ _ ⟨A1,c1,rfl,rfl⟩
  refine Nx.mix_S (by exact zE) ?_
  refine Nx.fork1 (i:=3) (by kernel_rfl) rfl rfl ?_
  refine Nx.sb (fun b8 => ?_)
  refine Nx.mix_S (by exact zE) ?_
  refine Nx.fork1 (i:=4) (by kernel_rfl) rfl rfl ?_
  refine Nx.ent (R':=[Blk b8 116 [.int .i64 num,.slice va v.length vc,.slice D vs.length cd],rlR A1 c1 es,Blk b3 116 [.int .i64 num,.slice va v.length vc,.slice D vs.length cd],F]) (by exact zE) ?_
  refine Nx.append_lit 0 rfl rfl rfl rfl (by kernel_rfl) rfl rfl rfl rfl (by omega) fun A2 c2 => ?_
  refine Nx.mix_S (by exact zE) ?_
  refine Nx.fork_fin (by kernel_rfl) rfl ?_
  repeat' first | refine kS ?_ | refine kB fun bx => ?_ | refine kA fun A2 c2 => ?_ | refine kX (fun hc => ?_) fun hc => ?_ | fail
  exact Nx.ret_fn rfl [_] ⟨A2,c2,rfl,rfl⟩ (by exact zE)
 ·refine Nx.sb (fun b8 => ?_)
  refine Nx.mix_S (by exact zE) ?_
  refine Nx.fork1 (i:=1) (by kernel_rfl) rfl rfl ?_
  refine kC hCl ?_
  rintro _ _ ⟨A1,c1,rfl,rfl⟩
  refine Nx.mix_S (by exact zE) ?_
  refine Nx.fork1 (i:=4) (by kernel_rfl) rfl rfl ?_
  refine Nx.ent (R':=[Blk b8 116 [.int .i64 num,.slice va v.length vc,.slice D vs.length cd],rlR A1 c1 es,Blk b3 116 [.int .i64 num,.slice va v.length vc,.slice D vs.length cd],F]) (by exact zE) ?_
  refine Nx.append_lit 0 rfl rfl rfl rfl (by kernel_rfl) rfl rfl rfl rfl (by omega) fun A2 c2 => ?_
  refine Nx.mix_S (by exact zE) ?_
  refine Nx.fork_fin (by kernel_rfl) rfl ?_
  repeat' first | refine kS ?_ | refine kB fun bx => ?_ | refine kA fun A2 c2 => ?_ | refine kX (fun hc => ?_) fun hc => ?_ | fail
  exact Nx.ret_fn rfl [_] ⟨A2,c2,rfl,rfl⟩ (by exact zE)
theorem Protects_spec (A Ae B Ap : Option Addr) (c ce cb cp : Nat) (l : List Int) (es : List Rel) (r : Rel) (L prot : List Int) (m : Int) (I : PH) (hl : Ints I A c l) (hs : Sizes l) (he : Rels I Ae ce es) (hw : ∀ r ∈ es,Viewed l r.v) (h9 : es.length ≤ 1000)
  (hv : RowsOf I r.va r.vc r.v) (hd : Ints I r.val.1 r.val.2.1 r.val.2.2) (hwr : Viewed l r.v) (hd9 : r.val.2.2.length ≤ 1000) (hB : Ints I B cb L) (hp : Ints I Ap cp prot) (hp9 : prot.length ≤ 1000000) :
  FnSpec Tryz.prog 144 [.agg #[.slice A l.length c],.slice Ae es.length ce,.agg #[.int .i64 r.num,.slice r.va r.v.length r.vc,rowV r.val],.slice B L.length cb,.slice Ap prot.length cp,.int .i64 m] I []
   (fun u R' => u = .tuple #[.bool (protF l es r L prot m).1,.int .i64 (protF l es r L prot m).2] ∧ R' = []):=by
 have hv4:=(hwr.szsOk hs).1
 have hH:=HideP_spec B cb L r I hv hd hB (by omega) (fun x hx => by
  obtain ⟨k,hk,rfl⟩:=List.mem_iff_getElem.1 hx
  have h1:=(hwr.each k (by rw [← hwr.len]; exact hk)).1
  have h2:=hs.at (k:=k) (by rw [← hwr.len]; exact hk)
  rw [gEl,gEq hk,Option.getD_some] at h1
  omega) hd9
 unfold HidePost at hH
 unfold protF
 refine FnSpec.enterP Tryz.func144 rfl Tryz.ntmps144 rfl fun w F => ?_
 by_cases h0 : hideE r.val.2.2 L = 0
 case neg =>
  rw [if_pos h0]
  generalize hideE r.val.2.2 L = er at hH h0
  repeat' first | refine kW ?_ | (refine Nx.zo ?_; first | refine kP ?_ | (refine kC hH ?_; rintro _ _ ⟨r2,rfl,_,_,rfl⟩)) | refine kS ?_ | refine kB fun bx => ?_ | refine kA fun A2 c2 => ?_ | refine kX (fun hc => ?_) fun hc => ?_ | fail
  exact kT
 rw [if_neg (by omega)]
 rw [h0] at hH
 have hBe:=fun r2 : Rel => behind_spec Ae ce es r2 I he.outer h9
 have hSf:=fun (A3 : Option Addr) (c3 : Nat) (r2 : Rel) (e1 : r2.num = r.num) (e2 : vStrip r2.v = vStrip r.v) (e3 : r2.val.2.2 = hidL r.val.2.2 L) (m' I' : PH) (hle : PH.le I I') (hm : PH.le m' I') (hv : Stars [rlR A3 c3 (es ++ [r2]),relR r2] m') => (by
  obtain ⟨q0,z0,y0⟩:=Stars.get 0 hv rfl
  obtain ⟨q1,z1,y1⟩:=Stars.get 1 hv rfl
  obtain ⟨q2,z2,y2⟩:=Stars.get 0 y1 rfl
  obtain ⟨q3,z3,y3⟩:=Stars.get 1 y1 rfl
  have hR : Rels I' A3 c3 (es ++ [r2]):=⟨Vec.sliceN (z0.trans hm) y0 fun x _ => relC_len x,fun x hx => by
   rcases List.mem_append.1 hx with h | h
   ·exact (he.view x h).mono hle
   ·rw [List.mem_singleton.1 h]; exact ViewR.rows ((z2.trans z1).trans hm) y2,fun x hx => by
   rcases List.mem_append.1 hx with h | h
   ·exact (he.val x h).mono hle
   ·rw [List.mem_singleton.1 h]; exact Vec.sliceOf ((z3.trans z1).trans hm) y3⟩
  have:=Safe_spec A A3 Ap c c3 cp l (es ++ [r2]) prot m I' (hl.mono hle) hs hR (fun x hx => (List.mem_append.1 hx).elim (hw x) fun h => by rw [List.mem_singleton.1 h]; exact viewed_strip e2.symm hwr) (hp.mono hle) hp9
  unfold safeB at this
  rw [prot_same e1 e2 e3] at this
  exact this :
  FnSpec Tryz.prog 141 [.agg #[.slice A l.length c],.slice A3 (es ++ [r2]).length c3,.slice Ap prot.length cp,.int .i64 m] I' [] (fun u R' => u = .tuple #[.bool (safeB l (es ++ [hidR r L]) prot m),.int .i64 (findD l (es ++ [hidR r L]) prot m).2] ∧ R' = []))
 generalize safeB l (es ++ [hidR r L]) prot m = sb at hSf
 generalize (findD l (es ++ [hidR r L]) prot m).2 = se at hSf
 dsimp only
 repeat' first | ((with_reducible refine Nx.is_wp ?_); first | refine Nx.wo ?_ | refine kD 4 [0,1,2,4,5,3,6,7,8,9,10] [3,6] ?_) | (refine Nx.zo ?_; first | refine kP ?_ | (refine kC hH ?_; rintro _ _ ⟨r2,rfl,hr2,_,rfl⟩; obtain ⟨e1,e2,e3⟩:=hr2 rfl; clear hr2) | (refine kC (hBe r2) ?_; rintro _ _ ⟨A3,c3,rfl,rfl⟩) | (refine Nx.call rfl rfl rfl (by kernel_rfl) rfl (FnSpec.keep [rlR _ _ (es ++ [r2]),relR r2] fun m' I' hle hm' hv => hSf _ _ r2 e1 e2 e3 m' I' hle hm' hv) (by exact zE) ?_; rintro _ _ ⟨_,⟨rfl,rfl⟩,rfl⟩)) | refine kS ?_ | refine kB fun bx => ?_ | refine kA fun A2 c2 => ?_ | refine kX (fun hc => ?_) fun hc => ?_ | fail
 exact kT
def badW (x : Int) : Bool:=decide (x < 0 ∨ 1000 < x)
theorem badW_spec (x : Int) (I : PH) : FnSpec Tryz.prog 140 [.int .i64 x] I [] (fun u R' => u = .bool (badW x) ∧ R' = []):=by
 unfold badW
 refine FnSpec.enterP Tryz.func140 rfl Tryz.ntmps140 rfl fun w F => ?_
 by_cases h : x < 0
 ·rw [decide_eq_true (.inl h)]
  repeat' first | refine kS ?_ | refine kB fun bx => ?_ | refine kA fun A2 c2 => ?_ | refine kX (fun hc => ?_) fun hc => ?_ | fail
  exact kT
 ·repeat' first | refine kS ?_ | refine kB fun bx => ?_ | refine kA fun A2 c2 => ?_ | refine kX (fun hc => ?_) fun hc => ?_ | fail
  exact Nx.ret_fn rfl [] ⟨by rw [show decide (x < 0 ∨ 1000 < x) = decide (1000 < x) from decide_eq_decide.2 (by omega)],rfl⟩ (by exact zE)
def pbF (l : List Int) (es : List Rel) (r : Rel) (n : Nat) (prot : List Int) (m : Int) (s : Nat) : Bool:=(protF l es r (bitsL s n) prot m).1 && decide ((protF l es r (bitsL s n) prot m).2 = 0)
def IsLeast (w : List Int) (pb : Nat → Bool) : Option Nat → Prop
 | some s => s < 2 ^ w.length ∧ pb s = true ∧ ∀ t,t < 2 ^ w.length → pb t = true → cfN w w.length s t ≤ 0
 | none => ∀ t,t < 2 ^ w.length → pb t = false
def lstE (l : List Int) (es : List Rel) (r : Rel) (w prot : List Int) (m : Int) : Int :=
 if 10 < r.val.2.2.length then 1 else if w.length ≠ r.val.2.2.length then 17 else if w.any badW = true then 2 else (findD l (es ++ [r]) prot m).2
def lstR (w : List Int) (e : Int) (res : Option Nat) : List Int × Int × Int :=
 if e ≠ 0 then ([],0,e) else match res with
 | some s => (bitsL s w.length,wSum w (bitsL s w.length),0)
 | none => ([],0,51)
theorem lstR_some (w : List Int) (s : Nat) : lstR w 0 (some s) = (bitsL s w.length,wSum w (bitsL s w.length),0):=rfl
theorem least_at {w : List Int} {pb : Nat → Bool} {L : List (Sb w.length)} {q : Nat} (hpm : L.Perm (allS w.length)) (hps : L.Pairwise (fun x y => ltOf (fun a b : Sb w.length => cfN w w.length a.1 b.1) y x = false)) (hq : q < L.length) (hno : ∀ x ∈ L.take q,pb x.1 = false) (hp : pb (L.getD q default).1 = true) : IsLeast w pb (some (L.getD q default).1):=by
 refine ⟨(L.getD q default).2,hp,fun t ht hpt => ?_⟩
 have hm : (⟨t,ht⟩ : Sb w.length) ∈ L:=hpm.mem_iff.2 (mem_allS _)
 have he : L.drop q = L.getD q default :: L.drop (q + 1):=by
  rw [List.drop_eq_getElem_cons hq,gEl,gEq hq]; rfl
 rw [← List.take_append_drop q L,he] at hm
 have hpd:=hps.sublist (List.drop_sublist q L)
 rw [he,List.pairwise_cons] at hpd
 have han:=(cfN_le w w.length).anti
 rcases List.mem_append.1 hm with h | h
 ·have:=hno _ h
  dsimp only at this
  rw [hpt] at this; cases this
 ·rcases List.mem_cons.1 h with h | h
  ·have h2 : t = (L.getD q default).1:=by rw [← h]
   rw [h2]
   have:=han (L.getD q default).1 (L.getD q default).1
   omega
  ·have h2:=hpd.1 _ h
   unfold ltOf at h2
   rw [decide_eq_false_iff_not] at h2
   have h3 : ¬ cfN w w.length t (L.getD q default).1 < 0:=h2
   have:=han (L.getD q default).1 t
   omega
def LeastPost (l : List Int) (es : List Rel) (r : Rel) (w prot : List Int) (m : Int) (u : Value) (R' : List Res) : Prop :=
 ∃ (res : Option Nat) (A' : Option Addr) (c' : Nat),(lstE l es r w prot m = 0 → IsLeast w (pbF l es r w.length prot m) res) ∧ u = .tuple #[.slice A' (lstR w (lstE l es r w prot m) res).1.length c',.int .i64 (lstR w (lstE l es r w prot m) res).2.1,.int .i64 (lstR w (lstE l es r w prot m) res).2.2] ∧ R' = [iR A' c' (lstR w (lstE l es r w prot m) res).1]
theorem LeastP_spec (A Ae Aw Ap : Option Addr) (c ce cw cp : Nat) (l : List Int) (es : List Rel) (r : Rel) (w prot : List Int) (m : Int) (I : PH) (hl : Ints I A c l) (hs : Sizes l) (he : Rels I Ae ce es) (hw : ∀ r ∈ es,Viewed l r.v) (h9 : es.length ≤ 1000)
  (hv : RowsOf I r.va r.vc r.v) (hd : Ints I r.val.1 r.val.2.1 r.val.2.2) (hwr : Viewed l r.v) (hd6 : r.val.2.2.length ≤ 6) (hW : Ints I Aw cw w) (hp : Ints I Ap cp prot) (hp9 : prot.length ≤ 1000000) :
  FnSpec Tryz.prog 78 [.agg #[.slice A l.length c],.slice Ae es.length ce,.agg #[.int .i64 r.num,.slice r.va r.v.length r.vc,.slice r.val.1 r.val.2.2.length r.val.2.1],.slice Aw w.length cw,.slice Ap prot.length cp,.int .i64 m] I [] (LeastPost l es r w prot m):=by
 have hWl:=hW.len
 have hBe:=behind_spec Ae ce es r I he.outer h9
 have hCF:=ContainsFunc_spec 140 badW Aw cw w I hW (by kernel_rfl) (fun z => badW_spec z I)
 have hSf:=fun (A3 : Option Addr) (c3 : Nat) (m' I' : PH) (hle : PH.le I I') (hm : PH.le m' I') (hv' : Stars [rlR A3 c3 (es ++ [r])] m') => (by
  obtain ⟨q0,z0,y0⟩:=Stars.get 0 hv' rfl
  have hR : Rels I' A3 c3 (es ++ [r]):=⟨Vec.sliceN (z0.trans hm) y0 fun x _ => relC_len x,fun x hx => by
   rcases List.mem_append.1 hx with h | h
   ·exact (he.view x h).mono hle
   ·rw [List.mem_singleton.1 h]; exact hv.mono hle,fun x hx => by
   rcases List.mem_append.1 hx with h | h
   ·exact (he.val x h).mono hle
   ·rw [List.mem_singleton.1 h]; exact hd.mono hle⟩
  exact Safe_spec A A3 Ap c c3 cp l (es ++ [r]) prot m I' (hl.mono hle) hs hR (fun x hx => (List.mem_append.1 hx).elim (hw x) fun h => by rw [List.mem_singleton.1 h]; exact hwr) (hp.mono hle) hp9 :
  FnSpec Tryz.prog 141 [.agg #[.slice A l.length c],.slice A3 (es ++ [r]).length c3,.slice Ap prot.length cp,.int .i64 m] I' [] (fun u R' => u = .tuple #[.bool (safeB l (es ++ [r]) prot m),.int .i64 (findD l (es ++ [r]) prot m).2] ∧ R' = []))
 have hPr:=fun (B : Option Addr) (cb : Nat) (L : List Int) (I' : PH) (hle : PH.le I I') (hB : Ints I' B cb L) => Protects_spec A Ae B Ap c ce cb cp l es r L prot m I' (hl.mono hle) hs (he.mono hle) hw h9 (hv.mono hle) (hd.mono hle) hwr (by omega) hB (hp.mono hle) hp9
 obtain ⟨pb,hpb⟩ : ∃ pb,pb = pbF l es r w.length prot m:=⟨_,rfl⟩
 unfold LeastPost lstE
 rw [← hpb]
 obtain ⟨num,va,vc,v,D,cd,vs⟩:=r
 dsimp only at hd6 ⊢
 rw [if_neg (c:=10 < vs.length) (by omega)]
 refine FnSpec.enterP Tryz.func78 rfl Tryz.ntmps78 rfl fun w0 F => ?_
 by_cases h1 : w.length = vs.length
 case neg =>
  rw [if_pos h1]
  repeat' first | refine kS ?_ | refine kB fun bx => ?_ | refine kA fun A2 c2 => ?_ | refine kX (fun hc => ?_) fun hc => ?_ | fail
  exact Nx.ret_fn rfl [_] ⟨none,none,0,fun h => absurd h (by decide),rfl,rfl⟩ ((Ent.vec_nil 3 1 _).trans (by exact zE))
 rw [if_neg (c:=w.length ≠ vs.length) (by omega)]
 cases hb : w.any badW with
 | true =>
  rw [if_pos rfl]
  rw [hb] at hCF
  repeat' first | refine kW ?_ | (refine Nx.zo ?_; first | refine kP ?_ | refine kV hCF ?_) | refine kS ?_ | refine kB fun bx => ?_ | refine kA fun A2 c2 => ?_ | refine kX (fun hc => ?_) fun hc => ?_ | fail
  exact Nx.ret_fn rfl [_] ⟨none,none,0,fun h => absurd h (by decide),rfl,rfl⟩ ((Ent.vec_nil 3 1 _).trans (by exact zE))
 | false =>
 rw [if_neg (by decide)]
 rw [hb] at hCF
 have hWok : WOk w:=fun x hx => by
  have : ¬ badW x = true:=fun h => by
   have:=List.any_eq_true.2 ⟨x,hx,h⟩
   rw [hb] at this; cases this
  unfold badW at this
  rw [decide_eq_true_eq] at this
  omega
 have hw6 : w.length ≤ 6:=by omega
 generalize safeB l (es ++ [⟨num,va,vc,v,(D,cd,vs)⟩]) prot m = sb at hSf
 generalize (findD l (es ++ [⟨num,va,vc,v,(D,cd,vs)⟩]) prot m).2 = er at hSf
 by_cases h0 : er = 0
 case neg =>
  repeat' first | ((with_reducible refine Nx.is_wp ?_); first | refine Nx.wo ?_ | refine kD 7 [0,1,2,4,5,3,6,7,8,9,10,11] [3,6] ?_ | refine kD 13 [0,1,2,3,5,6,4,7,8,9,10,11,12] [4,7] ?_) | (refine Nx.zo ?_; first | refine kP ?_ | refine kV hCF ?_ | (refine kC hBe ?_; rintro _ _ ⟨A3,c3,rfl,rfl⟩) | (refine Nx.call rfl rfl rfl (by kernel_rfl) rfl (FnSpec.keep [rlR _ _ (es ++ [⟨num,va,vc,v,(D,cd,vs)⟩])] fun m' I' hle hm' hv => hSf _ _ m' I' hle hm' hv) (by exact zE) ?_; rintro _ _ ⟨_,⟨rfl,rfl⟩,rfl⟩)) | refine kS ?_ | refine kB fun bx => ?_ | refine kA fun A2 c2 => ?_ | refine kX (fun hc => ?_) fun hc => ?_ | fail
  exact Nx.ret_fn rfl [_] ⟨none,none,0,fun h => absurd h h0,by unfold lstR; rw [if_pos h0]; rfl,rfl⟩ (by unfold lstR; rw [if_pos h0]; exact (Ent.vec_nil 3 1 _).trans (by exact zE))
 subst h0
 have hOr:=ordered_spec Aw cw w I hW hWok hw6
 repeat' first | ((with_reducible refine Nx.is_wp ?_); first | refine Nx.wo ?_ | refine kD 7 [0,1,2,4,5,3,6,7,8,9,10,11] [3,6] ?_ | refine kD 13 [0,1,2,3,5,6,4,7,8,9,10,11,12] [4,7] ?_) | (refine Nx.zo ?_; first | refine kP ?_ | refine kV hCF ?_ | (refine kC hBe ?_; rintro _ _ ⟨A3,c3,rfl,rfl⟩) | (refine Nx.call rfl rfl rfl (by kernel_rfl) rfl (FnSpec.keep [rlR _ _ (es ++ [⟨num,va,vc,v,(D,cd,vs)⟩])] fun m' I' hle hm' hv => hSf _ _ m' I' hle hm' hv) (by exact zE) ?_; rintro _ _ ⟨_,⟨rfl,rfl⟩,rfl⟩) | (refine kC hOr ?_; rintro _ _ ⟨A4,c4,L,rfl,hpm,hps,rfl⟩)) | refine kS ?_ | refine kB fun bx => ?_ | refine kA fun A2 c2 => ?_ | refine kX (fun hc => ?_) fun hc => ?_ | fail
 rename_i b6
 revert bx; intro b8
 refine Nx.freezeAt 0 rfl fun I2 m2 hI2 hm2 h2 => ?_
 have hS4 : Ints I2 A4 c4 (setsI L):=Vec.sliceOf hm2 h2
 have hsl:=setsI_len L
 have hLl : L.length ≤ 64:=by rw [hpm.length_eq,allS_len]; have:=Nat.pow_le_pow_right (n:=2) (by decide) hw6; simpa using this
 have hW2:=hW.mono hI2
 replace hPr:=fun (B : Option Addr) (cb : Nat) (L : List Int) (I' : PH) (hle : PH.le I2 I') (hB : Ints I' B cb L) => hPr B cb L I' (hI2.trans hle) hB
 dsimp only at hPr
 refine Nx.p_loop (σ:=Nat) (fun q => [(1,.slice Ae es.length ce),(3,.slice Aw w.length cw),(4,.slice Ap prot.length cp),(5,.int .i64 m),(6,.pointer (some ⟨b6,0,none⟩)),(8,.pointer (some ⟨b8,0,none⟩)),(50,.slice A4 (setsI L).length c4),(51,.int .i64 ((setsI L).length : Int)),(52,.int .i64 (q : Int))])
  (fun _ => [Blk b8 116 [.int .i64 num,.slice va v.length vc,.slice D vs.length cd],Blk b6 54 [.slice A l.length c],F]) (fun q => q ≤ L.length ∧ ∀ x ∈ L.take q,pb x.1 = false) (fun q => L.length - q) 0 rfl ⟨nZl _,by simp⟩ zR (by exact zE) ?_
 rintro q ⟨hq,hno⟩
 by_cases hql : q < L.length
 case neg =>
  rw [List.take_of_length_le (by omega)] at hno
  repeat' first | refine kS ?_ | refine kB fun bx => ?_ | refine kA fun A2 c2 => ?_ | refine kX (fun hc => ?_) fun hc => ?_ | fail
  exact Nx.imm_le hI2 (Nx.ret_fn rfl [_] ⟨none,none,0,fun _ t ht => hno ⟨t,ht⟩ (hpm.mem_iff.2 (mem_allS _)),rfl,rfl⟩ ((Ent.vec_nil 3 1 _).trans (by exact zE)))
 have htk : L.take (q + 1) = L.take q ++ [L.getD q default]:=by rw [tSu hql,gEl,gEq hql]; rfl
 have hla:=fun hp => least_at (pb:=pb) hpm hps hql hno hp
 have hrd : ∀ (W : World) (R : List Res),Rd W I2 R ((ad A4).add (q * 1)) (.int .i64 ((L.getD q default).1 : Int)):=fun W R => by
  have:=hS4.rd (W:=W) (R:=R) (k:=q) (by omega)
  have e : (setsI L).getD q default = ((L.getD q default).1 : Int):=by
   unfold setsI
   rw [gEl,gMp,gEq hql,gEl,gEq hql]; rfl
  rw [e] at this
  exact this
 have hs2:=(L.getD q default).2
 have hno2 : pb (L.getD q default).1 = false → ∀ x ∈ L.take (q + 1),pb x.1 = false:=fun h x hx => by
  rw [htk] at hx
  rcases List.mem_append.1 hx with hx | hx
  ·exact hno x hx
  ·rw [List.mem_singleton.1 hx]; exact h
 generalize (L.getD q default).1 = s at hla hrd hs2 hno2
 clear htk
 have hs64 : s < 64:=Nat.lt_of_lt_of_le hs2 (by have:=Nat.pow_le_pow_right (n:=2) (by decide) hw6; simpa using this)
 have h6:=bitsL_same hs2 (6 - w.length)
 rw [show w.length + (6 - w.length) = 6 by omega] at h6
 have hLs:=list_spec s hs64 I2
 rw [h6] at hLs
 have hSm:=sum_spec Aw cw w s I2 hW2 hWok hw6 hs2
 have hPs:=fun (B : Option Addr) (cb : Nat) (m' I' : PH) (hle : PH.le I2 I') (hm : PH.le m' I') (hv' : Stars [iR B cb (bitsL s w.length)] m') => hPr B cb (bitsL s w.length) I' hle (by
  obtain ⟨q0,z0,y0⟩:=Stars.get 0 hv' rfl
  exact Vec.sliceOf (z0.trans hm) y0)
 have hpbs : pb s = ((protF l es ⟨num,va,vc,v,(D,cd,vs)⟩ (bitsL s w.length) prot m).1 && decide ((protF l es ⟨num,va,vc,v,(D,cd,vs)⟩ (bitsL s w.length) prot m).2 = 0)):=by rw [hpb]; rfl
 generalize protF l es ⟨num,va,vc,v,(D,cd,vs)⟩ (bitsL s w.length) prot m = fp at hPs hpbs
 obtain ⟨ok,e⟩:=fp
 dsimp only at hPs hpbs
 unfold rowV at hPs
 dsimp only at hPs
 by_cases hok : ok = true ∧ e = 0
 ·obtain ⟨rfl,rfl⟩:=hok
  have hil:=hla hpbs
  repeat' first | ((with_reducible refine Nx.is_wp ?_); first | refine Nx.wo ?_ | refine kD 7 [0,1,2,4,5,3,6,7,8,9,10,11] [3,6] ?_ | refine kD 13 [0,1,2,3,5,6,4,7,8,9,10,11,12] [4,7] ?_) | (refine Nx.zo ?_; first | refine kP ?_ | refine Nx.indexAddr_nat (A:=A4) (i:=q) (sz:=1) rfl rfl rfl rfl rfl (by omega) (hS4.isSome (by omega)) ?_ | refine Nx.load rfl rfl rfl (hrd _ _) ?_ | (refine kC hLs ?_; rintro _ _ ⟨A5,c5,rfl,rfl⟩) | (refine Nx.call rfl rfl rfl (by kernel_rfl) rfl (FnSpec.keep [iR _ _ (bitsL s w.length)] fun m' I' hle hm' hv => hPs _ _ m' I' hle hm' hv) (by exact zE) ?_; rintro _ _ ⟨_,⟨rfl,rfl⟩,rfl⟩) | refine kV hSm ?_) | refine kS ?_ | refine kB fun bx => ?_ | refine kA fun A2 c2 => ?_ | refine kX (fun hc => ?_) fun hc => ?_ | fail
  exact Nx.imm_le hI2 (Nx.ret_fn rfl [_] ⟨some s,A5,c5,fun _ => hil,rfl,rfl⟩ (by rw [lstR_some]; (exact zE)))
 ·have hf : pb s = false:=by
   rw [hpbs]
   cases ok with
   | false => rfl
   | true => rw [Bool.true_and]; exact decide_eq_false fun h => hok ⟨rfl,h⟩
  have hn2:=hno2 hf
  cases ok with
  | false =>
   repeat' first | ((with_reducible refine Nx.is_wp ?_); first | refine Nx.wo ?_ | refine kD 7 [0,1,2,4,5,3,6,7,8,9,10,11] [3,6] ?_ | refine kD 13 [0,1,2,3,5,6,4,7,8,9,10,11,12] [4,7] ?_) | (refine Nx.zo ?_; first | refine kP ?_ | refine Nx.indexAddr_nat (A:=A4) (i:=q) (sz:=1) rfl rfl rfl rfl rfl (by omega) (hS4.isSome (by omega)) ?_ | refine Nx.load rfl rfl rfl (hrd _ _) ?_ | (refine kC hLs ?_; rintro _ _ ⟨A5,c5,rfl,rfl⟩) | (refine Nx.call rfl rfl rfl (by kernel_rfl) rfl (FnSpec.keep [iR _ _ (bitsL s w.length)] fun m' I' hle hm' hv => hPs _ _ m' I' hle hm' hv) (by exact zE) ?_; rintro _ _ ⟨_,⟨rfl,rfl⟩,rfl⟩)) | refine kS ?_ | refine kB fun bx => ?_ | refine kA fun A2 c2 => ?_ | refine kX (fun hc => ?_) fun hc => ?_ | fail
   exact Nx.again (q + 1) ⟨hql,hn2⟩ (by omega) zR (by exact zE)
  | true =>
   have he0 : e ≠ 0:=fun h => hok ⟨rfl,h⟩
   repeat' first | ((with_reducible refine Nx.is_wp ?_); first | refine Nx.wo ?_ | refine kD 7 [0,1,2,4,5,3,6,7,8,9,10,11] [3,6] ?_ | refine kD 13 [0,1,2,3,5,6,4,7,8,9,10,11,12] [4,7] ?_) | (refine Nx.zo ?_; first | refine kP ?_ | refine Nx.indexAddr_nat (A:=A4) (i:=q) (sz:=1) rfl rfl rfl rfl rfl (by omega) (hS4.isSome (by omega)) ?_ | refine Nx.load rfl rfl rfl (hrd _ _) ?_ | (refine kC hLs ?_; rintro _ _ ⟨A5,c5,rfl,rfl⟩) | (refine Nx.call rfl rfl rfl (by kernel_rfl) rfl (FnSpec.keep [iR _ _ (bitsL s w.length)] fun m' I' hle hm' hv => hPs _ _ m' I' hle hm' hv) (by exact zE) ?_; rintro _ _ ⟨_,⟨rfl,rfl⟩,rfl⟩)) | refine kS ?_ | refine kB fun bx => ?_ | refine kA fun A2 c2 => ?_ | refine kX (fun hc => ?_) fun hc => ?_ | fail
   exact Nx.again (q + 1) ⟨hql,hn2⟩ (by omega) zR (by exact zE)
end Go.Proofs.YtpcnapidlhpbkaaGreatDoor
namespace Go.Proofs.YtpcnapidlhpbkaaGreatDoor
open Go.Eng Go.Sol
def LQ (l : List Int) (es : List Rel) (r : Rel) (w p : List Int) (m : Int) (x : List Int × Int × Int) : Prop:=∃ res,(lstE l es r w p m = 0 → IsLeast w (pbF l es r w.length p m) res) ∧ x = lstR w (lstE l es r w p m) res
attribute [local irreducible] opK wpList Code.wp Exit.then Exit.inBlock fnPost bodyPost Nx Calls Oper.wp Rd Rds Wr Ent Stars Blk Again Vec FnSpec wpMix QRun Stop Upto wpAt strV
def chB (c : UInt8) : Bool:=decide (97 ≤ c.toNat ∧ c.toNat ≤ 122 ∨ 48 ≤ c.toNat ∧ c.toNat ≤ 57 ∨ c.toNat = 95)
def words : List (List UInt8):=[[97,108,108],[97,110,100],[101,118,101,110,116],[102,114,111,109],[109,105,115,115,105,110,103],[110,111,116],[111,110],[111,114],[116,111],[117,110,100,101,114],[119,104,101,114,101]]
def headB (s : List UInt8) : Bool:=decide (1 ≤ s.length ∧ s.length ≤ 16 ∧ 97 ≤ (s.getD 0 default).toNat ∧ (s.getD 0 default).toNat ≤ 122)
def nameB (s : List UInt8) : Bool:=headB s && s.all chB && !(words.contains s)
theorem all_take {s : List UInt8} {k : Nat} (hk : k < s.length) : (s.take (k + 1)).all chB = ((s.take k).all chB && chB (s.getD k default)):=by
 rw [tSu hk,List.all_append,gEl,gEq hk]
 simp
theorem all_false {s : List UInt8} {k : Nat} (hk : k < s.length) (h : chB (s.getD k default) = false) : s.all chB = false:=by
 rw [List.all_eq_false]
 exact ⟨s.getD k default,by rw [gEl,gEq hk]; exact List.getElem_mem _,by rw [h]; decide⟩
theorem Name_spec (s : List UInt8) (hs : 0 ≤ s.length) (I : PH) : FnSpec Tryz.prog 239 [strV s] I [] (fun v R' => v = .bool (nameB s) ∧ R' = []):=by
 by_cases hh : headB s = true
 ·have hh':=of_decide_eq_true hh
  replace hs : s.length ≤ 34359738368:=by omega
  refine FnSpec.enterP Tryz.func239 rfl Tryz.ntmps239 rfl fun w F => ?_
  repeat' first | refine kW ?_ | (refine Nx.zo ?_; first | refine kP ?_ | refine Nx.len_strV rfl rfl rfl rfl ?_ | refine Nx.index_str (i:=0) rfl rfl rfl rfl (by omega) ?_ | refine Nx.str_bytes rfl rfl rfl rfl rfl hs (fun b cap h1 h2 => ?_)) | refine kS ?_ | refine kB fun bx => ?_ | refine kA fun A2 c2 => ?_ | refine kX (fun hc => ?_) fun hc => ?_ | fail
  refine Nx.freezeAt 0 rfl fun I1 m1 hI1 hm1 h1' => ?_
  have hb : SliceOf byteV I1 (some ⟨b,0,none⟩) cap s:=BlkZ.sliceOf hm1 h1' h1 h2
  repeat' first | refine kS ?_ | refine kB fun bx => ?_ | refine kA fun A2 c2 => ?_ | refine kX (fun hc => ?_) fun hc => ?_ | fail
  refine Nx.p_loop (σ:=Nat) (fun k => [(0,strV s),(24,.slice (some ⟨b,0,none⟩) s.length cap),(25,.int .i64 s.length),(26,.int .i64 (k : Int))])
   (fun _ => [F]) (fun k => k ≤ s.length ∧ (s.take k).all chB = true) (fun k => s.length - k) 0 rfl ⟨nZl _,rfl⟩ zR (by exact zE) ?_
  rintro k ⟨hk,hal⟩
  by_cases hlt : k < s.length
  ·have ht:=all_take hlt
   rw [hal,Bool.true_and] at ht
   have hf:=all_false hlt
   by_cases hc : chB (s.getD k default) = true
   ·rw [hc] at ht
    have hc':=of_decide_eq_true hc
    repeat' first | refine kW ?_ | (refine Nx.zo ?_; first | refine kP ?_ | refine Nx.indexAddr_nat rfl rfl rfl rfl rfl (by omega) rfl ?_ | refine Nx.load rfl rfl rfl (hb.rd (by omega)) ?_) | refine kS ?_ | refine kB fun bx => ?_ | refine kA fun A2 c2 => ?_ | refine kX (fun hc => ?_) fun hc => ?_ | fail
    all_goals exact Nx.again (k + 1) ⟨hlt,ht⟩ (by omega) zR (by exact zE)
   ·have hc0 : chB (s.getD k default) = false:=by simpa using hc
    have hc':=of_decide_eq_false hc0
    have hn : nameB s = false:=by unfold nameB; rw [hf hc0]; simp
    rw [hn]
    repeat' first | refine kW ?_ | (refine Nx.zo ?_; first | refine kP ?_ | refine Nx.indexAddr_nat rfl rfl rfl rfl rfl (by omega) rfl ?_ | refine Nx.load rfl rfl rfl (hb.rd (by omega)) ?_) | refine kS ?_ | refine kB fun bx => ?_ | refine kA fun A2 c2 => ?_ | refine kX (fun hc => ?_) fun hc => ?_ | fail
    all_goals exact Nx.imm_le hI1 kT
  ·obtain rfl : k = s.length:=by omega
   rw [tLn] at hal
   have hnb : nameB s = !(words.contains s):=by unfold nameB; rw [hh,hal]; rfl
   repeat' first | ((with_reducible refine Nx.is_wp ?_); first | refine Nx.p_bool_t rfl rfl (by assumption) ?_ | refine Nx.p_bool_f rfl rfl (by assumption) ?_ | refine Nx.wo ?_) | (refine Nx.zo ?_; first | refine kP ?_ | refine Nx.binr rfl rfl run_eql_c rfl ?_) | refine kS ?_ | refine kB fun bx => ?_ | refine kA fun A2 c2 => ?_ | refine kX (fun hc => ?_) fun hc => ?_ | fail
   all_goals
    refine Nx.imm_le hI1 (Nx.ret_fn rfl [] ⟨?_,rfl⟩ (by exact zE))
    rw [hnb]
    simp only [beq_iff_eq,beq_eq_false_iff_ne] at *
    simp [words, *]
 ·have hh0 : headB s = false:=by simpa using hh
  have hh':=of_decide_eq_false hh0
  have hn : nameB s = false:=by unfold nameB; rw [hh0]; rfl
  rw [hn]
  by_cases h1 : 1 ≤ s.length
  ·refine FnSpec.enterP Tryz.func239 rfl Tryz.ntmps239 rfl fun w F => ?_
   repeat' first | refine kW ?_ | (refine Nx.zo ?_; first | refine kP ?_ | refine Nx.len_strV rfl rfl rfl rfl ?_ | refine Nx.index_str (i:=0) rfl rfl rfl rfl (by omega) ?_) | refine kS ?_ | refine kB fun bx => ?_ | refine kA fun A2 c2 => ?_ | refine kX (fun hc => ?_) fun hc => ?_ | fail
   all_goals exact kT
  ·refine FnSpec.enterP Tryz.func239 rfl Tryz.ntmps239 rfl fun w F => ?_
   repeat' first | refine kW ?_ | (refine Nx.zo ?_; first | refine kP ?_ | refine Nx.len_strV rfl rfl rfl rfl ?_) | refine kS ?_ | refine kB fun bx => ?_ | refine kA fun A2 c2 => ?_ | refine kX (fun hc => ?_) fun hc => ?_ | fail
   all_goals exact kT
end Go.Proofs.YtpcnapidlhpbkaaGreatDoor
namespace Go.Proofs.YtpcnapidlhpbkaaGreatDoor
open Go.Eng
attribute [local irreducible] opK wpList Code.wp Exit.then Exit.inBlock fnPost bodyPost Nx Calls Oper.wp Rd Rds Wr Ent Stars Blk Again Vec FnSpec wpMix QRun Stop Upto wpAt
abbrev Shift:=List UInt8 × Int × Int
def shC (x : Shift) : List Value:=[strV x.1,.int .i64 x.2.1,.int .i64 x.2.2]
def shV (x : Shift) : Value:=.agg #[strV x.1,.int .i64 x.2.1,.int .i64 x.2.2]
def shOk (x : Shift) : Prop:=0 ≤ x.1.length ∧ I64 x.2.1 ∧ I64 x.2.2
abbrev Shifts:=SliceN shC 3
def properB (x : Shift) : Bool:=decide (0 ≤ x.2.1 ∧ x.2.1 < x.2.2 ∧ x.2.2 ≤ 1073741824)
def beforeB (a b : Shift) : Bool:=decide (a.2.1 < b.2.1) || (decide (a.2.1 = b.2.1) && strLt a.1 b.1)
def meetB (y x : Shift) : Bool:=(y.1 == x.1) && decide (y.2.1 < x.2.2 ∧ x.2.1 < y.2.2)
def meetsB (l : List Shift) (x : Shift) : Bool:=l.any fun y => meetB y x
def rtcmpI (a b : Int) : Int:=if a < b then -1 else if a > b then 1 else 0
def cmpS (a b : List UInt8) : Int:=if strLt a b then -1 else if a == b then 0 else 1
def cmpSh (a b : Shift) : Int:=if rtcmpI a.2.1 b.2.1 ≠ 0 then rtcmpI a.2.1 b.2.1 else cmpS a.1 b.1
theorem nanI_spec (a : Int) (I : PH) : FnSpec Tryz.prog 236 [.int .i64 a] I [] (fun v R' => v = .bool false ∧ R' = []):=by
 refine FnSpec.enterP Tryz.func236 rfl Tryz.ntmps236 rfl fun w F => ?_
 repeat' first | refine kS ?_ | refine kB fun bx => ?_ | refine kA fun A2 c2 => ?_ | refine kX (fun hc => ?_) fun hc => ?_ | fail
 exact Nx.ret_fn rfl [] ⟨by simp,rfl⟩ (by exact zE)
theorem cmpI_spec (a b : Int) (I : PH) : FnSpec Tryz.prog 198 [.int .i64 a,.int .i64 b] I [] (fun v R' => v = .int .i64 (rtcmpI a b) ∧ R' = []):=by
 refine FnSpec.enterP Tryz.func198 rfl Tryz.ntmps198 rfl fun w F => ?_
 repeat' first | refine kW ?_ | (refine Nx.zo ?_; first | refine kP ?_ | refine Nx.callv rfl rfl rfl (by kernel_rfl) rfl (nanI_spec _ I) ?_) | refine kS ?_ | refine kB fun bx => ?_ | refine kA fun A2 c2 => ?_ | refine kX (fun hc => ?_) fun hc => ?_ | fail
 all_goals
  refine Nx.ret_fn rfl [] ⟨?_,rfl⟩ (by exact zE)
  unfold rtcmpI
  first | rw [if_pos (by assumption)] | rw [if_neg (by assumption),if_pos (by assumption)] | rw [if_neg (by assumption),if_neg (by assumption)]
theorem nanS_spec (a : List UInt8) (I : PH) : FnSpec Tryz.prog 265 [strV a] I [] (fun v R' => v = .bool false ∧ R' = []):=by
 refine FnSpec.enterP Tryz.func265 rfl Tryz.ntmps265 rfl fun w F => ?_
 repeat' first | refine kW ?_ | (refine Nx.zo ?_; first | refine kP ?_ | refine Nx.binr rfl rfl run_neq_s rfl ?_) | refine kS ?_ | refine kB fun bx => ?_ | refine kA fun A2 c2 => ?_ | refine kX (fun hc => ?_) fun hc => ?_ | fail
 refine Nx.ret_fn rfl [] ⟨by simp,rfl⟩ (by exact zE)
theorem cmpS_spec (a b : List UInt8) (I : PH) : FnSpec Tryz.prog 240 [strV a,strV b] I [] (fun v R' => v = .int .i64 (cmpS a b) ∧ R' = []):=by
 refine FnSpec.enterP Tryz.func240 rfl Tryz.ntmps240 rfl fun w F => ?_
 repeat' first | refine kW ?_ | (refine Nx.zo ?_; first | refine kP ?_ | refine Nx.callv rfl rfl rfl (by kernel_rfl) rfl (nanS_spec _ I) ?_ | refine Nx.binr rfl rfl run_lss_s rfl ?_ | refine Nx.binr rfl rfl run_gtr_s rfl ?_) | refine kS ?_ | refine kB fun bx => ?_ | refine kA fun A2 c2 => ?_ | refine kX (fun hc => ?_) fun hc => ?_ | fail
 all_goals
  refine Nx.ret_fn rfl [] ⟨?_,rfl⟩ (by exact zE)
  unfold cmpS strLt
  simp_all
theorem or_spec (b c : Nat) (p q : Int) (I : PH) (hI : Ints I (some ⟨b,0,none⟩) c [p,q]) : FnSpec Tryz.prog 197 [.slice (some ⟨b,0,none⟩) 2 c] I [] (fun v R' => v = .int .i64 (if p ≠ 0 then p else q) ∧ R' = []):=by
 refine FnSpec.enterP Tryz.func197 rfl Tryz.ntmps197 rfl fun w F => ?_
 repeat' first | refine kS ?_ | refine kB fun bx => ?_ | refine kA fun A2 c2 => ?_ | refine kX (fun hc => ?_) fun hc => ?_ | fail
 refine Nx.p_loop (σ:=Nat) (fun k => [(3,.int .i64 0),(6,.slice (some ⟨b,0,none⟩) 2 c),(7,.int .i64 2),(8,.int .i64 (k : Int))])
  (fun _ => [F]) (fun k => k ≤ 2 ∧ (1 ≤ k → p = 0) ∧ (2 ≤ k → q = 0)) (fun k => 2 - k) 0 rfl ⟨by omega,by omega,by omega⟩ zR (by exact zE) ?_
 rintro k ⟨hk,hp,hq⟩
 by_cases h0 : k = 0
 ·subst h0
  repeat' first | refine kW ?_ | (refine Nx.zo ?_; first | refine kP ?_ | refine Nx.indexAddr_nat (i:=0) rfl rfl rfl rfl rfl (by omega) rfl ?_ | refine Nx.load rfl rfl rfl (hI.rd (k:=0) (by simp)) ?_) | refine kS ?_ | refine kB fun bx => ?_ | refine kA fun A2 c2 => ?_ | refine kX (fun hc => ?_) fun hc => ?_ | fail
  ·exact Nx.ret_fn rfl [] ⟨by rw [if_pos (show p ≠ 0 from hc)]; rfl,rfl⟩ (by exact zE)
  ·exact Nx.again 1 ⟨by omega,fun _ => by simpa using hc,by omega⟩ (by omega) zR (by exact zE)
 ·by_cases h1 : k = 1
  ·subst h1
   have hp:=hp (by omega)
   repeat' first | refine kW ?_ | (refine Nx.zo ?_; first | refine kP ?_ | refine Nx.indexAddr_nat (i:=1) rfl rfl rfl rfl rfl (by omega) rfl ?_ | refine Nx.load rfl rfl rfl (hI.rd (k:=1) (by simp)) ?_) | refine kS ?_ | refine kB fun bx => ?_ | refine kA fun A2 c2 => ?_ | refine kX (fun hc => ?_) fun hc => ?_ | fail
   ·exact Nx.ret_fn rfl [] ⟨by rw [if_neg (by omega)]; rfl,rfl⟩ (by exact zE)
   ·exact Nx.again 2 ⟨by omega,fun _ => hp,fun _ => by simpa using hc⟩ (by omega) zR (by exact zE)
  ·have hk2 : k = 2:=by omega
   subst hk2
   have hp:=hp (by omega)
   have hq:=hq (by omega)
   repeat' first | refine kS ?_ | refine kB fun bx => ?_ | refine kA fun A2 c2 => ?_ | refine kX (fun hc => ?_) fun hc => ?_ | fail
   exact Nx.ret_fn rfl [] ⟨by rw [if_neg (by omega),hq],rfl⟩ (by exact zE)
theorem compare_spec (x y : Shift) (I : PH) : FnSpec Tryz.prog 203 [shV x,shV y] I [] (fun v R' => v = .int .i64 (cmpSh x y) ∧ R' = []):=by
 refine FnSpec.enterP Tryz.func203 rfl Tryz.ntmps203 rfl fun w F => ?_
 repeat' first | ((with_reducible refine Nx.is_wp ?_); first | refine Nx.wo ?_ | refine kF 1 [0,1,2,3,5,6,7,8,4] [4] [9,10,11,12] ?_) | (refine Nx.zo ?_; first | refine kP ?_ | refine Nx.callv rfl rfl rfl (by kernel_rfl) rfl (cmpI_spec _ _ I) ?_ | refine Nx.callv rfl rfl rfl (by kernel_rfl) rfl (cmpS_spec _ _ I) ?_ | (refine Nx.call_lendR 0 rfl rfl rfl (by kernel_rfl) rfl rfl (fun m I' hI hm h => or_spec _ _ _ _ I' (Blk.sliceOf (f:=fun x : Int => Value.int .i64 x) (l:=[rtcmpI x.2.1 y.2.1,cmpS x.1 y.1]) hm h (by simp [maxLen]))) ?_; rintro _ R' ⟨rfl,rfl⟩)) | refine kS ?_ | refine kB fun bx => ?_ | refine kA fun A2 c2 => ?_ | refine kX (fun hc => ?_) fun hc => ?_ | fail
 exact kT
def singleE (x : Shift) : Int:=if nameB x.1 = true then (if properB x = true then 0 else 43) else 3
theorem single_spec (x : Shift) (hx : shOk x) (I : PH) : FnSpec Tryz.prog 202 [shV x] I [] (fun v R' => v = .int .i64 (singleE x) ∧ R' = []):=by
 by_cases hn : nameB x.1 = true
 ·by_cases hp : properB x = true
  ·have hp':=of_decide_eq_true hp
   have e : singleE x = 0:=by unfold singleE; rw [if_pos hn,if_pos hp]
   rw [e]
   refine FnSpec.enterP Tryz.func202 rfl Tryz.ntmps202 rfl fun w F => ?_
   repeat' first | refine kW ?_ | (refine Nx.zo ?_; first | refine kP ?_ | refine kV (Name_spec x.1 hx.1 I) ?_) | refine kS ?_ | refine kB fun bx => ?_ | refine kA fun A2 c2 => ?_ | refine kX (fun hc => ?_) fun hc => ?_ | fail
   all_goals first | exact kT | (exfalso; simp_all; done)
  ·have hp0 : properB x = false:=by simpa using hp
   have hp':=of_decide_eq_false hp0
   have e : singleE x = 43:=by unfold singleE; rw [if_pos hn,if_neg hp]
   rw [e]
   refine FnSpec.enterP Tryz.func202 rfl Tryz.ntmps202 rfl fun w F => ?_
   repeat' first | refine kW ?_ | (refine Nx.zo ?_; first | refine kP ?_ | refine kV (Name_spec x.1 hx.1 I) ?_) | refine kS ?_ | refine kB fun bx => ?_ | refine kA fun A2 c2 => ?_ | refine kX (fun hc => ?_) fun hc => ?_ | fail
   all_goals first | exact kT | (exfalso; simp_all; done)
 ·have e : singleE x = 3:=by unfold singleE; rw [if_neg hn]
  rw [e]
  refine FnSpec.enterP Tryz.func202 rfl Tryz.ntmps202 rfl fun w F => ?_
  repeat' first | refine kW ?_ | (refine Nx.zo ?_; first | refine kP ?_ | refine kV (Name_spec x.1 hx.1 I) ?_) | refine kS ?_ | refine kB fun bx => ?_ | refine kA fun A2 c2 => ?_ | refine kX (fun hc => ?_) fun hc => ?_ | fail
  all_goals first | exact kT | (exfalso; simp_all; done)
theorem meet_spec (b : Nat) (x y : Shift) (I : PH) (hb : ∀ (W : World) (R : List Res) (k : Nat) (v : Value),nthL (shC x) k = some v → Rd W I R ⟨b,k,none⟩ v) :
  FnSpec Tryz.prog 242 [shV y,.pointer (some ⟨b,0,none⟩)] I [] (fun v R' => v = .bool (meetB y x) ∧ R' = []):=by
 refine FnSpec.enterP Tryz.func242 rfl Tryz.ntmps242 rfl fun w F => ?_
 repeat' first | refine kW ?_ | (refine Nx.zo ?_; first | refine kP ?_ | refine Nx.load rfl rfl rfl (hb _ _ 0 _ rfl) ?_ | refine Nx.load rfl rfl rfl (hb _ _ 1 _ rfl) ?_ | refine Nx.load rfl rfl rfl (hb _ _ 2 _ rfl) ?_ | refine Nx.binr rfl rfl run_eql_s rfl ?_) | refine kS ?_ | refine kB fun bx => ?_ | refine kA fun A2 c2 => ?_ | refine kX (fun hc => ?_) fun hc => ?_ | fail
 all_goals exact Nx.ret_fn rfl [] ⟨by unfold meetB; first | (simp_all; done) | (simp_all; omega),rfl⟩ (by exact zE)
theorem IndexSh_spec (f : FuncId) (cap : List Value) (p : Shift → Bool) (A : Option Addr) (cp : Nat) (l : List Shift) (I : PH) (hl : Shifts I A cp l) (hcall : callable Tryz.prog f = true)
  (hp : ∀ x ∈ l,FnSpec Tryz.prog f (shV x :: cap) I [] (fun v R' => v = .bool (p x) ∧ R' = [])) :
  FnSpec Tryz.prog 266 [.slice A l.length cp,.func (.func f) #[] cap.toArray] I []
   (fun v R' => ∃ i : Int,v = .int .i64 i ∧ (decide (0 ≤ i) = l.any p) ∧ R' = []):=by
 refine FnSpec.enterP Tryz.func266 rfl Tryz.ntmps266 rfl fun w F => ?_
 repeat' first | refine kS ?_ | refine kB fun bx => ?_ | refine kA fun A2 c2 => ?_ | refine kX (fun hc => ?_) fun hc => ?_ | fail
 have hlen:=hl.len
 refine Nx.p_loop (σ:=Nat) (fun k => [(0,.slice A l.length cp),(1,.func (.func f) #[] cap.toArray),(7,.int .i64 l.length),(8,.int .i64 (k : Int))])
  (fun _ => [F]) (fun k => k ≤ l.length ∧ (l.take k).any p = false) (fun k => l.length - k) 0 rfl ⟨nZl _,by simp⟩ zR (Ent.refl _) ?_
 rintro k ⟨hk,hnone⟩
 by_cases hlt : k < l.length
 ·have hmem : l.getD k default ∈ l:=by rw [gEl,gEq hlt]; exact List.getElem_mem _
  repeat' first | refine kW ?_ | (refine Nx.zo ?_; first | refine kP ?_ | refine Nx.indexAddr_nat rfl rfl rfl rfl rfl (by omega) (hl.isSome (by omega) (by omega)) ?_ | refine Nx.loads rfl rfl rfl rfl (hl.rds (by omega)) rfl ?_ | refine Nx.callv rfl rfl (by simp; rfl) hcall rfl (hp _ hmem) ?_) | refine kS ?_ | refine kB fun bx => ?_ | refine kA fun A2 c2 => ?_ | refine kX (fun hc => ?_) fun hc => ?_ | fail
  ·refine Nx.ret_fn rfl [] ⟨_,rfl,?_,rfl⟩ (Ent.refl _)
   rw [show decide ((0 : Int) ≤ k) = true by simp,Eq.comm,List.any_eq_true]
   exact ⟨l.getD k default,hmem,hc⟩
  ·refine Nx.again (k + 1) ⟨by omega,?_⟩ (by omega) zR (Ent.refl _)
   rw [tSu (by omega),List.any_append,hnone]
   have : l[k]'(by omega) = l.getD k default:=by rw [gEl,gEq (by omega)]; rfl
   simp only [this,List.any_cons,List.any_nil,hc,Bool.or_self]
 ·obtain rfl : k = l.length:=by omega
  repeat' first | refine kS ?_ | refine kB fun bx => ?_ | refine kA fun A2 c2 => ?_ | refine kX (fun hc => ?_) fun hc => ?_ | fail
  refine Nx.ret_fn rfl [] ⟨_,rfl,?_,rfl⟩ (Ent.refl _)
  rw [tLn] at hnone
  rw [hnone]; rfl
theorem ContainsSh_spec (f : FuncId) (cap : List Value) (p : Shift → Bool) (A : Option Addr) (cp : Nat) (l : List Shift) (I : PH) (hl : Shifts I A cp l) (hcall : callable Tryz.prog f = true)
  (hp : ∀ x ∈ l,FnSpec Tryz.prog f (shV x :: cap) I [] (fun v R' => v = .bool (p x) ∧ R' = [])) :
  FnSpec Tryz.prog 241 [.slice A l.length cp,.func (.func f) #[] cap.toArray] I []
   (fun v R' => v = .bool (l.any p) ∧ R' = []):=by
 refine FnSpec.enterP Tryz.func241 rfl Tryz.ntmps241 rfl fun w F => ?_
 repeat' first | refine kS ?_ | refine kB fun bx => ?_ | refine kA fun A2 c2 => ?_ | refine kX (fun hc => ?_) fun hc => ?_ | fail
 refine Nx.at_op rfl rfl ?_
 refine Nx.call rfl rfl rfl (by kernel_rfl) rfl (IndexSh_spec f cap p A cp l I hl hcall hp) (Ent.refl _) ?_
 rintro v R' ⟨i,rfl,hi,rfl⟩
 repeat' first | refine kS ?_ | refine kB fun bx => ?_ | refine kA fun A2 c2 => ?_ | refine kX (fun hc => ?_) fun hc => ?_ | fail
 exact Nx.ret_fn rfl [] ⟨by rw [← hi],rfl⟩ (Ent.refl _)
theorem overlaps_spec (A : Option Addr) (c : Nat) (l : List Shift) (x : Shift) (I : PH) (hl : Shifts I A c l) :
  FnSpec Tryz.prog 204 [.slice A l.length c,shV x] I [] (fun v R' => v = .bool (meetsB l x) ∧ R' = []):=by
 refine FnSpec.enterP Tryz.func204 rfl Tryz.ntmps204 rfl fun w F => ?_
 repeat' first | refine kS ?_ | refine kB fun bx => ?_ | refine kA fun A2 c2 => ?_ | refine kX (fun hc => ?_) fun hc => ?_ | fail
 refine Nx.freezeAt 0 rfl fun I1 m1 hI1 hm1 h1 => ?_
 have hb : ∀ (W : World) (R : List Res) (k : Nat) (v : Value),nthL (shC x) k = some v → Rd W I1 R ⟨bx,k,none⟩ v:=fun W R k v hk => by
  exact Rd.imm (cellH_mono hm1 (Blk.cell h1 hk))
 repeat' first | refine kW ?_ | (refine Nx.zo ?_; first | refine kP ?_ | refine Nx.callv rfl rfl rfl (by kernel_rfl) rfl (ContainsSh_spec 242 [.pointer (some ⟨bx,0,none⟩)] (fun y => meetB y x) A c l I1 (hl.mono hI1) (by kernel_rfl) (fun y _ => meet_spec bx x y I1 hb)) ?_) | refine kS ?_ | refine kB fun bx => ?_ | refine kA fun A2 c2 => ?_ | refine kX (fun hc => ?_) fun hc => ?_ | fail
 exact Nx.imm_le hI1 kT
def checkAt (l : List Shift) (k : Nat) : Int :=
 if singleE (l.getD k default) ≠ 0 then singleE (l.getD k default)
 else if 0 < k ∧ beforeB (l.getD (k - 1) default) (l.getD k default) = false then 11
 else if meetsB (l.take k) (l.getD k default) = true then 46 else 0
def checkN (l : List Shift) : Nat → Int
 | 0 => 0
 | k + 1 => if checkN l k ≠ 0 then checkN l k else checkAt l k
def checkE (l : List Shift) : Int:=if 60 < l.length then 1 else checkN l l.length
theorem checkN_stop {l : List Shift} {k : Nat} (h0 : checkN l k = 0) (h : checkAt l k ≠ 0) : ∀ n,k < n → checkN l n = checkAt l k
 | 0,hn => by omega
 | n + 1,hn => by
  unfold checkN
  by_cases hk : k = n
  ·subst hk
   rw [if_neg (by omega)]
  ·rw [checkN_stop h0 h n (by omega),if_pos h]
theorem cmpSh_before (a b : Shift) : decide (0 ≤ cmpSh a b) = !(beforeB a b):=by
 unfold cmpSh beforeB rtcmpI cmpS
 by_cases h1 : a.2.1 < b.2.1
 ·simp [h1]
 ·by_cases h2 : b.2.1 < a.2.1
  ·have h3 : ¬ a.2.1 = b.2.1:=by omega
   simp [h1,h2,h3]
  ·have h3 : a.2.1 = b.2.1:=by omega
   simp [h3]
   cases strLt a.1 b.1 <;> simp
   by_cases h4 : a.1 = b.1 <;> simp [h4]
theorem sh_mem {l : List Shift} {k : Nat} (h : k < l.length) : l.getD k default ∈ l:=by
 rw [gEl,gEq h]; exact List.getElem_mem _
theorem shifts_take {α : Type} {f : α → List Value} {sz : Nat} {I : PH} {A : Option Addr} {c : Nat} {l : List α} (h : SliceN f sz I A c l) (k : Nat) : SliceN f sz I A c (l.take k):=by
 refine ⟨fun j u hj => ?_,by have:=h.cap; rw [lTk]; omega,h.max,fun x hx => h.cells x (List.mem_of_mem_take hx)⟩
 refine h.arr j u ?_
 have e : l.flatMap f = (l.take k).flatMap f ++ (l.drop k).flatMap f:=by rw [← List.flatMap_append,List.take_append_drop]
 rw [e,List.getElem?_append_left (List.getElem?_eq_some_iff.1 hj).1]
 exact hj
theorem rtCheck_spec (A : Option Addr) (c : Nat) (l : List Shift) (I : PH) (hl : Shifts I A c l) (ho : ∀ x ∈ l,shOk x) :
  FnSpec Tryz.prog 147 [.slice A l.length c] I [] (fun v R' => v = .int .i64 (checkE l) ∧ R' = []):=by
 have hlen:=hl.len
 have hcap:=hl.cap
 by_cases h60 : 60 < l.length
 ·have e : checkE l = 1:=by unfold checkE; rw [if_pos h60]
  rw [e]
  refine FnSpec.enterP Tryz.func147 rfl Tryz.ntmps147 rfl fun w F => ?_
  repeat' first | refine kS ?_ | refine kB fun bx => ?_ | refine kA fun A2 c2 => ?_ | refine kX (fun hc => ?_) fun hc => ?_ | fail
  exact kT
 ·have e : checkE l = checkN l l.length:=by unfold checkE; rw [if_neg h60]
  rw [e]
  refine FnSpec.enterP Tryz.func147 rfl Tryz.ntmps147 rfl fun w F => ?_
  repeat' first | refine kS ?_ | refine kB fun bx => ?_ | refine kA fun A2 c2 => ?_ | refine kX (fun hc => ?_) fun hc => ?_ | fail
  refine Nx.p_loop (σ:=Nat) (fun k => [(0,.slice A l.length c),(9,.slice A l.length c),(10,.int .i64 l.length),(11,.int .i64 (k : Int))])
   (fun _ => [F]) (fun k => k ≤ l.length ∧ checkN l k = 0) (fun k => l.length - k) 0 rfl ⟨nZl _,rfl⟩ zR (by exact zE) ?_
  rintro k ⟨hk,h0⟩
  by_cases hlt : k < l.length
  ·have hstop:=fun h => checkN_stop h0 h l.length hlt
   have hgo : checkAt l k = 0 → checkN l (k + 1) = 0:=fun h => by
    show (if _ then _ else _) = _
    rw [h0,if_neg (by omega),h]
   have hx:=ho _ (sh_mem hlt)
   have hxp:=fun h : 0 < k => ho _ (sh_mem (l:=l) (k:=k - 1) (by omega))
   have htl : (l.take k).length = k:=by rw [lTk]; omega
   have htk:=shifts_take hl k
   repeat' first | refine kW ?_ | (refine Nx.zo ?_; first | refine kP ?_ | refine Nx.indexAddr_nat rfl rfl rfl rfl rfl (by omega) (hl.isSome (by omega) (by omega)) ?_ | refine Nx.loads rfl rfl rfl rfl (hl.rds (by omega)) rfl ?_ | refine Nx.callv rfl rfl rfl (by kernel_rfl) rfl (single_spec _ hx I) ?_) | refine kS ?_ | refine kB fun bx => ?_ | refine kA fun A2 c2 => ?_ | refine kX (fun hc => ?_) fun hc => ?_ | fail
   ·have hc' : singleE (l.getD k default) ≠ 0:=hc
    have hca : checkAt l k = singleE (l.getD k default):=by unfold checkAt; rw [if_pos hc']
    exact Nx.ret_fn rfl [] ⟨by rw [hstop (by rw [hca]; exact hc'),hca],rfl⟩ (by exact zE)
   ·have hs0 : singleE (l.getD k default) = 0:=by simpa using hc
    have hkn : 0 < k → ((k : Int) - 1).toNat = k - 1:=fun h => by omega
    have hov:=overlaps_spec A c (l.take k) (l.getD k default) I htk
    rw [htl] at hov
    by_cases hbf : 0 < k ∧ beforeB (l.getD (k - 1) default) (l.getD k default) = false
    ·have hca : checkAt l k = 11:=by unfold checkAt; rw [if_neg (by omega),if_pos hbf]
     have hcm : 0 ≤ cmpSh (l.getD ((k : Int) - 1).toNat default) (l.getD k default):=by
      rw [hkn hbf.1]
      have:=cmpSh_before (l.getD (k - 1) default) (l.getD k default)
      rw [hbf.2] at this
      simpa using this
     have hk0:=hbf.1
     repeat' first | ((with_reducible refine Nx.is_wp ?_); first | refine Nx.wo ?_ | refine kD 9 [0,1,2,3,4,5,6,7,8,9,10,11] [9] ?_ | refine kD 11 [0,1,2,3,4] [4] ?_) | (refine Nx.zo ?_; first | refine kP ?_ | refine kV (compare_spec (l.getD ((k : Int) - 1).toNat default) (l.getD k default) I) ?_) | refine kS ?_ | refine kB fun bx => ?_ | refine kA fun A2 c2 => ?_ | ((with_reducible refine Nx.is_mix ?_); refine kQ rfl rfl rfl rfl (by first | exact .inl rfl | exact .inr ⟨_,_,_,rfl,rfl,rfl⟩) (by first | exact QRun.opr rfl | exact QRun.idxi rfl rfl rfl rfl (by omega) (by omega) (hl.isSome (by omega) (by omega)) | exact QRun.loads rfl rfl rfl (hl.rds (k:=((k : Int) - 1).toNat) (by omega)) rfl | exact QRun.loads rfl rfl rfl (Rds.at_ 0 rfl) rfl) ?_) | refine kX (fun hc => ?_) fun hc => ?_ | fail
     exact Nx.ret_fn rfl [] ⟨by rw [hstop (by rw [hca]; decide),hca],rfl⟩ (by exact zE)
    ·have hcm : 0 < k → cmpSh (l.getD ((k : Int) - 1).toNat default) (l.getD k default) < 0:=fun h => by
      rw [hkn h]
      have:=cmpSh_before (l.getD (k - 1) default) (l.getD k default)
      have hb : beforeB (l.getD (k - 1) default) (l.getD k default) = true:=by
       cases hb : beforeB (l.getD (k - 1) default) (l.getD k default) with
       | true => rfl
       | false => exact absurd ⟨h,hb⟩ hbf
      rw [hb] at this
      simpa using this
     by_cases hm : meetsB (l.take k) (l.getD k default) = true
     ·have hca : checkAt l k = 46:=by unfold checkAt; rw [if_neg (by omega),if_neg hbf,if_pos hm]
      rw [hm] at hov
      by_cases hk0 : 0 < k
      ·have hcm:=hcm hk0
       repeat' first | ((with_reducible refine Nx.is_wp ?_); first | refine Nx.wo ?_ | refine kD 9 [0,1,2,3,4,5,6,7,8,9,10,11] [9] ?_ | refine kD 11 [0,1,2,3,4] [4] ?_) | (refine Nx.zo ?_; first | refine kP ?_ | refine kV (compare_spec (l.getD ((k : Int) - 1).toNat default) (l.getD k default) I) ?_ | refine kV hov ?_) | refine kS ?_ | refine kB fun bx => ?_ | refine kA fun A2 c2 => ?_ | ((with_reducible refine Nx.is_mix ?_); refine kQ rfl rfl rfl rfl (by first | exact .inl rfl | exact .inr ⟨_,_,_,rfl,rfl,rfl⟩) (by first | exact QRun.opr rfl | exact QRun.idxi rfl rfl rfl rfl (by omega) (by omega) (hl.isSome (by omega) (by omega)) | exact QRun.loads rfl rfl rfl (hl.rds (k:=((k : Int) - 1).toNat) (by omega)) rfl | exact QRun.loads rfl rfl rfl (Rds.at_ 0 rfl) rfl | exact QRun.slice_hi rfl rfl rfl rfl (by omega)) ?_) | refine kX (fun hc => ?_) fun hc => ?_ | fail
       exact Nx.ret_fn rfl [] ⟨by rw [hstop (by rw [hca]; decide),hca],rfl⟩ (by exact zE)
      ·repeat' first | ((with_reducible refine Nx.is_wp ?_); first | refine Nx.wo ?_ | refine kD 9 [0,1,2,3,4,5,6,7,8,9,10,11] [9] ?_ | refine kD 11 [0,1,2,3,4] [4] ?_) | (refine Nx.zo ?_; first | refine kP ?_ | refine kV hov ?_) | refine kS ?_ | refine kB fun bx => ?_ | refine kA fun A2 c2 => ?_ | ((with_reducible refine Nx.is_mix ?_); refine kQ rfl rfl rfl rfl (by first | exact .inl rfl | exact .inr ⟨_,_,_,rfl,rfl,rfl⟩) (by first | exact QRun.opr rfl | exact QRun.loads rfl rfl rfl (Rds.at_ 0 rfl) rfl | exact QRun.slice_hi rfl rfl rfl rfl (by omega)) ?_) | refine kX (fun hc => ?_) fun hc => ?_ | fail
       exact Nx.ret_fn rfl [] ⟨by rw [hstop (by rw [hca]; decide),hca],rfl⟩ (by exact zE)
     ·have hm0 : meetsB (l.take k) (l.getD k default) = false:=by simpa using hm
      have hca : checkAt l k = 0:=by unfold checkAt; rw [if_neg (by omega),if_neg hbf,if_neg hm]
      rw [hm0] at hov
      by_cases hk0 : 0 < k
      ·have hcm:=hcm hk0
       repeat' first | ((with_reducible refine Nx.is_wp ?_); first | refine Nx.wo ?_ | refine kD 9 [0,1,2,3,4,5,6,7,8,9,10,11] [9] ?_ | refine kD 11 [0,1,2,3,4] [4] ?_) | (refine Nx.zo ?_; first | refine kP ?_ | refine kV (compare_spec (l.getD ((k : Int) - 1).toNat default) (l.getD k default) I) ?_ | refine kV hov ?_) | refine kS ?_ | refine kB fun bx => ?_ | refine kA fun A2 c2 => ?_ | ((with_reducible refine Nx.is_mix ?_); refine kQ rfl rfl rfl rfl (by first | exact .inl rfl | exact .inr ⟨_,_,_,rfl,rfl,rfl⟩) (by first | exact QRun.opr rfl | exact QRun.idxi rfl rfl rfl rfl (by omega) (by omega) (hl.isSome (by omega) (by omega)) | exact QRun.loads rfl rfl rfl (hl.rds (k:=((k : Int) - 1).toNat) (by omega)) rfl | exact QRun.loads rfl rfl rfl (Rds.at_ 0 rfl) rfl | exact QRun.slice_hi rfl rfl rfl rfl (by omega)) ?_) | refine kX (fun hc => ?_) fun hc => ?_ | fail
       exact Nx.again (k + 1) ⟨hlt,hgo hca⟩ (by omega) zR (by exact zE)
      ·repeat' first | ((with_reducible refine Nx.is_wp ?_); first | refine Nx.wo ?_ | refine kD 9 [0,1,2,3,4,5,6,7,8,9,10,11] [9] ?_ | refine kD 11 [0,1,2,3,4] [4] ?_) | (refine Nx.zo ?_; first | refine kP ?_ | refine kV hov ?_) | refine kS ?_ | refine kB fun bx => ?_ | refine kA fun A2 c2 => ?_ | ((with_reducible refine Nx.is_mix ?_); refine kQ rfl rfl rfl rfl (by first | exact .inl rfl | exact .inr ⟨_,_,_,rfl,rfl,rfl⟩) (by first | exact QRun.opr rfl | exact QRun.loads rfl rfl rfl (Rds.at_ 0 rfl) rfl | exact QRun.slice_hi rfl rfl rfl rfl (by omega)) ?_) | refine kX (fun hc => ?_) fun hc => ?_ | fail
       exact Nx.again (k + 1) ⟨hlt,hgo hca⟩ (by omega) zR (by exact zE)
  ·obtain rfl : k = l.length:=by omega
   repeat' first | refine kS ?_ | refine kB fun bx => ?_ | refine kA fun A2 c2 => ?_ | refine kX (fun hc => ?_) fun hc => ?_ | fail
   exact Nx.ret_fn rfl [] ⟨by rw [h0],rfl⟩ (by exact zE)
abbrev shiftsR (A : Option Addr) (c : Nat) (l : List Shift) : Res:=Vec 189 3 A l.length c (l.flatMap shC)
end Go.Proofs.YtpcnapidlhpbkaaGreatDoor
