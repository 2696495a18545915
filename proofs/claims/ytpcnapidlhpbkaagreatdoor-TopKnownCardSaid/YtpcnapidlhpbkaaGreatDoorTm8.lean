/- Contracts of functions of the given program, and lemmas. -/
import Derived.Test.YtpcnapidlhpbkaaGreatDoorRows
import Derived.Shelf.Bits.Mul64
import Derived.Laws.StructEq
import Derived.Shelf.Strconv.Itoa0
import Derived.Shelf.Spec.TrailingZeros
import Derived.Test.YtpcnapidlhpbkaaGreatDoorTm7
set_option maxHeartbeats 32000000
set_option maxRecDepth 10000
namespace Go.Proofs.YtpcnapidlhpbkaaGreatDoor
open Go.Eng Go.Sol
attribute [local irreducible] opK wpList Code.wp Exit.then Exit.inBlock fnPost bodyPost Nx Calls Oper.wp Rd Rds Wr Ent Stars Blk Again Vec FnSpec wpMix QRun Stop Upto wpAt
def outP (n k : Int) : Bool:=decide (k < 0 ∨ n ≤ k)
theorem outP_spec (n k : Int) (b : Nat) (I : PH) (hb : ∀ (W : World) (R : List Res),Rd W I R ⟨b,0,none⟩ (.int .i64 n)) :
  FnSpec Tryz.prog 208 [.int .i64 k,.pointer (some ⟨b,0,none⟩)] I [] (fun v R' => v = .bool (outP n k) ∧ R' = []):=by
 unfold outP
 refine FnSpec.enterP Tryz.func208 rfl Tryz.ntmps208 rfl fun w F => ?_
 by_cases h1 : k < 0
 ·rw [decide_eq_true (.inl h1)]
  repeat' first | refine kW ?_ | (refine Nx.zo ?_; first | refine kP ?_ | refine Nx.load rfl rfl rfl (hb _ _) ?_) | refine kS ?_ | refine kB fun bx => ?_ | refine kA fun A2 c2 => ?_ | refine kX (fun hc => ?_) fun hc => ?_ | fail
  exact kT
 by_cases h2 : n ≤ k
 ·rw [decide_eq_true (.inr h2)]
  repeat' first | refine kW ?_ | (refine Nx.zo ?_; first | refine kP ?_ | refine Nx.load rfl rfl rfl (hb _ _) ?_) | refine kS ?_ | refine kB fun bx => ?_ | refine kA fun A2 c2 => ?_ | refine kX (fun hc => ?_) fun hc => ?_ | fail
  exact Nx.ret_fn rfl [] ⟨by rw [decide_eq_true h2],rfl⟩ (by exact zE)
 ·rw [decide_eq_false (by omega)]
  repeat' first | refine kW ?_ | (refine Nx.zo ?_; first | refine kP ?_ | refine Nx.load rfl rfl rfl (hb _ _) ?_) | refine kS ?_ | refine kB fun bx => ?_ | refine kA fun A2 c2 => ?_ | refine kX (fun hc => ?_) fun hc => ?_ | fail
  exact Nx.ret_fn rfl [] ⟨by rw [decide_eq_false h2],rfl⟩ (by exact zE)
def chkD (l : List Int) (rs : List Rel) (prot : List Int) (m : Int) : Int :=
 if relsE l rs ≠ 0 then relsE l rs else if m < 1 ∨ 100 < m then 2 else if prot.any (outP (prod l)) = true then 2 else if prot.Pairwise (· < ·) then 0 else 11
theorem pairwise_adj : ∀ {p : List Int},(∀ i,i + 1 < p.length → p.getD i default < p.getD (i + 1) default) → p.Pairwise (· < ·)
 | [],_ => List.Pairwise.nil
 | [a],_ => List.pairwise_singleton _ _
 | a :: b :: p,h => by
  have ih:=pairwise_adj (p:=b :: p) fun i hi => h (i + 1) (by simpa using hi)
  have hab : a < b:=h 0 (by simp)
  refine List.pairwise_cons.2 ⟨fun x hx => ?_,ih⟩
  rcases List.mem_cons.1 hx with rfl | hx
  ·exact hab
  ·have:=(List.pairwise_cons.1 ih).1 x hx; omega
theorem adj_of {p : List Int} (h : p.Pairwise (· < ·)) {i : Nat} (hi : i + 1 < p.length) : p.getD i default < p.getD (i + 1) default:=by
 have:=List.pairwise_iff_getElem.1 h i (i + 1) (by omega) hi (by omega)
 rw [gEl,gEq (by omega),gEl,gEq hi]
 exact this
theorem check_specD (A As Ap : Option Addr) (c cs cp : Nat) (l : List Int) (rs : List Rel) (prot : List Int) (m : Int) (I : PH) (hl : Ints I A c l) (hs : Sizes l) (hr : Rels I As cs rs) (hw : ∀ r ∈ rs,Viewed l r.v) (hp : Ints I Ap cp prot) :
  FnSpec Tryz.prog 151 [.agg #[.slice A l.length c],.slice As rs.length cs,.slice Ap prot.length cp,.int .i64 m] I [] (fun u R' => u = .int .i64 (chkD l rs prot m) ∧ R' = []):=by
 have hEC:=ECheck_spec A As c cs l rs I hl hs hr hw
 have hpl:=hp.len
 unfold chkD
 refine FnSpec.enterP Tryz.func151 rfl Tryz.ntmps151 rfl fun w F => ?_
 by_cases h0 : relsE l rs = 0
 case neg =>
  rw [if_pos h0]
  generalize relsE l rs = er at h0 hEC
  repeat' first | refine kW ?_ | (refine Nx.zo ?_; first | refine kP ?_ | refine kV hEC ?_) | refine kS ?_ | refine kB fun bx => ?_ | refine kA fun A2 c2 => ?_ | refine kX (fun hc => ?_) fun hc => ?_ | fail
  exact kT
 rw [if_neg (by omega)]
 rw [h0] at hEC
 by_cases h1 : m < 1 ∨ 100 < m
 ·rw [if_pos h1]
  by_cases h2 : m < 1
  ·repeat' first | refine kW ?_ | (refine Nx.zo ?_; first | refine kP ?_ | refine kV hEC ?_ | refine kV (Count_spec A c l I hl hs) ?_) | refine kS ?_ | refine kB fun bx => ?_ | refine kA fun A2 c2 => ?_ | refine kX (fun hc => ?_) fun hc => ?_ | fail
   exact kT
  ·repeat' first | refine kW ?_ | (refine Nx.zo ?_; first | refine kP ?_ | refine kV hEC ?_ | refine kV (Count_spec A c l I hl hs) ?_) | refine kS ?_ | refine kB fun bx => ?_ | refine kA fun A2 c2 => ?_ | refine kX (fun hc => ?_) fun hc => ?_ | fail
   exact kT
 rw [if_neg h1]
 repeat' first | ((with_reducible refine Nx.is_wp ?_); first | refine Nx.p_stopr 5 rfl ?_ | refine Nx.wo ?_) | (refine Nx.zo ?_; first | refine kP ?_ | refine kV hEC ?_ | refine kV (Count_spec A c l I hl hs) ?_) | refine kS ?_ | refine kB fun bx => ?_ | refine kA fun A2 c2 => ?_ | refine kX (fun hc => ?_) fun hc => ?_ | fail
 refine unstopN ?_
 revert bx; intro b10
 refine Nx.freezeAt 0 rfl fun I2 m2 hI2 hm2 hb2 => ?_
 have rb : ∀ (W : World) (R : List Res),Rd W I2 R ⟨b10,0,none⟩ (.int .i64 (prod l)):=fun W R => Rd.imm (cellH_mono hm2 (Blk.cell hb2 rfl))
 have hC:=ContainsFuncC_spec 208 (.pointer (some ⟨b10,0,none⟩)) (outP (prod l)) Ap cp prot I2 (hp.mono hI2) (by kernel_rfl) (fun x => outP_spec (prod l) x b10 I2 rb)
 replace hp:=hp.mono hI2
 cases ha : prot.any (outP (prod l)) with
 | true =>
  rw [if_pos rfl]
  rw [ha] at hC
  repeat' first | refine kW ?_ | (refine Nx.zo ?_; first | refine kP ?_ | refine kV hC ?_) | refine kS ?_ | refine kB fun bx => ?_ | refine kA fun A2 c2 => ?_ | refine kX (fun hc => ?_) fun hc => ?_ | fail
  exact Nx.imm_le hI2 kT
 | false =>
 rw [if_neg (by decide)]
 rw [ha] at hC
 repeat' first | refine kW ?_ | (refine Nx.zo ?_; first | refine kP ?_ | refine kV hC ?_) | refine kS ?_ | refine kB fun bx => ?_ | refine kA fun A2 c2 => ?_ | refine kX (fun hc => ?_) fun hc => ?_ | fail
 refine Nx.p_loop (σ:=Nat) (fun i => [(2,.slice Ap prot.length cp),(11,.int .i64 ((i + 1 : Nat) : Int))])
  (fun _ => [F]) (fun i => i ≤ prot.length ∧ ∀ j,j < i → j + 1 < prot.length → prot.getD j default < prot.getD (j + 1) default) (fun i => prot.length - i) 0 rfl ⟨nZl _,fun j hj => absurd hj (Nat.not_lt_zero _)⟩ ⟨rfl,rfl,trivial⟩ (by exact zE) ?_
 rintro i ⟨hi,hall⟩
 by_cases hlt : i + 1 < prot.length
 case neg =>
  rw [if_pos (pairwise_adj fun j hj => hall j (by omega) hj)]
  repeat' first | refine kS ?_ | refine kB fun bx => ?_ | refine kA fun A2 c2 => ?_ | refine kX (fun hc => ?_) fun hc => ?_ | fail
  exact Nx.imm_le hI2 kT
 have hadj:=fun h : prot.Pairwise (· < ·) => adj_of h hlt
 have r1:=fun (W : World) (R : List Res) => hp.rd (W:=W) (R:=R) (k:=i) (by omega)
 have r2:=fun (W : World) (R : List Res) => hp.rd (W:=W) (R:=R) hlt
 have hnx : ∀ j,j < i + 1 → prot.getD i default < prot.getD (i + 1) default → j + 1 < prot.length → prot.getD j default < prot.getD (j + 1) default:=fun j hj hx h => by
  rcases Nat.lt_or_ge j i with h' | h'
  ·exact hall j h' h
  ·rw [show j = i by omega]; exact hx
 generalize prot.getD i default = x at hadj r1 hnx
 generalize prot.getD (i + 1) default = y at hadj r2 hnx
 have hi1 : (((i + 1 : Nat) : Int) - 1).toNat = i:=by omega
 have r1' : ∀ (W : World) (R : List Res),Rd W I2 R ((ad Ap).add ((((i + 1 : Nat) : Int) - 1).toNat * 1)) (.int .i64 x):=fun W R => by rw [hi1]; exact r1 W R
 by_cases hxy : x < y
 ·repeat' first | ((with_reducible refine Nx.is_wp ?_); first | refine Nx.wo ?_ | refine kD 10 [0,1,2,3,4,5,6,7,8,9] [] ?_) | refine kS ?_ | refine kB fun bx => ?_ | refine kA fun A2 c2 => ?_ | ((with_reducible refine Nx.is_mix ?_); refine kQ rfl rfl rfl rfl (by first | exact .inl rfl | exact .inr ⟨_,_,_,rfl,rfl,rfl⟩) (by first | exact QRun.opr rfl | exact QRun.idxi (A:=Ap) (i:=((i + 1 : Nat) : Int) - 1) (sz:=1) rfl rfl rfl rfl (by omega) (by omega) (hp.isSome (by omega)) | exact QRun.idx (A:=Ap) (i:=i + 1) (sz:=1) rfl rfl rfl rfl (by omega) (hp.isSome (by omega)) | exact QRun.load rfl rfl (r1' _ _) | exact QRun.load rfl rfl (r2 _ _)) ?_) | refine kX (fun hc => ?_) fun hc => ?_ | fail
  exact Nx.again (i + 1) ⟨by omega,fun j hj h => hnx j hj hxy h⟩ (by omega) ⟨rfl,rfl,trivial⟩ (by exact zE)
 ·rw [if_neg fun h => hxy (hadj h)]
  repeat' first | ((with_reducible refine Nx.is_wp ?_); first | refine Nx.wo ?_ | refine kD 10 [0,1,2,3,4,5,6,7,8,9] [] ?_) | refine kS ?_ | refine kB fun bx => ?_ | refine kA fun A2 c2 => ?_ | ((with_reducible refine Nx.is_mix ?_); refine kQ rfl rfl rfl rfl (by first | exact .inl rfl | exact .inr ⟨_,_,_,rfl,rfl,rfl⟩) (by first | exact QRun.opr rfl | exact QRun.idxi (A:=Ap) (i:=((i + 1 : Nat) : Int) - 1) (sz:=1) rfl rfl rfl rfl (by omega) (by omega) (hp.isSome (by omega)) | exact QRun.idx (A:=Ap) (i:=i + 1) (sz:=1) rfl rfl rfl rfl (by omega) (hp.isSome (by omega)) | exact QRun.load rfl rfl (r1' _ _) | exact QRun.load rfl rfl (r2 _ _)) ?_) | refine kX (fun hc => ?_) fun hc => ?_ | fail
  exact Nx.imm_le hI2 kT
def narrowB (x : Rch) (m : Int) : Bool:=!x.2.2 && decide (x.2.1 - x.1 < m)
def rchOk (x : Rch) : Prop:=(0 ≤ x.1 ∧ x.1 ≤ 1000000) ∧ (0 ≤ x.2.1 ∧ x.2.1 ≤ 1000000)
theorem narrow_spec (x : Rch) (m : Int) (I : PH) (hx : rchOk x) : FnSpec Tryz.prog 85 [.agg #[.int .i64 x.1,.int .i64 x.2.1,.bool x.2.2],.int .i64 m] I [] (fun v R' => v = .bool (narrowB x m) ∧ R' = []):=by
 obtain ⟨lo,hi,op⟩:=x
 unfold rchOk at hx
 unfold narrowB
 dsimp only at hx ⊢
 obtain ⟨⟨h1,h2⟩,h3,h4⟩:=hx
 refine FnSpec.enterP Tryz.func85 rfl Tryz.ntmps85 rfl fun w F => ?_
 cases op with
 | true =>
  repeat' first | refine kS ?_ | refine kB fun bx => ?_ | refine kA fun A2 c2 => ?_ | refine kX (fun hc => ?_) fun hc => ?_ | fail
  exact kT
 | false =>
  repeat' first | refine kS ?_ | refine kB fun bx => ?_ | refine kA fun A2 c2 => ?_ | refine kX (fun hc => ?_) fun hc => ?_ | fail
  exact kT
theorem reach_ok {N x : Nat} {qs : List EqR} (hg : ∀ q ∈ qs,GoodE N q) (hne : solsOf N (eqns qs) ≠ []) : rchOk (reachAt N (eqns qs) x):=by
 unfold rchOk reachAt
 by_cases hx : x ∈ touch N (eqns qs)
 ·rw [if_pos hx]
  have hat : ∀ s ∈ solsOf N (eqns qs),0 ≤ s.getD x 0 ∧ s.getD x 0 ≤ 1000000:=fun s hs => ((mem_sols hg).1 hs).pos x hx
  have e : ∀ down,(extOf N (eqns qs) x down).headD [] ∈ solsOf N (eqns qs):=fun down => by
   obtain ⟨a,ra,ha,_⟩:=ext_some down hg hx hne
   rw [ha]; exact (ext_head hg hx ha).1
  exact ⟨hat _ (e false),hat _ (e true)⟩
 ·rw [if_neg hx]; decide
theorem ext_all {N x : Nat} {qs : List EqR} (hg : ∀ q ∈ qs,GoodE N q) (hne : solsOf N (eqns qs) ≠ []) (hx : x ∈ touch N (eqns qs)) (down : Bool) : (extOf N (eqns qs) x down).headD [] ∈ solsOf N (eqns qs) ∧ ∀ s ∈ solsOf N (eqns qs),if down then s.getD x 0 ≤ ((extOf N (eqns qs) x down).headD []).getD x 0 else ((extOf N (eqns qs) x down).headD []).getD x 0 ≤ s.getD x 0:=by
 obtain ⟨a,ra,ha,_⟩:=ext_some down hg hx hne
 have h:=ext_head hg hx ha
 rw [ha]
 exact h
theorem range_at {α : Type} [Inhabited α] {f : Nat → α} {N x : Nat} (hx : x < N) : ((List.range N).map f).getD x default = f x:=by
 rw [gEl,gMp,List.getElem?_range hx]; rfl
abbrev Exp:=Int × Rch × Int
def exC (x : Exp) : List Value:=[.int .i64 x.1,.int .i64 x.2.1.1,.int .i64 x.2.1.2.1,.bool x.2.1.2.2,.int .i64 x.2.2]
theorem exC_len (x : Exp) : (exC x).length = 5:=rfl
abbrev expR (A : Option Addr) (c : Nat) (l : List Exp) : Res:=Vec 75 5 A l.length c (l.flatMap exC)
theorem reachR_cases {n : Int} {qs : List EqR} (h : (reachR n qs).2 = 0) : (1 ≤ n ∧ n ≤ 48) ∧ (reachR n qs).1 = (List.range n.toNat).map (reachAt n.toNat (eqns qs)) ∧ (∀ q ∈ qs,GoodE n.toNat q) ∧ solsOf n.toNat (eqns qs) ≠ [] ∧ chkQ n qs = 0:=by
 unfold reachR at h ⊢
 split at h
 ·rename_i h0
  obtain ⟨h1,_,h3,_⟩:=chk_good h0
  rw [if_pos h0]
  split at h
  ·exact absurd h (by decide)
  ·rename_i h4
   rw [if_neg h4]
   exact ⟨h1,rfl,h3,h4,h0⟩
 ·rename_i h0; exact absurd h h0
theorem rchD_zero {l : List Int} {rs : List Rel} (h : (rchD l rs).2 = 0) : relsE l rs = 0 ∧ rchD l rs = reachR (prod l) (qsOf l rs):=by
 unfold rchD at h ⊢
 split at h
 ·rename_i h0; rw [if_pos h0]; exact ⟨h0,rfl⟩
 ·rename_i h0; exact absurd h h0
theorem rchD_ok {l : List Int} {rs : List Rel} (h : (rchD l rs).2 = 0) : (rchD l rs).1.length = (prod l).toNat ∧ ∀ k,k < (prod l).toNat → (rchD l rs).1.getD k default = reachAt (prod l).toNat (eqns (qsOf l rs)) k ∧ rchOk ((rchD l rs).1.getD k default):=by
 obtain ⟨_,he⟩:=rchD_zero h
 rw [he] at h ⊢
 obtain ⟨_,h2,h3,h4,_⟩:=reachR_cases h
 rw [h2]
 refine ⟨by simp,fun k hk => ?_⟩
 rw [range_at hk]
 exact ⟨rfl,reach_ok h3 h4⟩
theorem chkD_ok {l : List Int} {rs : List Rel} {prot : List Int} {m : Int} (h : chkD l rs prot m = 0) : relsE l rs = 0 ∧ (1 ≤ m ∧ m ≤ 100) ∧ (∀ k ∈ prot,0 ≤ k ∧ k < prod l) ∧ prot.Pairwise (· < ·):=by
 unfold chkD at h
 split at h
 ·rename_i h0; exact absurd h h0
 rename_i h0
 split at h
 ·omega
 rename_i h1
 split at h
 ·omega
 rename_i h2
 split at h
 ·rename_i h3
  refine ⟨Decidable.byContradiction h0,by omega,fun k hk => ?_,h3⟩
  have : ¬ outP (prod l) k = true:=fun hb => h2 (List.any_eq_true.2 ⟨k,hk,hb⟩)
  unfold outP at this
  rw [decide_eq_true_eq] at this
  omega
 ·omega
def exOf (rc : List Rch) (prot : List Int) (m : Int) : List Exp:=(prot.filter fun k => narrowB (rc.getD k.toNat default) m).map fun k => (k,rc.getD k.toNat default,-1)
theorem exOf_snoc (rc : List Rch) (p : List Int) (k m : Int) : exOf rc (p ++ [k]) m = exOf rc p m ++ if narrowB (rc.getD k.toNat default) m = true then [(k,rc.getD k.toNat default,-1)] else []:=by
 unfold exOf
 rw [List.filter_append,mAp]
 congr 1
 rw [List.filter_cons,List.filter_nil]
 split <;> rfl
theorem exOf_len (rc : List Rch) (p : List Int) (m : Int) : (exOf rc p m).length ≤ p.length:=by
 unfold exOf
 rw [lMp]
 exact List.length_filter_le _ _
def findD (l : List Int) (rs : List Rel) (prot : List Int) (m : Int) : List Exp × Int :=
 if chkD l rs prot m ≠ 0 then ([],chkD l rs prot m) else if (rchD l rs).2 ≠ 0 then ([],(rchD l rs).2) else (exOf (rchD l rs).1 prot m,0)
theorem find_spec (A As Ap : Option Addr) (c cs cp : Nat) (l : List Int) (rs : List Rel) (prot : List Int) (m : Int) (I : PH) (hl : Ints I A c l) (hs : Sizes l) (hr : Rels I As cs rs) (hw : ∀ r ∈ rs,Viewed l r.v) (hp : Ints I Ap cp prot) (hp9 : prot.length ≤ 1000000) :
  FnSpec Tryz.prog 83 [.agg #[.slice A l.length c],.slice As rs.length cs,.slice Ap prot.length cp,.int .i64 m] I []
   (fun u R' => ∃ (A' : Option Addr) (c' : Nat),u = .tuple #[.slice A' (findD l rs prot m).1.length c',.int .i64 (findD l rs prot m).2] ∧ R' = [expR A' c' (findD l rs prot m).1]):=by
 have hK:=check_specD A As Ap c cs cp l rs prot m I hl hs hr hw hp
 have hR:=reaches_spec A As c cs l rs I hl hs hr hw
 have hz:=size_ok hs
 unfold findD
 refine FnSpec.enterP Tryz.func83 rfl Tryz.ntmps83 rfl fun w F => ?_
 by_cases h0 : chkD l rs prot m = 0
 case neg =>
  rw [if_pos h0]
  generalize chkD l rs prot m = er at h0 hK
  repeat' first | refine kW ?_ | (refine Nx.zo ?_; first | refine kP ?_ | refine kV hK ?_) | refine kS ?_ | refine kB fun bx => ?_ | refine kA fun A2 c2 => ?_ | refine kX (fun hc => ?_) fun hc => ?_ | fail
  exact Nx.ret_fn rfl [_] ⟨none,0,rfl,rfl⟩ ((Ent.vec_nil 75 5 _).trans (by exact zE))
 rw [if_neg (by omega)]
 have hck:=chkD_ok h0
 rw [h0] at hK
 have hok:=fun h => rchD_ok (l:=l) (rs:=rs) h
 generalize rchD l rs = rq at hR hok
 obtain ⟨rc,er⟩:=rq
 dsimp only at hR hok ⊢
 by_cases h1 : er = 0
 case neg =>
  rw [if_pos h1]
  repeat' first | refine kW ?_ | (refine Nx.zo ?_; first | refine kP ?_ | refine kV hK ?_ | (refine kC hR ?_; rintro _ _ ⟨Am,cm,rfl,rfl⟩)) | refine kS ?_ | refine kB fun bx => ?_ | refine kA fun A2 c2 => ?_ | refine kX (fun hc => ?_) fun hc => ?_ | fail
  exact Nx.ret_fn rfl [_] ⟨none,0,rfl,rfl⟩ ((Ent.vec_nil 75 5 _).trans (by exact zE))
 subst h1
 obtain ⟨hrl,hrk⟩:=hok rfl
 rw [if_neg (by decide)]
 repeat' first | refine kW ?_ | (refine Nx.zo ?_; first | refine kP ?_ | refine kV hK ?_ | (refine kC hR ?_; rintro _ _ ⟨Am,cm,rfl,rfl⟩)) | refine kS ?_ | refine kB fun bx => ?_ | refine kA fun A2 c2 => ?_ | refine kX (fun hc => ?_) fun hc => ?_ | fail
 refine Nx.freezeAt 0 rfl fun I2 m2 hI2 hm2 h2 => ?_
 have hRc : SliceN rcC 3 I2 Am cm rc:=Vec.sliceN hm2 h2 fun x _ => rcC_len x
 replace hp:=hp.mono hI2
 refine Nx.p_loop (σ:=Nat × Option Addr × Nat) (fun s => [(3,.int .i64 m),(11,.slice Am rc.length cm),(13,.slice s.2.1 (exOf rc (prot.take s.1) m).length s.2.2),(33,.slice Ap prot.length cp),(34,.int .i64 prot.length),(35,.int .i64 (s.1 : Int))])
  (fun s => [expR s.2.1 s.2.2 (exOf rc (prot.take s.1) m),F]) (fun s => s.1 ≤ prot.length) (fun s => prot.length - s.1) (0,none,0) rfl (nZl _) zR ((Ent.vec_nil 75 5 _).trans (by exact zE)) ?_
 rintro ⟨i,Ao,co⟩ hi
 dsimp only at hi ⊢
 by_cases hiv : i < prot.length
 case neg =>
  obtain rfl : i = prot.length:=by omega
  rw [tLn]
  repeat' first | refine kS ?_ | refine kB fun bx => ?_ | refine kA fun A2 c2 => ?_ | refine kX (fun hc => ?_) fun hc => ?_ | fail
  exact Nx.imm_le hI2 (Nx.ret_fn rfl [_] ⟨Ao,co,rfl,rfl⟩ (by exact zE))
 have htk:=take_snocJ hiv
 have hk2:=hck.2.2.1 _ (getD_memI hiv)
 have hrd : ∀ (W : World) (R : List Res),Rd W I2 R ((ad Ap).add (i * 1)) (.int .i64 (prot.getD i default)):=fun W R => hp.rd hiv
 generalize prot.getD i default = k at htk hk2 hrd
 obtain ⟨y,rfl⟩ : ∃ y : Nat,k = y:=⟨k.toNat,by omega⟩
 have hyl : y < rc.length:=by omega
 have hsn:=exOf_snoc rc (prot.take i) (y : Int) m
 rw [← htk,nCt] at hsn
 have hxo:=(hrk y (by omega)).2
 have hexl:=exOf_len rc (prot.take i) m
 rw [lTk] at hexl
 have hrds : ∀ (W : World) (R : List Res),Rds W I2 R ((ad Am).add (y * 3)) (rcC (rc.getD y default)):=fun W R => hRc.rds hyl
 generalize rc.getD y default = x at hsn hxo hrds
 have hN:=narrow_spec x m I2 hxo
 obtain ⟨lo,hi',op⟩:=x
 dsimp only at hN
 replace hrds : ∀ (W : World) (R : List Res),Rds W I2 R ((ad Am).add (y * 3)) [.int .i64 lo,.int .i64 hi',.bool op]:=hrds
 generalize exOf rc (prot.take i) m = out at hsn hexl
 cases hb : narrowB (lo,hi',op) m with
 | false =>
  rw [hb] at hN hsn
  rw [if_neg (by decide),List.append_nil] at hsn
  repeat' first | refine kW ?_ | (refine Nx.zo ?_; first | refine kP ?_ | refine Nx.indexAddr_nat (A:=Ap) rfl rfl rfl rfl rfl hiv (hp.isSome (by omega)) ?_ | refine Nx.load rfl rfl rfl (hrd _ _) ?_ | refine Nx.indexAddr_nat (A:=Am) (i:=y) (sz:=3) rfl rfl rfl rfl rfl hyl (hRc.isSome (by omega) (by omega)) ?_ | refine Nx.loads rfl rfl rfl rfl (hrds _ _) rfl ?_ | refine kV hN ?_) | refine kS ?_ | refine kB fun bx => ?_ | refine kA fun A2 c2 => ?_ | refine kX (fun hc => ?_) fun hc => ?_ | fail
  exact Nx.again (i + 1,Ao,co) hiv (by dsimp only; omega) ⟨rfl,rfl,by dsimp only; rw [hsn]; rfl,rfl,rfl,rfl,trivial⟩ (by dsimp only; rw [hsn]; (exact zE))
 | true =>
  rw [hb] at hN hsn
  rw [if_pos rfl] at hsn
  repeat' first | refine kW ?_ | (refine Nx.zo ?_; first | refine kP ?_ | refine Nx.indexAddr_nat (A:=Ap) rfl rfl rfl rfl rfl hiv (hp.isSome (by omega)) ?_ | refine Nx.load rfl rfl rfl (hrd _ _) ?_ | refine Nx.indexAddr_nat (A:=Am) (i:=y) (sz:=3) rfl rfl rfl rfl rfl hyl (hRc.isSome (by omega) (by omega)) ?_ | refine Nx.loads rfl rfl rfl rfl (hrds _ _) rfl ?_ | refine kV hN ?_) | refine kS ?_ | refine kB fun bx => ?_ | refine kA fun A2 c2 => ?_ | refine kX (fun hc => ?_) fun hc => ?_ | fail
  exact Nx.again (i + 1,A2,c2) hiv (by dsimp only; omega) ⟨rfl,rfl,by dsimp only; rw [hsn,lAp]; rfl,rfl,rfl,rfl,trivial⟩ (by dsimp only; unfold expR; rw [hsn,lAp,List.flatMap_append,List.flatMap_cons,List.flatMap_nil,List.append_nil]; (exact zE))
def hitB (l : List Int) (rs : List Rel) (m cell : Int) (i : Nat) : Bool:=decide ((rchD l (rs.take (i + 1))).2 = 0) && narrowB ((rchD l (rs.take (i + 1))).1.getD cell.toNat default) m
def firstN (l : List Int) (rs : List Rel) (m cell : Int) : Nat → Int
 | 0 => -1
 | i + 1 => if firstN l rs m cell i < 0 ∧ hitB l rs m cell i = true then (rs.getD i default).num else firstN l rs m cell i
def expK (l : List Int) (rs : List Rel) (m : Int) (i : Nat) (e : Exp) : Exp:=(e.1,e.2.1,firstN l rs m e.1 i)
def expD (l : List Int) (rs : List Rel) (prot : List Int) (m : Int) : List Exp × Int:=((findD l rs prot m).1.map (expK l rs m rs.length),(findD l rs prot m).2)
def cntN : List Exp → Int
 | [] => 0
 | e :: r => (if e.2.2 < 0 then 1 else 0) + cntN r
theorem cntN_bd : ∀ l,0 ≤ cntN l ∧ cntN l ≤ l.length
 | [] => by simp [cntN]
 | e :: r => by
  have:=cntN_bd r
  rw [cntN,List.length_cons]
  split <;> omega
theorem cntN_set : ∀ {l : List Exp} {k : Nat} (x : Exp),k < l.length → cntN (l.set k x) = cntN l - (if (l.getD k default).2.2 < 0 then 1 else 0) + (if x.2.2 < 0 then 1 else 0)
 | [],k,_,h => absurd h (Nat.not_lt_zero _)
 | e :: r,0,x,_ => by
  rw [List.set_cons_zero,cntN,cntN]
  show _ = _ - (if e.2.2 < 0 then 1 else 0) + _
  omega
 | e :: r,k + 1,x,h => by
  have:=cntN_set (l:=r) (k:=k) x (by simpa using h)
  rw [List.set_cons_succ,cntN,cntN,this]
  show _ = _ - (if (r.getD k default).2.2 < 0 then 1 else 0) + _
  omega
theorem cntN_zero : ∀ {l : List Exp},cntN l = 0 → ∀ k,k < l.length → ¬ (l.getD k default).2.2 < 0
 | [],_,k,h => absurd h (Nat.not_lt_zero _)
 | e :: r,h,0,_ => by
  have:=cntN_bd r
  rw [cntN] at h
  intro he
  have he : e.2.2 < 0:=he
  rw [if_pos he] at h
  omega
 | e :: r,h,k + 1,hk => by
  have:=cntN_bd r
  rw [cntN] at h
  exact cntN_zero (l:=r) (by split at h <;> omega) k (by simpa using hk)
theorem cntN_neg : ∀ {l : List Exp},(∀ e ∈ l,e.2.2 = -1) → cntN l = l.length
 | [],_ => rfl
 | e :: r,h => by
  rw [cntN,cntN_neg fun x hx => h x (List.mem_cons_of_mem _ hx),h e List.mem_cons_self,List.length_cons,if_pos (by decide)]
  omega
theorem getD_memX {l : List Exp} {k : Nat} (h : k < l.length) : l.getD k default ∈ l:=by
 rw [gEl,gEq h]; exact List.getElem_mem _
theorem map_atX {f : Exp → Exp} {l : List Exp} {k : Nat} (h : k < l.length) : (l.map f).getD k default = f (l.getD k default):=by
 rw [gEl,gMp,gEl,gEq h]; rfl
theorem Rels.take {I : PH} {A : Option Addr} {c : Nat} {l : List Rel} (h : Rels I A c l) (k : Nat) : Rels I A c (l.take k):=by
 refine ⟨⟨fun j u hj => ?_,by have:=h.outer.cap; rw [lTk]; omega,h.outer.max,fun x hx => h.outer.cells x (List.mem_of_mem_take hx)⟩,fun r hr => h.view r (List.mem_of_mem_take hr),fun r hr => h.val r (List.mem_of_mem_take hr)⟩
 refine h.outer.arr j u ?_
 have e : l.flatMap relC = (l.take k).flatMap relC ++ (l.drop k).flatMap relC:=by rw [← List.flatMap_append,List.take_append_drop]
 rw [e,List.getElem?_append_left (List.getElem?_eq_some_iff.1 hj).1]
 exact hj
structure Mid (l : List Int) (rs : List Rel) (m : Int) (base : List Exp) (i k : Nat) (os : List Exp) : Prop where
 len : os.length = base.length
 at_ : ∀ j,j < base.length → os.getD j default = expK l rs m (if j < k then i + 1 else i) (base.getD j default)
theorem Mid.start (l : List Int) (rs : List Rel) (m : Int) (base : List Exp) (i : Nat) : Mid l rs m base i 0 (base.map (expK l rs m i)) :=
 ⟨by rw [lMp],fun j hj => by rw [map_atX hj,if_neg (Nat.not_lt_zero _)]⟩
theorem ext_X {a b : List Exp} (hl : a.length = b.length) (h : ∀ j,j < a.length → a.getD j default = b.getD j default) : a = b:=list_ext_d hl h
theorem Mid.done {l : List Int} {rs : List Rel} {m : Int} {base : List Exp} {i : Nat} {os : List Exp} (h : Mid l rs m base i base.length os) : os = base.map (expK l rs m (i + 1)) :=
 ext_X (by rw [h.len,lMp]) fun j hj => by rw [h.len] at hj; rw [h.at_ j hj,map_atX hj,if_pos hj]
theorem Mid.same {l : List Int} {rs : List Rel} {m : Int} {base : List Exp} {i k : Nat} {os : List Exp} (h : Mid l rs m base i k os) (hk : k < base.length) (he : firstN l rs m (base.getD k default).1 (i + 1) = firstN l rs m (base.getD k default).1 i) : Mid l rs m base i (k + 1) os :=
 ⟨h.len,fun j hj => by
  rw [h.at_ j hj]
  rcases Nat.lt_trichotomy j k with h1 | h1 | h1
  ·rw [if_pos h1,if_pos (by omega)]
  ·subst h1
   rw [if_neg (by omega),if_pos (by omega)]
   unfold expK
   rw [he]
  ·rw [if_neg (by omega),if_neg (by omega)]⟩
theorem Mid.put {l : List Int} {rs : List Rel} {m : Int} {base : List Exp} {i k : Nat} {os : List Exp} (h : Mid l rs m base i k os) (hk : k < base.length) : Mid l rs m base i (k + 1) (os.set k (expK l rs m (i + 1) (base.getD k default))) :=
 ⟨by rw [List.length_set]; exact h.len,fun j hj => by
  rw [gEl]
  rcases Nat.lt_trichotomy j k with h1 | h1 | h1
  ·rw [List.getElem?_set_ne (by omega),← gEl,h.at_ j hj,if_pos h1,if_pos (by omega)]
  ·subst h1
   rw [List.getElem?_set_self (by rw [h.len]; exact hj),if_pos (by omega)]; rfl
  ·rw [List.getElem?_set_ne (by omega),← gEl,h.at_ j hj,if_neg (by omega),if_neg (by omega)]⟩
theorem firstN_stays {l : List Int} {rs : List Rel} {m cell : Int} {i : Nat} (h : ¬ firstN l rs m cell i < 0) : ∀ n,i ≤ n → firstN l rs m cell n = firstN l rs m cell i
 | 0,hn => by rw [show i = 0 by omega]
 | n + 1,hn => by
  rcases Nat.lt_or_ge n i with h1 | h1
  ·rw [show i = n + 1 by omega]
  ·have ih:=firstN_stays h n h1
   rw [firstN,ih,if_neg fun h2 => h h2.1]
theorem Exposed_spec (A As Ap : Option Addr) (c cs cp : Nat) (l : List Int) (rs : List Rel) (prot : List Int) (m : Int) (I : PH) (hl : Ints I A c l) (hs : Sizes l) (hr : Rels I As cs rs) (hw : ∀ r ∈ rs,Viewed l r.v) (hp : Ints I Ap cp prot) (hp9 : prot.length ≤ 1000000) :
  FnSpec Tryz.prog 28 [.agg #[.slice A l.length c],.slice As rs.length cs,.slice Ap prot.length cp,.int .i64 m] I []
   (fun u R' => ∃ (A' : Option Addr) (c' : Nat),u = .tuple #[.slice A' (expD l rs prot m).1.length c',.int .i64 (expD l rs prot m).2] ∧ R' = [expR A' c' (expD l rs prot m).1]):=by
 have hF:=find_spec A As Ap c cs cp l rs prot m I hl hs hr hw hp hp9
 have hz:=size_ok hs
 have hrcap:=hr.outer.cap
 have hrl:=hr.outer.len
 unfold expD
 have hbase : ∀ e ∈ (findD l rs prot m).1,e.2.2 = -1 ∧ (0 ≤ e.1 ∧ e.1 < prod l) ∧ rchOk e.2.1:=fun e he => by
  unfold findD at he
  split at he
  ·cases he
  rename_i h0
  split at he
  ·cases he
  rename_i h1
  have h1 : (rchD l rs).2 = 0:=Decidable.byContradiction h1
  have hck:=(chkD_ok (Decidable.byContradiction h0)).2.2.1
  unfold exOf at he
  obtain ⟨k,hk,rfl⟩:=List.mem_map.1 he
  have hk:=hck k (List.mem_filter.1 hk).1
  exact ⟨rfl,hk,((rchD_ok h1).2 k.toNat (by omega)).2⟩
 have hfl : (findD l rs prot m).1.length ≤ 1000000:=by
  unfold findD
  split
  ·simp
  split
  ·simp
  ·exact Nat.le_trans (exOf_len _ _ _) hp9
 have herr : (findD l rs prot m).2 ≠ 0 → (findD l rs prot m).1 = []:=fun h => by
  unfold findD at h ⊢
  split at h
  ·rename_i h0; rw [if_pos h0]
  rename_i h0
  rw [if_neg h0]
  split at h
  ·rename_i h1; rw [if_pos h1]
  ·exact absurd rfl h
 have hgood : (findD l rs prot m).2 = 0 → RelsV l rs:=fun h => by
  unfold findD at h
  split at h
  ·rename_i h0; exact absurd h h0
  rename_i h0
  exact (relsE_iff hs hw).1 (chkD_ok (Decidable.byContradiction h0)).1
 generalize findD l rs prot m = fq at hF hbase hfl herr hgood
 obtain ⟨base,er⟩:=fq
 dsimp only at hF hbase hfl herr hgood ⊢
 refine FnSpec.enterP Tryz.func28 rfl Tryz.ntmps28 rfl fun w F => ?_
 by_cases h0 : er = 0
 case neg =>
  have hb:=herr h0
  subst hb
  repeat' first | refine kW ?_ | (refine Nx.zo ?_; first | refine kP ?_ | (refine kC hF ?_; rintro _ _ ⟨Ao,co,rfl,rfl⟩)) | refine kS ?_ | refine kB fun bx => ?_ | refine kA fun A2 c2 => ?_ | refine kX (fun hc => ?_) fun hc => ?_ | fail
  exact Nx.ret_fn rfl [_] ⟨none,0,rfl,rfl⟩ ((Ent.vec_nil 75 5 _).trans (by exact zE))
 subst h0
 have hV:=hgood rfl
 have h24:=hV.len
 repeat' first | refine kW ?_ | (refine Nx.zo ?_; first | refine kP ?_ | (refine kC hF ?_; rintro _ _ ⟨Ao,co,rfl,rfl⟩)) | refine kS ?_ | refine kB fun bx => ?_ | refine kA fun A2 c2 => ?_ | refine kX (fun hc => ?_) fun hc => ?_ | fail
 revert bx; intro b4
 refine Nx.p_loop (σ:=Nat) (fun i => [(1,.slice As rs.length cs),(3,.int .i64 m),(4,.pointer (some ⟨b4,0,none⟩)),(10,.slice Ao base.length co),(12,.int .i64 (cntN (base.map (expK l rs m i)))),(31,.slice As rs.length cs),(32,.int .i64 rs.length),(33,.int .i64 (i : Int))])
  (fun i => [Blk b4 54 [.slice A l.length c],Vec 75 5 Ao base.length co ((base.map (expK l rs m i)).flatMap exC),F]) (fun i => i ≤ rs.length) (fun i => rs.length - i) 0 rfl (nZl _) ⟨rfl,rfl,rfl,rfl,by
   rw [cntN_neg fun e he => by
    obtain ⟨x,_,rfl⟩:=List.mem_map.1 he
    rfl,lMp]; rfl,rfl,rfl,rfl,trivial⟩ (by
   have : base.map (expK l rs m 0) = base:=by
    conv => rhs; rw [← List.map_id base]
    refine List.map_congr_left fun e he => ?_
    have:=(hbase e he).1
    unfold expK firstN
    rw [← this]; rfl
   rw [this]; (exact zE)) ?_
 intro i hi
 have hi : i ≤ rs.length:=hi
 dsimp only
 have hcb:=cntN_bd (base.map (expK l rs m i))
 rw [lMp] at hcb
 by_cases hil : i < rs.length
 case neg =>
  obtain rfl : i = rs.length:=by omega
  repeat' first | refine kS ?_ | refine kB fun bx => ?_ | refine kA fun A2 c2 => ?_ | refine kX (fun hc => ?_) fun hc => ?_ | fail
  exact Nx.ret_fn rfl [_] ⟨Ao,co,by rw [lMp],rfl⟩ (by unfold expR; rw [lMp]; (exact zE))
 by_cases hm0 : cntN (base.map (expK l rs m i)) = 0
 ·have hst : base.map (expK l rs m i) = base.map (expK l rs m rs.length):=by
   have hz:=cntN_zero hm0
   refine ext_X (by rw [lMp,lMp]) fun j hj => ?_
   have hz:=hz j hj
   rw [lMp] at hj
   rw [map_atX hj] at hz ⊢
   rw [map_atX hj]
   unfold expK at hz ⊢
   rw [firstN_stays hz rs.length hi]
  rw [hm0]
  repeat' first | refine kS ?_ | refine kB fun bx => ?_ | refine kA fun A2 c2 => ?_ | refine kX (fun hc => ?_) fun hc => ?_ | fail
  exact Nx.ret_fn rfl [_] ⟨Ao,co,by rw [lMp],rfl⟩ (by unfold expR; rw [lMp,← hst]; (exact zE))
 have hti : (rs.take (i + 1)).length = i + 1:=by rw [lTk]; omega
 have hR:=reaches_spec A As c cs l (rs.take (i + 1)) I hl hs (Rels.take hr (i + 1)) fun r hr' => hw r (List.mem_of_mem_take hr')
 rw [hti] at hR
 have hok:=fun h => rchD_ok (l:=l) (rs:=rs.take (i + 1)) h
 have hhit : ∀ cell,hitB l rs m cell i = (decide ((rchD l (rs.take (i + 1))).2 = 0) && narrowB ((rchD l (rs.take (i + 1))).1.getD cell.toNat default) m):=fun _ => rfl
 generalize rchD l (rs.take (i + 1)) = rq at hR hok hhit
 obtain ⟨rc,e2⟩:=rq
 dsimp only at hR hok hhit
 generalize hcn : cntN (base.map (expK l rs m i)) = cn at hcb hm0
 repeat' first | ((with_reducible refine Nx.is_wp ?_); first | refine Nx.wo ?_ | refine kD 9 [0,1,2,3,4,5,6,7,8,9,10] [5] ?_) | (refine Nx.zo ?_; first | refine kP ?_ | (refine kC hR ?_; rintro _ _ ⟨Am,cm,rfl,rfl⟩)) | refine kS ?_ | refine kB fun bx => ?_ | refine kA fun A2 c2 => ?_ | ((with_reducible refine Nx.is_mix ?_); refine kQ rfl rfl rfl rfl (by first | exact .inl rfl | exact .inr ⟨_,_,_,rfl,rfl,rfl⟩) (by first | exact QRun.opr rfl | exact QRun.slice_hi (h:=i + 1) rfl rfl rfl rfl (by omega)) ?_) | refine kX (fun hc => ?_) fun hc => ?_ | fail
 refine Nx.freezeAt 0 rfl fun I3 m3 hI3 hm3 h3 => ?_
 have hRc : SliceN rcC 3 I3 Am cm rc:=Vec.sliceN hm3 h3 fun x _ => rcC_len x
 have hr3:=hr.mono hI3
 refine Nx.p_loop (σ:=Nat × List Exp) (fun s => [(1,.slice As rs.length cs),(3,.int .i64 m),(4,.pointer (some ⟨b4,0,none⟩)),(10,.slice Ao base.length co),(12,.int .i64 (cntN s.2)),(13,.int .i64 (i : Int)),(14,.slice Am rc.length cm),(15,.int .i64 e2),(31,.slice As rs.length cs),(32,.int .i64 rs.length),(33,.int .i64 (i : Int)),(47,.slice Ao base.length co),(48,.int .i64 base.length),(49,.int .i64 (s.1 : Int))])
  (fun s => [Blk b4 54 [.slice A l.length c],Vec 75 5 Ao base.length co (s.2.flatMap exC),F]) (fun s => s.1 ≤ base.length ∧ Mid l rs m base i s.1 s.2) (fun s => base.length - s.1) (0,base.map (expK l rs m i)) rfl ⟨nZl _,Mid.start l rs m base i⟩ ⟨rfl,rfl,rfl,rfl,by dsimp only; rw [hcn]; rfl,rfl,rfl,rfl,rfl,rfl,rfl,rfl,rfl,rfl,trivial⟩ (by exact zE) ?_
 rintro ⟨k,os⟩ ⟨hk,hM⟩
 dsimp only at hk hM ⊢
 by_cases hkl : k < base.length
 case neg =>
  obtain rfl : k = base.length:=by omega
  have hd:=hM.done
  subst hd
  repeat' first | refine kS ?_ | refine kB fun bx => ?_ | refine kA fun A2 c2 => ?_ | refine kX (fun hc => ?_) fun hc => ?_ | fail
  exact Nx.imm_le hI3 (Nx.again (i + 1) hil (by omega) zR (by exact zE))
 have hosl:=hM.len
 have hek:=hM.at_ k hkl
 rw [if_neg (Nat.lt_irrefl k)] at hek
 obtain ⟨_,hcell,_⟩:=hbase _ (getD_memX hkl)
 have hMs:=hM.same hkl
 have hMp:=hM.put hkl
 have hst : firstN l rs m (base.getD k default).1 (i + 1) = if firstN l rs m (base.getD k default).1 i < 0 ∧ hitB l rs m (base.getD k default).1 i = true then (rs.getD i default).num else firstN l rs m (base.getD k default).1 i:=rfl
 rw [hhit] at hst
 have hcs:=fun x => cntN_set (l:=os) (k:=k) x (by omega)
 have hcb2:=cntN_bd os
 have hnum : ∀ (W : World) (R : List Res),Rd W I3 R (((ad As).add (i * 3)).add 0) (.int .i64 (rs.getD i default).num):=fun W R => SliceN.fld hr3.outer hil 0 rfl
 have hn0:=(hV.each i hil).2.1
 generalize (rs.getD i default).num = nu at hst hnum hn0
 have hx5 : exC (os.getD k default) = [.int .i64 (base.getD k default).1,.int .i64 (base.getD k default).2.1.1,.int .i64 (base.getD k default).2.1.2.1,.bool (base.getD k default).2.1.2.2,.int .i64 (firstN l rs m (base.getD k default).1 i)]:=by rw [hek]; rfl
 have hfs : (os.getD k default).2.2 = firstN l rs m (base.getD k default).1 i:=by rw [hek]; rfl
 have hput : exC (expK l rs m (i + 1) (base.getD k default)) = [.int .i64 (base.getD k default).1,.int .i64 (base.getD k default).2.1.1,.int .i64 (base.getD k default).2.1.2.1,.bool (base.getD k default).2.1.2.2,.int .i64 (firstN l rs m (base.getD k default).1 (i + 1))]:=rfl
 have hp22 : (expK l rs m (i + 1) (base.getD k default)).2.2 = firstN l rs m (base.getD k default).1 (i + 1):=rfl
 generalize expK l rs m (i + 1) (base.getD k default) = xp at hMp hput hp22
 generalize base.getD k default = x0 at hcell hMs hst hx5 hfs hput hp22
 obtain ⟨cell,⟨lo,hi',op⟩,f0⟩:=x0
 dsimp only at hcell hMs hst hx5 hfs hput hp22
 obtain ⟨y,rfl⟩ : ∃ y : Nat,cell = y:=⟨cell.toNat,by omega⟩
 rw [nCt] at hst
 generalize firstN l rs m (y : Int) i = fi at hMs hst hx5 hfs
 generalize firstN l rs m (y : Int) (i + 1) = fj at hMs hst hput hp22
 refine Nx.ent (R':=[Vec 75 5 Ao base.length co (os.flatMap exC),Blk b4 54 [.slice A l.length c],F]) (by exact zE) ?_
 refine Nx.vec_fact fun _ _ _ hAo => ?_
 by_cases he2 : e2 = 0
 case neg =>
  rw [decide_eq_false he2,Bool.false_and,if_neg (by rintro ⟨_,h⟩; cases h)] at hst
  repeat' first | refine kW ?_ | (refine Nx.zo ?_; first | refine kP ?_ | refine Nx.indexAddr_nat (A:=Ao) (i:=k) (sz:=5) rfl rfl rfl rfl rfl hkl (hAo (by omega)) ?_ | refine Nx.loads (vs:=[.int .i64 (y : Int),.int .i64 lo,.int .i64 hi',.bool op,.int .i64 fi]) rfl rfl rfl rfl (by rw [← hx5]; first | exact Rds.vecN 0 exC_len rfl (by omega) | exact Rds.vecN 1 exC_len rfl (by omega)) rfl ?_) | refine kS ?_ | refine kB fun bx => ?_ | refine kA fun A2 c2 => ?_ | refine kX (fun hc => ?_) fun hc => ?_ | fail
  exact Nx.again (k + 1,os) ⟨hkl,hMs hst⟩ (by dsimp only; omega) zR (by exact zE)
 subst he2
 rw [decide_eq_true rfl,Bool.true_and] at hst
 obtain ⟨hrcl,hrck⟩:=hok rfl
 by_cases hfi : fi < 0
 case neg =>
  rw [if_neg (by rintro ⟨h,_⟩; exact hfi h)] at hst
  repeat' first | refine kW ?_ | (refine Nx.zo ?_; first | refine kP ?_ | refine Nx.indexAddr_nat (A:=Ao) (i:=k) (sz:=5) rfl rfl rfl rfl rfl hkl (hAo (by omega)) ?_ | refine Nx.loads (vs:=[.int .i64 (y : Int),.int .i64 lo,.int .i64 hi',.bool op,.int .i64 fi]) rfl rfl rfl rfl (by rw [← hx5]; first | exact Rds.vecN 0 exC_len rfl (by omega) | exact Rds.vecN 1 exC_len rfl (by omega)) rfl ?_) | refine kS ?_ | refine kB fun bx => ?_ | refine kA fun A2 c2 => ?_ | refine kX (fun hc => ?_) fun hc => ?_ | fail
  exact Nx.again (k + 1,os) ⟨hkl,hMs hst⟩ (by dsimp only; omega) zR (by exact zE)
 have hyl : y < rc.length:=by omega
 have hxo:=(hrck y (by omega)).2
 have hrds : ∀ (W : World) (R : List Res),Rds W I3 R ((ad Am).add (y * 3)) (rcC (rc.getD y default)):=fun W R => hRc.rds hyl
 generalize rc.getD y default = x at hst hxo hrds
 have hN:=narrow_spec x m I3 hxo
 obtain ⟨lo2,hi2,op2⟩:=x
 dsimp only at hN
 replace hrds : ∀ (W : World) (R : List Res),Rds W I3 R ((ad Am).add (y * 3)) [.int .i64 lo2,.int .i64 hi2,.bool op2]:=hrds
 cases hnb : narrowB (lo2,hi2,op2) m with
 | false =>
  rw [hnb] at hN hst
  rw [if_neg (by rintro ⟨_,h⟩; cases h)] at hst
  repeat' first | refine kW ?_ | (refine Nx.zo ?_; first | refine kP ?_ | refine Nx.indexAddr_nat (A:=Ao) (i:=k) (sz:=5) rfl rfl rfl rfl rfl hkl (hAo (by omega)) ?_ | refine Nx.loads (vs:=[.int .i64 (y : Int),.int .i64 lo,.int .i64 hi',.bool op,.int .i64 fi]) rfl rfl rfl rfl (by rw [← hx5]; first | exact Rds.vecN 0 exC_len rfl (by omega) | exact Rds.vecN 1 exC_len rfl (by omega)) rfl ?_ | refine Nx.indexAddr_nat (A:=Am) (i:=y) (sz:=3) rfl rfl rfl rfl rfl hyl (hRc.isSome (by omega) (by omega)) ?_ | refine Nx.loads rfl rfl rfl rfl (hrds _ _) rfl ?_ | refine kV hN ?_) | refine kS ?_ | refine kB fun bx => ?_ | refine kA fun A2 c2 => ?_ | refine kX (fun hc => ?_) fun hc => ?_ | fail
  exact Nx.again (k + 1,os) ⟨hkl,hMs hst⟩ (by dsimp only; omega) zR (by exact zE)
 | true =>
  rw [hnb] at hN hst
  rw [if_pos ⟨hfi,rfl⟩] at hst
  have hc2:=hcs xp
  rw [hfs,if_pos hfi,hp22,hst,if_neg (by omega)] at hc2
  have hfl2 : (os.flatMap exC).set (k * 5 + 4) (.int .i64 nu) = (os.set k xp).flatMap exC:=flat_set exC_len (by omega) (by decide) (by rw [hput,hx5,hst]; rfl)
  have hos1 : cntN (os.set k xp) = cntN os - 1:=by omega
  have hcn1 : 1 ≤ cntN os:=by have:=(cntN_bd (os.set k xp)).1; omega
  repeat' first | refine kW ?_ | (refine Nx.zo ?_; first | (refine Nx.quietly rfl rfl (QRun.fld (A:=(ad As).add (i * 3)) rfl rfl) ?_) | (refine Nx.quietly rfl rfl (QRun.fld (A:=(ad Ao).add (k * 5)) rfl rfl) ?_) | refine Nx.opr rfl rfl ?_ | refine Nx.indexAddr_nat (A:=Ao) (i:=k) (sz:=5) rfl rfl rfl rfl rfl hkl (hAo (by omega)) ?_ | refine Nx.loads (vs:=[.int .i64 (y : Int),.int .i64 lo,.int .i64 hi',.bool op,.int .i64 fi]) rfl rfl rfl rfl (by rw [← hx5]; first | exact Rds.vecN 0 exC_len rfl (by omega) | exact Rds.vecN 1 exC_len rfl (by omega)) rfl ?_ | refine Nx.indexAddr_nat (A:=Am) (i:=y) (sz:=3) rfl rfl rfl rfl rfl hyl (hRc.isSome (by omega) (by omega)) ?_ | refine Nx.loads rfl rfl rfl rfl (hrds _ _) rfl ?_ | refine kV hN ?_ | refine Nx.indexAddr_nat (A:=As) (i:=i) (sz:=3) rfl rfl rfl rfl rfl hil (hr3.outer.isSome (by omega) (by omega)) ?_ | refine Nx.load rfl rfl rfl (hnum _ _) ?_ | (refine Nx.store_fld 1 (A:=Ao) (i:=k) (j:=4) rfl rfl rfl rfl rfl rfl (by omega) ?_; rw [hfl2]) | (refine Nx.store_fld 0 (A:=Ao) (i:=k) (j:=4) rfl rfl rfl rfl rfl rfl (by omega) ?_; rw [hfl2])) | refine kS ?_ | refine kB fun bx => ?_ | refine kA fun A2 c2 => ?_ | refine kX (fun hc => ?_) fun hc => ?_ | fail
  exact Nx.again (k + 1,os.set k xp) ⟨hkl,hMp⟩ (by dsimp only; omega) ⟨rfl,rfl,rfl,rfl,by dsimp only; rw [hos1]; rfl,rfl,rfl,rfl,rfl,rfl,rfl,rfl,rfl,rfl,trivial⟩ (by exact zE)
theorem reach_open {N x : Nat} {L : List Eqn} (hx : x ∉ touch N L) : (reachAt N L x).2.2 = true:=by unfold reachAt; rw [if_neg hx]
theorem views_of {l t : List Int} {rs : List Rel} (h : RelsOk l t rs) : ∀ r ∈ rs,Viewed l r.v:=fun r hr => by
 obtain ⟨i,hi,he⟩:=List.mem_iff_getElem.1 hr
 have:=(h.each i hi).1.view
 rwa [gEl,gEq hi,show (some rs[i]).getD default = r from he] at this
theorem rch_made {l t : List Int} {rs : List Rel} (hs : Sizes l) (hT : tabOk l t 2) (h : RelsOk l t rs) (hn : rs.length ≤ 24) : relsE l rs = 0 ∧ rchD l rs = reachR (prod l) (qsOf l rs) ∧ ((rchD l rs).2 = 0 ∨ (rchD l rs).2 = 1):=by
 have hV:=relsV_of hs hT (by decide) (by decide) h hn
 have h0:=(relsE_iff hs (views_of h)).2 hV
 have he : rchD l rs = reachR (prod l) (qsOf l rs):=by unfold rchD; rw [if_pos h0]
 refine ⟨h0,he,?_⟩
 rw [he]
 have hz:=size_ok hs
 have hg:=told_good hs hV
 have hchk:=chk_of (N:=(prod l).toNat) (qs:=qsOf l rs) (by omega) (hV.qlen hs) hg
 rw [hz.2.2] at hchk
 unfold reachR
 by_cases hc : chkQ (prod l) (qsOf l rs) = 0
 ·rw [if_pos hc]
  have hne : solsOf (prod l).toNat (eqns (qsOf l rs)) ≠ []:=fun hb => by
   have hw:=want_sol (t:=t) hg (fun c _ => by
    by_cases hct : c < t.length
    ·have:=hT.2 c hct
     show 0 ≤ t.getD c default ∧ t.getD c default ≤ 1000000
     omega
    ·rw [getD_ge (by omega)]; decide) fun q hq => by
     obtain ⟨p,hp,rfl⟩:=List.mem_map.1 hq
     exact (told_eq (q:=canonE p) hs hT (by decide) (by decide) h hn hp).2
   rw [hb] at hw; cases hw
  rw [if_neg hne]
  exact .inl rfl
 ·rw [if_neg hc]
  right
  show chkQ (prod l) (qsOf l rs) = 1
  split at hchk
  ·exact hchk
  ·exact absurd hchk hc
theorem chkD_made {l t : List Int} {rs : List Rel} {prot : List Int} {m : Int} (hs : Sizes l) (hT : tabOk l t 2) (h : RelsOk l t rs) (hn : rs.length ≤ 24) (hm : 1 ≤ m ∧ m ≤ 100) (hpa : prot.Pairwise (· < ·)) (hpb : ∀ x ∈ prot,0 ≤ x ∧ x < prod l) : chkD l rs prot m = 0:=by
 obtain ⟨h0,_,_⟩:=rch_made hs hT h hn
 unfold chkD
 rw [if_neg (by omega),if_neg (by omega),if_neg,if_pos hpa]
 intro ha
 obtain ⟨x,hx,hb⟩:=List.any_eq_true.1 ha
 have:=hpb x hx
 unfold outP at hb
 rw [decide_eq_true_eq] at hb
 omega
theorem findD_made {l t : List Int} {rs : List Rel} {prot : List Int} {m : Int} (hs : Sizes l) (hT : tabOk l t 2) (h : RelsOk l t rs) (hn : rs.length ≤ 24) (hm : 1 ≤ m ∧ m ≤ 100) (hpa : prot.Pairwise (· < ·)) (hpb : ∀ x ∈ prot,0 ≤ x ∧ x < prod l) :
  findD l rs prot m = if (rchD l rs).2 ≠ 0 then ([],(rchD l rs).2) else (exOf (rchD l rs).1 prot m,0):=by
 unfold findD
 rw [if_neg (by rw [chkD_made hs hT h hn hm hpa hpb]; decide)]
attribute [local irreducible] wpFork
theorem rel_one (l : List Rel) : ∀ u ∈ l.flatMap relC,u.oneCell' = true:=fun u hu => by
 obtain ⟨x,_,hx⟩:=List.mem_flatMap.1 hu
 simp only [relC,List.mem_cons,List.not_mem_nil,or_false] at hx
 rcases hx with rfl | rfl | rfl <;> rfl
end Go.Proofs.YtpcnapidlhpbkaaGreatDoor
namespace Go.Proofs.YtpcnapidlhpbkaaGreatDoor
open Go.Eng Go.Sol
attribute [local irreducible] opK wpList Code.wp Exit.then Exit.inBlock fnPost bodyPost Nx Calls Oper.wp Rd Rds Wr Ent Stars Blk Again Vec FnSpec wpMix QRun Stop Upto wpAt
abbrev rlR (A : Option Addr) (c : Nat) (rs : List Rel) : Res:=Vec 116 3 A rs.length c (rs.flatMap relC)
theorem CloneR_spec (A : Option Addr) (c : Nat) (l : List Rel) (I : PH) (hl : SliceN relC 3 I A c l) (h9 : l.length ≤ 1000000) :
  FnSpec Tryz.prog 194 [.slice A l.length c] I [] (fun v R' => ∃ A' c',v = .slice A' l.length c' ∧ R' = [rlR A' c' l]):=by
 cases A with
 | none =>
  have h0 : l = []:=by
   rcases Nat.eq_zero_or_pos l.length with h | h
   ·exact List.eq_nil_of_length_eq_zero h
   ·have:=hl.isSome h (by decide); cases this
  subst h0
  refine FnSpec.enterP Tryz.func194 rfl Tryz.ntmps194 rfl fun w F => ?_
  repeat' first | refine kS ?_ | refine kB fun bx => ?_ | refine kA fun A2 c2 => ?_ | refine kX (fun hc => ?_) fun hc => ?_ | fail
  refine Nx.ret_fn rfl [rlR none 0 []] ⟨none,0,rfl,rfl⟩ (Ent.vec_nil _ _ _)
 | some a =>
  refine FnSpec.enterP Tryz.func194 rfl Tryz.ntmps194 rfl fun w F => ?_
  repeat' first | refine kS ?_ | refine kB fun bx => ?_ | refine kA fun A2 c2 => ?_ | refine kX (fun hc => ?_) fun hc => ?_ | fail
  refine Nx.blk_vec 0 0 3 rfl rfl (by omega) ?_
  refine Nx.at_op rfl rfl ?_
  refine Nx.append rfl rfl rfl rfl (by kernel_rfl) rfl (Src.arr hl.arr (flat_len relC_len l) (by omega) (rel_one l)) (by omega) fun A' c' => ?_
  rw [Nat.zero_add,List.nil_append]
  repeat' first | refine kS ?_ | refine kB fun bx => ?_ | refine kA fun A2 c2 => ?_ | refine kX (fun hc => ?_) fun hc => ?_ | fail
  exact Nx.ret_fn rfl [_] ⟨A',c',rfl,rfl⟩ (by unfold rlR; (exact zE))
theorem Nx.giveTold {C : Cx} {e : Env} {I : PH} {R : List Res} {K : Act → World → Prop} {B At As : Option Addr} {c' ct ca : Nat} {s t : List Int} {rs : List Rel} {RR : List Res}
  (hR : Ent R (Stars (toldR B c' s At ct t As ca rs) :: RR)) (h : ∀ I',PH.le I I' → Ints I' B c' s → Ints I' At ct t → Rels I' As ca rs → Nx C e I' RR K) : Nx C e I R K:=by
 refine Nx.ent hR ?_
 refine Nx.freezeAt 0 rfl fun I1 m1 hI1 hm1 h1 => ?_
 obtain ⟨a0,ha0,b0⟩:=Stars.get 0 h1 rfl
 obtain ⟨a1,ha1,b1⟩:=Stars.get 1 h1 rfl
 obtain ⟨a2,ha2,b2⟩:=Stars.get 2 h1 rfl
 obtain ⟨a3,ha3,b3⟩:=Stars.get 3 h1 rfl
 exact h I1 hI1 (Vec.sliceOf (ha0.trans hm1) b0) (Vec.sliceOf (ha1.trans hm1) b1) (rels_of hm1 b2 ha2 b3 ha3)
theorem touch_same {N : Nat} {l r : List EqR} (h : ∀ q,q ∈ l ↔ q ∈ r) : touch N (eqns l) = touch N (eqns r):=by
 unfold touch
 refine List.filter_congr fun c _ => ?_
 rw [Bool.eq_iff_iff,List.any_eq_true,List.any_eq_true]
 constructor
 ·rintro ⟨q,hq,hc⟩
  obtain ⟨p,hp,rfl⟩:=List.mem_map.1 hq
  exact ⟨eqn p,List.mem_map.2 ⟨p,(h p).1 hp,rfl⟩,hc⟩
 ·rintro ⟨q,hq,hc⟩
  obtain ⟨p,hp,rfl⟩:=List.mem_map.1 hq
  exact ⟨eqn p,List.mem_map.2 ⟨p,(h p).2 hp,rfl⟩,hc⟩
theorem sols_same {N : Nat} {l r : List EqR} (hl : ∀ q ∈ l,GoodE N q) (h : ∀ q,q ∈ l ↔ q ∈ r) : solsOf N (eqns l) = solsOf N (eqns r):=by
 have hr : ∀ q ∈ r,GoodE N q:=fun q hq => hl q ((h q).2 hq)
 have ht:=touch_same (N:=N) h
 refine sorted_same (r:=ltU false (touch N (eqns l))) (fun a => ltU_irrefl) (fun a b => ltU_asymm) (sols_sorted hl) (by rw [ht]; exact sols_sorted hr) fun s => ?_
 rw [mem_sols hl,mem_sols hr,ht]
 refine ⟨fun g => ⟨g.len,g.same,g.pos,fun q hq => ?_⟩,fun g => ⟨g.len,g.same,g.pos,fun q hq => ?_⟩⟩
 ·obtain ⟨p,hp,rfl⟩:=List.mem_map.1 hq
  exact g.sum _ (List.mem_map.2 ⟨p,(h p).2 hp,rfl⟩)
 ·obtain ⟨p,hp,rfl⟩:=List.mem_map.1 hq
  exact g.sum _ (List.mem_map.2 ⟨p,(h p).1 hp,rfl⟩)
theorem room_le {l r : List EqR} (h : ∀ q ∈ l,q ∈ r) (c : Nat) : roomOf (eqns r) c ≤ roomOf (eqns l) c:=by
 have h1:=(le_roomOf (c:=c) (eqns r)).1 (Int.le_refl _)
 refine (le_roomOf (eqns l)).2 ⟨h1.1,fun q hq hc => ?_⟩
 obtain ⟨p,hp,rfl⟩:=List.mem_map.1 hq
 exact h1.2 _ (List.mem_map.2 ⟨p,h p hp,rfl⟩) hc
theorem small_same {N : Nat} {l r : List EqR} (h : ∀ q,q ∈ l ↔ q ∈ r) : smallB N (eqns l) = smallB N (eqns r):=by
 unfold smallB roomsOf
 rw [touch_same h]
 congr 1
 refine List.map_congr_left fun c _ => Int.le_antisymm (room_le (fun q hq => (h q).2 hq) c) (room_le (fun q hq => (h q).1 hq) c)
theorem vals_ne {n k : Nat} {L : List Eqn} (hne : solsOf n L ≠ []) : 0 < (valsOf n L k).length:=by
 obtain ⟨s,hs⟩:=List.exists_mem_of_ne_nil _ hne
 exact List.length_pos_of_mem (((vals_set n L k).mem _).2 ⟨s,hs,rfl⟩)
theorem asc_lt {l : List Int} (h : l.Pairwise (· < ·)) {i j : Nat} (hij : i < j) (hj : j < l.length) : l.getD i default < l.getD j default:=by
 rw [List.pairwise_iff_getElem] at h
 have:=h i j (by omega) hj hij
 rw [gEl,gEl,gEq (show i < l.length by omega),gEq hj]
 exact this
theorem vals_reach {n k : Nat} {l : List EqR} (hg : ∀ q ∈ l,GoodE n q) (hk : k ∈ touch n (eqns l)) (hne : solsOf n (eqns l) ≠ []) :
  reachAt n (eqns l) k = ((valsOf n (eqns l) k).getD 0 default,(valsOf n (eqns l) k).getD ((valsOf n (eqns l) k).length - 1) default,false):=by
 have hv:=vals_set n (eqns l) k
 have h0:=vals_ne (k:=k) hne
 refine reach_is hg hk hne ((hv.mem _).1 (getD_memI h0)) ((hv.mem _).1 (getD_memI (by omega))) fun s hs => ?_
 obtain ⟨j,hj,he⟩:=mem_getDI ((hv.mem _).2 ⟨s,hs,rfl⟩)
 rw [← he]
 constructor
 ·rcases Nat.eq_zero_or_pos j with rfl | h
  ·exact Int.le_refl _
  ·exact Int.le_of_lt (asc_lt hv.asc h hj)
 ·rcases Nat.lt_or_ge j ((valsOf n (eqns l) k).length - 1) with h | h
  ·exact Int.le_of_lt (asc_lt hv.asc h (by omega))
  ·rw [show j = (valsOf n (eqns l) k).length - 1 by omega]; exact Int.le_refl _
structure MadeA (l t : List Int) (rs : List Rel) : Prop where
 rel : relsE l rs = 0
 good : ∀ q ∈ qsOf l rs,GoodE (prod l).toNat q
 len : (qsOf l rs).length ≤ 1152
 ne : solsOf (prod l).toNat (eqns (qsOf l rs)) ≠ []
 want : wantL (prod l).toNat (touch (prod l).toNat (eqns (qsOf l rs))) t ∈ solsOf (prod l).toNat (eqns (qsOf l rs))
 chk : chkQ (prod l) (qsOf l rs) = if smallB (prod l).toNat (eqns (qsOf l rs)) = false then 1 else 0
theorem made_a {l t : List Int} {rs : List Rel} (hs : Sizes l) (hT : tabOk l t 2) (h : RelsOk l t rs) (hn : rs.length ≤ 24) : MadeA l t rs:=by
 have hV:=relsV_of hs hT (by decide) (by decide) h hn
 have hz:=size_ok hs
 have hg:=told_good hs hV
 have hchk:=chk_of (N:=(prod l).toNat) (qs:=qsOf l rs) (by omega) (hV.qlen hs) hg
 rw [hz.2.2] at hchk
 have hw:=want_sol (t:=t) hg (fun c _ => by
  by_cases hct : c < t.length
  ·have:=hT.2 c hct
   show 0 ≤ t.getD c default ∧ t.getD c default ≤ 1000000
   omega
  ·rw [getD_ge (by omega)]; decide) fun q hq => by
   obtain ⟨p,hp,rfl⟩:=List.mem_map.1 hq
   exact (told_eq (q:=canonE p) hs hT (by decide) (by decide) h hn hp).2
 exact ⟨(relsE_iff hs (views_of h)).2 hV,hg,hV.qlen hs,List.ne_nil_of_mem hw,hw,hchk⟩
theorem MadeA.tol {l t : List Int} {rs : List Rel} (h : MadeA l t rs) : tolE l rs = chkQ (prod l) (qsOf l rs):=by unfold tolE; rw [if_pos h.rel]
theorem MadeA.tol2 {l t : List Int} {rs : List Rel} (h : MadeA l t rs) : tolE l rs = if smallB (prod l).toNat (eqns (qsOf l rs)) = false then 1 else 0:=h.tol.trans h.chk
theorem MadeA.cer {l t : List Int} {rs : List Rel} (h : MadeA l t rs) : cerD l rs = if tolE l rs = 0 then (certL (prod l).toNat (eqns (qsOf l rs)),0) else ([],tolE l rs):=by
 unfold cerD certF
 rw [if_neg h.ne]
theorem MadeA.rch {l t : List Int} {rs : List Rel} (h : MadeA l t rs) : reachR (prod l) (qsOf l rs) = if tolE l rs = 0 then ((List.range (prod l).toNat).map (reachAt (prod l).toNat (eqns (qsOf l rs))),0) else ([],tolE l rs):=by
 unfold reachR
 rw [h.tol,if_neg h.ne]
def wideV (z : Int) : Value:=.agg (wideL z).toArray
theorem add64_run (x y c : Nat) (hc : c ≤ 1) (w : World) :
  (callFunc 177 #[.int .u64 x,.int .u64 y,.int .u64 c]).run Tryz.prog w = .ok (.value (.tuple #[.int .u64 (((x + y + c) % 18446744073709551616 : Nat) : Int),.int .u64 (((x + y + c) / 18446744073709551616 : Nat) : Int)])) w:=by
 rw [run_callFunc_extern Tryz.func177 (by kernel_rfl) (by kernel_rfl) (by kernel_rfl) (e:=add64Entry) (by kernel_rfl),run_add64 x y c (by omega) (by omega) (by omega) (by omega)]
 simp only [Result.andThen]
 congr 5 <;> omega
theorem sub64_run (x y b : Nat) (hb : b ≤ 1) (w : World) :
  (callFunc 118 #[.int .u64 x,.int .u64 y,.int .u64 b]).run Tryz.prog w = .ok (.value (.tuple #[.int .u64 (((x + 18446744073709551616 - y - b) % 18446744073709551616 : Nat) : Int),.int .u64 ((if x < y + b then 1 else 0 : Nat) : Int)])) w:=by
 rw [run_callFunc_extern Tryz.func118 (by kernel_rfl) (by kernel_rfl) (by kernel_rfl) (e:=sub64Entry) (by kernel_rfl),run_sub64 x y b hb]
 rfl
theorem wideV_mk {h l : Nat} {z : Int} (hh : wH z = h) (hl : wL z = l) : Value.agg [.int .u64 (h : Int),.int .u64 (l : Int)].toArray = wideV z:=by unfold wideV wideL; rw [hh,hl]
theorem plus_spec (a b : Int) (I : PH) : FnSpec Tryz.prog 213 [wideV a,wideV b] I [] (fun v R' => v = wideV (a + b) ∧ R' = []):=by
 obtain ⟨e1,e2⟩:=wide_add a b
 refine FnSpec.enterP Tryz.func213 rfl Tryz.ntmps213 rfl fun w F => ?_
 repeat' first | refine kW ?_ | (refine Nx.zo ?_; first | refine kP ?_ | refine Nx.call_run rfl rfl rfl rfl (add64_run _ _ _ (by have:=wL_lt a; have:=wL_lt b; omega)) ?_ | refine Nx.call_run rfl rfl rfl rfl (add64_run _ _ 0 (by omega)) ?_) | refine kS ?_ | refine kB fun bx => ?_ | refine kA fun A2 c2 => ?_ | refine kX (fun hc => ?_) fun hc => ?_ | fail
 refine Nx.ret_cell 0 rfl rfl rfl rfl rfl rfl [] ⟨wideV_mk e2 e1,rfl⟩ ?_
 (exact zE)
theorem rminus_spec (a b : Int) (I : PH) : FnSpec Tryz.prog 59 [wideV a,wideV b] I [] (fun v R' => v = wideV (a - b) ∧ R' = []):=by
 obtain ⟨e1,e2⟩:=wide_sub a b
 refine FnSpec.enterP Tryz.func59 rfl Tryz.ntmps59 rfl fun w F => ?_
 repeat' first | refine kW ?_ | (refine Nx.zo ?_; first | refine kP ?_ | refine Nx.call_run rfl rfl rfl rfl (sub64_run _ _ _ (by split <;> omega)) ?_ | refine Nx.call_run rfl rfl rfl rfl (sub64_run _ _ 0 (by omega)) ?_) | refine kS ?_ | refine kB fun bx => ?_ | refine kA fun A2 c2 => ?_ | refine kX (fun hc => ?_) fun hc => ?_ | fail
 refine Nx.ret_cell 0 rfl rfl rfl rfl rfl rfl [] ⟨wideV_mk e2 e1,rfl⟩ ?_
 (exact zE)
end Go.Proofs.YtpcnapidlhpbkaaGreatDoor
namespace Go.Proofs.YtpcnapidlhpbkaaGreatDoor
def frml64_ren : Go.Shelf.Ren:=⟨fun | 264 => 119 | n => n,fun | 53 => 102 | 46 => 161 | n => n,fun | n => n⟩
theorem frml64 : Go.Proofs.Lays.n264 Tryz.prog frml64_ren where
 mixed:=by kernel_rfl
 f264:=Tryz.func119.trans (congrArg some (by kernel_rfl))
 t46:=Tryz.underlying161
 a46:=Tryz.isAgg161
 z46:=Tryz.sizeOf161
 v46:=Tryz.zeroValue161
 t53:=Tryz.underlying102
 a53:=Tryz.isAgg102
 z53:=Tryz.sizeOf102
 v53:=Tryz.zeroValue102
open Go.Eng
attribute [local irreducible] opK wpList Code.wp Exit.then Exit.inBlock fnPost bodyPost Nx Calls Oper.wp Rd Rds Wr Ent Stars Blk Again Vec FnSpec wpMix QRun Stop Upto wpAt
theorem mul64_spec (x y : Nat) (hx : x < 18446744073709551616) (hy : y < 18446744073709551616) (I : PH) :
  FnSpec Tryz.prog 119 [.int .u64 x,.int .u64 y] I [] (fun v R' => v = .tuple #[.int .u64 ((x * y / 18446744073709551616 : Nat) : Int),.int .u64 ((x * y % 18446744073709551616 : Nat) : Int)] ∧ R' = []) :=
 FnSpec.of_same fun w _ _ _ => Any.bits_Mul64 frml64 x y hx hy w
theorem wideV_mkI {h l : Int} {z : Int} (hh : (wH z : Int) = h) (hl : (wL z : Int) = l) : Value.agg [.int .u64 h,.int .u64 l].toArray = wideV z:=by unfold wideV wideL; rw [hh,hl]
theorem times_high (a b : Int) : (wH (a * b) : Int) = ((((wL a * wL b / 18446744073709551616 : Nat) : Int) + (wH a : Int) * (wL b : Int) % B64) % B64 + (wL a : Int) * (wH b : Int) % B64) % B64:=by
 rw [(wide_mul a b).2,Int.emod_add_emod,Int.add_emod_emod,Int.add_assoc,Int.add_comm ((wH a : Int) * (wL b : Int) % B64),← Int.add_assoc,Int.add_emod_emod]
 have e : (((wL a * wL b / 18446744073709551616 + wH a * wL b + wL a * wH b) % 18446744073709551616 : Nat) : Int) = (((wL a * wL b / 18446744073709551616 : Nat) : Int) + (wH a : Int) * (wL b : Int) + (wL a : Int) * (wH b : Int)) % B64:=by
  rw [Int.natCast_emod,Int.natCast_add,Int.natCast_add,Int.natCast_mul (wH a),Int.natCast_mul (wL a) (wH b)]
  rfl
 rw [e]
 congr 1
 rw [Int.add_assoc,Int.add_assoc,Int.add_comm ((wH a : Int) * (wL b : Int))]
theorem times_low (a b : Int) : (wL (a * b) : Int) = ((wL a * wL b % 18446744073709551616 : Nat) : Int):=by rw [(wide_mul a b).1]
theorem times_spec (a b : Int) (I : PH) : FnSpec Tryz.prog 166 [wideV a,wideV b] I [] (fun v R' => v = wideV (a * b) ∧ R' = []):=by
 refine FnSpec.enterP Tryz.func166 rfl Tryz.ntmps166 rfl fun w F => ?_
 repeat' first | refine kW ?_ | (refine Nx.zo ?_; first | refine kP ?_ | refine Nx.call (Rpre:=[]) rfl rfl rfl (by kernel_rfl) rfl (mul64_spec _ _ (wL_lt a) (wL_lt b) I) (Ent.refl _) ?_; rintro _ _ ⟨rfl,rfl⟩ | refine Nx.bin rfl rfl run_mulU rfl ?_ | refine Nx.bin rfl rfl run_addU rfl ?_) | refine kS ?_ | refine kB fun bx => ?_ | refine kA fun A2 c2 => ?_ | refine kX (fun hc => ?_) fun hc => ?_ | fail
 refine Nx.ret_cell 0 rfl rfl rfl rfl rfl rfl [] ⟨wideV_mkI (times_high a b) (times_low a b),rfl⟩ ?_
 (exact zE)
theorem rtimes_spec (a b : Int) (I : PH) : FnSpec Tryz.prog 60 [wideV a,wideV b] I [] (fun v R' => v = wideV (a * b) ∧ R' = []):=by
 refine FnSpec.enterP Tryz.func60 rfl Tryz.ntmps60 rfl fun w F => ?_
 repeat' first | refine kW ?_ | (refine Nx.zo ?_; first | refine kP ?_ | refine Nx.call (Rpre:=[]) rfl rfl rfl (by kernel_rfl) rfl (mul64_spec _ _ (wL_lt a) (wL_lt b) I) (Ent.refl _) ?_; rintro _ _ ⟨rfl,rfl⟩ | refine Nx.bin rfl rfl run_mulU rfl ?_ | refine Nx.bin rfl rfl run_addU rfl ?_) | refine kS ?_ | refine kB fun bx => ?_ | refine kA fun A2 c2 => ?_ | refine kX (fun hc => ?_) fun hc => ?_ | fail
 refine Nx.ret_cell 0 rfl rfl rfl rfl rfl rfl [] ⟨wideV_mkI (times_high a b) (times_low a b),rfl⟩ ?_
 (exact zE)
theorem opposite_spec (a : Int) (I : PH) : FnSpec Tryz.prog 214 [wideV a] I [] (fun v R' => v = wideV (-a) ∧ R' = []):=by
 obtain ⟨e1,e2⟩:=wide_not a
 refine FnSpec.enterP Tryz.func214 rfl Tryz.ntmps214 rfl fun w F => ?_
 repeat' first | refine kW ?_ | (refine Nx.zo ?_; first | refine kP ?_ | refine Nx.un rfl (run_notU (wH_lt a)) rfl ?_ | refine Nx.un rfl (run_notU (wL_lt a)) rfl ?_ | refine Nx.call (Rpre:=[]) rfl rfl (by rw [wideV_mk e1 e2]; rfl) (by kernel_rfl) rfl (plus_spec (-a - 1) 1 I) (Ent.refl _) ?_; rintro _ _ ⟨rfl,rfl⟩) | refine kS ?_ | refine kB fun bx => ?_ | refine kA fun A2 c2 => ?_ | refine kX (fun hc => ?_) fun hc => ?_ | fail
 refine Nx.ret_cell 0 rfl rfl rfl rfl rfl rfl [] ⟨congrArg wideV (by omega : -a - 1 + 1 = -a),rfl⟩ ?_
 (exact zE)
theorem minus_spec (a b : Int) (I : PH) : FnSpec Tryz.prog 169 [wideV a,wideV b] I [] (fun v R' => v = wideV (a - b) ∧ R' = []):=by
 refine FnSpec.enterP Tryz.func169 rfl Tryz.ntmps169 rfl fun w F => ?_
 repeat' first | ((with_reducible refine Nx.is_wp ?_); first | refine Nx.p_draw (id:=1) rfl [0,1,2,3,4] [2,3,4] [Blk _ 200 (wideL b),Blk _ 200 (wideL a),F] rfl rfl (by kernel_rfl) (by kernel_rfl) rfl PanicOk.auto (Ent.pick 1 rfl (Ent.pick 1 rfl (Ent.pick 1 rfl (Ent.nil _)))) ?_ | refine Nx.wo ?_) | (refine Nx.zo ?_; first | refine kP ?_ | refine kC (opposite_spec b I) ?_; rintro _ _ ⟨rfl,rfl⟩ | refine kC (plus_spec a (-b) I) ?_; rintro _ _ ⟨rfl,rfl⟩) | refine kS ?_ | refine kB fun bx => ?_ | refine kA fun A2 c2 => ?_ | refine kX (fun hc => ?_) fun hc => ?_ | fail
 refine Nx.ret_cell 0 rfl rfl rfl rfl rfl rfl [] ⟨congrArg wideV (by omega : a + -b = a - b),rfl⟩ ?_
 (exact zE)
theorem top_neg {a : Int} (ha : InW a) : ((wH a : Int) / 2 ^ 63 = 1) ↔ a < 0:=by unfold InW wH B128 B64 at *; omega
theorem bool_congr {p q : Prop} [Decidable p] [Decidable q] (h : p ↔ q) : Value.bool (decide p) = Value.bool (decide q):=by rw [decide_eq_decide.2 h]
theorem negative_spec (a : Int) (ha : InW a) (I : PH) : FnSpec Tryz.prog 58 [wideV a] I [] (fun v R' => v = .bool (decide (a < 0)) ∧ R' = []):=by
 refine FnSpec.enterP Tryz.func58 rfl Tryz.ntmps58 rfl fun w F => ?_
 repeat' first | refine kW ?_ | (refine Nx.zo ?_; first | refine kP ?_ | refine Nx.bin rfl rfl (run_shrU (n:=63) (by omega)) rfl ?_) | refine kS ?_ | refine kB fun bx => ?_ | refine kA fun A2 c2 => ?_ | refine kX (fun hc => ?_) fun hc => ?_ | fail
 refine Nx.ret_fn rfl [] ⟨bool_congr (top_neg ha),rfl⟩ ?_
 (exact zE)
theorem whole_high {a : Int} (ha : I64 a) : (wH a : Int) = a / 2 ^ 63 % B64:=by unfold I64 wH B128 B64 at *; omega
theorem whole_low (a : Int) : (wL a : Int) = a % B64:=by unfold wL B64; omega
theorem whole_spec (a : Int) (ha : I64 a) (I : PH) : FnSpec Tryz.prog 165 [.int .i64 a] I [] (fun v R' => v = wideV a ∧ R' = []):=by
 refine FnSpec.enterP Tryz.func165 rfl Tryz.ntmps165 rfl fun w F => ?_
 repeat' first | refine kW ?_ | (refine Nx.zo ?_; first | refine kP ?_ | refine Nx.bin rfl rfl (run_shrI (n:=63) (by omega)) rfl ?_ | refine Nx.conv_u64 rfl rfl rfl rfl ?_) | refine kS ?_ | refine kB fun bx => ?_ | refine kA fun A2 c2 => ?_ | refine kX (fun hc => ?_) fun hc => ?_ | fail
 refine Nx.ret_cell 0 rfl rfl rfl rfl rfl rfl [] ⟨wideV_mkI (whole_high ha) (whole_low a),rfl⟩ ?_
 (exact zE)
theorem from_spec (a : Int) (ha : I64 a) (I : PH) : FnSpec Tryz.prog 61 [.int .i64 a] I [] (fun v R' => v = wideV a ∧ R' = []):=by
 refine FnSpec.enterP Tryz.func61 rfl Tryz.ntmps61 rfl fun w F => ?_
 repeat' first | refine kW ?_ | (refine Nx.zo ?_; first | refine kP ?_ | refine Nx.conv_u64 rfl rfl rfl rfl ?_) | refine kS ?_ | refine kB fun bx => ?_ | refine kA fun A2 c2 => ?_ | refine kX (fun hc => ?_) fun hc => ?_ | fail
 ·refine Nx.ret_cell 0 rfl rfl rfl rfl rfl rfl [] ⟨wideV_mkI (h:=18446744073709551615) (by unfold I64 wH B128 B64 at *; omega) (whole_low a),rfl⟩ ?_
  (exact zE)
 ·refine Nx.ret_cell 0 rfl rfl rfl rfl rfl rfl [] ⟨wideV_mkI (h:=0) (by unfold I64 wH B128 B64 at *; omega) (whole_low a),rfl⟩ ?_
  (exact zE)
end Go.Proofs.YtpcnapidlhpbkaaGreatDoor
namespace Go.Proofs.YtpcnapidlhpbkaaGreatDoor
open Go.Eng
theorem part_wide0 (a b : Int) (w : World) : (part 102 #[.int .u64 a,.int .u64 b] 0).run Tryz.prog w = .ok (.int .u64 a) w:=run_of_pureRun (by kernel_rfl) w
theorem part_wide1 (a b : Int) (w : World) : (part 102 #[.int .u64 a,.int .u64 b] 1).run Tryz.prog w = .ok (.int .u64 b) w:=run_of_pureRun (by kernel_rfl) w
theorem eqFields_wide (a b c d : Int) (w : World) (fs : List Field) (hf : fs.map (fun f => (f.name, f.type, f.offset)) = [("High", 102, 0), ("Low", 102, 1)]) :
  (Op.eqFields 9999 #[.int .u64 a, .int .u64 b] #[.int .u64 c, .int .u64 d] fs).run Tryz.prog w = .ok (a == c && b == d) w := by
 obtain ⟨f, g, rfl⟩ : ∃ f g, fs = [f, g] := by
  rcases fs with _ | ⟨f, _ | ⟨g, _ | ⟨k, r⟩⟩⟩
  ·simp at hf
  ·simp at hf
  ·exact ⟨f, g, rfl⟩
  ·simp at hf
 ·simp only [List.map_cons, List.map_nil, List.cons.injEq, Prod.mk.injEq, and_true] at hf
  obtain ⟨⟨h1, h2, h3⟩, h4, h5, h6⟩ := hf
  simp only [Op.eqFields, h1, h2, h3, h4, h5, h6]
  rw [if_pos (by decide), if_pos (by decide), Sem.run_bind, part_wide0, Result.andThen_ok, Sem.run_bind, part_wide0, Result.andThen_ok, Sem.run_bind, run_equalIn_int _ 9998 _ .u64 .u64 a c Tryz.underlying102, Result.andThen_ok]
  cases (a == c)
  ·rfl
  ·rw [if_neg (by decide), Sem.run_bind, part_wide1, Result.andThen_ok, Sem.run_bind, part_wide1, Result.andThen_ok, Sem.run_bind, run_equalIn_int _ 9998 _ .u64 .u64 b d Tryz.underlying102, Result.andThen_ok]
   cases (b == d) <;> rfl
theorem eql_wide {x y : Operand} (a b c d : Int) (w : World) :
  (do eqGuard .eql 200 x y (.agg #[.int .u64 a,.int .u64 b]) (.agg #[.int .u64 c,.int .u64 d]); binOp .eql 200 (.agg #[.int .u64 a,.int .u64 b]) (.agg #[.int .u64 c,.int .u64 d])).run Tryz.prog w = .ok (.bool (a == c && b == d)) w:=by
 rw [Sem.run_bind,run_eqGuard_agg _ _ _ _ _ _ _ Tryz.eqGuardType200,Result.andThen_ok,run_eql_struct,run_equalIn_struct _ 9999 200 _ _ (by kernel_rfl) Tryz.stoodInHeld200,
  eqFields_wide a b c d w _ (by kernel_rfl)]
 rfl
theorem neq_wide {x y : Operand} (a b c d : Int) (w : World) :
  (do eqGuard .neq 200 x y (.agg #[.int .u64 a,.int .u64 b]) (.agg #[.int .u64 c,.int .u64 d]); binOp .neq 200 (.agg #[.int .u64 a,.int .u64 b]) (.agg #[.int .u64 c,.int .u64 d])).run Tryz.prog w = .ok (.bool (!(a == c && b == d))) w:=by
 rw [Sem.run_bind,run_eqGuard_agg _ _ _ _ _ _ _ Tryz.eqGuardType200,Result.andThen_ok,run_neq_struct,run_equalIn_struct _ 9999 200 _ _ (by kernel_rfl) Tryz.stoodInHeld200,
  eqFields_wide a b c d w _ (by kernel_rfl)]
 rfl
attribute [local irreducible] opK wpList Code.wp Exit.then Exit.inBlock fnPost bodyPost Nx Calls Oper.wp Rd Rds Wr Ent Stars Blk Again Vec FnSpec wpMix QRun Stop Upto wpAt
theorem zero_bool {a : Int} (ha : InW a) : ((wH a : Int) == 0 && (wL a : Int) == 0) = decide (a = 0):=by
 rw [Bool.eq_iff_iff]
 simp only [Bool.and_eq_true,beq_iff_eq,decide_eq_true_eq]
 rw [← wide_zero ha]
 omega
theorem sign_spec (a : Int) (ha : InW a) (I : PH) : FnSpec Tryz.prog 170 [wideV a] I [] (fun v R' => v = .int .i64 a.sign ∧ R' = []):=by
 refine FnSpec.enterP Tryz.func170 rfl Tryz.ntmps170 rfl fun w F => ?_
 repeat' first | refine kW ?_ | (refine Nx.zo ?_; first | refine kP ?_ | refine Nx.bin rfl rfl (run_shrU (n:=63) (by omega)) rfl ?_ | refine Nx.binr rfl rfl (eql_wide _ _ _ _) rfl ?_) | refine kS ?_ | refine kB fun bx => ?_ | refine kA fun A2 c2 => ?_ | refine kX (fun hc => ?_) fun hc => ?_ | fail
 ·have hn:=(top_neg ha).1 hc
  refine Nx.ret_fn rfl [] ⟨by rw [Int.sign_eq_neg_one_of_neg hn],rfl⟩ ?_
  (exact zE)
 ·rw [zero_bool ha,decide_eq_true_eq] at hc
  refine Nx.ret_fn rfl [] ⟨by rw [hc]; rfl,rfl⟩ ?_
  (exact zE)
 ·rename_i hc2
  rw [zero_bool ha,decide_eq_false_iff_not] at hc
  have hn:=mt (top_neg ha).2 hc2
  refine Nx.ret_fn rfl [] ⟨by rw [Int.sign_eq_one_of_pos (by omega)],rfl⟩ ?_
  (exact zE)
theorem size_spec (a : Int) (ha : InW a) (I : PH) : FnSpec Tryz.prog 216 [wideV a] I [] (fun v R' => v = wideV (a.natAbs : Int) ∧ R' = []):=by
 refine FnSpec.enterP Tryz.func216 rfl Tryz.ntmps216 rfl fun w F => ?_
 repeat' first | refine kW ?_ | (refine Nx.zo ?_; first | refine kP ?_ | refine kC (sign_spec a ha I) ?_; rintro _ _ ⟨rfl,rfl⟩ | refine kC (opposite_spec a I) ?_; rintro _ _ ⟨rfl,rfl⟩) | refine kS ?_ | refine kB fun bx => ?_ | refine kA fun A2 c2 => ?_ | refine kX (fun hc => ?_) fun hc => ?_ | fail
 ·have hn : a < 0:=Int.sign_neg_iff.1 hc
  refine Nx.ret_cell 0 rfl rfl rfl rfl rfl rfl [] ⟨congrArg wideV (by omega : -a = (a.natAbs : Int)),rfl⟩ ?_
  (exact zE)
 ·have hn : ¬ a < 0:=fun h => hc (Int.sign_neg_iff.2 h)
  refine Nx.ret_cell 0 rfl rfl rfl rfl rfl rfl [] ⟨congrArg wideV (by omega : a = (a.natAbs : Int)),rfl⟩ ?_
  (exact zE)
end Go.Proofs.YtpcnapidlhpbkaaGreatDoor
namespace Go.Proofs.YtpcnapidlhpbkaaGreatDoor
def ln64_ren : Go.Shelf.Ren:=⟨fun | 129 => 234 | n => n,fun | 53 => 102 | 3 => 3 | 4 => 4 | 46 => 161 | 5 => 5 | 9 => 9 | n => n,fun | n => n⟩
theorem ln64 : Go.Proofs.Lays.n129 Tryz.prog ln64_ren where
 mixed:=by kernel_rfl
 f129:=Tryz.func234.trans (congrArg some (by kernel_rfl))
 t3:=Tryz.underlying3
 a3:=Tryz.isAgg3
 z3:=Tryz.sizeOf3
 v3:=Tryz.zeroValue3
 t4:=Tryz.underlying4
 a4:=Tryz.isAgg4
 z4:=Tryz.sizeOf4
 v4:=Tryz.zeroValue4
 t5:=Tryz.underlying5
 a5:=Tryz.isAgg5
 z5:=Tryz.sizeOf5
 v5:=Tryz.zeroValue5
 t9:=Tryz.underlying9
 a9:=Tryz.isAgg9
 z9:=Tryz.sizeOf9
 v9:=Tryz.zeroValue9
 t46:=Tryz.underlying161
 a46:=Tryz.isAgg161
 z46:=Tryz.sizeOf161
 v46:=Tryz.zeroValue161
 t53:=Tryz.underlying102
 a53:=Tryz.isAgg102
 z53:=Tryz.sizeOf102
 v53:=Tryz.zeroValue102
open Go.Eng
attribute [local irreducible] opK wpList Code.wp Exit.then Exit.inBlock fnPost bodyPost Nx Calls Oper.wp Rd Rds Wr Ent Stars Blk Again Vec FnSpec wpMix QRun Stop Upto wpAt
theorem len64_spec (x : Nat) (h1 : x < 18446744073709551616) (I : PH) :
  FnSpec Tryz.prog 234 [.int .u64 x] I [] (fun v R' => v = .int .i64 (Lib.bitLen x) ∧ R' = []) :=
 FnSpec.of_same fun w _ _ _ => Any.bits_Len64 ln64 x w (by omega) (by omega)
end Go.Proofs.YtpcnapidlhpbkaaGreatDoor
namespace Go.Proofs.YtpcnapidlhpbkaaGreatDoor
def tz64_ren : Go.Shelf.Ren:=⟨fun | 29 => 276 | n => n,fun | 22 => 102 | 3 => 3 | 4 => 4 | 25 => 161 | 54 => 291 | 0 => 0 | 5 => 5 | n => n,fun | 1 => 1 | n => n⟩
theorem tz64 : Go.Proofs.Lays7.n29 Tryz.prog tz64_ren where
 mixed:=by kernel_rfl
 f29:=Tryz.func276.trans (congrArg some (by kernel_rfl))
 t0:=Tryz.underlying0
 a0:=Tryz.isAgg0
 z0:=Tryz.sizeOf0
 v0:=Tryz.zeroValue0
 i0:=by kernel_rfl
 t3:=Tryz.underlying3
 a3:=Tryz.isAgg3
 z3:=Tryz.sizeOf3
 v3:=Tryz.zeroValue3
 i3:=by kernel_rfl
 t4:=Tryz.underlying4
 a4:=Tryz.isAgg4
 z4:=Tryz.sizeOf4
 v4:=Tryz.zeroValue4
 i4:=by kernel_rfl
 t5:=Tryz.underlying5
 a5:=Tryz.isAgg5
 z5:=Tryz.sizeOf5
 v5:=Tryz.zeroValue5
 i5:=by kernel_rfl
 t22:=Tryz.underlying102
 a22:=Tryz.isAgg102
 z22:=Tryz.sizeOf102
 v22:=Tryz.zeroValue102
 i22:=by kernel_rfl
 t25:=Tryz.underlying161
 a25:=Tryz.isAgg161
 z25:=Tryz.sizeOf161
 v25:=Tryz.zeroValue161
 i25:=by kernel_rfl
 t54:=Tryz.underlying291
 a54:=Tryz.isAgg291
 z54:=Tryz.sizeOf291
 g1:=by kernel_rfl
open Go.Eng
def TabI (I : PH) : Prop:=∀ (W w : World) (R : List Res),St W I R w → TabAt (tz64_ren.g 1) Lib.deBruijn64tab w
theorem tz64_spec (x : Nat) (h1 : x < 18446744073709551616) (I : PH) (hT : TabI I) :
  FnSpec Tryz.prog 276 [.int .u64 x] I [] (fun v R' => v = .int .i64 (Lib.ctz 64 x : Nat) ∧ R' = []) :=
 FnSpec.of_same fun w W R hw => Any7.bits_TrailingZeros64 tz64 x h1 w fun _ => hT W w R hw
attribute [local irreducible] opK wpList Code.wp Exit.then Exit.inBlock fnPost bodyPost Nx Calls Oper.wp Rd Rds Wr Ent Stars Blk Again Vec FnSpec wpMix QRun Stop Upto wpAt
abbrev W128 : Nat:=340282366920938463463374607431768211456
theorem length_spec (a : Nat) (ha : a < W128) (I : PH) : FnSpec Tryz.prog 247 [wideV (a : Int)] I [] (fun v R' => v = .int .i64 (lenN a : Nat) ∧ R' = []):=by
 have e1:=wH_nat ha
 have e2:=wL_nat a
 have hq : a / 18446744073709551616 < 18446744073709551616:=by unfold W128 at ha; omega
 have hl : Lib.bitLen (a / 18446744073709551616) ≤ 64:=Lib.bitLen_le _ 64 (nLr _) hq
 refine FnSpec.enterP Tryz.func247 rfl Tryz.ntmps247 rfl fun w F => ?_
 repeat' first | refine kW ?_ | (refine Nx.zo ?_; first | refine kP ?_ | refine Nx.call (Rpre:=[]) rfl rfl rfl (by kernel_rfl) rfl (len64_spec _ (wH_lt a) I) (Ent.refl _) ?_; rintro _ _ ⟨rfl,rfl⟩ | refine Nx.call (Rpre:=[]) rfl rfl rfl (by kernel_rfl) rfl (len64_spec _ (wL_lt a) I) (Ent.refl _) ?_; rintro _ _ ⟨rfl,rfl⟩ | refine Nx.add rfl rfl (by rw [e1]; unfold I64; omega) rfl ?_) | refine kS ?_ | refine kB fun bx => ?_ | refine kA fun A2 c2 => ?_ | refine kX (fun hc => ?_) fun hc => ?_ | fail
 ·refine Nx.ret_fn rfl [] ⟨by unfold lenN; rw [if_neg (by omega),e1,Int.natCast_add]; rfl,rfl⟩ ?_
  (exact zE)
 ·refine Nx.ret_fn rfl [] ⟨by unfold lenN; rw [if_pos (by omega),e2,Nat.mod_eq_of_lt (by omega)],rfl⟩ ?_
  (exact zE)
theorem ctz_le {x : Nat} (h : x < 18446744073709551616) : Lib.ctz 64 x ≤ 64:=by
 by_cases h0 : x = 0
 ·subst h0; decide
 ·obtain ⟨m,_,hz⟩:=ctz_two h0 h; omega
theorem zeros_spec (a : Nat) (ha : a < W128) (I : PH) (hT : TabI I) : FnSpec Tryz.prog 244 [wideV (a : Int)] I [] (fun v R' => v = .int .i64 (zerN a : Nat) ∧ R' = []):=by
 have e1:=wH_nat ha
 have e2:=wL_nat a
 have hl:=ctz_le (wH_lt a)
 refine FnSpec.enterP Tryz.func244 rfl Tryz.ntmps244 rfl fun w F => ?_
 repeat' first | refine kW ?_ | (refine Nx.zo ?_; first | refine kP ?_ | refine Nx.call (Rpre:=[]) rfl rfl rfl (by kernel_rfl) rfl (tz64_spec _ (wH_lt a) I hT) (Ent.refl _) ?_; rintro _ _ ⟨rfl,rfl⟩ | refine Nx.call (Rpre:=[]) rfl rfl rfl (by kernel_rfl) rfl (tz64_spec _ (wL_lt a) I hT) (Ent.refl _) ?_; rintro _ _ ⟨rfl,rfl⟩ | refine Nx.add rfl rfl (by unfold I64; omega) rfl ?_) | refine kS ?_ | refine kB fun bx => ?_ | refine kA fun A2 c2 => ?_ | refine kX (fun hc => ?_) fun hc => ?_ | fail
 ·refine Nx.ret_fn rfl [] ⟨by unfold zerN; rw [if_pos (by omega),e1,Int.natCast_add]; rfl,rfl⟩ ?_
  (exact zE)
 ·refine Nx.ret_fn rfl [] ⟨by unfold zerN; rw [if_neg (by omega),e2],rfl⟩ ?_
  (exact zE)
theorem natPow_int (n : Nat) : ((2 ^ n : Nat) : Int) = (2 : Int) ^ n:=by simp
theorem left_low {a n : Nat} (hn : n ≤ 64) (h : a * 2 ^ n < W128) : (wL ((a * 2 ^ n : Nat) : Int) : Int) = (wL (a : Int) : Int) * 2 ^ n % B64:=by
 rw [wL_nat,wL_nat,(left_nat hn h).2.2.2,← natPow_int]
 rfl
theorem left_highN {a n : Nat} (hn : n ≤ 64) (h : a * 2 ^ n < W128) : ((wH (a : Int) : Int) * 2 ^ n % B64 = ((2 ^ n * wH (a : Int) : Nat) : Int)) ∧ 2 ^ n * wH (a : Int) < 18446744073709551616 ∧ wL (a : Int) / 2 ^ (64 - n) < 2 ^ n ∧ wH ((a * 2 ^ n : Nat) : Int) = 2 ^ n * wH (a : Int) + wL (a : Int) / 2 ^ (64 - n):=by
 obtain ⟨h1,h2,h3,_⟩:=left_nat hn h
 rw [wH_nat h,h1,wH_nat (mul_lt_pow h),wL_nat,← natPow_int,Nat.mul_comm (2 ^ n)]
 generalize a % 18446744073709551616 / 2 ^ (64 - n) = Z at *
 rw [← Int.natCast_mul]
 generalize a / 18446744073709551616 * 2 ^ n = X at *
 refine ⟨Int.emod_eq_of_lt (by omega) (by unfold B64; omega),by omega,h3,rfl⟩
section
variable {P : Program} {t : TypeId} {x y : Operand}
theorem left_or {a n : Nat} (hn : n ≤ 64) (h : a * 2 ^ n < W128) : pureRun P (do eqGuard .or t x y (.int .u64 ((wH (a : Int) : Int) * 2 ^ n % B64)) (.int .u64 ((wL (a : Int) : Int) / 2 ^ (64 - n))); binOp .or t (.int .u64 ((wH (a : Int) : Int) * 2 ^ n % B64)) (.int .u64 ((wL (a : Int) : Int) / 2 ^ (64 - n)))) = some (.int .u64 (wH ((a * 2 ^ n : Nat) : Int))):=by
 obtain ⟨h1,h2,h3,h4⟩:=left_highN hn h
 have hq : (wL (a : Int) : Int) / 2 ^ (64 - n) = ((wL (a : Int) / 2 ^ (64 - n) : Nat) : Int):=by rw [Int.natCast_ediv,natPow_int]
 rw [run_orD n (wH (a : Int)) (wL (a : Int) / 2 ^ (64 - n)) h1 hq h2 h3 (Nat.lt_of_le_of_lt (Nat.div_le_self _ _) (wL_lt a)),h1,hq,h4,Int.natCast_add]
theorem right_or {a n : Nat} (hn : n ≤ 64) (h : a < W128) : pureRun P (do eqGuard .or t x y (.int .u64 ((wL (a : Int) : Int) / 2 ^ n)) (.int .u64 ((wH (a : Int) : Int) * 2 ^ (64 - n) % B64)); binOp .or t (.int .u64 ((wL (a : Int) : Int) / 2 ^ n)) (.int .u64 ((wH (a : Int) : Int) * 2 ^ (64 - n) % B64))) = some (.int .u64 (wL ((a / 2 ^ n : Nat) : Int))):=by
 obtain ⟨h1,h2,h3,h4⟩:=right_nat hn h
 have hp : (wL (a : Int) : Int) / 2 ^ n = ((wL (a : Int) / 2 ^ n : Nat) : Int):=by rw [Int.natCast_ediv,natPow_int]
 have hq : (wH (a : Int) : Int) * 2 ^ (64 - n) % B64 = ((2 ^ (64 - n) * (wH (a : Int) % 2 ^ n) : Nat) : Int):=by
  rw [wH_nat h,← h3,Int.natCast_emod,Int.natCast_mul,natPow_int]; rfl
 have hm : 2 ^ (64 - n) * (wH (a : Int) % 2 ^ n) < 18446744073709551616:=by rw [wH_nat h,← h3]; exact Nat.mod_lt _ (by decide)
 rw [run_orE (64 - n) (wH (a : Int) % 2 ^ n) (wL (a : Int) / 2 ^ n) hp hq hm (by rw [wL_nat]; exact h2) (Nat.lt_of_le_of_lt (Nat.div_le_self _ _) (wL_lt a)),hp,hq,wL_nat (a / 2 ^ n),h4,wH_nat h,wL_nat,Int.natCast_add]
end
theorem right_high {a n : Nat} (hn : n ≤ 64) (h : a < W128) : (wH ((a / 2 ^ n : Nat) : Int) : Int) = (wH (a : Int) : Int) / 2 ^ n:=by
 rw [wH_nat (Nat.lt_of_le_of_lt (Nat.div_le_self _ _) h),(right_nat hn h).1,wH_nat h,Int.natCast_ediv (_ / _),natPow_int]
theorem left_far {a n : Nat} (h1 : 64 ≤ n) (h2 : n < 128) (h : a * 2 ^ n < W128) : (wH ((a * 2 ^ n : Nat) : Int) : Int) = (wL (a : Int) : Int) * 2 ^ (n - 64) % B64 ∧ (wL ((a * 2 ^ n : Nat) : Int) : Int) = 0:=by
 have e : a * 2 ^ n = (a * 2 ^ (n - 64)) * 18446744073709551616:=by
  rw [show n = (n - 64) + 64 by omega,Nat.pow_add,← Nat.mul_assoc]; simp
 have hlt : a * 2 ^ (n - 64) < 18446744073709551616:=by
  rw [e] at h; unfold W128 at h; omega
 have ha : a < 18446744073709551616:=Nat.lt_of_le_of_lt (Nat.le_mul_of_pos_right a (Nat.two_pow_pos _)) hlt
 rw [wH_nat h,wL_nat,wL_nat,Nat.mod_eq_of_lt ha,← natPow_int,← Int.natCast_mul,e]
 generalize a * 2 ^ (n - 64) = X at *
 unfold B64
 omega
theorem right_far {a n : Nat} (h1 : 64 ≤ n) (h : a < W128) : (wL ((a / 2 ^ n : Nat) : Int) : Int) = (wH (a : Int) : Int) / 2 ^ (n - 64) ∧ (wH ((a / 2 ^ n : Nat) : Int) : Int) = 0:=by
 have e : a / 2 ^ n = a / 18446744073709551616 / 2 ^ (n - 64):=by
  rw [Nat.div_div_eq_div_mul,show (18446744073709551616 : Nat) = 2 ^ 64 from rfl,← Nat.pow_add,show 64 + (n - 64) = n by omega]
 have hle : a / 18446744073709551616 / 2 ^ (n - 64) ≤ a / 18446744073709551616:=Nat.div_le_self _ _
 rw [wH_nat (Nat.lt_of_le_of_lt (Nat.div_le_self _ _) h),wL_nat,wH_nat h,← natPow_int,← Int.natCast_ediv,e]
 generalize a / 18446744073709551616 / 2 ^ (n - 64) = X at *
 unfold W128 at h
 omega
attribute [local irreducible] wH wL
theorem left_spec (a n : Nat) (hn : n < 128) (h : a * 2 ^ n < W128) (I : PH) : FnSpec Tryz.prog 246 [wideV (a : Int),.int .i64 (n : Nat)] I [] (fun v R' => v = wideV ((a * 2 ^ n : Nat) : Int) ∧ R' = []):=by
 have ha:=mul_lt_pow h
 refine FnSpec.enterP Tryz.func246 rfl Tryz.ntmps246 rfl fun w F => ?_
 repeat' first | ((with_reducible refine Nx.is_wp ?_); first | refine Nx.p_draw (id:=3) rfl [0,1,2,3,4,5,6,7,8,9,10,11,12,13,14,15] [15] [Blk _ 200 (wideL a),F] rfl rfl (by kernel_rfl) (by kernel_rfl) rfl PanicOk.auto (Ent.pick 1 rfl (Ent.pick 1 rfl (Ent.nil _))) ?_ | refine Nx.wo ?_ | refine kD 3 [0,1,2,3,4,5,6,7,8,9,10,11,12,13,14,15] [15] ?_) | (refine Nx.zo ?_; first | refine kP ?_ | refine Nx.bin rfl rfl (run_shlN (n - 64) (by omega) (by omega)) rfl ?_) | refine kS ?_ | refine kB fun bx => ?_ | refine kA fun A2 c2 => ?_ | ((with_reducible refine Nx.is_mix ?_); refine kQ rfl rfl rfl rfl (by first | exact .inl rfl | exact .inr ⟨_,_,_,rfl,rfl,rfl⟩) (by first | exact QRun.opr rfl | exact QRun.bin rfl rfl (run_shlN n rfl (by omega)) | exact QRun.bin rfl rfl (run_shrN (64 - n) (by omega) (by omega)) | exact QRun.bin rfl rfl (left_or (by omega) h)) ?_) | refine kX (fun hc => ?_) fun hc => ?_ | fail
 ·have e:=left_far (by omega) hn h
  refine Nx.ret_cell 0 rfl rfl rfl rfl rfl rfl [] ⟨wideV_mkI e.1 e.2,rfl⟩ ?_
  (exact zE)
 ·refine Nx.ret_cell 0 rfl rfl rfl rfl rfl rfl [] ⟨wideV_mkI rfl (left_low (by omega) h),rfl⟩ ?_
  (exact zE)
theorem frright_spec (a n : Nat) (hn : n < 128) (h : a < W128) (I : PH) : FnSpec Tryz.prog 245 [wideV (a : Int),.int .i64 (n : Nat)] I [] (fun v R' => v = wideV ((a / 2 ^ n : Nat) : Int) ∧ R' = []):=by
 refine FnSpec.enterP Tryz.func245 rfl Tryz.ntmps245 rfl fun w F => ?_
 repeat' first | ((with_reducible refine Nx.is_wp ?_); first | refine Nx.p_draw (id:=3) rfl [0,1,2,3,4,5,6,7,8,9,10,11,12,13,14,15] [15] [Blk _ 200 (wideL a),F] rfl rfl (by kernel_rfl) (by kernel_rfl) rfl PanicOk.auto (Ent.pick 1 rfl (Ent.pick 1 rfl (Ent.nil _))) ?_ | refine Nx.wo ?_ | refine kD 3 [0,1,2,3,4,5,6,7,8,9,10,11,12,13,14,15] [15] ?_) | (refine Nx.zo ?_; first | refine kP ?_ | refine Nx.bin rfl rfl (run_shrN (n - 64) (by omega) (by omega)) rfl ?_) | refine kS ?_ | refine kB fun bx => ?_ | refine kA fun A2 c2 => ?_ | ((with_reducible refine Nx.is_mix ?_); refine kQ rfl rfl rfl rfl (by first | exact .inl rfl | exact .inr ⟨_,_,_,rfl,rfl,rfl⟩) (by first | exact QRun.opr rfl | exact QRun.bin rfl rfl (run_shrN n rfl (by omega)) | exact QRun.bin rfl rfl (run_shlN (64 - n) (by omega) (by omega)) | exact QRun.bin rfl rfl (right_or (by omega) h)) ?_) | refine kX (fun hc => ?_) fun hc => ?_ | fail
 ·have e:=right_far (n:=n) (by omega) h
  refine Nx.ret_cell 0 rfl rfl rfl rfl rfl rfl [] ⟨wideV_mkI e.2 e.1,rfl⟩ ?_
  (exact zE)
 ·refine Nx.ret_cell 0 rfl rfl rfl rfl rfl rfl [] ⟨wideV_mkI (right_high (by omega) h) rfl,rfl⟩ ?_
  (exact zE)
end Go.Proofs.YtpcnapidlhpbkaaGreatDoor
namespace Go.Proofs.YtpcnapidlhpbkaaGreatDoor
open Go.Eng
attribute [local irreducible] opK wpList Code.wp Exit.then Exit.inBlock fnPost bodyPost Nx Calls Oper.wp Rd Rds Wr Ent Stars Blk Again Vec FnSpec wpMix QRun Stop Upto wpAt
abbrev H127 : Nat:=170141183460469231731687303715884105728
attribute [local irreducible] wH wL bitN
end Go.Proofs.YtpcnapidlhpbkaaGreatDoor
namespace Go.Proofs.YtpcnapidlhpbkaaGreatDoor
open Go.Eng
attribute [local irreducible] opK wpList Code.wp Exit.then Exit.inBlock fnPost bodyPost Nx Calls Oper.wp Rd Rds Wr Ent Stars Blk Again Vec FnSpec wpMix QRun Stop Upto wpAt
theorem half_step {a B : Nat} (hB : 0 < B) : (a % (2 * B) < B → a % B = a % (2 * B) ∧ a / B = 2 * (a / (2 * B))) ∧ (¬ a % (2 * B) < B → a % B = a % (2 * B) - B ∧ a / B = 2 * (a / (2 * B)) + 1):=by
 have h1:=Nat.div_add_mod a (2 * B)
 have h2 : a % (2 * B) < 2 * B:=Nat.mod_lt _ (by omega)
 generalize a % (2 * B) = r at *
 generalize a / (2 * B) = q at *
 have h3 : a = B * (2 * q) + r:=by rw [← h1,Nat.mul_left_comm,← Nat.mul_assoc]
 constructor
 ·intro hlt
  constructor
  ·conv => lhs; rw [h3]
   rw [Nat.mul_add_mod,Nat.mod_eq_of_lt hlt]
  ·conv => lhs; rw [h3]
   rw [Nat.mul_add_div hB,Nat.div_eq_of_lt hlt,Nat.add_zero]
 ·intro hge
  have h4 : a = B * (2 * q + 1) + (r - B):=by
   rw [Nat.mul_add]
   omega
  have hlt : r - B < B:=by omega
  constructor
  ·conv => lhs; rw [h4]
   rw [Nat.mul_add_mod,Nat.mod_eq_of_lt hlt]
  ·conv => lhs; rw [h4]
   rw [Nat.mul_add_div hB,Nat.div_eq_of_lt hlt,Nat.add_zero]
attribute [local irreducible] wH wL lenN zerN
theorem over_spec (a b : Nat) (ha : a < H127) (hb0 : 0 < b) (hb : b < H127) (I : PH) : FnSpec Tryz.prog 217 [wideV (a : Int),wideV (b : Int)] I []
  (fun v R' => ∃ q : Int,v = .tuple #[.int .i64 q,.bool (decide (a / b ≤ 1152921504606846976))] ∧ R' = [] ∧ (a / b ≤ 1152921504606846976 → q = (a / b : Nat)) ∧ 0 ≤ q ∧ q ≤ 4611686018427387904):=by
 obtain ⟨a1,a2,a3⟩:=lenN_spec (a:=a) (by unfold H127 at ha; omega)
 obtain ⟨b1,b2,b3⟩:=lenN_spec (a:=b) (by unfold H127 at hb; omega)
 obtain ⟨b2,b4⟩:=b2 (by omega)
 refine FnSpec.enterP Tryz.func217 rfl Tryz.ntmps217 rfl fun w F => ?_
 repeat' first | ((with_reducible refine Nx.is_wp ?_); first | refine Nx.wo ?_ | refine kF 1 [0,2,1] [1] [3,4,5] ?_ | refine Nx.p_poolF (id:=9) rfl [0,1,2,3,4] [3,4] [] [6] [6] [⟨5,9,200,_⟩] rfl rfl (by kernel_rfl) (by kernel_rfl) (by decide) (PoolFit.cons ⟨⟨_,_,_,rfl⟩,rfl,rfl⟩ PoolFit.nil) PanicOk.auto (Ent.refl _) ?_) | ((first | refine Nx.at_op rfl rfl ?_ | refine Nx.m_loud rfl rfl rfl ?_ | refine Nx.at_do rfl rfl rfl rfl ?_ | refine Nx.m_loud_do rfl rfl rfl rfl rfl ?_ | refine GoodF.loud_ rfl rfl rfl rfl (fun ex X => ?_)); first | refine kP ?_ | refine kV (length_spec a (by unfold W128; unfold H127 at ha; omega) I) ?_ | refine kV (length_spec b (by unfold W128; unfold H127 at hb; omega) I) ?_) | refine kS ?_ | refine kB fun bx => ?_ | refine kA fun A2 c2 => ?_ | ((with_reducible refine GoodF.is ?_); first | refine GoodF.quiet rfl rfl rfl rfl rfl rfl (by first | exact QRun.opr rfl |  exact QRun.std) ?_ | refine GoodF.done1 rfl (fun bx => ?_) | refine GoodF.done2 rfl (fun bx by_ => ?_) | refine GoodF.done3 rfl (fun bx by_ bz => ?_)) | refine kX (fun hc => ?_) fun hc => ?_ | fail | ((fail_if_success (with_reducible refine Nx.is_at ?_)); (fail_if_success (with_reducible refine Nx.is_wp ?_)); (fail_if_success (with_reducible refine Nx.is_mix ?_)); first | refine Nx.ex ?_ | refine Nx.pool_nextF 0 rfl (by exact zE) ?_ | refine Nx.pool_nextF 1 rfl (by exact zE) ?_ | refine Nx.pool_nextF 2 rfl (by exact zE) ?_ | refine Nx.pool_nextF 3 rfl (by exact zE) ?_)
 ·have h1 : 2 ^ 61 * b ≤ a:=by
   have e : 2 ^ (lenN a - 1) ≤ a:=(a2 (by rintro rfl; have : lenN 0 = 0:=(by unfold lenN; rfl); omega)).2
   have : 2 ^ 61 * 2 ^ lenN b ≤ 2 ^ (lenN a - 1):=by rw [← Nat.pow_add]; exact Nat.pow_le_pow_right (by decide) (by omega)
   have : 2 ^ 61 * b ≤ 2 ^ 61 * 2 ^ lenN b:=Nat.mul_le_mul_left _ (by omega)
   omega
  have h2 : ¬ a / b ≤ 1152921504606846976:=by
   have:=(Nat.le_div_iff_mul_le hb0).2 h1
   omega
  refine Nx.ret_fn rfl [] ⟨0,?_,rfl,fun h => absurd h h2,by omega,by omega⟩ (by exact zE)
  rw [decide_eq_false h2]
 ·have hla : lenN a ≤ 127:=by
   by_cases h0 : a = 0
   ·subst h0
    have : lenN 0 = 0:=by unfold lenN; rfl
    omega
   ·have h1:=(a2 h0).2
    have h2 : 2 ^ (lenN a - 1) < 2 ^ 127:=Nat.lt_of_le_of_lt h1 (by unfold H127 at ha; omega)
    have:=(Nat.pow_lt_pow_iff_right (by decide : 1 < 2)).1 h2
    omega
  have hst : a < 2 ^ ((lenN a : Int) - lenN b + 1).toNat * b:=by
   by_cases h : lenN b ≤ lenN a
   ·rw [show ((lenN a : Int) - lenN b + 1).toNat = lenN a - lenN b + 1 by omega]
    have h1 : 2 ^ lenN a = 2 ^ (lenN a - lenN b + 1) * 2 ^ (lenN b - 1):=by rw [← Nat.pow_add]; congr 1; omega
    have h2 : 2 ^ (lenN a - lenN b + 1) * 2 ^ (lenN b - 1) ≤ 2 ^ (lenN a - lenN b + 1) * b:=Nat.mul_le_mul_left _ b4
    omega
   ·rw [show ((lenN a : Int) - lenN b + 1).toNat = 0 by omega,Nat.pow_zero,Nat.one_mul]
    have : 2 ^ lenN a ≤ 2 ^ (lenN b - 1):=Nat.pow_le_pow_right (by decide) (by omega)
    omega
  have hq62 : a / b < 2 ^ 62:=by
   rw [Nat.div_lt_iff_lt_mul hb0]
   have : 2 ^ ((lenN a : Int) - lenN b + 1).toNat ≤ 2 ^ 62:=Nat.pow_le_pow_right (by decide) (by omega)
   exact Nat.lt_of_lt_of_le hst (Nat.mul_le_mul_right _ this)
  rename_i ba
  refine Nx.p_loop (σ:=Int) (fun k => [(8,.int .i64 k),(7,.int .i64 ((a / (2 ^ (k + 1).toNat * b) : Nat) : Int)),(3,.pointer (some ⟨bx,0,none⟩)),(2,.pointer (some ⟨ba,0,none⟩))])
   (fun k => [Blk ba 200 (wideL ((a % (2 ^ (k + 1).toNat * b) : Nat) : Int)),Blk bx 200 (wideL (b : Int)),F]) (fun k => k ≤ (lenN a : Int) - lenN b ∧ -200 ≤ k) (fun k => (k + 1).toNat) ((lenN a : Int) - lenN b) rfl ⟨by omega,by omega⟩ ⟨rfl,by rw [Nat.div_eq_of_lt hst]; rfl,rfl,rfl,trivial⟩ (by rw [Nat.mod_eq_of_lt hst]; (exact zE)) ?_
  rintro k ⟨hk,hk2⟩
  by_cases h0 : k < 0
  ·have e : (k + 1).toNat = 0:=by omega
   rw [e,Nat.pow_zero,Nat.one_mul]
   repeat' first | refine kS ?_ | refine kB fun bx => ?_ | refine kA fun A2 c2 => ?_ | refine kX (fun hc => ?_) fun hc => ?_ | fail
   refine Nx.ret_fn rfl [] ⟨((a / b : Nat) : Int),?_,rfl,fun _ => rfl,Int.natCast_nonneg _,by generalize a / b = Q at hq62; omega⟩ (by exact zE)
   rw [show decide (((a / b : Nat) : Int) ≤ 1152921504606846976) = decide (a / b ≤ 1152921504606846976) from decide_eq_decide.2 (by omega)]
  ·obtain ⟨j,rfl⟩ : ∃ j : Nat,k = (j : Int):=⟨k.toNat,by omega⟩
   rw [show ((j : Int) + 1).toNat = j + 1 by omega]
   have hBj : b * 2 ^ j < 2 ^ 127:=by
    have h1 : b * 2 ^ j < 2 ^ lenN b * 2 ^ j:=Nat.mul_lt_mul_of_pos_right b1 (Nat.two_pow_pos j)
    rw [← Nat.pow_add] at h1
    exact Nat.lt_of_lt_of_le h1 (Nat.pow_le_pow_right (by decide) (by omega))
   have e2 : 2 ^ (j + 1) * b = 2 * (b * 2 ^ j):=by rw [Nat.pow_succ,Nat.mul_comm b,← Nat.mul_assoc,Nat.mul_comm 2]
   have hB0 : 0 < b * 2 ^ j:=Nat.mul_pos hb0 (Nat.two_pow_pos j)
   obtain ⟨s1,s2⟩:=half_step (a:=a) hB0
   have hqa : a / (2 ^ (j + 1) * b) ≤ a / b:=Nat.div_le_div_left (Nat.le_mul_of_pos_left b (Nat.two_pow_pos _)) hb0
   have hq2 : 2 * (a / (2 ^ (j + 1) * b)) ≤ a / b:=by
    have : a / (2 ^ (j + 1) * b) ≤ a / b / 2:=by
     rw [Nat.div_div_eq_div_mul]
     refine Nat.div_le_div_left ?_ (by omega)
     rw [Nat.pow_succ,Nat.mul_comm b]
     exact Nat.mul_le_mul_right _ (Nat.le_mul_of_pos_left 2 (Nat.two_pow_pos j))
    omega
   have hra : a % (2 ^ (j + 1) * b) ≤ a:=Nat.mod_le _ _
   rw [← e2] at s1 s2
   have hnext : (2 : Nat) ^ ((j : Int) - 1 + 1).toNat * b = b * 2 ^ j:=by rw [show ((j : Int) - 1 + 1).toNat = j by omega,Nat.mul_comm]
   have hw : InW (((a % (2 ^ (j + 1) * b) : Nat) : Int) - ((b * 2 ^ j : Nat) : Int)):=by unfold InW; unfold H127 at ha; omega
   generalize a / (2 ^ (j + 1) * b) = q at *
   generalize a % (2 ^ (j + 1) * b) = r at *
   repeat' first | ((with_reducible refine Nx.is_wp ?_); first | refine Nx.wo ?_ | refine kF 1 [0,2,1] [1] [3,4,5] ?_ | refine Nx.p_poolF (id:=9) rfl [0,1,2,3,4] [3,4] [] [6] [6] [⟨5,9,200,_⟩] rfl rfl (by kernel_rfl) (by kernel_rfl) (by decide) (PoolFit.cons ⟨⟨_,_,_,rfl⟩,rfl,rfl⟩ PoolFit.nil) PanicOk.auto (Ent.refl _) ?_) | ((first | refine Nx.at_op rfl rfl ?_ | refine Nx.m_loud rfl rfl rfl ?_ | refine Nx.at_do rfl rfl rfl rfl ?_ | refine Nx.m_loud_do rfl rfl rfl rfl rfl ?_ | refine GoodF.loud_ rfl rfl rfl rfl (fun ex X => ?_)); first | refine kP ?_ | refine kV (left_spec b j (by omega) (by unfold W128; omega) I) ?_ | refine Nx.callv rfl rfl rfl (by kernel_rfl) rfl (minus_spec _ _ I) ?_ | refine Nx.callv rfl rfl rfl (by kernel_rfl) rfl (sign_spec _ hw I) ?_) | refine kS ?_ | refine kB fun bx => ?_ | refine kA fun A2 c2 => ?_ | ((with_reducible refine GoodF.is ?_); first | refine GoodF.quiet rfl rfl rfl rfl rfl rfl (by first | exact QRun.opr rfl |  exact QRun.std) ?_ | refine GoodF.done1 rfl (fun bx => ?_) | refine GoodF.done2 rfl (fun bx by_ => ?_) | refine GoodF.done3 rfl (fun bx by_ bz => ?_)) | refine kX (fun hc => ?_) fun hc => ?_ | fail | ((fail_if_success (with_reducible refine Nx.is_at ?_)); (fail_if_success (with_reducible refine Nx.is_wp ?_)); (fail_if_success (with_reducible refine Nx.is_mix ?_)); first | refine Nx.ex ?_ | refine Nx.pool_nextF 0 rfl (by exact zE) ?_ | refine Nx.pool_nextF 1 rfl (by exact zE) ?_ | refine Nx.pool_nextF 2 rfl (by exact zE) ?_ | refine Nx.pool_nextF 3 rfl (by exact zE) ?_)
   ·have hge : ¬ r < b * 2 ^ j:=by
     have:=Int.sign_nonneg_iff.1 hc
     omega
    obtain ⟨k1,k2⟩:=s2 hge
    refine Nx.again ((j : Int) - 1) ⟨by omega,by omega⟩ (by omega) ⟨rfl,?_,rfl,rfl,trivial⟩ ?_
    ·rw [hnext,k2,show ((2 * q + 1 : Nat) : Int) = (q : Int) * 2 + 1 by omega]; rfl
    ·rw [hnext,k1,show ((r - b * 2 ^ j : Nat) : Int) = (r : Int) - ((b * 2 ^ j : Nat) : Int) by omega]
     exact Ent.pickE 0 rfl rfl (by exact zE)
   ·have hlt : r < b * 2 ^ j:=by
     have : ¬ 0 ≤ (r : Int) - ((b * 2 ^ j : Nat) : Int):=fun h => hc (Int.sign_nonneg_iff.2 h)
     omega
    obtain ⟨k1,k2⟩:=s1 hlt
    refine Nx.again ((j : Int) - 1) ⟨by omega,by omega⟩ (by omega) ⟨rfl,?_,rfl,rfl,trivial⟩ ?_
    ·rw [hnext,k2,show ((2 * q : Nat) : Int) = (q : Int) * 2 by omega]; rfl
    ·rw [hnext,k1]
     (exact zE)
end Go.Proofs.YtpcnapidlhpbkaaGreatDoor
namespace Go.Proofs.YtpcnapidlhpbkaaGreatDoor
open Go.Eng
attribute [local irreducible] opK wpList Code.wp Exit.then Exit.inBlock fnPost bodyPost Nx Calls Oper.wp Rd Rds Wr Ent Stars Blk Again Vec FnSpec wpMix QRun Stop Upto wpAt
theorem neq0 {x y : Operand} (z : Int) (hz : InW z) (w : World) :
  (do eqGuard .neq 200 x y (wideV z) (.agg #[.int .u64 0,.int .u64 0]); binOp .neq 200 (wideV z) (.agg #[.int .u64 0,.int .u64 0])).run Tryz.prog w = .ok (.bool (decide (¬ z = 0))) w:=by
 have h:=neq_wide (x:=x) (y:=y) (wH z : Int) (wL z : Int) 0 0 w
 rw [zero_bool hz] at h
 rw [show decide (¬ z = 0) = !decide (z = 0) by simp]
 exact h
theorem gcd_mul_odd {b x : Nat} (hx : x % 2 = 1) (hb : b ≠ 0) (hbl : b < W128) : ∃ m,b / 2 ^ zerN b = 2 * m + 1 ∧ Nat.gcd x b = Nat.gcd x (2 * m + 1) ∧ b = 2 ^ zerN b * (2 * m + 1) ∧ zerN b < 128:=by
 obtain ⟨m,hm,hz⟩:=zerN_spec hb hbl
 refine ⟨m,?_,?_,hm,hz⟩
 ·conv => lhs; arg 1; rw [hm]
  exact Nat.mul_div_cancel_left _ (Nat.two_pow_pos _)
 ·conv => lhs; rw [hm]
  exact gcd_odd hx
attribute [local irreducible] wH wL lenN zerN
theorem common_spec (a b : Nat) (ha0 : 0 < a) (ha : a < H127) (hb : b < H127) (I : PH) (hT : TabI I) : FnSpec Tryz.prog 215 [wideV (a : Int),wideV (b : Int)] I [] (fun v R' => v = wideV ((Nat.gcd a b : Nat) : Int) ∧ R' = []):=by
 have ha' : a < W128:=by unfold W128; unfold H127 at ha; omega
 have hb' : b < W128:=by unfold W128; unfold H127 at hb; omega
 have hwb : InW (b : Int):=by unfold InW; unfold H127 at hb; omega
 obtain ⟨u,hu,hz⟩:=zerN_spec (by omega : a ≠ 0) ha'
 have hua : a / 2 ^ zerN a = 2 * u + 1:=by
  conv => lhs; arg 1; rw [hu]
  exact Nat.mul_div_cancel_left _ (Nat.two_pow_pos _)
 have hule : 2 * u + 1 ≤ a:=by rw [← hua]; exact Nat.div_le_self _ _
 have hzb : b ≠ 0 → zerN b < 128:=fun h => (zerN_spec h hb').choose_spec.2
 refine FnSpec.enterP Tryz.func215 rfl Tryz.ntmps215 rfl fun w F => ?_
 repeat' first | ((with_reducible refine Nx.is_wp ?_); first | refine Nx.wo ?_ | refine kF 3 [0,2,1] [1] [3,4,5] ?_ | refine kF 4 [0,1,2] [2] [3,4] ?_ | refine kF 6 [0,1,2] [2] [3,4] ?_) | (refine Nx.zo ?_; first | refine kP ?_ | refine Nx.callv rfl rfl rfl (by kernel_rfl) rfl (zeros_spec _ ha' I hT) ?_ | refine Nx.callv rfl rfl rfl (by kernel_rfl) rfl (zeros_spec _ hb' I hT) ?_ | refine Nx.binr rfl rfl (eql_wide _ _ _ _) rfl ?_ | refine kV (frright_spec a (zerN a) hz ha' I) ?_) | refine kS ?_ | refine kB fun bx => ?_ | refine kA fun A2 c2 => ?_ | refine kX (fun hc => ?_) fun hc => ?_ | fail
 ·rw [zero_bool hwb,decide_eq_true_eq] at hc
  obtain rfl : b = 0:=by omega
  rw [Nat.gcd_zero_right]
  refine Nx.ret_cell 0 rfl rfl rfl rfl rfl rfl [] ⟨rfl,rfl⟩ ?_
  (exact zE)
 ·rw [zero_bool hwb,decide_eq_false_iff_not] at hc
  rename_i ba bb
  have hb0 : b ≠ 0:=by omega
  have hzb:=hzb hb0
  obtain ⟨v,hv,_⟩:=zerN_spec hb0 hb'
  have hgcd : Nat.gcd a b = 2 ^ (min (zerN a) (zerN b)) * Nat.gcd (2 * u + 1) b:=by
   have h1 : Nat.gcd a b = 2 ^ (min (zerN a) (zerN b)) * Nat.gcd (2 * u + 1) (2 * v + 1):=by
    conv => lhs; rw [hu,hv]
    exact gcd_twos (by omega) (by omega)
   have h2 : Nat.gcd (2 * u + 1) b = Nat.gcd (2 * u + 1) (2 * v + 1):=by
    conv => lhs; rw [hv]
    exact gcd_odd (by omega)
   rw [h1,h2]
  have hgle : Nat.gcd a b ≤ a:=Nat.le_of_dvd ha0 (Nat.gcd_dvd_left a b)
  rw [hua]
  refine Nx.p_loop (σ:=Nat × Nat) (fun _ => [(5,.int .i64 (min (zerN a : Int) (zerN b : Int))),(4,.pointer (some ⟨bx,0,none⟩)),(3,.pointer (some ⟨bb,0,none⟩)),(2,.pointer (some ⟨ba,0,none⟩))])
   (fun s => [Blk ba 200 (wideL (s.1 : Int)),Blk bb 200 (wideL (s.2 : Int)),Blk bx 200 [.int .u64 0,.int .u64 0],F])
   (fun s => s.1 < H127 ∧ s.2 < H127 ∧ s.1 % 2 = 1 ∧ Nat.gcd s.1 s.2 = Nat.gcd (2 * u + 1) b) (fun s => s.1 + s.2) (2 * u + 1,b) rfl ⟨by omega,hb,by omega,rfl⟩ zR (by exact zE) ?_
  rintro ⟨x,y⟩ ⟨hx,hy,ho,hg⟩
  simp only at hx hy ho hg ⊢
  have hx' : x < 170141183460469231731687303715884105728:=hx
  have hy' : y < 170141183460469231731687303715884105728:=hy
  have hwy : InW (y : Int):=by unfold InW; omega
  by_cases h0 : y = 0
  ·subst h0
   rw [Nat.gcd_zero_right] at hg
   subst hg
   rw [show min (zerN a : Int) (zerN b : Int) = ((min (zerN a) (zerN b) : Nat) : Int) by omega]
   have hlt : Nat.gcd (2 * u + 1) b * 2 ^ (min (zerN a) (zerN b)) < W128:=by rw [Nat.mul_comm,← hgcd]; omega
   repeat' first | refine kW ?_ | (refine Nx.zo ?_; first | refine kP ?_ | refine Nx.binr rfl rfl (neq0 _ hwy) rfl ?_ | refine Nx.callv rfl rfl rfl (by kernel_rfl) rfl (left_spec _ _ (by omega) hlt I) ?_) | refine kS ?_ | refine kB fun bx => ?_ | refine kA fun A2 c2 => ?_ | refine kX (fun hc => ?_) fun hc => ?_ | fail
   refine Nx.ret_cell 0 rfl rfl rfl rfl rfl rfl [] ⟨congrArg wideV ?_,rfl⟩ ?_
   ·rw [hgcd,Nat.mul_comm]
   ·(exact zE)
  ·obtain ⟨m,hm1,hm2,hm3,hzy⟩:=gcd_mul_odd ho h0 (by unfold W128; omega)
   have hml : 2 * m + 1 ≤ y:=by rw [← hm1]; exact Nat.div_le_self _ _
   have hr:=frright_spec y (zerN y) hzy (by unfold W128; omega) I
   rw [hm1] at hr
   repeat' first | ((with_reducible refine Nx.is_wp ?_); first | refine Nx.wo ?_ | refine kF 3 [0,2,1] [1] [3,4,5] ?_ | refine kF 4 [0,1,2] [2] [3,4] ?_ | refine kF 6 [0,1,2] [2] [3,4] ?_) | (refine Nx.zo ?_; first | refine kP ?_ | refine kV (zeros_spec y (by unfold W128; omega) I hT) ?_ | refine Nx.binr rfl rfl (neq0 _ hwy) rfl ?_ | refine kV hr ?_ | refine Nx.callv rfl rfl rfl (by kernel_rfl) rfl (minus_spec _ _ I) ?_ | refine Nx.callv rfl rfl rfl (by kernel_rfl) rfl (sign_spec _ (by unfold InW; omega) I) ?_) | refine kS ?_ | refine kB fun bx => ?_ | refine kA fun A2 c2 => ?_ | refine kX (fun hc => ?_) fun hc => ?_ | fail
   ·have hlt : 2 * m + 1 < x:=by
     have:=Int.sign_neg_iff.1 hc
     omega
    refine Nx.again (2 * m + 1,x - (2 * m + 1)) ⟨by omega,by show x - (2 * m + 1) < H127; omega,by show (2 * m + 1) % 2 = 1; omega,?_⟩ (by show 2 * m + 1 + (x - (2 * m + 1)) < x + y; omega) zR ?_
    ·show Nat.gcd (2 * m + 1) (x - (2 * m + 1)) = _
     rw [gcd_sub (by omega),Nat.gcd_comm,← hm2,hg]
    ·show Ent _ [Blk ba _ _,Blk bb _ (wideL ((x - (2 * m + 1) : Nat) : Int)),_,_]
     rw [show ((x - (2 * m + 1) : Nat) : Int) = (x : Int) - ((2 * m + 1 : Nat) : Int) by omega]
     exact Ent.pickE 1 rfl rfl (Ent.pickE 0 rfl rfl (by exact zE))
   ·have hle : x ≤ 2 * m + 1:=by
     have : ¬ ((2 * m + 1 : Nat) : Int) - (x : Int) < 0:=fun h => hc (Int.sign_neg_iff.2 h)
     omega
    refine Nx.again (x,2 * m + 1 - x) ⟨hx,by show 2 * m + 1 - x < H127; omega,ho,?_⟩ (by show x + (2 * m + 1 - x) < x + y; omega) zR ?_
    ·show Nat.gcd x (2 * m + 1 - x) = _
     rw [gcd_sub hle,← hm2,hg]
    ·show Ent _ [Blk ba _ _,Blk bb _ (wideL ((2 * m + 1 - x : Nat) : Int)),_,_]
     rw [show ((2 * m + 1 - x : Nat) : Int) = ((2 * m + 1 : Nat) : Int) - (x : Int) by omega]
     exact Ent.pickE 1 rfl rfl (Ent.pickE 0 rfl rfl (by exact zE))
end Go.Proofs.YtpcnapidlhpbkaaGreatDoor
namespace Go.Proofs.YtpcnapidlhpbkaaGreatDoor
open Go.Eng
attribute [local irreducible] opK wpList Code.wp Exit.then Exit.inBlock fnPost bodyPost Nx Calls Oper.wp Rd Rds Wr Ent Stars Blk Again Vec FnSpec wpMix QRun Stop Upto wpAt
theorem gcd_spec (a b : Int) (ha : a.natAbs ≤ 9223372036854775807) (hb : b.natAbs ≤ 9223372036854775807) (I : PH) : FnSpec Tryz.prog 100 [.int .i64 a,.int .i64 b] I [] (fun v R' => v = .int .i64 (Nat.gcd a.natAbs b.natAbs : Nat) ∧ R' = []):=by
 refine FnSpec.enterP Tryz.func100 rfl Tryz.ntmps100 rfl fun w F => ?_
 repeat' first | refine kS ?_ | refine kB fun bx => ?_ | refine kA fun A2 c2 => ?_ | refine kX (fun hc => ?_) fun hc => ?_ | fail
 refine Nx.p_loop (σ:=Int × Int) (fun s => [(0,.int .i64 s.1),(1,.int .i64 s.2)]) (fun _ => [F]) (fun s => s.1.natAbs ≤ 9223372036854775807 ∧ s.2.natAbs ≤ 9223372036854775807 ∧ Nat.gcd s.1.natAbs s.2.natAbs = Nat.gcd a.natAbs b.natAbs) (fun s => s.2.natAbs) (a,b) rfl ⟨ha,hb,rfl⟩ ⟨rfl,rfl,trivial⟩ (Ent.refl _) ?_
 rintro ⟨x,y⟩ ⟨hx,hy,hg⟩
 simp only at hx hy hg ⊢
 by_cases h0 : y = 0
 ·subst h0
  rw [Int.natAbs_zero,Nat.gcd_zero_right] at hg
  repeat' first | refine kS ?_ | refine kB fun bx => ?_ | refine kA fun A2 c2 => ?_ | refine kX (fun hc => ?_) fun hc => ?_ | fail
  exact Nx.ret_fn rfl [] ⟨by rw [← hg]; exact congrArg (Value.int .i64) (by omega),rfl⟩ (Ent.refl _)
 ·have hm : (x.tmod y).natAbs = x.natAbs % y.natAbs:=Int.natAbs_tmod x y
  have hlt : x.natAbs % y.natAbs < y.natAbs:=Nat.mod_lt _ (by omega)
  repeat' first | ((with_reducible refine Nx.is_wp ?_); first | refine Nx.wo ?_ | refine kF 2 [0,1,2,3,4,5] [] [] ?_) | refine kS ?_ | refine kB fun bx => ?_ | refine kA fun A2 c2 => ?_ | ((with_reducible refine Nx.is_mix ?_); refine kQ rfl rfl rfl rfl (by first | exact .inl rfl | exact .inr ⟨_,_,_,rfl,rfl,rfl⟩) (by first | exact QRun.opr rfl | exact QRun.bin rfl rfl (run_remT h0)) ?_) | refine kX (fun hc => ?_) fun hc => ?_ | fail
  refine Nx.again (y,x.tmod y) ⟨hy,by show (x.tmod y).natAbs ≤ _; omega,?_⟩ (by show (x.tmod y).natAbs < y.natAbs; omega) ⟨rfl,rfl,trivial⟩ (Ent.refl _)
  show Nat.gcd y.natAbs (x.tmod y).natAbs = _
  rw [hm,Nat.gcd_comm,← Nat.gcd_rec,Nat.gcd_comm]
  exact hg
theorem divisor_spec (a b : Nat) (ha : a ≤ 9223372036854775807) (hb : b ≤ 9223372036854775807) (I : PH) : FnSpec Tryz.prog 107 [.int .i64 (a : Int),.int .i64 (b : Int)] I [] (fun v R' => v = .int .i64 (Nat.gcd a b : Nat) ∧ R' = []):=by
 refine FnSpec.enterP Tryz.func107 rfl Tryz.ntmps107 rfl fun w F => ?_
 repeat' first | refine kS ?_ | refine kB fun bx => ?_ | refine kA fun A2 c2 => ?_ | refine kX (fun hc => ?_) fun hc => ?_ | fail
 refine Nx.p_loop (σ:=Nat × Nat) (fun s => [(0,.int .i64 (s.1 : Int)),(1,.int .i64 (s.2 : Int))]) (fun _ => [F]) (fun s => s.1 ≤ 9223372036854775807 ∧ s.2 ≤ 9223372036854775807 ∧ Nat.gcd s.1 s.2 = Nat.gcd a b) (fun s => s.2) (a,b) rfl ⟨ha,hb,rfl⟩ ⟨rfl,rfl,trivial⟩ (Ent.refl _) ?_
 rintro ⟨x,y⟩ ⟨hx,hy,hg⟩
 simp only at hx hy hg ⊢
 by_cases h0 : y = 0
 ·subst h0
  rw [Nat.gcd_zero_right] at hg
  repeat' first | refine kS ?_ | refine kB fun bx => ?_ | refine kA fun A2 c2 => ?_ | refine kX (fun hc => ?_) fun hc => ?_ | fail
  exact Nx.ret_fn rfl [] ⟨by rw [← hg],rfl⟩ (Ent.refl _)
 ·have hlt : x % y < y:=Nat.mod_lt _ (by omega)
  repeat' first | ((with_reducible refine Nx.is_wp ?_); first | refine Nx.wo ?_ | refine kF 2 [0,1,2,3,4,5] [] [] ?_) | refine kS ?_ | refine kB fun bx => ?_ | refine kA fun A2 c2 => ?_ | ((with_reducible refine Nx.is_mix ?_); refine kQ rfl rfl rfl rfl (by first | exact .inl rfl | exact .inr ⟨_,_,_,rfl,rfl,rfl⟩) (by first | exact QRun.opr rfl | exact QRun.bin rfl rfl (run_remT (by omega))) ?_) | refine kX (fun hc => ?_) fun hc => ?_ | fail
  refine Nx.again (y,x % y) ⟨hy,by show x % y ≤ _; omega,?_⟩ hlt ⟨rfl,by rw [Int.tmod_eq_emod_of_nonneg (by omega),← Int.natCast_emod]; rfl,trivial⟩ (Ent.refl _)
  show Nat.gcd y (x % y) = _
  rw [Nat.gcd_comm,← Nat.gcd_rec,Nat.gcd_comm]
  exact hg
theorem frValid_spec (n d : Int) (hn : I64 n) (hd : I64 d) (I : PH) : FnSpec Tryz.prog 43 [fracV n d] I [] (fun v R' => v = .bool (decide (FOk n d)) ∧ R' = []):=by
 unfold I64 at hn hd
 refine FnSpec.enterP Tryz.func43 rfl Tryz.ntmps43 rfl fun w F => ?_
 by_cases h : 1 ≤ d ∧ d ≤ 1152921504606846976 ∧ -1152921504606846976 ≤ n ∧ n ≤ 1152921504606846976
 ·obtain ⟨h1,h2,h3,h4⟩:=h
  repeat' first | refine kW ?_ | (refine Nx.zo ?_; first | refine kP ?_ | refine kV (gcd_spec n d (by omega) (by omega) I) ?_) | refine kS ?_ | refine kB fun bx => ?_ | refine kA fun A2 c2 => ?_ | refine kX (fun hc => ?_) fun hc => ?_ | fail
  refine Nx.ret_fn rfl [] ⟨bool_congr ?_,rfl⟩ (by exact zE)
  unfold FOk
  constructor
  ·intro h; exact ⟨h1,h2,h3,h4,by omega⟩
  ·rintro ⟨_,_,_,_,h⟩; omega
 ·have hno : decide (FOk n d) = false:=decide_eq_false fun h' => h ⟨h'.1,h'.2.1,h'.2.2.1,h'.2.2.2.1⟩
  rw [hno]
  repeat' first | refine kS ?_ | refine kB fun bx => ?_ | refine kA fun A2 c2 => ?_ | refine kX (fun hc => ?_) fun hc => ?_ | fail
  all_goals first
   | exact kT
   | skip
  all_goals trace_state
theorem rValid_spec (n d : Int) (hn : I64 n) (hd : I64 d) (I : PH) : FnSpec Tryz.prog 50 [fracV n d] I [] (fun v R' => v = .bool (decide (FOk n d)) ∧ R' = []):=by
 unfold I64 at hn hd
 refine FnSpec.enterP Tryz.func50 rfl Tryz.ntmps50 rfl fun w F => ?_
 by_cases h : 1 ≤ d ∧ d ≤ 1152921504606846976 ∧ -1152921504606846976 ≤ n ∧ n ≤ 1152921504606846976
 ·obtain ⟨h1,h2,h3,h4⟩:=h
  repeat' first | refine kW ?_ | (refine Nx.zo ?_; first | refine kP ?_ | refine Nx.call (al:=[.int .i64 ((d.natAbs : Nat) : Int),.int .i64 ((n.natAbs : Nat) : Int)]) (Rpre:=[]) rfl rfl (by rw [show ((d.natAbs : Nat) : Int) = d by omega,show ((n.natAbs : Nat) : Int) = max n (-n) by omega]; rfl) (by kernel_rfl) rfl (divisor_spec d.natAbs n.natAbs (by omega) (by omega) I) (Ent.refl _) ?_; rintro _ _ ⟨rfl,rfl⟩) | refine kS ?_ | refine kB fun bx => ?_ | refine kA fun A2 c2 => ?_ | refine kX (fun hc => ?_) fun hc => ?_ | fail
  refine Nx.ret_fn rfl [] ⟨bool_congr ?_,rfl⟩ (by exact zE)
  unfold FOk
  rw [Nat.gcd_comm n.natAbs]
  constructor
  ·intro h; exact ⟨h1,h2,h3,h4,by omega⟩
  ·rintro ⟨_,_,_,_,h⟩; omega
 ·have hno : decide (FOk n d) = false:=decide_eq_false fun h' => h ⟨h'.1,h'.2.1,h'.2.2.1,h'.2.2.2.1⟩
  rw [hno]
  repeat' first | refine kS ?_ | refine kB fun bx => ?_ | refine kA fun A2 c2 => ?_ | refine kX (fun hc => ?_) fun hc => ?_ | fail
  all_goals first
   | exact kT
   | skip
  all_goals trace_state
theorem opp2 (z : Int) (I : PH) : FnSpec Tryz.prog 214 [wideV (-z)] I [] (fun v R' => v = wideV z ∧ R' = []):=by
 have:=opposite_spec (-z) I
 rw [Int.neg_neg] at this
 exact this
theorem redV_ok {z : Int} {D : Nat} (hD : 0 < D) (h1 : z.natAbs / Nat.gcd D z.natAbs ≤ 1152921504606846976) (h2 : D / Nat.gcd D z.natAbs ≤ 1152921504606846976) :
  redV (Rat.divInt z D) = .tuple #[.agg #[.int .i64 (((z.natAbs / Nat.gcd D z.natAbs : Nat) : Int) * z.sign),.int .i64 ((D / Nat.gcd D z.natAbs : Nat) : Int)],.int .i64 0]:=by
 obtain ⟨e1,e2,e3⟩:=div_parts z hD
 rw [redV_pos (by unfold RB; rw [e1,e2]; exact ⟨h1,h2⟩)]
 unfold ratV fracV
 rw [e1,e3]
theorem redV_no {z : Int} {D : Nat} (hD : 0 < D) (h : ¬ (z.natAbs / Nat.gcd D z.natAbs ≤ 1152921504606846976 ∧ D / Nat.gcd D z.natAbs ≤ 1152921504606846976)) :
  redV (Rat.divInt z D) = .tuple #[.agg #[.int .i64 0,.int .i64 0],.int .i64 14]:=by
 obtain ⟨e1,e2,e3⟩:=div_parts z hD
 rw [redV_neg (by unfold RB; rw [e1,e2]; exact h)]
 rfl
attribute [local irreducible] wH wL
theorem Reduced_spec (n d : Int) (hn : n.natAbs < H127) (hd0 : d ≠ 0) (hd : d.natAbs < H127) (I : PH) (hT : TabI I) : FnSpec Tryz.prog 164 [wideV n,wideV d] I [] (fun v R' => v = redV (Rat.divInt n d) ∧ R' = []):=by
 have hn' : n.natAbs < 170141183460469231731687303715884105728:=hn
 have hd' : d.natAbs < 170141183460469231731687303715884105728:=hd
 by_cases hneg : d < 0
 ·obtain ⟨D,rfl⟩ : ∃ D : Nat,d = -(D : Int):=⟨d.natAbs,by omega⟩
  obtain ⟨z,rfl⟩ : ∃ z : Int,n = -z:=⟨-n,by omega⟩
  rw [Rat.neg_divInt_neg]
  have hD : 0 < D:=by omega
  have hs : (-(D : Int)).sign < 0:=Int.sign_neg_iff.2 hneg
  have hg0 : 0 < Nat.gcd D z.natAbs:=Nat.gcd_pos_of_pos_left _ hD
  have hgD : Nat.gcd D z.natAbs ≤ D:=Nat.gcd_le_left _ hD
  refine FnSpec.enterP Tryz.func164 rfl Tryz.ntmps164 rfl fun w F => ?_
  repeat' first | ((with_reducible refine Nx.is_wp ?_); first | refine Nx.wo ?_ | refine kF 2 [0,2,1] [1] [3,4,5] ?_ | refine Nx.p_poolF (id:=3) rfl [0,1,2,3] [2,3] [] [5] [5] [⟨4,6,200,_⟩] rfl rfl (by kernel_rfl) (by kernel_rfl) (by decide) (PoolFit.cons ⟨⟨_,_,_,rfl⟩,rfl,rfl⟩ PoolFit.nil) PanicOk.auto (Ent.refl _) ?_ | refine kF 4 [0,2,1,3,4,5,6,7,8] [1,3] [] ?_) | ((first | refine Nx.at_op rfl rfl ?_ | refine Nx.m_loud rfl rfl rfl ?_ | refine Nx.at_do rfl rfl rfl rfl ?_ | refine Nx.m_loud_do rfl rfl rfl rfl rfl ?_ | refine GoodF.loud_ rfl rfl rfl rfl (fun ex X => ?_)); first | refine kP ?_ | refine kV (sign_spec (-(D : Int)) (by unfold InW; omega) I) ?_ | refine Nx.callv rfl rfl rfl (by kernel_rfl) rfl (opp2 _ I) ?_ | refine kV (size_spec z (by unfold InW; omega) I) ?_ | refine kV (common_spec D z.natAbs hD (by unfold H127; omega) (by unfold H127; omega) I hT) ?_ | refine Nx.call (Rpre:=[]) rfl rfl rfl (by kernel_rfl) rfl (over_spec z.natAbs _ (by unfold H127; omega) hg0 (by unfold H127; omega) I) (Ent.refl _) ?_; rintro _ _ ⟨q1,rfl,rfl,hq1,hb1,hb2⟩ | refine Nx.call (Rpre:=[]) rfl rfl rfl (by kernel_rfl) rfl (over_spec D _ (by unfold H127; omega) hg0 (by unfold H127; omega) I) (Ent.refl _) ?_; rintro _ _ ⟨q2,rfl,rfl,hq2,hb3,hb4⟩ | refine kV (sign_spec z (by unfold InW; omega) I) ?_ | refine Nx.mul rfl rfl (by rcases Int.sign_trichotomy z with h | h | h <;> rw [h] <;> unfold I64 <;> omega) rfl ?_) | refine kS ?_ | refine kB fun bx => ?_ | refine kA fun A2 c2 => ?_ | ((with_reducible refine GoodF.is ?_); first | refine GoodF.quiet rfl rfl rfl rfl rfl rfl (by first | exact QRun.opr rfl |  exact QRun.std) ?_ | refine GoodF.done1 rfl (fun bx => ?_) | refine GoodF.done2 rfl (fun bx by_ => ?_) | refine GoodF.done3 rfl (fun bx by_ bz => ?_)) | refine kX (fun hc => ?_) fun hc => ?_ | fail | ((fail_if_success (with_reducible refine Nx.is_at ?_)); (fail_if_success (with_reducible refine Nx.is_wp ?_)); (fail_if_success (with_reducible refine Nx.is_mix ?_)); first | refine Nx.ex ?_ | refine Nx.pool_nextF 0 rfl (by exact zE) ?_ | refine Nx.pool_nextF 1 rfl (by exact zE) ?_ | refine Nx.pool_nextF 2 rfl (by exact zE) ?_ | refine Nx.pool_nextF 3 rfl (by exact zE) ?_)
  ·have hc : ¬ z.natAbs / Nat.gcd D z.natAbs ≤ 1152921504606846976:=by simpa using hc
   refine Nx.ret2 rfl (ROne.cell 0 rfl rfl rfl rfl rfl) (ROne.tmp rfl) [] ⟨?_,rfl⟩ (by exact zE)
   rw [redV_no hD (fun h => hc h.1)]
  ·have hc : ¬ D / Nat.gcd D z.natAbs ≤ 1152921504606846976:=by simpa using hc
   refine Nx.ret2 rfl (ROne.cell 0 rfl rfl rfl rfl rfl) (ROne.tmp rfl) [] ⟨?_,rfl⟩ (by exact zE)
   rw [redV_no hD (fun h => hc h.2)]
  ·rename_i hc0
   have hc0 : z.natAbs / Nat.gcd D z.natAbs ≤ 1152921504606846976:=by simpa using hc0
   have hc : D / Nat.gcd D z.natAbs ≤ 1152921504606846976:=by simpa using hc
   refine Nx.ret2 rfl (ROne.cell 0 rfl rfl rfl rfl rfl) (ROne.tmp rfl) [] ⟨?_,rfl⟩ (by exact zE)
   rw [redV_ok hD hc0 hc,hq1 hc0,hq2 hc]
 ·obtain ⟨D,rfl⟩ : ∃ D : Nat,d = (D : Int):=⟨d.natAbs,by omega⟩
  obtain ⟨z,rfl⟩ : ∃ z : Int,z = n:=⟨n,rfl⟩
  have hD : 0 < D:=by omega
  have hs : ¬ (D : Int).sign < 0:=fun h => hneg (Int.sign_neg_iff.1 h)
  have hg0 : 0 < Nat.gcd D z.natAbs:=Nat.gcd_pos_of_pos_left _ hD
  have hgD : Nat.gcd D z.natAbs ≤ D:=Nat.gcd_le_left _ hD
  refine FnSpec.enterP Tryz.func164 rfl Tryz.ntmps164 rfl fun w F => ?_
  repeat' first | ((with_reducible refine Nx.is_wp ?_); first | refine Nx.wo ?_ | refine kF 2 [0,2,1] [1] [3,4,5] ?_ | refine Nx.p_poolF (id:=3) rfl [0,1,2,3] [2,3] [] [5] [5] [⟨4,6,200,_⟩] rfl rfl (by kernel_rfl) (by kernel_rfl) (by decide) (PoolFit.cons ⟨⟨_,_,_,rfl⟩,rfl,rfl⟩ PoolFit.nil) PanicOk.auto (Ent.refl _) ?_ | refine kF 4 [0,2,1,3,4,5,6,7,8] [1,3] [] ?_) | ((first | refine Nx.at_op rfl rfl ?_ | refine Nx.m_loud rfl rfl rfl ?_ | refine Nx.at_do rfl rfl rfl rfl ?_ | refine Nx.m_loud_do rfl rfl rfl rfl rfl ?_ | refine GoodF.loud_ rfl rfl rfl rfl (fun ex X => ?_)); first | refine kP ?_ | refine kV (sign_spec (D : Int) (by unfold InW; omega) I) ?_ | refine kV (size_spec z (by unfold InW; omega) I) ?_ | refine kV (common_spec D z.natAbs hD (by unfold H127; omega) (by unfold H127; omega) I hT) ?_ | refine Nx.call (Rpre:=[]) rfl rfl rfl (by kernel_rfl) rfl (over_spec z.natAbs _ (by unfold H127; omega) hg0 (by unfold H127; omega) I) (Ent.refl _) ?_; rintro _ _ ⟨q1,rfl,rfl,hq1,hb1,hb2⟩ | refine Nx.call (Rpre:=[]) rfl rfl rfl (by kernel_rfl) rfl (over_spec D _ (by unfold H127; omega) hg0 (by unfold H127; omega) I) (Ent.refl _) ?_; rintro _ _ ⟨q2,rfl,rfl,hq2,hb3,hb4⟩ | refine kV (sign_spec z (by unfold InW; omega) I) ?_ | refine Nx.mul rfl rfl (by rcases Int.sign_trichotomy z with h | h | h <;> rw [h] <;> unfold I64 <;> omega) rfl ?_) | refine kS ?_ | refine kB fun bx => ?_ | refine kA fun A2 c2 => ?_ | ((with_reducible refine GoodF.is ?_); first | refine GoodF.quiet rfl rfl rfl rfl rfl rfl (by first | exact QRun.opr rfl |  exact QRun.std) ?_ | refine GoodF.done1 rfl (fun bx => ?_) | refine GoodF.done2 rfl (fun bx by_ => ?_) | refine GoodF.done3 rfl (fun bx by_ bz => ?_)) | refine kX (fun hc => ?_) fun hc => ?_ | fail | ((fail_if_success (with_reducible refine Nx.is_at ?_)); (fail_if_success (with_reducible refine Nx.is_wp ?_)); (fail_if_success (with_reducible refine Nx.is_mix ?_)); first | refine Nx.ex ?_ | refine Nx.pool_nextF 0 rfl (by exact zE) ?_ | refine Nx.pool_nextF 1 rfl (by exact zE) ?_ | refine Nx.pool_nextF 2 rfl (by exact zE) ?_ | refine Nx.pool_nextF 3 rfl (by exact zE) ?_)
  ·have hc : ¬ z.natAbs / Nat.gcd D z.natAbs ≤ 1152921504606846976:=by simpa using hc
   refine Nx.ret2 rfl (ROne.cell 0 rfl rfl rfl rfl rfl) (ROne.tmp rfl) [] ⟨?_,rfl⟩ (by exact zE)
   rw [redV_no hD (fun h => hc h.1)]
  ·have hc : ¬ D / Nat.gcd D z.natAbs ≤ 1152921504606846976:=by simpa using hc
   refine Nx.ret2 rfl (ROne.cell 0 rfl rfl rfl rfl rfl) (ROne.tmp rfl) [] ⟨?_,rfl⟩ (by exact zE)
   rw [redV_no hD (fun h => hc h.2)]
  ·rename_i hc0
   have hc0 : z.natAbs / Nat.gcd D z.natAbs ≤ 1152921504606846976:=by simpa using hc0
   have hc : D / Nat.gcd D z.natAbs ≤ 1152921504606846976:=by simpa using hc
   refine Nx.ret2 rfl (ROne.cell 0 rfl rfl rfl rfl rfl) (ROne.tmp rfl) [] ⟨?_,rfl⟩ (by exact zE)
   rw [redV_ok hD hc0 hc,hq1 hc0,hq2 hc]
end Go.Proofs.YtpcnapidlhpbkaaGreatDoor
namespace Go.Proofs.YtpcnapidlhpbkaaGreatDoor
open Go.Eng
attribute [local irreducible] opK wpList Code.wp Exit.then Exit.inBlock fnPost bodyPost Nx Calls Oper.wp Rd Rds Wr Ent Stars Blk Again Vec FnSpec wpMix QRun Stop Upto wpAt
theorem Valid_t {n d : Int} (h : FOk n d) (I : PH) : FnSpec Tryz.prog 43 [fracV n d] I [] (fun v R' => v = .bool true ∧ R' = []):=by
 have:=frValid_spec n d (by have:=h.2.2.1; have:=h.2.2.2.1; unfold I64; omega) (by have:=h.1; have:=h.2.1; unfold I64; omega) I
 rw [decide_eq_true h] at this; exact this
theorem Valid_f {n d : Int} (hn : I64 n) (hd : I64 d) (h : ¬FOk n d) (I : PH) : FnSpec Tryz.prog 43 [fracV n d] I [] (fun v R' => v = .bool false ∧ R' = []):=by
 have:=frValid_spec n d hn hd I
 rw [decide_eq_false h] at this; exact this
theorem rValid_t {n d : Int} (h : FOk n d) (I : PH) : FnSpec Tryz.prog 50 [fracV n d] I [] (fun v R' => v = .bool true ∧ R' = []):=by
 have:=rValid_spec n d (by have:=h.2.2.1; have:=h.2.2.2.1; unfold I64; omega) (by have:=h.1; have:=h.2.1; unfold I64; omega) I
 rw [decide_eq_true h] at this; exact this
theorem rValid_f {n d : Int} (hn : I64 n) (hd : I64 d) (h : ¬FOk n d) (I : PH) : FnSpec Tryz.prog 50 [fracV n d] I [] (fun v R' => v = .bool false ∧ R' = []):=by
 have:=rValid_spec n d hn hd I
 rw [decide_eq_false h] at this; exact this
theorem prod_bd {a b : Int} (ha : a.natAbs ≤ 1152921504606846976) (hb : b.natAbs ≤ 1152921504606846976) : (a * b).natAbs ≤ 1329227995784915872903807060280344576:=by
 rw [Int.natAbs_mul]
 exact Nat.mul_le_mul ha hb
theorem fok_abs {n d : Int} (h : FOk n d) : n.natAbs ≤ 1152921504606846976 ∧ d.natAbs ≤ 1152921504606846976 ∧ 0 < d:=by
 obtain ⟨h1,h2,h3,h4,_⟩:=h
 omega
theorem fok_i64 {n d : Int} (h : FOk n d) : I64 n ∧ I64 d:=by
 obtain ⟨h1,h2,h3,h4,_⟩:=h
 unfold I64; omega
theorem crossed_spec (n d m e : Int) (hn : I64 n) (hd : I64 d) (hm : I64 m) (he : I64 e) (I : PH) : FnSpec Tryz.prog 168 [fracV n d,fracV m e] I [] (fun v R' => v = .tuple #[wideV (n * e),wideV (m * d)] ∧ R' = []):=by
 refine FnSpec.enterP Tryz.func168 rfl Tryz.ntmps168 rfl fun w F => ?_
 repeat' first | ((with_reducible refine Nx.is_wp ?_); first | refine Nx.wo ?_ | refine kF 1 [0,1,3,4,7,8,10,11,2,5,6,9] [2,5,6,9] [12,13,14,15] ?_) | (refine Nx.zo ?_; first | refine kP ?_ | refine Nx.callv rfl rfl rfl (by kernel_rfl) rfl (whole_spec _ hn I) ?_ | refine Nx.callv rfl rfl rfl (by kernel_rfl) rfl (whole_spec _ hd I) ?_ | refine Nx.callv rfl rfl rfl (by kernel_rfl) rfl (whole_spec _ hm I) ?_ | refine Nx.callv rfl rfl rfl (by kernel_rfl) rfl (whole_spec _ he I) ?_ | refine Nx.callv rfl rfl rfl (by kernel_rfl) rfl (times_spec _ _ I) ?_) | refine kS ?_ | refine kB fun bx => ?_ | refine kA fun A2 c2 => ?_ | refine kX (fun hc => ?_) fun hc => ?_ | fail
 exact Nx.ret2 rfl (ROne.cell 1 rfl rfl rfl rfl rfl) (ROne.cell 0 rfl rfl rfl rfl rfl) [] ⟨rfl,rfl⟩ (by exact zE)
theorem combine_spec (n d m e : Int) (hn : I64 n) (hd : I64 d) (hm : I64 m) (he : I64 e) (I : PH) (hT : TabI I) (fo : FuncId) (f : Int → Int → Int) (hcal : callable Tryz.prog fo = true)
  (hf : ∀ a b,FnSpec Tryz.prog fo [wideV a,wideV b] I [] (fun v R' => v = wideV (f a b) ∧ R' = []))
  (hbd : ∀ a b : Int,a.natAbs ≤ 1329227995784915872903807060280344576 → b.natAbs ≤ 1329227995784915872903807060280344576 → (f a b).natAbs < H127) :
  FnSpec Tryz.prog 212 [fracV n d,fracV m e,.func (.func fo) #[] #[]] I [] (fun v R' => v = opV n d m e (Rat.divInt (f (n * e) (m * d)) (d * e)) ∧ R' = []):=by
 unfold opV
 by_cases h1 : FOk n d
 ·by_cases h2 : FOk m e
  ·obtain ⟨a1,a2,a3⟩:=fok_abs h1
   obtain ⟨b1,b2,b3⟩:=fok_abs h2
   rw [if_pos ⟨h1,h2⟩]
   have hde:=prod_bd a2 b2
   have hpos : 0 < d * e:=Int.mul_pos a3 b3
   refine FnSpec.enterP Tryz.func212 rfl Tryz.ntmps212 rfl fun w F => ?_
   repeat' first | ((with_reducible refine Nx.is_wp ?_); first | refine Nx.wo ?_ | refine kF 3 [0,1,2,7,8,10,11,3,4,5,6,9,12,13,14,15,16] [3,6,9,12,13,14] [17,18] ?_) | (refine Nx.zo ?_; first | refine kP ?_ | refine kV (Valid_t h1 I) ?_ | refine kV (Valid_t h2 I) ?_ | refine kV (crossed_spec n d m e hn hd hm he I) ?_ | refine Nx.callv rfl rfl rfl (by kernel_rfl) rfl (whole_spec _ hd I) ?_ | refine Nx.callv rfl rfl rfl (by kernel_rfl) rfl (whole_spec _ he I) ?_ | refine Nx.callv rfl rfl rfl (by kernel_rfl) rfl (times_spec _ _ I) ?_ | refine Nx.callv rfl rfl rfl (by kernel_rfl) rfl (Reduced_spec _ _ (hbd _ _ (prod_bd a1 b2) (prod_bd b1 a2)) (by omega) (by unfold H127; omega) I hT) ?_ | refine Nx.callv rfl rfl rfl hcal rfl (hf _ _) ?_) | refine kS ?_ | refine kB fun bx => ?_ | refine kA fun A2 c2 => ?_ | refine kX (fun hc => ?_) fun hc => ?_ | fail
   exact Nx.ret2 rfl (ROne.cell 0 rfl rfl rfl rfl rfl) (ROne.tmp rfl) [] ⟨rfl,rfl⟩ (by exact zE)
  ·rw [if_neg (fun h => h2 h.2)]
   refine FnSpec.enterP Tryz.func212 rfl Tryz.ntmps212 rfl fun w F => ?_
   repeat' first | refine kW ?_ | (refine Nx.zo ?_; first | refine kP ?_ | refine kV (Valid_t h1 I) ?_ | refine kV (Valid_f hm he h2 I) ?_) | refine kS ?_ | refine kB fun bx => ?_ | refine kA fun A2 c2 => ?_ | refine kX (fun hc => ?_) fun hc => ?_ | fail
   exact Nx.ret2 rfl (ROne.cell 0 rfl rfl rfl rfl rfl) (ROne.tmp rfl) [] ⟨rfl,rfl⟩ (by exact zE)
 ·rw [if_neg (fun h => h1 h.1)]
  refine FnSpec.enterP Tryz.func212 rfl Tryz.ntmps212 rfl fun w F => ?_
  repeat' first | refine kW ?_ | (refine Nx.zo ?_; first | refine kP ?_ | refine kV (Valid_f hn hd h1 I) ?_) | refine kS ?_ | refine kB fun bx => ?_ | refine kA fun A2 c2 => ?_ | refine kX (fun hc => ?_) fun hc => ?_ | fail
  exact Nx.ret2 rfl (ROne.cell 0 rfl rfl rfl rfl rfl) (ROne.tmp rfl) [] ⟨rfl,rfl⟩ (by exact zE)
end Go.Proofs.YtpcnapidlhpbkaaGreatDoor
