/- Contracts of functions of the given program, and lemmas. -/
import Derived.Laws.StructEq
import Derived.Laws.Small
import Derived.Test.YtpcnapidlhpbkaaGreatDoorTm5
set_option maxHeartbeats 32000000
set_option maxRecDepth 10000
namespace Go.Proofs.YtpcnapidlhpbkaaGreatDoor
open Go.Eng Go.Sol
attribute [local irreducible] opK wpList Code.wp Exit.then Exit.inBlock fnPost bodyPost Nx Calls Oper.wp Rd Rds Wr Ent Stars Blk Again Vec FnSpec wpMix QRun Stop Upto wpAt
def ascB (n : Int) : Int → List Int → Bool
 | _,[] => true
 | b,x :: r => decide (b < x ∧ x < n) && ascB n x r
def rightB (n : Int) (q : EqR) : Bool:=decide (q.1.2.2 ≠ []) && decide (0 ≤ q.2 ∧ q.2 ≤ 1000000) && ascB n (-1) q.1.2.2
def validB (n : Int) (l : List EqR) : Bool:=decide (1 ≤ n ∧ n ≤ 48) && decide (l.length ≤ 1152) && l.all (rightB n)
theorem value_spec (z : Int) (I : PH) : FnSpec Tryz.prog 72 [.int .i64 z] I [] (fun v R' => v = .bool (decide (0 ≤ z ∧ z ≤ 1000000)) ∧ R' = []):=by
 refine FnSpec.enterP Tryz.func72 rfl Tryz.ntmps72 rfl fun w F => ?_
 by_cases h : 0 ≤ z
 ·by_cases h2 : z ≤ 1000000
  ·rw [decide_eq_true (show 0 ≤ z ∧ z ≤ 1000000 from ⟨h,h2⟩)]
   repeat' first | refine kS ?_ | refine kB fun bx => ?_ | refine kA fun A2 c2 => ?_ | refine kX (fun hc => ?_) fun hc => ?_ | fail
   exact Nx.ret_fn rfl [] ⟨congrArg Value.bool (decide_eq_true h2),rfl⟩ (by exact zE)
  ·rw [decide_eq_false (show ¬(0 ≤ z ∧ z ≤ 1000000) by omega)]
   repeat' first | refine kS ?_ | refine kB fun bx => ?_ | refine kA fun A2 c2 => ?_ | refine kX (fun hc => ?_) fun hc => ?_ | fail
   exact Nx.ret_fn rfl [] ⟨congrArg Value.bool (decide_eq_false h2),rfl⟩ (by exact zE)
 ·rw [decide_eq_false (show ¬(0 ≤ z ∧ z ≤ 1000000) by omega)]
  repeat' first | refine kS ?_ | refine kB fun bx => ?_ | refine kA fun A2 c2 => ?_ | refine kX (fun hc => ?_) fun hc => ?_ | fail
  exact kT
def lastOr (b : Int) (xs : List Int) (k : Nat) : Int:=if k = 0 then b else xs.getD (k - 1) default
theorem ascB_at {n b : Int} : ∀ {xs : List Int} {k : Nat},k < xs.length → ascB n (lastOr b xs k) (xs.drop k) = (decide (lastOr b xs k < xs.getD k default ∧ xs.getD k default < n) && ascB n (lastOr b xs (k + 1)) (xs.drop (k + 1))):=by
 intro xs k hk
 rw [List.drop_eq_getElem_cons hk,ascB]
 have e : xs.getD k default = xs[k]:=by rw [gEl,gEq hk]; rfl
 rw [show lastOr b xs (k + 1) = xs[k] by unfold lastOr; rw [if_neg (by omega),Nat.add_sub_cancel,e],e]
theorem right_spec (n : Int) (q : EqR) (I : PH) (hq : Ints I q.1.1 q.1.2.1 q.1.2.2) :
  FnSpec Tryz.prog 99 [.int .i64 n,.agg #[.slice q.1.1 q.1.2.2.length q.1.2.1,.int .i64 q.2]] I [] (fun v R' => v = .bool (rightB n q) ∧ R' = []):=by
 obtain ⟨⟨A,c,xs⟩,z⟩:=q
 dsimp only at hq ⊢
 have hV:=value_spec z I
 have hxl:=hq.len
 unfold rightB
 dsimp only
 refine FnSpec.enterP Tryz.func99 rfl Tryz.ntmps99 rfl fun w F => ?_
 by_cases h0 : xs = []
 ·subst h0
  repeat' first | refine kS ?_ | refine kB fun bx => ?_ | refine kA fun A2 c2 => ?_ | refine kX (fun hc => ?_) fun hc => ?_ | fail
  exact kT
 have hpos : 0 < xs.length:=List.length_pos_iff.2 h0
 rw [decide_eq_true h0,Bool.true_and]
 by_cases hv : 0 ≤ z ∧ z ≤ 1000000
 case neg =>
  rw [decide_eq_false hv] at hV ⊢
  repeat' first | refine kW ?_ | (refine Nx.zo ?_; first | refine kP ?_ | refine kV hV ?_) | refine kS ?_ | refine kB fun bx => ?_ | refine kA fun A2 c2 => ?_ | refine kX (fun hc => ?_) fun hc => ?_ | fail
  exact kT
 rw [decide_eq_true hv] at hV ⊢
 rw [Bool.true_and]
 repeat' first | refine kW ?_ | (refine Nx.zo ?_; first | refine kP ?_ | refine kV hV ?_) | refine kS ?_ | refine kB fun bx => ?_ | refine kA fun A2 c2 => ?_ | refine kX (fun hc => ?_) fun hc => ?_ | fail
 refine Nx.p_loop (σ:=Nat) (fun k => [(0,.int .i64 n),(5,.int .i64 (lastOr (-1) xs k)),(19,.slice A xs.length c),(20,.int .i64 xs.length),(21,.int .i64 (k : Int))])
  (fun _ => [F]) (fun k => k ≤ xs.length ∧ ascB n (-1) xs = ascB n (lastOr (-1) xs k) (xs.drop k)) (fun k => xs.length - k) 0 rfl ⟨nZl _,rfl⟩ zR (by exact zE) ?_
 rintro k ⟨hk,he⟩
 by_cases hlt : k < xs.length
 ·rw [ascB_at hlt] at he
  by_cases h1 : lastOr (-1) xs k < xs.getD k default
  ·by_cases h2 : xs.getD k default < n
   ·rw [decide_eq_true ⟨h1,h2⟩,Bool.true_and] at he
    repeat' first | refine kW ?_ | (refine Nx.zo ?_; first | refine kP ?_ | refine Nx.indexAddr_nat rfl rfl rfl rfl rfl (by omega) (hq.isSome (by omega)) ?_ | refine Nx.load rfl rfl rfl (hq.rd (by omega)) ?_) | refine kS ?_ | refine kB fun bx => ?_ | refine kA fun A2 c2 => ?_ | refine kX (fun hc => ?_) fun hc => ?_ | fail
    exact Nx.again (k + 1) ⟨hlt,he⟩ (by omega) ⟨rfl,by unfold lastOr; rw [if_neg (Nat.succ_ne_zero k),Nat.add_sub_cancel]; rfl,rfl,rfl,rfl,trivial⟩ (by exact zE)
   ·rw [decide_eq_false (by rintro ⟨_,h⟩; exact h2 h),Bool.false_and] at he
    rw [he]
    repeat' first | refine kW ?_ | (refine Nx.zo ?_; first | refine kP ?_ | refine Nx.indexAddr_nat rfl rfl rfl rfl rfl (by omega) (hq.isSome (by omega)) ?_ | refine Nx.load rfl rfl rfl (hq.rd (by omega)) ?_) | refine kS ?_ | refine kB fun bx => ?_ | refine kA fun A2 c2 => ?_ | refine kX (fun hc => ?_) fun hc => ?_ | fail
    exact kT
  ·rw [decide_eq_false (by rintro ⟨h,_⟩; exact h1 h),Bool.false_and] at he
   rw [he]
   repeat' first | refine kW ?_ | (refine Nx.zo ?_; first | refine kP ?_ | refine Nx.indexAddr_nat rfl rfl rfl rfl rfl (by omega) (hq.isSome (by omega)) ?_ | refine Nx.load rfl rfl rfl (hq.rd (by omega)) ?_) | refine kS ?_ | refine kB fun bx => ?_ | refine kA fun A2 c2 => ?_ | refine kX (fun hc => ?_) fun hc => ?_ | fail
   exact kT
 ·obtain rfl : k = xs.length:=by omega
  rw [List.drop_length] at he
  rw [he]
  repeat' first | refine kS ?_ | refine kB fun bx => ?_ | refine kA fun A2 c2 => ?_ | refine kX (fun hc => ?_) fun hc => ?_ | fail
  exact kT
theorem wrong_spec (n : Int) (b : Nat) (q : EqR) (I : PH) (hq : Ints I q.1.1 q.1.2.1 q.1.2.2) (hb : ∀ (W : World) (R : List Res),Rd W I R ⟨b,0,none⟩ (.int .i64 n)) :
  FnSpec Tryz.prog 98 [.agg #[.slice q.1.1 q.1.2.2.length q.1.2.1,.int .i64 q.2],.pointer (some ⟨b,0,none⟩)] I [] (fun v R' => v = .bool (!rightB n q) ∧ R' = []):=by
 have hR:=right_spec n q I hq
 refine FnSpec.enterP Tryz.func98 rfl Tryz.ntmps98 rfl fun w F => ?_
 repeat' first | refine kW ?_ | (refine Nx.zo ?_; first | refine kP ?_ | refine Nx.load rfl rfl rfl (hb _ _) ?_ | refine kV hR ?_) | refine kS ?_ | refine kB fun bx => ?_ | refine kA fun A2 c2 => ?_ | refine kX (fun hc => ?_) fun hc => ?_ | fail
 exact kT
theorem IndexFuncE_spec (n : Int) (b : Nat) (A : Option Addr) (c : Nat) (l : List EqR) (I : PH) (hl : Eqs I A c l) (hb : ∀ (W : World) (R : List Res),Rd W I R ⟨b,0,none⟩ (.int .i64 n)) :
  FnSpec Tryz.prog 162 [.slice A l.length c,.func (.func 98) #[] #[.pointer (some ⟨b,0,none⟩)]] I [] (fun v R' => ∃ i : Int,v = .int .i64 i ∧ decide (0 ≤ i) = !(l.all (rightB n)) ∧ R' = []):=by
 have hlen:=hl.len
 refine FnSpec.enterP Tryz.func162 rfl Tryz.ntmps162 rfl fun w F => ?_
 repeat' first | refine kS ?_ | refine kB fun bx => ?_ | refine kA fun A2 c2 => ?_ | refine kX (fun hc => ?_) fun hc => ?_ | fail
 refine Nx.p_loop (σ:=Nat) (fun k => [(0,.slice A l.length c),(1,.func (.func 98) #[] #[.pointer (some ⟨b,0,none⟩)]),(7,.int .i64 l.length),(8,.int .i64 (k : Int))])
  (fun _ => [F]) (fun k => k ≤ l.length ∧ (l.take k).all (rightB n) = true) (fun k => l.length - k) 0 rfl ⟨nZl _,by simp⟩ zR (Ent.refl _) ?_
 rintro k ⟨hk,hall⟩
 by_cases hlt : k < l.length
 ·have hin:=hl.inner _ (getD_memQ hlt)
  have hmem:=getD_memQ hlt
  have hsn:=take_snocQ hlt
  have hrds : ∀ (W : World) (R : List Res),Rds W I R ((ad A).add (k * 2)) (eqC (l.getD k default)):=fun W R => hl.outer.rds hlt
  generalize l.getD k default = q at hin hmem hsn hrds
  have hW:=wrong_spec n b q I hin hb
  cases hr : rightB n q with
  | true =>
   rw [hr] at hW
   repeat' first | refine kW ?_ | (refine Nx.zo ?_; first | refine kP ?_ | refine Nx.indexAddr_nat rfl rfl rfl rfl rfl (by omega) (hl.outer.isSome (by omega) (by omega)) ?_ | refine Nx.loads rfl rfl rfl rfl (hrds _ _) rfl ?_ | refine kV hW ?_) | refine kS ?_ | refine kB fun bx => ?_ | refine kA fun A2 c2 => ?_ | refine kX (fun hc => ?_) fun hc => ?_ | fail
   exact Nx.again (k + 1) ⟨hlt,by rw [hsn,List.all_append,hall]; simp [hr]⟩ (by omega) zR (Ent.refl _)
  | false =>
   rw [hr] at hW
   repeat' first | refine kW ?_ | (refine Nx.zo ?_; first | refine kP ?_ | refine Nx.indexAddr_nat rfl rfl rfl rfl rfl (by omega) (hl.outer.isSome (by omega) (by omega)) ?_ | refine Nx.loads rfl rfl rfl rfl (hrds _ _) rfl ?_ | refine kV hW ?_) | refine kS ?_ | refine kB fun bx => ?_ | refine kA fun A2 c2 => ?_ | refine kX (fun hc => ?_) fun hc => ?_ | fail
   refine Nx.ret_fn rfl [] ⟨(k : Int),rfl,?_,rfl⟩ (by exact zE)
   rw [show l.all (rightB n) = false from List.all_eq_false.2 ⟨q,hmem,by rw [hr]; decide⟩]
   simp
 ·obtain rfl : k = l.length:=by omega
  rw [tLn] at hall
  repeat' first | refine kS ?_ | refine kB fun bx => ?_ | refine kA fun A2 c2 => ?_ | refine kX (fun hc => ?_) fun hc => ?_ | fail
  exact Nx.ret_fn rfl [] ⟨-1,rfl,by rw [hall]; rfl,rfl⟩ (by exact zE)
theorem ContainsFuncE_spec (n : Int) (b : Nat) (A : Option Addr) (c : Nat) (l : List EqR) (I : PH) (hl : Eqs I A c l) (hb : ∀ (W : World) (R : List Res),Rd W I R ⟨b,0,none⟩ (.int .i64 n)) :
  FnSpec Tryz.prog 97 [.slice A l.length c,.func (.func 98) #[] #[.pointer (some ⟨b,0,none⟩)]] I [] (fun v R' => v = .bool (!(l.all (rightB n))) ∧ R' = []):=by
 have hI:=IndexFuncE_spec n b A c l I hl hb
 refine FnSpec.enterP Tryz.func97 rfl Tryz.ntmps97 rfl fun w F => ?_
 repeat' first | refine kW ?_ | (refine Nx.zo ?_; first | refine kP ?_ | (refine kC hI ?_; rintro _ _ ⟨i,rfl,hi,rfl⟩)) | refine kS ?_ | refine kB fun bx => ?_ | refine kA fun A2 c2 => ?_ | refine kX (fun hc => ?_) fun hc => ?_ | fail
 exact Nx.ret_fn rfl [] ⟨by rw [← hi],rfl⟩ (by exact zE)
theorem Valid_spec (n : Int) (A : Option Addr) (c : Nat) (l : List EqR) (I : PH) (hl : Eqs I A c l) :
  FnSpec Tryz.prog 42 [.int .i64 n,.slice A l.length c] I [] (fun v R' => v = .bool (validB n l) ∧ R' = []):=by
 have hlen:=hl.len
 unfold validB
 refine FnSpec.enterP Tryz.func42 rfl Tryz.ntmps42 rfl fun w F => ?_
 refine Nx.p_seq rfl ?_
 by_cases h1 : 1 ≤ n
 case neg =>
  rw [decide_eq_false (show ¬(1 ≤ n ∧ n ≤ 48) by omega),Bool.false_and,Bool.false_and]
  repeat' first | refine kS ?_ | refine kB fun bx => ?_ | refine kA fun A2 c2 => ?_ | refine kX (fun hc => ?_) fun hc => ?_ | fail
  exact kT
 by_cases h2 : n ≤ 48
 case neg =>
  rw [decide_eq_false (show ¬(1 ≤ n ∧ n ≤ 48) by omega),Bool.false_and,Bool.false_and]
  repeat' first | refine kS ?_ | refine kB fun bx => ?_ | refine kA fun A2 c2 => ?_ | refine kX (fun hc => ?_) fun hc => ?_ | fail
  exact kT
 rw [decide_eq_true (show 1 ≤ n ∧ n ≤ 48 from ⟨h1,h2⟩),Bool.true_and]
 by_cases h3 : l.length ≤ 1152
 case neg =>
  rw [decide_eq_false h3,Bool.false_and]
  repeat' first | refine kS ?_ | refine kB fun bx => ?_ | refine kA fun A2 c2 => ?_ | refine kX (fun hc => ?_) fun hc => ?_ | fail
  exact kT
 rw [decide_eq_true h3,Bool.true_and]
 repeat' first | ((with_reducible refine Nx.is_wp ?_); first | refine Nx.p_stopr 1 rfl ?_ | refine Nx.wo ?_) | refine kS ?_ | refine kB fun bx => ?_ | refine kA fun A2 c2 => ?_ | refine kX (fun hc => ?_) fun hc => ?_ | fail
 refine unstopN ?_
 revert bx; intro b2
 refine Nx.freezeAt 0 rfl fun I2 m2 hI2 hm2 hb2 => ?_
 have rb : ∀ (W : World) (R : List Res),Rd W I2 R ⟨b2,0,none⟩ (.int .i64 n):=fun W R => Rd.imm (cellH_mono hm2 (Blk.cell hb2 rfl))
 have hC:=ContainsFuncE_spec n b2 A c l I2 (hl.mono hI2) rb
 repeat' first | refine kW ?_ | (refine Nx.zo ?_; first | refine kP ?_ | refine Nx.load rfl rfl rfl (rb _ _) ?_ | refine kV hC ?_) | refine kS ?_ | refine kB fun bx => ?_ | refine kA fun A2 c2 => ?_ | refine kX (fun hc => ?_) fun hc => ?_ | fail
 exact Nx.imm_le hI2 (Nx.ret_fn rfl [] ⟨by rw [Bool.not_not],rfl⟩ (by exact zE))
theorem ascB_iff {n : Int} : ∀ {b : Int} {xs : List Int},ascB n b xs = true ↔ xs.Pairwise (· < ·) ∧ ∀ x ∈ xs,b < x ∧ x < n
 | b,[] => by simp [ascB]
 | b,x :: r => by
  rw [ascB,Bool.and_eq_true,decide_eq_true_eq,ascB_iff,List.pairwise_cons]
  constructor
  ·rintro ⟨⟨h1,h2⟩,h3,h4⟩
   refine ⟨⟨fun y hy => (h4 y hy).1,h3⟩,fun y hy => ?_⟩
   rcases List.mem_cons.1 hy with rfl | hy
   ·exact ⟨h1,h2⟩
   ·have:=h4 y hy; omega
  ·rintro ⟨⟨h1,h2⟩,h3⟩
   exact ⟨h3 x (by simp),h2,fun y hy => ⟨h1 y hy,(h3 y (by simp [hy])).2⟩⟩
theorem rightB_iff {n : Nat} {q : EqR} : rightB n q = true ↔ GoodE n q:=by
 unfold rightB
 rw [Bool.and_eq_true,Bool.and_eq_true,decide_eq_true_eq,decide_eq_true_eq,ascB_iff]
 constructor
 ·rintro ⟨⟨h1,h2⟩,h3,h4⟩
  exact ⟨h1,h2,h3,fun x hx => by have:=h4 x hx; omega⟩
 ·rintro ⟨h1,h2,h3,h4⟩
  exact ⟨⟨h1,h2⟩,h3,fun x hx => by have:=h4 x hx; omega⟩
def roomOf (L : List Eqn) (c : Nat) : Int:=L.foldl (fun a q => if c ∈ q.1 then min a (q.2 + 1) else a) 1000001
theorem room_snoc (L : List Eqn) (q : Eqn) (c : Nat) : roomOf (L ++ [q]) c = if c ∈ q.1 then min (roomOf L c) (q.2 + 1) else roomOf L c:=by
 unfold roomOf; rw [List.foldl_append]; rfl
theorem room_bd : ∀ {L : List Eqn} {c : Nat},(∀ q ∈ L,0 ≤ q.2) → 1 ≤ roomOf L c ∧ roomOf L c ≤ 1000001:=by
 intro L c h
 suffices key : ∀ (L : List Eqn) (a : Int),(∀ q ∈ L,0 ≤ q.2) → 1 ≤ a ∧ a ≤ 1000001 → 1 ≤ L.foldl (fun a q => if c ∈ q.1 then min a (q.2 + 1) else a) a ∧ L.foldl (fun a q => if c ∈ q.1 then min a (q.2 + 1) else a) a ≤ 1000001 from key L _ h (by omega)
 intro L
 induction L with
 | nil => exact fun a _ ha => ha
 | cons q L ih =>
  intro a hq ha
  rw [List.foldl_cons]
  refine ih _ (fun p hp => hq p (by simp [hp])) ?_
  have:=hq q (by simp)
  split <;> omega
def sizeB : Int → List Int → Bool
 | _,[] => true
 | a,x :: r => decide (a * x ≤ 65536) && sizeB (a * x) r
def prodK (xs : List Int) : Nat → Int
 | 0 => 1
 | k + 1 => prodK xs k * xs.getD k default
theorem sizeB_at {xs : List Int} {k : Nat} (hk : k < xs.length) : sizeB (prodK xs k) (xs.drop k) = (decide (prodK xs (k + 1) ≤ 65536) && sizeB (prodK xs (k + 1)) (xs.drop (k + 1))):=by
 rw [List.drop_eq_getElem_cons hk,sizeB]
 rw [show prodK xs (k + 1) = prodK xs k * xs[k] by rw [prodK,gEl,gEq hk]; rfl]
def roomsOf (n : Nat) (L : List Eqn) : List Int:=(touch n L).map (roomOf L)
def smallB (n : Nat) (L : List Eqn) : Bool:=sizeB 1 (roomsOf n L)
theorem small_spec (A : Option Addr) (c : Nat) (l : List EqR) (n : Nat) (I : PH) (hl : Eqs I A c l) (hg : ∀ q ∈ l,GoodE n q) (hn1 : 1 ≤ n) (hn : n ≤ 4096) (h9 : (allC l).length ≤ 1000000) :
  FnSpec Tryz.prog 181 [.int .i64 (n : Int),.slice A l.length c] I [] (fun v R' => v = .bool (smallB n (eqns l)) ∧ R' = []):=by
 have hlen:=hl.len
 have hT:=Touched_spec A c l n I hl hg h9
 have hRp:=fun b => RepeatI_spec [.int .i64 1000001] rfl (by simp [Value.oneCell']) b n hn1 hn I
 have hval : ∀ k,∀ q ∈ eqns (l.take k),0 ≤ q.2:=fun k q hq => by
  obtain ⟨x,hx,rfl⟩:=List.mem_map.1 hq
  exact (hg x (List.mem_of_mem_take hx)).val.1
 refine FnSpec.enterP Tryz.func181 rfl Tryz.ntmps181 rfl fun w F => ?_
 repeat' first | refine kW ?_ | (refine Nx.zo ?_; first | refine kP ?_ | (refine Nx.call rfl rfl rfl (by kernel_rfl) rfl (hRp _) (by exact zE) ?_; rintro _ _ ⟨b5,rfl,rfl⟩)) | refine kS ?_ | refine kB fun bx => ?_ | refine kA fun A2 c2 => ?_ | refine kX (fun hc => ?_) fun hc => ?_ | fail
 refine Nx.p_loop (σ:=Nat × List Int) (fun s => [(0,.int .i64 (n : Int)),(1,.slice A l.length c),(5,.slice (some ⟨b5,0,none⟩) n n),(16,.slice A l.length c),(17,.int .i64 l.length),(18,.int .i64 (s.1 : Int))])
  (fun s => [Vec 3 1 (some ⟨b5,0,none⟩) n n (s.2.map (Value.int .i64)),F]) (fun s => s.1 ≤ l.length ∧ s.2.length = n ∧ ∀ x,x < n → s.2.getD x default = roomOf (eqns (l.take s.1)) x) (fun s => l.length - s.1) (0,List.replicate n 1000001) rfl ⟨nZl _,by simp,fun x hx => by dsimp only; rw [gEl,List.getElem?_replicate,if_pos hx]; rfl⟩ zR ?_ ?_
 ·dsimp only
  rw [show (List.replicate n (1000001 : Int)).map (Value.int .i64) = (List.replicate n [Value.int .i64 1000001]).flatten by rw [List.map_replicate]; simp]
  (exact zE)
 rintro ⟨k,rm⟩ ⟨hk,hrl,hrm⟩
 dsimp only at hk hrl hrm ⊢
 by_cases hlt : k < l.length
 case pos =>
  have hin:=hl.inner _ (getD_memQ hlt)
  have hgk:=hg _ (getD_memQ hlt)
  have hes:=eqns_snoc hlt
  have hvk:=hval k
  have hrds : ∀ (W : World) (R : List Res),Rds W I R ((ad A).add (k * 2)) (eqC (l.getD k default)):=fun W R => hl.outer.rds hlt
  generalize l.getD k default = q at *
  obtain ⟨⟨Ax,cx,ix⟩,z⟩:=q
  dsimp only at hin
  replace hrds : ∀ (W : World) (R : List Res),Rds W I R ((ad A).add (k * 2)) [.slice Ax ix.length cx,.int .i64 z]:=hrds
  have hixl:=hin.len
  have hz:=hgk.val
  dsimp only at hz
  repeat' first | refine kW ?_ | (refine Nx.zo ?_; first | refine kP ?_ | refine Nx.indexAddr_nat rfl rfl rfl rfl rfl (by omega) (hl.outer.isSome (by omega) (by omega)) ?_ | refine Nx.loads rfl rfl rfl rfl (hrds _ _) rfl ?_) | refine kS ?_ | refine kB fun bx => ?_ | refine kA fun A2 c2 => ?_ | refine kX (fun hc => ?_) fun hc => ?_ | fail
  revert bx; intro b7
  refine Nx.p_loop (σ:=Nat × List Int) (fun s => [(0,.int .i64 (n : Int)),(1,.slice A l.length c),(5,.slice (some ⟨b5,0,none⟩) n n),(7,.pointer (some ⟨b7,0,none⟩)),(16,.slice A l.length c),(17,.int .i64 l.length),(18,.int .i64 (k : Int)),(23,.slice Ax ix.length cx),(24,.int .i64 ix.length),(25,.int .i64 (s.1 : Int))])
   (fun s => [Vec 3 1 (some ⟨b5,0,none⟩) n n (s.2.map (Value.int .i64)),Blk b7 46 [.slice Ax ix.length cx,.int .i64 z],F]) (fun s => s.1 ≤ ix.length ∧ s.2.length = n ∧ ∀ x,x < n → s.2.getD x default = if (x : Int) ∈ ix.take s.1 then min (roomOf (eqns (l.take k)) x) (z + 1) else roomOf (eqns (l.take k)) x) (fun s => ix.length - s.1) (0,rm) rfl ⟨nZl _,hrl,fun x hx => by rw [hrm x hx]; simp⟩ zR (by exact zE) ?_
  rintro ⟨j,r2⟩ ⟨hj,hr2l,hr2⟩
  dsimp only at hj hr2l hr2 ⊢
  by_cases hjl : j < ix.length
  case neg =>
   obtain rfl : j = ix.length:=by omega
   repeat' first | refine kS ?_ | refine kB fun bx => ?_ | refine kA fun A2 c2 => ?_ | refine kX (fun hc => ?_) fun hc => ?_ | fail
   refine Nx.again (k + 1,r2) ⟨hlt,hr2l,fun x hx => ?_⟩ (by dsimp only; omega) zR (by exact zE)
   dsimp only
   rw [hr2 x hx,hes,room_snoc,tLn]
   by_cases hm : (x : Int) ∈ ix
   ·rw [if_pos hm,if_pos ((mem_eqn hgk).2 hm)]; rfl
   ·rw [if_neg hm,if_neg fun h => hm ((mem_eqn hgk).1 h)]
  have hixj:=hgk.lt (ix.getD j default) (by rw [gEl,gEq hjl]; exact List.getElem_mem _)
  obtain ⟨y,hy⟩ : ∃ y : Nat,ix.getD j default = (y : Int):=⟨(ix.getD j default).toNat,by omega⟩
  have hyn : y < n:=by omega
  have hixr : ∀ (W : World) (R : List Res),Rd W I R ((ad Ax).add (j * 1)) (.int .i64 (y : Int)):=fun W R => by rw [← hy]; exact hin.rd hjl
  have hrv : ∀ (W : World) (R : List Res),Rd W I (Vec 3 1 (some ⟨b5,0,none⟩) n n (r2.map (Value.int .i64)) :: R) ((ad (some ⟨b5,0,none⟩)).add (y * 1)) (.int .i64 (r2.getD y default)):=fun W R => Rd.vecEl 0 (f:=Value.int .i64) (l:=r2) (i:=y) rfl (by omega)
  repeat' first | ((with_reducible refine Nx.is_wp ?_); first | refine Nx.wo ?_ | refine kF 8 [0,1,2,3,4,5,6,7,8,9,10] [] [11] ?_) | (refine Nx.zo ?_; first | refine kP ?_ | refine Nx.indexAddr_nat rfl rfl rfl rfl rfl (by omega) (hin.isSome (by omega)) ?_ | refine Nx.load rfl rfl rfl (hixr _ _) ?_ | refine Nx.store_of 0 (Value.int .i64) rfl rfl rfl rfl rfl rfl (by omega) ?_) | refine kS ?_ | refine kB fun bx => ?_ | refine kA fun A2 c2 => ?_ | ((with_reducible refine Nx.is_mix ?_); refine kQ rfl rfl rfl rfl (by first | exact .inl rfl | exact .inr ⟨_,_,_,rfl,rfl,rfl⟩) (by first | exact QRun.opr rfl | exact QRun.idx rfl rfl rfl rfl (by omega) rfl | exact QRun.load rfl rfl (hrv _ _)) ?_) | refine kX (fun hc => ?_) fun hc => ?_ | fail
  have hyj : (y : Int) ∉ ix.take j:=fun hm => by
   obtain ⟨a,ha,he⟩:=List.mem_iff_getElem.1 hm
   rw [lTk] at ha
   rw [List.getElem_take] at he
   have hlt2:=(List.pairwise_iff_getElem.1 hgk.asc) a j (by dsimp only; omega) hjl (by omega)
   dsimp only at hlt2
   rw [gEl,gEq hjl] at hy
   have hy : ix[j] = (y : Int):=hy
   omega
  refine Nx.again (j + 1,r2.set y (min (r2.getD y default) (z + 1))) ⟨hjl,by dsimp only; rw [List.length_set]; exact hr2l,fun x hx => ?_⟩ (by dsimp only; omega) zR (by exact zE)
  dsimp only
  rw [take_snocJ hjl,hy]
  by_cases hxy : x = y
  ·subst hxy
   rw [gEl,List.getElem?_set_self (by omega),if_pos (by simp)]
   show min (r2.getD x default) (z + 1) = _
   rw [hr2 x hx,if_neg hyj]
  ·rw [gEl,List.getElem?_set_ne (Ne.symm hxy),← gEl,hr2 x hx]
   have e : ((x : Int) ∈ ix.take j ++ [(y : Int)]) ↔ (x : Int) ∈ ix.take j:=by
    rw [List.mem_append,List.mem_singleton]
    exact ⟨fun h => h.resolve_right (by omega),.inl⟩
   by_cases hm : (x : Int) ∈ ix.take j
   ·rw [if_pos hm,if_pos (e.2 hm)]
   ·rw [if_neg hm,if_neg fun h => hm (e.1 h)]
 obtain rfl : k = l.length:=by omega
 rw [tLn] at hrm
 have hval:=hval l.length
 rw [tLn] at hval
 have hrooms : (roomsOf n (eqns l)).length = (touch n (eqns l)).length:=lMp _
 have htdl : (touch n (eqns l)).length ≤ n:=by
  unfold touch
  exact Nat.le_trans (List.length_filter_le _ _) (by simp)
 unfold smallB
 repeat' first | refine kW ?_ | (refine Nx.zo ?_; first | refine kP ?_ | (refine kC hT ?_; rintro _ _ ⟨A9,c9,rfl,rfl⟩)) | refine kS ?_ | refine kB fun bx => ?_ | refine kA fun A2 c2 => ?_ | refine kX (fun hc => ?_) fun hc => ?_ | fail
 refine Nx.p_loop (σ:=Nat) (fun k => [(0,.int .i64 (n : Int)),(5,.slice (some ⟨b5,0,none⟩) n n),(10,.int .i64 (prodK (roomsOf n (eqns l)) k)),(44,.slice A9 (touch n (eqns l)).length c9),(45,.int .i64 (touch n (eqns l)).length),(46,.int .i64 (k : Int))])
  (fun _ => [iR A9 c9 ((touch n (eqns l)).map Int.ofNat),Vec 3 1 (some ⟨b5,0,none⟩) n n (rm.map (Value.int .i64)),F]) (fun k => k ≤ (touch n (eqns l)).length ∧ (0 ≤ prodK (roomsOf n (eqns l)) k ∧ prodK (roomsOf n (eqns l)) k ≤ 65536) ∧ sizeB 1 (roomsOf n (eqns l)) = sizeB (prodK (roomsOf n (eqns l)) k) ((roomsOf n (eqns l)).drop k)) (fun k => (touch n (eqns l)).length - k) 0 rfl ⟨nZl _,by rw [prodK]; decide,rfl⟩ zR (by exact zE) ?_
 rintro k ⟨hk,⟨hp0,hp9⟩,he⟩
 by_cases hlt : k < (touch n (eqns l)).length
 case neg =>
  obtain rfl : k = (touch n (eqns l)).length:=by omega
  rw [List.drop_eq_nil_of_le (by omega)] at he
  rw [he]
  repeat' first | refine kS ?_ | refine kB fun bx => ?_ | refine kA fun A2 c2 => ?_ | refine kX (fun hc => ?_) fun hc => ?_ | fail
  exact kT
 have hyn:=(mem_touch.1 (List.getElem_mem hlt)).1
 have htr : ∀ (W : World) (R : List Res),Rd W I (iR A9 c9 ((touch n (eqns l)).map Int.ofNat) :: R) ((ad A9).add (k * 1)) (.int .i64 (((touch n (eqns l))[k] : Nat) : Int)):=fun W R => by
  have h:=Rd.vecEl (W:=W) (I:=I) (R:=iR A9 c9 ((touch n (eqns l)).map Int.ofNat) :: R) 0 (f:=Value.int .i64) (l:=(touch n (eqns l)).map Int.ofNat) (i:=k) rfl (by rw [lMp]; exact hlt)
  rw [gEl,gMp,gEq hlt] at h
  exact h
 have hps : prodK (roomsOf n (eqns l)) (k + 1) = prodK (roomsOf n (eqns l)) k * roomOf (eqns l) (touch n (eqns l))[k]:=by
  rw [prodK]
  congr 1
  unfold roomsOf
  rw [gEl,gMp,gEq hlt]; rfl
 have hrb:=room_bd (L:=eqns l) (c:=(touch n (eqns l))[k]) hval
 have hat:=sizeB_at (xs:=roomsOf n (eqns l)) (k:=k) (by omega)
 have hry:=hrm _ hyn
 refine Nx.vec_fact fun hv1 hv2 hv3 hA9 => ?_
 rw [lMp] at hv2 hA9
 generalize (touch n (eqns l))[k] = y at hyn htr hps hrb hry
 have hrv : ∀ (W : World) (R : List Res) (r0 : Res),Rd W I (r0 :: Vec 3 1 (some ⟨b5,0,none⟩) n n (rm.map (Value.int .i64)) :: R) ((ad (some ⟨b5,0,none⟩)).add (y * 1)) (.int .i64 (roomOf (eqns l) y)):=fun W R r0 => by
  rw [← hry]
  exact Rd.vecEl 1 (f:=Value.int .i64) (l:=rm) (i:=y) rfl (by omega)
 generalize roomOf (eqns l) y = r at hps hrb hrv
 have hm1 : prodK (roomsOf n (eqns l)) k * r ≤ 65536 * 1000001:=Int.mul_le_mul hp9 hrb.2 (by omega) (by omega)
 have hm0 : 0 ≤ prodK (roomsOf n (eqns l)) k * r:=Int.mul_nonneg hp0 (by omega)
 rw [← hps] at hm0 hm1
 rw [hat] at he
 by_cases hsm : prodK (roomsOf n (eqns l)) (k + 1) ≤ 65536
 ·rw [decide_eq_true hsm,Bool.true_and] at he
  rw [hps] at hsm hm0 hm1
  repeat' first | refine kW ?_ | (refine Nx.zo ?_; first | refine kP ?_ | refine Nx.indexAddr_nat rfl rfl rfl rfl rfl (by omega) (hA9 (by omega)) ?_ | refine Nx.load rfl rfl rfl (htr _ _) ?_ | refine Nx.load rfl rfl rfl (hrv _ _ _) ?_ | refine Nx.indexAddr_nat rfl rfl rfl rfl rfl (by omega) rfl ?_) | refine kS ?_ | refine kB fun bx => ?_ | refine kA fun A2 c2 => ?_ | refine kX (fun hc => ?_) fun hc => ?_ | fail
  exact Nx.again (k + 1) ⟨hlt,by rw [hps]; exact ⟨hm0,hsm⟩,he⟩ (by omega) ⟨rfl,rfl,by rw [hps]; rfl,rfl,rfl,rfl,trivial⟩ (by exact zE)
 ·rw [decide_eq_false hsm,Bool.false_and] at he
  rw [he]
  rw [hps] at hsm hm0 hm1
  repeat' first | refine kW ?_ | (refine Nx.zo ?_; first | refine kP ?_ | refine Nx.indexAddr_nat rfl rfl rfl rfl rfl (by omega) (hA9 (by omega)) ?_ | refine Nx.load rfl rfl rfl (htr _ _) ?_ | refine Nx.load rfl rfl rfl (hrv _ _ _) ?_ | refine Nx.indexAddr_nat rfl rfl rfl rfl rfl (by omega) rfl ?_) | refine kS ?_ | refine kB fun bx => ?_ | refine kA fun A2 c2 => ?_ | refine kX (fun hc => ?_) fun hc => ?_ | fail
  exact kT
def chkQ (n : Int) (l : List EqR) : Int:=if validB n l = false then 55 else if smallB n.toNat (eqns l) = false then 1 else 0
theorem valid_good {n : Int} {l : List EqR} (h : validB n l = true) : (1 ≤ n ∧ n ≤ 48) ∧ l.length ≤ 1152 ∧ ∀ q ∈ l,GoodE n.toNat q:=by
 unfold validB at h
 simp only [Bool.and_eq_true,decide_eq_true_eq] at h
 obtain ⟨⟨h1,h2⟩,h3⟩:=h
 refine ⟨h1,h2,fun q hq => rightB_iff.1 ?_⟩
 rw [show ((n.toNat : Nat) : Int) = n by omega]
 exact List.all_eq_true.1 h3 q hq
theorem check_spec (n : Int) (A : Option Addr) (c : Nat) (l : List EqR) (I : PH) (hl : Eqs I A c l) (h9 : (allC l).length ≤ 1000000) :
  FnSpec Tryz.prog 127 [.int .i64 n,.slice A l.length c] I [] (fun v R' => v = .int .i64 (chkQ n l) ∧ R' = []):=by
 have hV:=Valid_spec n A c l I hl
 unfold chkQ
 refine FnSpec.enterP Tryz.func127 rfl Tryz.ntmps127 rfl fun w F => ?_
 cases hv : validB n l with
 | false =>
  rw [hv] at hV
  repeat' first | refine kW ?_ | (refine Nx.zo ?_; first | refine kP ?_ | refine kV hV ?_) | refine kS ?_ | refine kB fun bx => ?_ | refine kA fun A2 c2 => ?_ | refine kX (fun hc => ?_) fun hc => ?_ | fail
  exact kT
 | true =>
  rw [hv] at hV
  obtain ⟨h1,h2,h3⟩:=valid_good hv
  have hS:=small_spec A c l n.toNat I hl h3 (by omega) (by omega) h9
  rw [show ((n.toNat : Nat) : Int) = n by omega] at hS
  rw [if_neg (by decide)]
  cases hs : smallB n.toNat (eqns l) with
  | false =>
   rw [hs] at hS
   repeat' first | refine kW ?_ | (refine Nx.zo ?_; first | refine kP ?_ | refine kV hV ?_ | refine kV hS ?_) | refine kS ?_ | refine kB fun bx => ?_ | refine kA fun A2 c2 => ?_ | refine kX (fun hc => ?_) fun hc => ?_ | fail
   exact kT
  | true =>
   rw [hs] at hS
   repeat' first | refine kW ?_ | (refine Nx.zo ?_; first | refine kP ?_ | refine kV hV ?_ | refine kV hS ?_) | refine kS ?_ | refine kB fun bx => ?_ | refine kA fun A2 c2 => ?_ | refine kX (fun hc => ?_) fun hc => ?_ | fail
   exact kT
abbrev Rch:=Int × Int × Bool
def rcC (x : Rch) : List Value:=[.int .i64 x.1,.int .i64 x.2.1,.bool x.2.2]
theorem rcC_len (x : Rch) : (rcC x).length = 3:=rfl
theorem rcC_one (x : Rch) : ∀ v ∈ rcC x,v.oneCell' = true:=by
 intro v hv
 unfold rcC at hv
 simp only [List.mem_cons,List.not_mem_nil,or_false] at hv
 rcases hv with rfl | rfl | rfl <;> rfl
theorem flat_one {α : Type} {f : α → List Value} (h : ∀ x,∀ v ∈ f x,v.oneCell' = true) (l : List α) : ∀ v ∈ l.flatMap f,v.oneCell' = true:=fun v hv => by
 obtain ⟨x,_,hx⟩:=List.mem_flatMap.1 hv
 exact h x v hx
theorem RepeatR_spec (cx : List Value) (hcx : cx.length = 3) (h1 : ∀ v ∈ cx,v.oneCell' = true) (b n : Nat) (hn1 : 1 ≤ n) (hn : n ≤ 4096) (I : PH) :
  FnSpec Tryz.prog 74 [.slice (some ⟨b,0,none⟩) 1 1,.int .i64 (n : Int)] I [Blk b 73 cx] (fun v R' => ∃ b',v = .slice (some ⟨b',0,none⟩) n n ∧ R' = [Vec 73 3 (some ⟨b',0,none⟩) n n (List.replicate n cx).flatten]):=by
 have hM:=mulU_spec n (by omega) I
 have hB : (n : Int) % B64 = n:=by unfold B64; omega
 have hB1 : ((1 : Nat) : Int) % B64 = 1:=by unfold B64; decide
 refine FnSpec.enterP Tryz.func74 rfl Tryz.ntmps74 rfl fun w F => ?_
 repeat' first | refine kW ?_ | (refine Nx.zo ?_; first | refine kP ?_ | (refine kC hM ?_; rintro _ _ ⟨rfl,rfl⟩) | (refine Nx.conv_u64 (p:=((1 : Nat) : Int)) rfl rfl rfl rfl ?_; rw [hB1]) | (refine Nx.conv_u64 (p:=(n : Int)) rfl rfl rfl rfl ?_; rw [hB]) | refine Nx.conv_i64 (p:=(n : Int)) rfl rfl rfl (by unfold I64; omega) rfl ?_ | refine Nx.makeStructs rcC (0,0,false) (by_:=24) (m:=n) (sz:=3) rfl rfl rfl rfl rfl rfl rfl rfl rfl rfl (by omega) (by unfold maxLen; omega) (fun bx => ?_)) | refine kS ?_ | refine kB fun bx => ?_ | refine kA fun A2 c2 => ?_ | refine kX (fun hc => ?_) fun hc => ?_ | fail
 revert bx; intro b7
 generalize hx0 : (List.replicate n ((0,0,false) : Rch)).flatMap rcC = x0
 have hx0l : x0.length = n * 3:=by rw [← hx0,flat_len rcC_len,List.length_replicate]
 have hF0 : Filled cx 3 n 1 (x0.take 0 ++ cx ++ x0.drop (0 + cx.length)):=Filled.start hcx h1 hx0l (by rw [← hx0]; exact flat_one rcC_one _) hn1
 repeat' first | refine kW ?_ | (refine Nx.zo ?_; first | refine kP ?_ | refine Nx.copy_ (k:=1) (sz:=3) (cs:=cx) rfl rfl rfl rfl rfl rfl (by show 1 = min 1 n; omega) (by omega) (Rds.at_ 1 rfl) (Wr.vecNs0 (by omega) (by omega) h1) ?_) | refine kS ?_ | refine kB fun bx => ?_ | refine kA fun A2 c2 => ?_ | refine kX (fun hc => ?_) fun hc => ?_ | fail
 refine Nx.p_loop (σ:=Nat × List Value) (fun s => [(7,.slice (some ⟨b7,0,none⟩) n n),(8,.int .i64 (s.1 : Int))]) (fun s => [Vec 73 3 (some ⟨b7,0,none⟩) n n s.2,F]) (fun s => 1 ≤ s.1 ∧ s.1 ≤ n ∧ Filled cx 3 n s.1 s.2) (fun s => n - s.1) (1,x0.take 0 ++ cx ++ x0.drop (0 + cx.length)) rfl ⟨nLr _,hn1,hF0⟩ ⟨rfl,rfl,trivial⟩ (by exact zE) ?_
 rintro ⟨m,xs⟩ ⟨hm1,hmn,hF⟩
 dsimp only at hm1 hmn hF ⊢
 by_cases hlt : m < n
 case neg =>
  obtain rfl : m = n:=by omega
  have hd:=hF.done
  subst hd
  repeat' first | refine kS ?_ | refine kB fun bx => ?_ | refine kA fun A2 c2 => ?_ | refine kX (fun hc => ?_) fun hc => ?_ | fail
  exact Nx.ret_fn rfl [_] ⟨b7,rfl,rfl⟩ (by exact zE)
 have hst:=hF.step hcx (k:=min m (n - m)) (by omega) (by omega)
 have hxl:=hF.len
 repeat' first | ((with_reducible refine Nx.is_wp ?_); first | refine Nx.wo ?_ | refine Nx.p_drawF (id:=9) rfl [0,1,2,3,4,5,6,7,8,9] [7] [] _ rfl rfl (by kernel_rfl) (by kernel_rfl) rfl PanicOk.auto (Ent.eraseK 0 _) ?_) | (refine Nx.zo ?_; first | refine kP ?_ | refine Nx.copy_ (k:=min m (n - m)) (sz:=3) (cs:=xs.take (min m (n - m) * 3)) rfl rfl rfl rfl rfl rfl rfl (by rw [lTk]; omega) Rds.vec_take (Wr.vecNs (A:=some ⟨b7,0,none⟩) (i:=m * 3) (by rw [lTk]; omega) (by rw [lTk]; omega) (fun v hv => hF.one v (List.mem_of_mem_take hv))) ?_) | refine kS ?_ | refine kB fun bx => ?_ | refine kA fun A2 c2 => ?_ | ((with_reducible refine Nx.is_mix ?_); refine kQ rfl rfl rfl rfl (by first | exact .inl rfl | exact .inr ⟨_,_,_,rfl,rfl,rfl⟩) (by first | exact QRun.opr rfl | exact QRun.slice_from (sz:=3) rfl rfl rfl rfl hlt (nLr _) | exact QRun.slice_hi (sz:=3) rfl rfl rfl rfl hmn) ?_) | refine kX (fun hc => ?_) fun hc => ?_ | fail
 exact Nx.again (m + min m (n - m),_) ⟨by dsimp only; omega,by dsimp only; omega,hst⟩ (by dsimp only; omega) ⟨rfl,rfl,trivial⟩ (by exact zE)
theorem IndexI_spec (A : Option Addr) (c : Nat) (l : List Int) (z : Int) (I : PH) (hl : Ints I A c l) :
  FnSpec Tryz.prog 167 [.slice A l.length c,.int .i64 z] I [] (fun v R' => ∃ i : Int,v = .int .i64 i ∧ (0 ≤ i ↔ z ∈ l) ∧ R' = []):=by
 have hlen:=hl.len
 refine FnSpec.enterP Tryz.func167 rfl Tryz.ntmps167 rfl fun w F => ?_
 repeat' first | refine kS ?_ | refine kB fun bx => ?_ | refine kA fun A2 c2 => ?_ | refine kX (fun hc => ?_) fun hc => ?_ | fail
 refine Nx.p_loop (σ:=Nat) (fun k => [(0,.slice A l.length c),(1,.int .i64 z),(7,.int .i64 l.length),(8,.int .i64 (k : Int))])
  (fun _ => [F]) (fun k => k ≤ l.length ∧ z ∉ l.take k) (fun k => l.length - k) 0 rfl ⟨nZl _,by simp⟩ zR (Ent.refl _) ?_
 rintro k ⟨hk,hnone⟩
 repeat' first | refine kW ?_ | (refine Nx.zo ?_; first | refine kP ?_ | refine Nx.indexAddr_nat rfl rfl rfl rfl rfl (by omega) (hl.isSome (by omega)) ?_ | refine Nx.load rfl rfl rfl (hl.rd (by omega)) ?_) | refine kS ?_ | refine kB fun bx => ?_ | refine kA fun A2 c2 => ?_ | refine kX (fun hc => ?_) fun hc => ?_ | fail
 ·exact Nx.ret_fn rfl [] ⟨_,rfl,⟨fun _ => hc ▸ getD_memI (by omega),fun _ => by omega⟩,rfl⟩ (Ent.refl _)
 ·refine Nx.again (k + 1) ⟨by omega,?_⟩ (by omega) zR (Ent.refl _)
  rw [take_snocJ (by omega),List.mem_append,List.mem_singleton]
  rintro (h | h)
  ·exact hnone h
  ·exact hc h
 ·obtain rfl : k = l.length:=by omega
  rw [tLn] at hnone
  exact Nx.ret_fn rfl [] ⟨_,rfl,⟨fun h => absurd h (by omega),fun h => absurd h hnone⟩,rfl⟩ (Ent.refl _)
theorem ContainsI_spec (A : Option Addr) (c : Nat) (l : List Int) (z : Int) (I : PH) (hl : Ints I A c l) :
  FnSpec Tryz.prog 105 [.slice A l.length c,.int .i64 z] I [] (fun v R' => v = .bool (decide (z ∈ l)) ∧ R' = []):=by
 refine FnSpec.enterP Tryz.func105 rfl Tryz.ntmps105 rfl fun w F => ?_
 repeat' first | refine kS ?_ | refine kB fun bx => ?_ | refine kA fun A2 c2 => ?_ | refine kX (fun hc => ?_) fun hc => ?_ | fail
 refine Nx.at_op rfl rfl ?_
 refine Nx.call rfl rfl rfl (by kernel_rfl) rfl (IndexI_spec A c l z I hl) (Ent.refl _) ?_
 rintro v R' ⟨i,rfl,hi,rfl⟩
 repeat' first | refine kS ?_ | refine kB fun bx => ?_ | refine kA fun A2 c2 => ?_ | refine kX (fun hc => ?_) fun hc => ?_ | fail
 exact Nx.ret_fn rfl [] ⟨by rw [decide_eq_decide.2 hi],rfl⟩ (Ent.refl _)
def firstOf (n : Int) (l : List EqR) : List Int × Bool × Int:=if chkQ n l = 0 then ((solsOf n.toNat (eqns l)).headD [],!(solsOf n.toNat (eqns l)).isEmpty,0) else ([],false,chkQ n l)
theorem chk_good {n : Int} {l : List EqR} (h : chkQ n l = 0) : (1 ≤ n ∧ n ≤ 48) ∧ l.length ≤ 1152 ∧ (∀ q ∈ l,GoodE n.toNat q) ∧ smallB n.toNat (eqns l) = true:=by
 unfold chkQ at h
 cases hv : validB n l with
 | false => rw [hv,if_pos rfl] at h; omega
 | true =>
  rw [hv,if_neg (by decide)] at h
  obtain ⟨h1,h2,h3⟩:=valid_good hv
  refine ⟨h1,h2,h3,?_⟩
  cases hs : smallB n.toNat (eqns l) with
  | false => rw [hs,if_pos rfl] at h; omega
  | true => rfl
theorem First_spec (n : Int) (A : Option Addr) (c : Nat) (l : List EqR) (I : PH) (hl : Eqs I A c l) (h9 : (allC l).length ≤ 100000) :
  FnSpec Tryz.prog 73 [.int .i64 n,.slice A l.length c] I []
   (fun v R' => ∃ (A' : Option Addr) (c' : Nat),v = .tuple #[.slice A' (firstOf n l).1.length c',.bool (firstOf n l).2.1,.int .i64 (firstOf n l).2.2] ∧ R' = [iR A' c' (firstOf n l).1]):=by
 have hC:=check_spec n A c l I hl (by omega)
 unfold firstOf
 refine FnSpec.enterP Tryz.func73 rfl Tryz.ntmps73 rfl fun w F => ?_
 by_cases h0 : chkQ n l = 0
 case neg =>
  rw [if_neg h0]
  repeat' first | refine kW ?_ | (refine Nx.zo ?_; first | refine kP ?_ | refine kV hC ?_) | refine kS ?_ | refine kB fun bx => ?_ | refine kA fun A2 c2 => ?_ | refine kX (fun hc => ?_) fun hc => ?_ | fail
  exact Nx.ret_fn rfl [_] ⟨none,0,rfl,rfl⟩ ((Ent.vec_nil 3 1 _).trans (by unfold iR; (exact zE)))
 rw [if_pos h0]
 obtain ⟨h1,h2,h3,_⟩:=chk_good h0
 have hS:=some_spec A c l n.toNat 1 I hl h3 (by omega) (by omega) h9 (by omega) (by omega)
 rw [show ((n.toNat : Nat) : Int) = n by omega] at hS
 rw [h0] at hC
 repeat' first | ((with_reducible refine Nx.is_wp ?_); first | refine Nx.p_stopr 5 rfl ?_ | refine Nx.wo ?_) | (refine Nx.zo ?_; first | refine kP ?_ | refine kV hC ?_ | (refine kC hS ?_; rintro _ _ ⟨A1,c1,o,rfl,ho,rfl⟩)) | refine kS ?_ | refine kB fun bx => ?_ | refine kA fun A2 c2 => ?_ | refine kX (fun hc => ?_) fun hc => ?_ | fail
 refine unstopN ?_
 cases hsol : solsOf n.toNat (eqns l) with
 | nil =>
  rw [hsol] at ho
  have ho : o = []:=by simpa using ho
  subst ho
  repeat' first | refine kS ?_ | refine kB fun bx => ?_ | refine kA fun A2 c2 => ?_ | refine kX (fun hc => ?_) fun hc => ?_ | fail
  exact Nx.ret_fn rfl [_] ⟨none,0,rfl,rfl⟩ ((Ent.vec_nil 3 1 _).trans (by unfold iR; (exact zE)))
 | cons t r =>
  rw [hsol] at ho
  match o,ho with
  | [⟨Ao,co,to⟩],ho =>
   have ho : to = t:=by simpa using ho
   subst ho
   have hone : ((([(Ao,co,to)] : List Row).length : Nat) : Int) = 1:=rfl
   refine Nx.vec_fact fun _ _ _ hAs => ?_
   repeat' first | refine kW ?_ | (refine Nx.zo ?_; first | refine kP ?_ | refine Nx.indexAddr_nat (i:=0) rfl rfl rfl rfl rfl (Nat.zero_lt_succ _) (hAs (Nat.zero_lt_succ _)) ?_ | refine Nx.load rfl rfl rfl (Rd.vecEl (f:=rowV) (l:=[(Ao,co,to)]) (i:=0) 0 rfl (Nat.zero_lt_succ _)) ?_) | refine kS ?_ | refine kB fun bx => ?_ | refine kA fun A2 c2 => ?_ | refine kX (fun hc => ?_) fun hc => ?_ | fail
   refine Nx.unfoldAt 1 (B:=[rwR (Ao,co,to)]) rfl ?_
   exact Nx.ret_fn rfl [rwR (Ao,co,to)] ⟨Ao,co,rfl,rfl⟩ (by exact zE)
abbrev rowsR (A : Option Addr) (c : Nat) (o : List Row) : List Res:=[Vec 31 1 A o.length c (o.map rowV),Stars (o.map rwR)]
abbrev spB (b5 : Nat) (B : Option Addr) (n cs : Nat) : Res:=Blk b5 54 [.slice B n cs]
theorem Releases_made (b : Nat) (A B T : Option Addr) (c cs ct : Nat) (L l t : List Int) (k most : Nat) (I : PH) (hL : CodesOk I A c L) (hk : k ≤ L.length) (hl : Ints I B cs l) (hs : Sizes l) (ht : Ints I T ct t) (hT : Table l t) (hm9 : most ≤ 1000) :
    FnSpec Tryz.prog 64 [.pointer (some ⟨b, 0, none⟩), .agg #[.slice B l.length cs], .slice T t.length ct, .int .i64 (most : Int)] I [CodesR b A c L k]
      (fun u R' => ∃ (As : Option Addr) (c' : Nat) (rs : List Rel) (k' : Nat), u = .slice As rs.length c' ∧ rs.length ≤ most ∧ RelsOk l t rs ∧ k' ≤ L.length ∧ R' = [Vec 116 3 As rs.length c' (rs.flatMap relC), Stars (rs.map relR), CodesR b A c L k']) := by
  have hlen := hl.len
  have htl := ht.len
  refine FnSpec.enterP Tryz.func64 rfl Tryz.ntmps64 rfl fun w F => ?_
  repeat' first | refine kW ?_ | (refine Nx.zo ?_; first | refine kP ?_ | (refine Nx.call rfl rfl rfl (by kernel_rfl) rfl (Next_any b A c L k ((most : Int) + 1) I hL hk (by omega)) (by exact zE) ?_; rintro _ _ ⟨n, k1, rfl, hn, hk1, rfl⟩)) | refine kS ?_ | refine kB fun bx => ?_ | refine kA fun A2 c2 => ?_ | refine kX (fun hc => ?_) fun hc => ?_ | fail
  obtain ⟨m, rfl⟩ : ∃ m : Nat, n = m := ⟨n.toNat, by omega⟩
  revert bx; intro b5
  refine Nx.p_loop (σ := Nat × Nat × Option Addr × Nat × List Rel) (fun s => [(0, .pointer (some ⟨b, 0, none⟩)), (2, .slice T t.length ct), (5, .pointer (some ⟨b5, 0, none⟩)), (9, .slice s.2.2.1 s.2.2.2.2.length s.2.2.2.1), (10, .int .i64 (s.1 : Int))])
    (fun s => [Vec 116 3 s.2.2.1 s.2.2.2.2.length s.2.2.2.1 (s.2.2.2.2.flatMap relC), Stars (s.2.2.2.2.map relR), CodesR b A c L s.2.1, spB b5 B l.length cs, F]) (fun s => s.2.1 ≤ L.length ∧ s.2.2.2.2.length + s.1 ≤ most ∧ RelsOk l t s.2.2.2.2) (fun s => s.1) (m, k1, none, 0, []) rfl
    ⟨hk1, by dsimp only; simp; omega, ⟨fun i hi => absurd hi (Nat.not_lt_zero _)⟩⟩ zR ((Ent.stars_nil _).trans ((Ent.vec_nil 116 3 _).trans (by exact zE))) ?_
  rintro ⟨n, kc, As, c', rs⟩ ⟨hkc, hrl, hrs⟩
  dsimp only at hkc hrl hrs ⊢
  cases n with
  | zero =>
    repeat' first | refine kS ?_ | refine kB fun bx => ?_ | refine kA fun A2 c2 => ?_ | refine kX (fun hc => ?_) fun hc => ?_ | fail
    exact Nx.ret_fn rfl [_, _, _] ⟨As, c', rs, kc, rfl, by omega, hrs, hkc, rfl⟩ (by exact zE)
  | succ n =>
    repeat' first | refine kW ?_ | (refine Nx.zo ?_; first | refine kP ?_ | (refine Nx.call rfl rfl rfl (by kernel_rfl) rfl (View_made b A B c cs L l kc I hL hkc hl hs) (by exact zE) ?_; rintro _ _ ⟨Av, cv, v, k2, rfl, hw, hk2, rfl⟩)) | refine kS ?_ | refine kB fun bx => ?_ | refine kA fun A2 c2 => ?_ | refine kX (fun hc => ?_) fun hc => ?_ | fail
    revert bx; intro b11
    refine Nx.ent (R' := [ViewR Av cv v, Blk b11 114 [.slice Av v.length cv], CodesR b A c L k2, Vec 116 3 As rs.length c' (rs.flatMap relC), Stars (rs.map relR), spB b5 B l.length cs, F]) (by exact zE) ?_
    refine Nx.at_op rfl rfl ?_
    refine Nx.call_lendR 0 rfl rfl rfl (by kernel_rfl) rfl rfl (fun m I' hle hm hv => RPublish_spec B Av T cs cv ct l t v I' (hl.mono hle) hs (ViewR.rows hm hv) hw (ht.mono hle) hT) ?_
    rintro _ _ ⟨Ap, rfl, rfl⟩
    have hszs := hw.sizes hs
    have hpr := hszs.bound (k := (szs v).length) (nLr _)
    rw [tLn] at hpr
    generalize hP : (prod (szs v)).toNat = P
    have hsl := sums_len (pubOf l v) t P t.length
    generalize hz0 : sums (pubOf l v) t P t.length = z0 at hsl
    have hz1 : ∀ j, j < P → z0.getD j default = sumAt (pubOf l v) t (j : Int) t.length := fun j hj => by rw [← hz0, sums_at _ _ _ _ _ hj]
    repeat' first | refine kS ?_ | refine kB fun bx => ?_ | refine kA fun A2 c2 => ?_ | refine kX (fun hc => ?_) fun hc => ?_ | fail
    refine Nx.p_loop (σ := Nat × Nat × List Int) (fun s => [(0, .pointer (some ⟨b, 0, none⟩)), (2, .slice T t.length ct), (5, .pointer (some ⟨b5, 0, none⟩)), (9, .slice As rs.length c'), (10, .int .i64 ((n + 1 : Nat) : Int)), (11, .pointer (some ⟨b11, 0, none⟩)), (12, .slice Ap P P), (33, .slice Ap P P), (34, .int .i64 (P : Int)), (35, .int .i64 (s.1 : Int))])
      (fun s => [Vec 3 1 Ap P P (s.2.2.map (Value.int .i64)), CodesR b A c L s.2.1, ViewR Av cv v, Blk b11 114 [.slice Av v.length cv], Vec 116 3 As rs.length c' (rs.flatMap relC), Stars (rs.map relR), spB b5 B l.length cs, F]) (fun s => s.1 ≤ P ∧ s.2.1 ≤ L.length ∧ s.2.2.length = P ∧ ∀ j, j < P → s.2.2.getD j default = -1 ∨ s.2.2.getD j default = sumAt (pubOf l v) t (j : Int) t.length) (fun s => P - s.1) (0, k2, z0) rfl
      ⟨nZl _, hk2, hsl, fun j hj => .inr (hz1 j hj)⟩ zR (by exact zE) ?_
    rintro ⟨i, ki, z⟩ ⟨hi, hki, hzl, hz⟩
    dsimp only at hi hki hzl hz ⊢
    by_cases hiP : i < P
    · refine Nx.vec_fact fun _ _ _ hAp => ?_
      repeat' first | refine kW ?_ | (refine Nx.zo ?_; first | refine kP ?_ | (refine Nx.call rfl rfl rfl (by kernel_rfl) rfl (Next_any b A c L ki 5 I hL hki (by omega)) (by exact zE) ?_; rintro _ _ ⟨r, k3, rfl, hr, hk3, rfl⟩) | refine Nx.indexAddr_nat rfl rfl rfl rfl rfl hiP (hAp (by omega)) ?_ | refine Nx.store_of 1 (Value.int .i64) (l := z) (i := i) (z := -1) rfl rfl rfl rfl rfl rfl hiP ?_) | refine kS ?_ | refine kB fun bx => ?_ | refine kA fun A2 c2 => ?_ | refine kX (fun hc => ?_) fun hc => ?_ | fail
      · exact Nx.again (i + 1, k3, z.set i (-1)) ⟨hiP, hk3, by dsimp only; rw [List.length_set]; exact hzl, fun j hj => by
            dsimp only
            by_cases hij : i = j
            · subst hij; exact .inl (getD_set_eq (by omega))
            · rw [getD_set_ne hij]; exact hz j hj⟩ (by dsimp only; omega) zR (by exact zE)
      · exact Nx.again (i + 1, k3, z) ⟨hiP, hk3, hzl, hz⟩ (by dsimp only; omega) zR (by exact zE)
    obtain rfl : i = P := by omega
    subst hzl
    repeat' first | refine kS ?_ | refine kB fun bx => ?_ | refine kA fun A2 c2 => ?_ | refine kX (fun hc => ?_) fun hc => ?_ | fail
    refine Nx.again (n, ki, A2, c2, rs ++ [⟨(rs.length : Int), Av, cv, v, (Ap, z.length, z)⟩]) ⟨hki, by dsimp only; rw [lAp]; show rs.length + 1 + n ≤ most; omega, ⟨fun i hi => ?_⟩⟩ (by dsimp only; omega) ⟨rfl, rfl, rfl, by dsimp only; rw [lAp]; rfl, by dsimp only; rw [show ((n + 1 : Nat) : Int) - 1 = (n : Int) by omega]; rfl, trivial⟩ ?_
    · dsimp only
      by_cases hir : i < rs.length
      · rw [gEl, List.getElem?_append_left hir, ← gEl]
        exact hrs.each i hir
      · obtain rfl : i = rs.length := by rw [lAp, List.length_singleton] at hi; omega
        rw [gEl, List.getElem?_append_right (nLr _), Nat.sub_self]
        exact ⟨⟨hw, show z.length = (prod (szs v)).toNat from hP.symm, hz⟩, rfl⟩
    · dsimp only
      refine Ent.trans (R' := [ViewR Av cv v, rowR (Ap, z.length, z), Stars (rs.map relR), Vec 116 3 A2 (rs.length + 1) c2 (rs.flatMap relC ++ relC ⟨(rs.length : Int), Av, cv, v, (Ap, z.length, z)⟩), CodesR b A c L ki, spB b5 B l.length cs, F]) (by unfold rowR relC rowV; (exact zE)) ?_
      refine Ent.pack2.trans ?_
      refine Ent.trans (R' := Stars (rs.map relR ++ [relR ⟨(rs.length : Int), Av, cv, v, (Ap, z.length, z)⟩]) :: [Vec 116 3 A2 (rs.length + 1) c2 (rs.flatMap relC ++ relC ⟨(rs.length : Int), Av, cv, v, (Ap, z.length, z)⟩), CodesR b A c L ki, spB b5 B l.length cs, F]) Ent.bundle ?_
      rw [lAp, List.flatMap_append, mAp, List.flatMap_cons, List.flatMap_nil, List.append_nil]
      (exact zE)
structure RelV (l : List Int) (r : Rel) : Prop where
 view : Viewed l r.v
 len : r.val.2.2.length = (prod (szs r.v)).toNat
 each : ∀ j,j < r.val.2.2.length → r.val.2.2.getD j default = -1 ∨ (0 ≤ r.val.2.2.getD j default ∧ r.val.2.2.getD j default ≤ 1000000)
structure RelsV (l : List Int) (rs : List Rel) : Prop where
 len : rs.length ≤ 24
 each : ∀ i,i < rs.length → RelV l (rs.getD i default) ∧ 0 ≤ (rs.getD i default).num ∧ (rs.getD i default).num < 24
 asc : ∀ i,i + 1 < rs.length → (rs.getD i default).num < (rs.getD (i + 1) default).num
def prevN (rs : List Rel) : Nat → Int
 | 0 => -1
 | i + 1 => (rs.getD i default).num
theorem getD_memR {l : List Rel} {k : Nat} (h : k < l.length) : l.getD k default ∈ l:=by
 rw [gEl,gEq h]; exact List.getElem_mem _
def cont (q : EqR) : List Int × Int:=(q.1.2.2,q.2)
def toldK (l : List Int) (v : List Row) (vs : List Int) : Nat → List (List Int × Int)
 | 0 => []
 | j + 1 => toldK l v vs j ++ if vs.getD j default = -1 then [] else [(memK l v (j : Int) (prod l).toNat,vs.getD j default)]
def told (l : List Int) (r : Rel) : List (List Int × Int):=toldK l r.v r.val.2.2 r.val.2.2.length
abbrev eqsR (A : Option Addr) (c : Nat) (qs : List EqR) : List Res:=[Vec 46 2 A qs.length c (qs.flatMap eqC),Stars (qs.map fun q => rowR q.1)]
theorem take_snocR {l : List Rel} {k : Nat} (h : k < l.length) : l.take (k + 1) = l.take k ++ [l.getD k default]:=by
 rw [List.take_add_one,gEq h,gEl,gEq h]; rfl
end Go.Proofs.YtpcnapidlhpbkaaGreatDoor
namespace Go.Eng
theorem FnSpec.keep {P : Program} {f : FuncId} {al : List Value} {I : PH} {Rpre : List Res} {Post : Value → List Res → Prop} (B : List Res)
  (hs : ∀ m I',PH.le I I' → PH.le m I' → Stars B m → FnSpec P f al I' Rpre Post) : FnSpec P f al I (B ++ Rpre) (fun v R' => ∃ R0,Post v R0 ∧ R' = B ++ R0):=by
 intro w F hw
 rw [List.append_assoc] at hw
 obtain ⟨m,hd,hB,hl,hback⟩:=hw.lend
 refine Calls.mono (hs m _ (PH.le_or_left _ _) (PH.le_or_right hd) hB w F hl) ?_
 rintro en w' ⟨v,R',rfl,hv,hst⟩
 exact ⟨v,B ++ R',rfl,⟨R',hv,rfl⟩,by rw [List.append_assoc]; exact hback hst⟩
end Go.Eng
namespace Go.Proofs.YtpcnapidlhpbkaaGreatDoor
open Go.Eng Go.Sol
attribute [local irreducible] opK wpList Code.wp Exit.then Exit.inBlock fnPost bodyPost Nx Calls Oper.wp Rd Rds Wr Ent Stars Blk Again Vec FnSpec wpMix QRun Stop Upto wpAt
theorem rels_of {As : Option Addr} {cs : Nat} {rs : List Rel} {m I' : PH} {m1 m2 : PH} (hm : PH.le m I') (h1 : Vec 116 3 As rs.length cs (rs.flatMap relC) m1) (hm1 : PH.le m1 m) (h2 : Stars (rs.map relR) m2) (hm2 : PH.le m2 m) : Rels I' As cs rs:=by
 have hat : ∀ r ∈ rs,∃ m3,PH.le m3 I' ∧ relR r m3:=fun r hr => by
  obtain ⟨k,hk,he⟩:=List.mem_iff_getElem.1 hr
  obtain ⟨m3,h3le,h3⟩:=Stars.get k (r:=relR r) h2 (by rw [nthL_eq,gMp,gEq hk,he]; rfl)
  exact ⟨m3,(h3le.trans hm2).trans hm,h3⟩
 refine ⟨Vec.sliceN (hm1.trans hm) h1 fun x _ => relC_len x,fun r hr => ?_,fun r hr => ?_⟩
 ·obtain ⟨m3,h3,hr3⟩:=hat r hr
  obtain ⟨m4,h4le,h4⟩:=Stars.get 0 hr3 rfl
  exact ViewR.rows (h4le.trans h3) h4
 ·obtain ⟨m3,h3,hr3⟩:=hat r hr
  obtain ⟨m4,h4le,h4⟩:=Stars.get 1 hr3 rfl
  exact Vec.sliceOf (h4le.trans h3) h4
abbrev tabOk (s t : List Int) (most : Int) : Prop:=t.length = (prod s).toNat ∧ ∀ j,j < t.length → 0 ≤ t.getD j default ∧ t.getD j default ≤ most
abbrev toldR (B : Option Addr) (c' : Nat) (s : List Int) (At : Option Addr) (ct : Nat) (t : List Int) (As : Option Addr) (ca : Nat) (rs : List Rel) : List Res:=[iR B c' s,iR At ct t,Vec 116 3 As rs.length ca (rs.flatMap relC),Stars (rs.map relR)]
theorem sumAt_bd2 {p : Nat → Int} {t : List Int} {k M : Int} (ht : ∀ j,j < t.length → 0 ≤ t.getD j default ∧ t.getD j default ≤ M) (hM : 0 ≤ M) : ∀ n,n ≤ t.length → 0 ≤ sumAt p t k n ∧ sumAt p t k n ≤ n * M
 | 0,_ => by simp [sumAt]
 | n + 1,h => by
  have ih:=sumAt_bd2 (p:=p) (k:=k) ht hM n (by omega)
  have h1:=ht n (by omega)
  rw [sumAt]
  have e : ((n + 1 : Nat) : Int) * M = n * M + M:=by rw [Int.natCast_succ,Int.add_mul,Int.one_mul]
  split <;> omega
theorem relsV_of {l t : List Int} {rs : List Rel} {most : Int} (hs : Sizes l) (hT : tabOk l t most) (h0 : 0 ≤ most) (hm : most ≤ 1000) (h : RelsOk l t rs) (hn : rs.length ≤ 24) : RelsV l rs:=by
 have hc:=hs.cells
 refine ⟨hn,fun i hi => ?_,fun i hi => ?_⟩
 ·obtain ⟨⟨h1,h2,h3⟩,h4⟩:=h.each i hi
  refine ⟨⟨h1,h2,fun j hj => ?_⟩,by omega,by omega⟩
  rcases h3 j hj with h5 | h5
  ·exact .inl h5
  ·have hb:=sumAt_bd2 (p:=pubOf l (rs.getD i default).v) (k:=(j : Int)) hT.2 h0 t.length (nLr _)
   have hlt : (t.length : Int) ≤ 48:=by have:=hT.1; omega
   have h6 : (t.length : Int) * most ≤ 48 * 1000:=Int.mul_le_mul hlt hm h0 (by omega)
   rw [h5]
   right; omega
 ·have h1:=(h.each i (by omega)).2
  have h2:=(h.each (i + 1) hi).2
  omega
theorem mem_toldK {l : List Int} {v : List Row} {vs : List Int} {x : List Int × Int} : ∀ {n : Nat},x ∈ toldK l v vs n ↔ ∃ j,j < n ∧ vs.getD j default ≠ -1 ∧ x = (memK l v (j : Int) (prod l).toNat,vs.getD j default)
 | 0 => by simp [toldK]
 | n + 1 => by
  rw [toldK,List.mem_append,mem_toldK]
  constructor
  ·rintro (⟨j,h1,h2,h3⟩ | h)
   ·exact ⟨j,by omega,h2,h3⟩
   ·by_cases hz : vs.getD n default = -1
    ·rw [if_pos hz] at h; cases h
    ·rw [if_neg hz,List.mem_singleton] at h
     exact ⟨n,by omega,hz,h⟩
  ·rintro ⟨j,h1,h2,h3⟩
   rcases Nat.lt_or_ge j n with hj | hj
   ·exact .inl ⟨j,hj,h2,h3⟩
   ·obtain rfl : j = n:=by omega
    right
    rw [if_neg h2,List.mem_singleton]
    exact h3
theorem told_eq {l t : List Int} {rs : List Rel} {most : Int} (hs : Sizes l) (hT : tabOk l t most) (h0 : 0 ≤ most) (hm : most ≤ 1000) (h : RelsOk l t rs) (hn : rs.length ≤ 24) {q : EqR} (hq : cont q ∈ rs.flatMap (told l)) : GoodE (prod l).toNat q ∧ sumC t (eqn q).1 = q.2:=by
 rw [List.mem_flatMap] at hq
 obtain ⟨r,hr,hq⟩:=hq
 obtain ⟨i,hi,he⟩:=List.mem_iff_getElem.1 hr
 have hri : rs.getD i default = r:=by rw [gEl,gEq hi,he]; rfl
 have hV:=((relsV_of hs hT h0 hm h hn).each i hi).1
 have hO:=(h.each i hi).1
 rw [hri] at hV hO
 unfold told at hq
 obtain ⟨j,hj,hne,hc⟩:=mem_toldK.1 hq
 obtain ⟨⟨a,c,m⟩,z⟩:=q
 unfold cont at hc
 obtain ⟨rfl,rfl⟩:=Prod.mk.inj hc
 have hP:=hV.len
 have hvj:=hV.each j hj
 have hoj:=hO.each j hj
 have hszs:=hV.view.sizes hs
 have hk : 0 ≤ (j : Int) ∧ (j : Int) < prod (szs r.v):=⟨by omega,by omega⟩
 refine ⟨memK_good hs hV.view hk (by omega),?_⟩
 show sumC t ((memK l r.v (j : Int) (prod l).toNat).map Int.toNat) = r.val.2.2.getD j default
 rw [memK_sum,← hT.1]
 rcases hoj with h5 | h5
 ·exact absurd h5 hne
 ·exact h5.symm
end Go.Proofs.YtpcnapidlhpbkaaGreatDoor
namespace Go.Eng
section
variable {P : Program} {ops : Array Oper} {Q : Exit → Act → World → Prop} {md : Region.Mode} {S S' : World → Prop} {fin loud : List Nat}
theorem wpAnyF_weaker (h : ∀ w,S' w → S w) : ∀ (n : Nat) (listed : Array Bool) (a : Act) (w : World),wpAnyF P md ops Q S' fin n listed a w → wpAnyF P md ops Q S fin n listed a w
 | 0,_,_,_,H => H
 | n + 1,_,_,_,H => ⟨H.1,fun i hi => wpOp_mono (fun a' w' h' => ⟨fun hf => h w' (h'.1 hf),wpAnyF_weaker h n _ a' w' h'.2⟩) (H.2 i hi)⟩
def wpSegs (P : Program) (ops : Array Oper) (Q : Exit → Act → World → Prop) (loud fin : List Nat) : List (List Nat) → (World → Prop) → Act → World → Prop
 | [],_,a,w => wpMix P ops Q AnyW fin fin a w
 | g :: r,S,a,w => wpMix P ops (Exit.then (fun a w => ∃ S' : World → Prop,(∀ u,S' u → S u) ∧ S' w ∧ wpSegs P ops Q loud fin r S' a w) Q) S loud g a w
theorem wpSegs_anyF (hs : Region.noSelect ops = true) (hQ : PanicOk Q) : ∀ (gs : List (List Nat)) (S : World → Prop) (n : Nat) (listed : Array Bool) (a : Act) (w : World),Closed .any ops listed →
  mixOkF ops fin loud gs.flatten listed = true → gs.flatten.length + fin.length ≤ n → S w → wpSegs P ops Q loud fin gs S a w → wpAnyF P .any ops Q S fin n listed a w
 | [],S,n,listed,a,w,_,hok,hl,_,h => wpMix_fin hs hQ (fun k hk => by simpa using hk) fin n listed a w (fun k hk => by simpa using hk) hok (by simpa using hl) h
 | g :: gs,S,n,listed,a,w,hcl,hok,hl,hS,h => by
  rw [List.flatten_cons] at hok hl
  have key : ∀ (r : List Nat) (n : Nat) (listed : Array Bool) (a : Act) (w : World),Closed .any ops listed → mixOkF ops fin loud (r ++ gs.flatten) listed = true → (r ++ gs.flatten).length + fin.length ≤ n → S w →
    wpMix P ops (Exit.then (fun a w => ∃ S' : World → Prop,(∀ u,S' u → S u) ∧ S' w ∧ wpSegs P ops Q loud fin gs S' a w) Q) S loud r a w → wpAnyF P .any ops Q S fin n listed a w:=by
   intro r
   induction r with
   | nil =>
    rintro n listed a w hcl hok hl hS ⟨S',hi,hS',h⟩
    exact wpAnyF_weaker hi _ _ _ _ (wpSegs_anyF hs hQ gs S' n listed a w hcl hok hl hS' h)
   | cons k r ih =>
    intro n listed a w hcl hok hl hS h
    obtain ⟨o,ho,h⟩:=h
    rw [List.cons_append] at hok hl
    unfold mixOkF at hok
    rw [Bool.and_eq_true] at hok
    obtain ⟨hk,hr⟩:=hok
    cases n with
    | zero => simp at hl
    | succ n =>
     have hl' : (r ++ gs.flatten).length + fin.length ≤ n:=by simp only [List.length_cons] at hl; omega
     by_cases hc : loud.contains k = true
     ·rw [if_pos hc] at h hk
      simp only [Bool.and_eq_true,beq_iff_eq,Bool.not_eq_true'] at hk
      refine ⟨fun h0 => (by rw [hk.1] at h0; cases h0),fun i hi => ?_⟩
      rw [hk.1] at hi
      obtain rfl : i = k:=by simpa using hi
      refine wpOp_then (T:=fun a w => ∃ S' : World → Prop,(∀ u,S' u → S u) ∧ S' w ∧ wpSegs P ops Q loud fin gs S' a w) ?_
      exact wpOp_mono (fun a' w' h3 => ⟨fun _ => h3.1,ih n _ a' w' (hcl.set (by rw [hk.1]; simp)) hr hl' h3.1 h3.2⟩) h
     ·rw [if_neg hc] at h hk
      simp only [Bool.and_eq_true] at hk
      obtain ⟨v,hy,h⟩:=h
      exact wpAnyF_first ho hs hQ hk.2 n listed a w hcl (Region.free_spec ho hk.1.1) (by simpa using hk.1.2) hy hS (ih n _ _ w (hcl.set (by simpa using hk.1.2)) hr hl' hS h)
  exact key g n listed a w hcl hok hl hS h
end
section
variable {C : Cx} {e e' : Env} {I I' : PH} {R R' R0 R1 : List Res} {K K' : Act → World → Prop} {Q : Exit → Act → World → Prop} {c : Code} {ops : Array Oper} {loud fin : List Nat}
theorem Nx.p_segs {id : Nat} (hid : cid c = id) (gs : List (List Nat)) (loud fin : List Nat) (R0 : List Res) (hk : ck c = 2) (hm : C.P.follows .mixedOrders = true) (hs : Region.noSelect (cops c) = true) (hok : mixOkF (cops c) fin loud gs.flatten (Array.replicate (cops c).size false) = true) (hlen : Nat.ble (gs.flatten.length + fin.length) (cops c).size = true) (hQ : PanicOk Q) (hR : Ent R R0)
  (h : Nx C e I R (wpSegs C.P (cops c) Q loud fin gs (St C.W I R0))) : Nx C e I R (c.wp C.P Q):=by
 have hc : c = .region (cid c) (cops c) true:=by
  cases c <;> first | (simp [ck] at hk; done) | skip
  rename_i b
  cases b with
  | false => simp [ck] at hk
  | true => rfl
 clear hid
 rw [hc]
 intro a w ha hw
 refine wp_region_any hm (wpAny_of_fin _ _ _ _ (wpSegs_anyF (S:=St C.W I R0) hs hQ gs _ _ a _ (Closed.start _) hok (Nat.le_of_ble_eq_true hlen) (hw.drew.ent hR) (h a _ ha hw.drew)))
theorem Nx.segs_in {g : List Nat} {gs : List (List Nat)} {S : World → Prop} (h : Nx C e I R (wpMix C.P ops (Exit.then (fun a w => ∃ S' : World → Prop,(∀ u,S' u → S u) ∧ S' w ∧ wpSegs C.P ops Q loud fin gs S' a w) Q) S loud g)) : Nx C e I R (wpSegs C.P ops Q loud fin (g :: gs) S):=h
theorem Nx.segs_end {S : World → Prop} (h : Nx C e I R (wpMix C.P ops Q AnyW fin fin)) : Nx C e I R (wpSegs C.P ops Q loud fin [] S):=h
theorem Nx.segs_next {gs : List (List Nat)} (hle : PH.le I I') (hR : Ent R R0) (h : Nx C e I' R (wpSegs C.P ops Q loud fin gs (St C.W I' R))) : Nx C e I' R (fun a w => ∃ S' : World → Prop,(∀ u,S' u → St C.W I R0 u) ∧ S' w ∧ wpSegs C.P ops Q loud fin gs S' a w) :=
 fun a w ha hw => ⟨St C.W I' R,fun _ hu => (hu.imm_le hle).ent hR,hw,h a w ha hw⟩
end
end Go.Eng
namespace Go.Proofs.YtpcnapidlhpbkaaGreatDoor
open Go.Eng Go.Sol
attribute [local irreducible] opK wpList Code.wp Exit.then Exit.inBlock fnPost bodyPost Nx Calls Oper.wp Rd Rds Wr Ent Stars Blk Again Vec FnSpec wpMix QRun Stop Upto wpAt
theorem mem_sols {n : Nat} {l : List EqR} (hg : ∀ q ∈ l,GoodE n q) {s : List Int} : s ∈ solsOf n (eqns l) ↔ Goes n 1000000 (eqns l) (touch n (eqns l)) (List.replicate n 0) s :=
 mem_enum (fun q hq => by obtain ⟨x,hx,rfl⟩:=List.mem_map.1 hq; exact eqn_nd (hg x hx)) (inv_start hg (touch_nd _ _) fun _ => Iff.rfl)
theorem mem_ext {n x : Nat} {down : Bool} {l : List EqR} (hg : ∀ q ∈ l,GoodE n q) (hx : x ∈ touch n (eqns l)) {s : List Int} : s ∈ extOf n (eqns l) x down ↔ s ∈ solsOf n (eqns l):=by
 rw [mem_sols hg]
 refine (mem_enum (fun q hq => by obtain ⟨x,hx,rfl⟩:=List.mem_map.1 hq; exact eqn_nd (hg x hx)) (inv_start hg (ord_nd n (eqns l) x) (ord_mem hx))).trans ?_
 constructor
 ·exact fun h => ⟨h.len,fun c hc => h.same c fun h' => hc ((ord_mem hx c).1 h'),fun c hc => h.pos c ((ord_mem hx c).2 hc),h.sum⟩
 ·exact fun h => ⟨h.len,fun c hc => h.same c fun h' => hc ((ord_mem hx c).2 h'),fun c hc => h.pos c ((ord_mem hx c).1 hc),h.sum⟩
theorem ext_some {n x : Nat} (down : Bool) {l : List EqR} (hg : ∀ q ∈ l,GoodE n q) (hx : x ∈ touch n (eqns l)) (hne : solsOf n (eqns l) ≠ []) : ∃ s r,extOf n (eqns l) x down = s :: r ∧ s.length = n:=by
 obtain ⟨s0,h0⟩:=List.exists_mem_of_ne_nil _ hne
 have h1:=(mem_ext (down:=down) hg hx).2 h0
 cases he : extOf n (eqns l) x down with
 | nil => rw [he] at h1; cases h1
 | cons s r =>
  refine ⟨s,r,rfl,?_⟩
  have : s ∈ extOf n (eqns l) x down:=by rw [he]; exact List.mem_cons_self ..
  exact ((mem_sols hg).1 ((mem_ext hg hx).1 this)).len
theorem extreme_spec2 {A : Option Addr} {c : Nat} {l : List EqR} {n x : Nat} {down : Bool} {I : PH} {s : List Int} (hl : Eqs I A c l) (hg : ∀ q ∈ l,GoodE n q) (hn : n ≤ 4096) (hll : l.length ≤ 100000) (h9 : (allC l).length ≤ 100000) (hx : x ∈ touch n (eqns l)) (hs : (extOf n (eqns l) x down).headD [] = s) :
  FnSpec Tryz.prog 76 [.int .i64 (n : Int),.slice A l.length c,.int .i64 (x : Int),.bool down] I [] (fun v R' => ∃ (A' : Option Addr) (c' : Nat),v = .slice A' s.length c' ∧ R' = [iR A' c' s]):=by
 refine (extreme_spec A c l n x down I hl hg hn hll h9 hx).mono ?_
 rintro v R' ⟨A',c',tab,rfl,rfl,rfl⟩
 subst hs
 exact ⟨A',c',rfl,rfl⟩
def reachAt (n : Nat) (L : List Eqn) (c : Nat) : Rch:=if c ∈ touch n L then (((extOf n L c false).headD []).getD c 0,((extOf n L c true).headD []).getD c 0,false) else (0,0,true)
def reachR (n : Int) (l : List EqR) : List Rch × Int:=if chkQ n l = 0 then (if solsOf n.toNat (eqns l) = [] then ([],52) else ((List.range n.toNat).map (reachAt n.toNat (eqns l)),0)) else ([],chkQ n l)
abbrev rcR (A : Option Addr) (c : Nat) (r : List Rch) : Res:=Vec 73 3 A r.length c (r.flatMap rcC)
theorem list_ext_d {α : Type} [Inhabited α] {a b : List α} (hl : a.length = b.length) (h : ∀ j,j < a.length → a.getD j default = b.getD j default) : a = b:=by
 refine List.ext_getElem hl fun i h1 h2 => ?_
 have:=h i h1
 rw [gEl,gEl,gEq h1,gEq h2] at this
 exact this
theorem Reaches_spec (n : Int) (A : Option Addr) (c : Nat) (l : List EqR) (I : PH) (hl : Eqs I A c l) (h9 : (allC l).length ≤ 100000) :
  FnSpec Tryz.prog 25 [.int .i64 n,.slice A l.length c] I []
   (fun v R' => ∃ (A' : Option Addr) (c' : Nat),v = .tuple #[.slice A' (reachR n l).1.length c',.int .i64 (reachR n l).2] ∧ R' = [rcR A' c' (reachR n l).1]):=by
 have hF:=First_spec n A c l I hl h9
 unfold firstOf at hF
 unfold reachR
 refine FnSpec.enterP Tryz.func25 rfl Tryz.ntmps25 rfl fun w F => ?_
 by_cases h0 : chkQ n l = 0
 case neg =>
  rw [if_neg h0] at hF
  rw [if_neg h0]
  repeat' first | refine kW ?_ | (refine Nx.zo ?_; first | refine kP ?_ | (refine kC hF ?_; rintro _ _ ⟨A1,c1,rfl,rfl⟩)) | refine kS ?_ | refine kB fun bx => ?_ | refine kA fun A2 c2 => ?_ | refine kX (fun hc => ?_) fun hc => ?_ | fail
  exact Nx.ret_fn rfl [_] ⟨none,0,rfl,rfl⟩ ((Ent.vec_nil 73 3 _).trans (by unfold rcR; (exact zE)))
 rw [if_pos h0] at hF ⊢
 obtain ⟨h1,h2,h3,_⟩:=chk_good h0
 by_cases hso : solsOf n.toNat (eqns l) = []
 ·rw [if_pos hso]
  rw [hso] at hF
  repeat' first | refine kW ?_ | (refine Nx.zo ?_; first | refine kP ?_ | (refine kC hF ?_; rintro _ _ ⟨A1,c1,rfl,rfl⟩)) | refine kS ?_ | refine kB fun bx => ?_ | refine kA fun A2 c2 => ?_ | refine kX (fun hc => ?_) fun hc => ?_ | fail
  exact Nx.ret_fn rfl [_] ⟨none,0,rfl,rfl⟩ ((Ent.vec_nil 73 3 _).trans (by unfold rcR; (exact zE)))
 rw [if_neg hso]
 have hne : (solsOf n.toNat (eqns l)).isEmpty = false:=by simpa using hso
 rw [hne] at hF
 obtain ⟨m,rfl⟩ : ∃ m : Nat,n = m:=⟨n.toNat,by omega⟩
 rw [nCt] at hF hso h3 ⊢
 generalize ((solsOf m (eqns l)).headD []) = t0 at hF
 have hT:=Touched_spec A c l m I hl h3 (by omega)
 have hRp:=fun b => RepeatR_spec [.int .i64 0,.int .i64 0,.bool true] rfl (by simp [Value.oneCell']) b m (by omega) (by omega) I
 have hext : ∀ (x : Nat) (down : Bool),x ∈ touch m (eqns l) → ∃ s,(extOf m (eqns l) x down).headD [] = s ∧ s.length = m:=fun x down hx => by
  obtain ⟨s,r,he,hs⟩:=ext_some down h3 hx hso
  exact ⟨s,by rw [he]; rfl,hs⟩
 have htdl : (touch m (eqns l)).length ≤ m:=by
  unfold touch
  exact Nat.le_trans (List.length_filter_le _ _) (by simp)
 repeat' first | refine kW ?_ | (refine Nx.zo ?_; first | refine kP ?_ | (refine kC hF ?_; rintro _ _ ⟨A1,c1,rfl,rfl⟩) | (refine Nx.call rfl rfl rfl (by kernel_rfl) rfl (hRp _) (by exact zE) ?_; rintro _ _ ⟨b5,rfl,rfl⟩) | (refine kC hT ?_; rintro _ _ ⟨A9,c9,rfl,rfl⟩)) | refine kS ?_ | refine kB fun bx => ?_ | refine kA fun A2 c2 => ?_ | refine kX (fun hc => ?_) fun hc => ?_ | fail
 refine Nx.p_loop (σ:=Nat × List Rch) (fun s => [(0,.int .i64 (m : Int)),(1,.slice A l.length c),(9,.slice (some ⟨b5,0,none⟩) m m),(32,.slice A9 (touch m (eqns l)).length c9),(33,.int .i64 (touch m (eqns l)).length),(34,.int .i64 (s.1 : Int))])
  (fun s => [iR A9 c9 ((touch m (eqns l)).map Int.ofNat),Vec 73 3 (some ⟨b5,0,none⟩) m m (s.2.flatMap rcC),F])
  (fun s => s.1 ≤ (touch m (eqns l)).length ∧ s.2.length = m ∧ ∀ x,x < m → s.2.getD x default = if x ∈ (touch m (eqns l)).take s.1 then reachAt m (eqns l) x else (0,0,true)) (fun s => (touch m (eqns l)).length - s.1) (0,List.replicate m (0,0,true)) rfl
  ⟨nZl _,by simp,fun x hx => by dsimp only; rw [gEl,List.getElem?_replicate,if_pos hx]; simp⟩ zR ?_ ?_
 ·dsimp only
  rw [show (List.replicate m ((0,0,true) : Rch)).flatMap rcC = (List.replicate m [Value.int .i64 0,.int .i64 0,.bool true]).flatten by rw [List.flatMap_def,List.map_replicate]; rfl]
  unfold iR
  (exact zE)
 rintro ⟨k,rl⟩ ⟨hk,hrl,hrx⟩
 dsimp only at hk hrl hrx ⊢
 by_cases hlt : k < (touch m (eqns l)).length
 case neg =>
  obtain rfl : k = (touch m (eqns l)).length:=by omega
  rw [tLn] at hrx
  have he : rl = (List.range m).map (reachAt m (eqns l)):=by
   refine list_ext_d (by rw [hrl]; simp) fun x hx => ?_
   rw [hrx x (by omega),gEl (l:=List.map _ _),gMp,List.getElem?_range (by omega)]
   show _ = reachAt m (eqns l) x
   by_cases hm : x ∈ touch m (eqns l)
   ·rw [if_pos hm]
   ·rw [if_neg hm]; unfold reachAt; rw [if_neg hm]
  rw [← he]
  repeat' first | refine kS ?_ | refine kB fun bx => ?_ | refine kA fun A2 c2 => ?_ | refine kX (fun hc => ?_) fun hc => ?_ | fail
  exact Nx.ret_fn rfl [rcR (some ⟨b5,0,none⟩) m rl] ⟨some ⟨b5,0,none⟩,m,by rw [hrl],rfl⟩ (by unfold rcR; rw [hrl]; (exact zE))
 have hyt : (touch m (eqns l))[k] ∈ touch m (eqns l):=List.getElem_mem hlt
 have hyn:=(mem_touch.1 hyt).1
 have htk : (touch m (eqns l)).take (k + 1) = (touch m (eqns l)).take k ++ [(touch m (eqns l))[k]]:=tSu hlt
 have htr : ∀ (W : World) (R : List Res),Rd W I (iR A9 c9 ((touch m (eqns l)).map Int.ofNat) :: R) ((ad A9).add (k * 1)) (.int .i64 (((touch m (eqns l))[k] : Nat) : Int)):=fun W R => by
  have h:=Rd.vecEl (W:=W) (I:=I) (R:=iR A9 c9 ((touch m (eqns l)).map Int.ofNat) :: R) 0 (f:=Value.int .i64) (l:=(touch m (eqns l)).map Int.ofNat) (i:=k) rfl (by rw [lMp]; exact hlt)
  rw [gEl,gMp,gEq hlt] at h
  exact h
 refine Nx.vec_fact fun hv1 hv2 hv3 hA9 => ?_
 rw [lMp] at hv2 hA9
 generalize (touch m (eqns l))[k] = y at hyt hyn htk htr
 obtain ⟨s1,hs1,hl1⟩:=hext y false hyt
 obtain ⟨s2,hs2,hl2⟩:=hext y true hyt
 have hra : reachAt m (eqns l) y = (s1.getD y 0,s2.getD y 0,false):=by unfold reachAt; rw [if_pos hyt,hs1,hs2]
 have hE1:=extreme_spec2 hl h3 (by omega) (by omega) h9 hyt hs1
 have hE2:=extreme_spec2 hl h3 (by omega) (by omega) h9 hyt hs2
 repeat' first | ((with_reducible refine Nx.is_wp ?_); first | refine Nx.p_segs (id:=10) rfl [[0,1,2,3,4,6,9,10,11,13,5],[7,8,12],[14,15,16,17]] [5,12] [18] _ rfl rfl (by kernel_rfl) (by kernel_rfl) rfl PanicOk.auto (Ent.refl _) (Nx.segs_in ?_) | refine Nx.wo ?_) | (refine Nx.zo ?_; first | refine kP ?_ | refine Nx.indexAddr_nat rfl rfl rfl rfl rfl (by omega) (hA9 (by omega)) ?_ | refine Nx.load rfl rfl rfl (htr _ _) ?_ | (refine kC hE1 ?_; rintro _ _ ⟨Ac,cc,rfl,rfl⟩; refine Nx.vec_fact fun _ _ _ hAc => ?_)) | refine kS ?_ | refine kB fun bx => ?_ | refine kA fun A2 c2 => ?_ | refine kX (fun hc => ?_) fun hc => ?_ | fail
 refine Nx.segs_next (PH.le_refl _) (by exact zE) (Nx.segs_in ?_)
 repeat' first | refine kW ?_ | (refine Nx.zo ?_; first | refine kP ?_ | (refine kC hE2 ?_; rintro _ _ ⟨Ad,cd,rfl,rfl⟩; refine Nx.vec_fact fun _ _ _ hAd => ?_)) | refine kS ?_ | refine kB fun bx => ?_ | refine kA fun A2 c2 => ?_ | ((with_reducible refine Nx.is_mix ?_); refine kQ rfl rfl rfl rfl (by first | exact .inl rfl | exact .inr ⟨_,_,_,rfl,rfl,rfl⟩) (by first | exact QRun.opr rfl | exact QRun.idx (sz:=1) rfl rfl rfl rfl (by omega) (hAc (by omega)) | exact QRun.load rfl rfl (Rd.vecEl 0 (f:=Value.int .i64) (l:=s1) (i:=y) rfl (by omega))) ?_) | refine kX (fun hc => ?_) fun hc => ?_ | fail
 refine Nx.segs_next (PH.le_refl _) (by exact zE) (Nx.segs_in ?_)
 repeat' first | refine kS ?_ | refine kB fun bx => ?_ | refine kA fun A2 c2 => ?_ | ((with_reducible refine Nx.is_mix ?_); refine kQ rfl rfl rfl rfl (by first | exact .inl rfl | exact .inr ⟨_,_,_,rfl,rfl,rfl⟩) (by first | exact QRun.opr rfl | exact QRun.idx (sz:=1) rfl rfl rfl rfl (by omega) (hAd (by omega)) | exact QRun.load rfl rfl (Rd.vecEl 0 (f:=Value.int .i64) (l:=s2) (i:=y) rfl (by omega)) | exact QRun.idx (sz:=3) rfl rfl rfl rfl (by omega) rfl) ?_) | refine kX (fun hc => ?_) fun hc => ?_ | fail
 refine Nx.segs_next (PH.le_refl _) (by exact zE) (Nx.segs_end ?_)
 repeat' first | refine kW ?_ | (refine Nx.zo ?_; first | refine kP ?_ | refine Nx.store_elt (A:=some ⟨b5,0,none⟩) 3 rcC (l:=rl) (i:=y) (x':=(s1.getD y default,s2.getD y default,false)) rfl rfl rfl rfl rfl rcC_len (by decide) (rcC_one _) (by omega) hrl ?_) | refine kS ?_ | refine kB fun bx => ?_ | refine kA fun A2 c2 => ?_ | refine kX (fun hc => ?_) fun hc => ?_ | fail
 refine Nx.again (k + 1,rl.set y (s1.getD y default,s2.getD y default,false)) ⟨hlt,by dsimp only; rw [List.length_set]; exact hrl,fun x hx => ?_⟩ (by dsimp only; omega) zR (by unfold iR; rw [lMp]; (exact zE))
 dsimp only
 rw [htk,gEl]
 by_cases hxy : x = y
 ·subst hxy
  rw [List.getElem?_set_self (by omega),if_pos (by simp),hra]; rfl
 ·rw [List.getElem?_set_ne (Ne.symm hxy),← gEl,hrx x hx]
  by_cases hm : x ∈ (touch m (eqns l)).take k
  ·rw [if_pos hm,if_pos (by simp [hm])]
  ·rw [if_neg hm,if_neg (by simp [hm,hxy])]
end Go.Proofs.YtpcnapidlhpbkaaGreatDoor
namespace Go.Sol
theorem snoc_ind {α : Type} {p : List α → Prop} (h0 : p []) (h1 : ∀ l x,p l → p (l ++ [x])) : ∀ l,p l:=fun l => by
 rw [← List.reverse_reverse l]
 induction l.reverse with
 | nil => exact h0
 | cons x r ih => rw [List.reverse_cons]; exact h1 _ _ ih
structure Asc (N : Nat) (L : List Eqn) : Prop where
 asc : ∀ q ∈ L,q.1.Pairwise (· < ·)
 lt : ∀ q ∈ L,∀ c ∈ q.1,c < N
 val : ∀ q ∈ L,0 ≤ q.2
theorem Asc.once {N : Nat} {L : List Eqn} (h : Asc N L) : Once L:=fun q hq => (h.asc q hq).imp fun h => Nat.ne_of_lt h
theorem getD_ge {t : List Int} {c : Nat} (h : t.length ≤ c) : t.getD c 0 = 0:=by
 rw [gEl,List.getElem?_eq_none h]; rfl
end Go.Sol
namespace Go.Proofs.YtpcnapidlhpbkaaGreatDoor
open Go.Eng Go.Sol
attribute [local irreducible] opK wpList Code.wp Exit.then Exit.inBlock fnPost bodyPost Nx Calls Oper.wp Rd Rds Wr Ent Stars Blk Again Vec FnSpec wpMix QRun Stop Upto wpAt
theorem cells_bd {n : Nat} {l : List EqR} (hg : ∀ q ∈ l,GoodE n q) : ∀ q ∈ eqns l,0 ≤ q.2 ∧ q.2 ≤ 1000000:=fun q hq => by
 obtain ⟨x,hx,rfl⟩:=List.mem_map.1 hq
 exact (hg x hx).val
theorem asc_eqns {n : Nat} {l : List EqR} (hg : ∀ q ∈ l,GoodE n q) : Asc n (eqns l):=by
 refine ⟨fun q hq => ?_,fun q hq c hc => ?_,fun q hq => (cells_bd hg q hq).1⟩
 ·obtain ⟨x,hx,rfl⟩:=List.mem_map.1 hq
  exact toNat_asc (hg x hx).asc fun y hy => ((hg x hx).lt y hy).1
 ·obtain ⟨x,hx,rfl⟩:=List.mem_map.1 hq
  have:=(hg x hx).lt _ ((mem_eqn (hg x hx)).1 hc)
  omega
theorem once_eqns {n : Nat} {l : List EqR} (hg : ∀ q ∈ l,GoodE n q) : Once (eqns l):=(asc_eqns hg).once
theorem sols_sorted {n : Nat} {l : List EqR} (hg : ∀ q ∈ l,GoodE n q) : (solsOf n (eqns l)).Pairwise (ltU false (touch n (eqns l))) :=
 enum_sorted (once_eqns hg) (inv_start hg (touch_nd _ _) fun _ => Iff.rfl)
theorem ext_sorted {n x : Nat} {down : Bool} {l : List EqR} (hg : ∀ q ∈ l,GoodE n q) (hx : x ∈ touch n (eqns l)) : (extOf n (eqns l) x down).Pairwise (ltU down (ordOf n (eqns l) x)) :=
 enum_sorted (once_eqns hg) (inv_start hg (ord_nd n (eqns l) x) (ord_mem hx))
theorem le_roomOf {c : Nat} {v : Int} : ∀ (L : List Eqn),v ≤ roomOf L c ↔ v ≤ 1000001 ∧ ∀ q ∈ L,c ∈ q.1 → v ≤ q.2 + 1:=by
 refine snoc_ind ?_ ?_
 ·exact ⟨fun h => ⟨h,fun q hq => (nomatch hq)⟩,fun h => h.1⟩
 ·intro L q ih
  rw [room_snoc]
  by_cases hc : c ∈ q.1
  ·rw [if_pos hc,Int.le_min,ih]
   refine ⟨fun h => ⟨h.1.1,fun p hp hcp => ?_⟩,fun h => ⟨⟨h.1,fun p hp => h.2 p (by simp [hp])⟩,h.2 q (by simp) hc⟩⟩
   rcases List.mem_append.1 hp with hp | hp
   ·exact h.1.2 p hp hcp
   ·rw [List.mem_singleton] at hp; subst hp; exact h.2
  ·rw [if_neg hc,ih]
   refine ⟨fun h => ⟨h.1,fun p hp hcp => ?_⟩,fun h => ⟨h.1,fun p hp => h.2 p (by simp [hp])⟩⟩
   rcases List.mem_append.1 hp with hp | hp
   ·exact h.2 p hp hcp
   ·rw [List.mem_singleton] at hp; subst hp; exact absurd hcp hc
theorem ext_head {n x : Nat} {down : Bool} {l : List EqR} (hg : ∀ q ∈ l,GoodE n q) (hx : x ∈ touch n (eqns l)) {h : List Int} {r : List (List Int)} (he : extOf n (eqns l) x down = h :: r) : h ∈ solsOf n (eqns l) ∧ ∀ s ∈ solsOf n (eqns l),if down then s.getD x 0 ≤ h.getD x 0 else h.getD x 0 ≤ s.getD x 0:=by
 have hm:=fun s => mem_ext (down:=down) (s:=s) hg hx
 have hs:=ext_sorted (down:=down) hg hx
 rw [he] at hs
 refine ⟨(hm _).1 (by rw [he]; exact List.mem_cons_self ..),fun s h' => ?_⟩
 have h':=(hm _).2 h'
 rw [he] at h'
 rcases List.mem_cons.1 h' with rfl | h'
 ·cases down <;> exact Int.le_refl _
 ·rcases (List.pairwise_cons.1 hs).1 s h' with h1 | h1
  ·cases down with
   | true => rw [if_pos rfl] at h1 ⊢; omega
   | false => rw [if_neg (by decide)] at h1 ⊢; omega
  ·cases down with
   | true => rw [if_pos rfl]; omega
   | false => rw [if_neg (by decide)]; omega
theorem rows_of {A : Option Addr} {c : Nat} {o : List Row} {m I' : PH} (hm : PH.le m I') (h : Stars [Vec 31 1 A o.length c (o.map rowV),Stars (o.map rwR)] m) : RowsOf I' A c o:=by
 obtain ⟨m1,h1le,h1⟩:=Stars.get 0 h rfl
 obtain ⟨m2,h2le,h2⟩:=Stars.get 1 h rfl
 refine ⟨Vec.sliceOf (h1le.trans hm) h1,fun r hr => ?_⟩
 obtain ⟨k,hk,he⟩:=List.mem_iff_getElem.1 hr
 obtain ⟨m3,h3le,h3⟩:=Stars.get k (r:=rwR r) h2 (by rw [nthL_eq,gMp,gEq hk,he]; rfl)
 exact Vec.sliceOf ((h3le.trans h2le).trans hm) h3
theorem reach_is {n x : Nat} {l : List EqR} (hg : ∀ q ∈ l,GoodE n q) (hx : x ∈ touch n (eqns l)) (hne : solsOf n (eqns l) ≠ []) {lo hi : Int} (h1 : ∃ s ∈ solsOf n (eqns l),s.getD x 0 = lo) (h2 : ∃ s ∈ solsOf n (eqns l),s.getD x 0 = hi)
  (h3 : ∀ s ∈ solsOf n (eqns l),lo ≤ s.getD x 0 ∧ s.getD x 0 ≤ hi) : reachAt n (eqns l) x = (lo,hi,false):=by
 obtain ⟨a,ra,ha,_⟩:=ext_some false hg hx hne
 obtain ⟨b,rb,hb,_⟩:=ext_some true hg hx hne
 have ga:=ext_head hg hx ha
 have gb:=ext_head hg hx hb
 unfold reachAt
 rw [if_pos hx,ha,hb]
 obtain ⟨s1,hs1,e1⟩:=h1
 obtain ⟨s2,hs2,e2⟩:=h2
 have a1:=ga.2 s1 hs1
 have b1:=gb.2 s2 hs2
 rw [if_neg (by decide)] at a1
 rw [if_pos rfl] at b1
 have a2:=(h3 a ga.1).1
 have b2:=(h3 b gb.1).2
 show (a.getD x 0,b.getD x 0,false) = _
 rw [show a.getD x 0 = lo by omega,show b.getD x 0 = hi by omega]
abbrev Rchs:=SliceN rcC 3
theorem asc_room : ∀ {xs : List Int} {a b : Int},xs.Pairwise (· < ·) → (∀ x ∈ xs,a ≤ x ∧ x < b) → (xs.length : Int) ≤ max 0 (b - a)
 | [],a,b,_,_ => by simp; omega
 | x :: r,a,b,h,hb => by
  rw [List.pairwise_cons] at h
  have hx:=hb x List.mem_cons_self
  have ih:=asc_room (a:=x + 1) (b:=b) h.2 fun y hy => by have:=h.1 y hy; have:=hb y (List.mem_cons_of_mem _ hy); omega
  rw [List.length_cons]
  omega
theorem good_len {n : Nat} {q : EqR} (hg : GoodE n q) : q.1.2.2.length ≤ n:=by
 have:=asc_room hg.asc hg.lt
 omega
theorem allC_good {n : Nat} : ∀ {l : List EqR},(∀ q ∈ l,GoodE n q) → (allC l).length ≤ l.length * n
 | [],_ => by simp [allC]
 | q :: l,hg => by
  have ih:=allC_good (l:=l) fun p hp => hg p (List.mem_cons_of_mem _ hp)
  have h1:=good_len (hg q List.mem_cons_self)
  show (q.1.2.2 ++ allC l).length ≤ _
  rw [lAp,List.length_cons,Nat.succ_mul]
  omega
theorem valid_of {N : Nat} {qs : List EqR} (hN : 1 ≤ N ∧ N ≤ 48) (hl : qs.length ≤ 1152) (hg : ∀ q ∈ qs,GoodE N q) : validB (N : Int) qs = true:=by
 unfold validB
 rw [decide_eq_true (show 1 ≤ (N : Int) ∧ (N : Int) ≤ 48 by omega),decide_eq_true hl,Bool.true_and,Bool.true_and,List.all_eq_true]
 exact fun q hq => rightB_iff.2 (hg q hq)
theorem chk_of {N : Nat} {qs : List EqR} (hN : 1 ≤ N ∧ N ≤ 48) (hl : qs.length ≤ 1152) (hg : ∀ q ∈ qs,GoodE N q) : chkQ (N : Int) qs = if smallB N (eqns qs) = false then 1 else 0:=by
 unfold chkQ
 rw [valid_of hN hl hg,if_neg (by decide),nCt]
def wantL (N : Nat) (U : List Nat) (t : List Int) : List Int:=(List.range N).map fun c => if c ∈ U then t.getD c 0 else 0
theorem wantL_len (N : Nat) (U : List Nat) (t : List Int) : (wantL N U t).length = N:=by simp [wantL]
theorem wantL_at {N : Nat} {U : List Nat} {t : List Int} {c : Nat} (hc : c < N) : (wantL N U t).getD c 0 = if c ∈ U then t.getD c 0 else 0:=by
 unfold wantL
 rw [gEl,gMp,List.getElem?_range hc]; rfl
theorem wantL_out {N : Nat} {U : List Nat} {t : List Int} {c : Nat} (hc : ¬ c < N) : (wantL N U t).getD c 0 = 0:=getD_ge (by rw [wantL_len]; omega)
theorem want_sol {N : Nat} {l : List EqR} {t : List Int} (hg : ∀ q ∈ l,GoodE N q) (hp : ∀ c ∈ touch N (eqns l),0 ≤ t.getD c 0 ∧ t.getD c 0 ≤ 1000000) (hs : ∀ q ∈ l,sumC t (eqn q).1 = q.2) : wantL N (touch N (eqns l)) t ∈ solsOf N (eqns l):=by
 have hat : ∀ c ∈ touch N (eqns l),(wantL N (touch N (eqns l)) t).getD c 0 = t.getD c 0:=fun c hc => by
  rw [wantL_at (mem_touch.1 hc).1,if_pos hc]
 refine (mem_sols hg).2 ⟨wantL_len _ _ _,fun c hc => ?_,fun c hc => by rw [hat c hc]; exact hp c hc,fun q hq => ?_⟩
 ·rw [zeros_at]
  by_cases hN : c < N
  ·rw [wantL_at hN,if_neg hc]
  ·exact wantL_out hN
 ·obtain ⟨p,hpl,rfl⟩:=List.mem_map.1 hq
  rw [← show sumC t (eqn p).1 = (eqn p).2 from hs p hpl]
  refine sumC_congr fun c hc => hat c (mem_touch.2 ⟨?_,eqn p,hq,hc⟩)
  have:=(hg p hpl).lt (c : Int) ((mem_eqn (hg p hpl)).1 hc)
  omega
theorem sols_sum {N : Nat} {l : List EqR} (hg : ∀ q ∈ l,GoodE N q) {s : List Int} (hs : s ∈ solsOf N (eqns l)) : ∀ q ∈ l,sumC s (eqn q).1 = q.2:=fun q hq => ((mem_sols hg).1 hs).sum (eqn q) (List.mem_map.2 ⟨q,hq,rfl⟩)
theorem eqs_of {A : Option Addr} {c : Nat} {qs : List EqR} {m m1 m2 I' : PH} (hm : PH.le m I') (h1 : Vec 46 2 A qs.length c (qs.flatMap eqC) m1) (hm1 : PH.le m1 m) (h2 : Stars (qs.map fun q => rowR q.1) m2) (hm2 : PH.le m2 m) : Eqs I' A c qs:=by
 refine ⟨Vec.sliceN (hm1.trans hm) h1 fun x _ => eqC_len x,fun q hq => ?_⟩
 obtain ⟨k,hk,he⟩:=List.mem_iff_getElem.1 hq
 obtain ⟨m3,h3le,h3⟩:=Stars.get k (r:=rowR q.1) h2 (by rw [nthL_eq,gMp,gEq hk,he]; rfl)
 exact Vec.sliceOf ((h3le.trans hm2).trans hm) h3
theorem Nx.giveRows {C : Cx} {e : Env} {I : PH} {R : List Res} {K : Act → World → Prop} {A : Option Addr} {c : Nat} {o : List Row} {RR : List Res}
  (hR : Ent R (Stars (rowsR A c o) :: RR)) (h : ∀ I',PH.le I I' → RowsOf I' A c o → Nx C e I' RR K) : Nx C e I R K:=by
 refine Nx.ent hR ?_
 refine Nx.freezeAt 0 rfl fun I1 m1 hI1 hm1 h1 => ?_
 exact h I1 hI1 (rows_of hm1 h1)
theorem touch_len (N : Nat) (L : List Eqn) : (touch N L).length ≤ N:=by
 have:=List.length_filter_le (fun c => L.any fun q => decide (c ∈ q.1)) (List.range N)
 rw [List.length_range] at this
 exact this
def numT (z : Int) : List UInt8:=if z < 0 then [45,UInt8.ofNat (48 + (-z).toNat)] else [UInt8.ofNat (48 + z.toNat)]
abbrev bytesR (A : Option Addr) (c : Nat) (l : List UInt8) : Res:=Vec 5 1 A l.length c (l.map byteV)
theorem digit_spec (z : Nat) (hz : z ≤ 9) (I : PH) : FnSpec Tryz.prog 248 [.int .i64 z] I [] (fun v R' => v = strV [UInt8.ofNat (48 + z)] ∧ R' = []):=by
 refine FnSpec.enterP Tryz.func248 rfl Tryz.ntmps248 rfl fun w F => ?_
 repeat' first | refine kW ?_ | (refine Nx.zo ?_; first | refine kP ?_ | refine Nx.slice_str (l:=[48,49,50,51,52,53,54,55,56,57,97,98,99,100,101,102,103,104,105,106,107,108,109,110,111,112,113,114,115,116,117,118,119,120,121,122]) (i:=z) (j:=z + 1) rfl rfl rfl rfl rfl (by omega) (by simp; omega) ?_) | refine kS ?_ | refine kB fun bx => ?_ | refine kA fun A2 c2 => ?_ | refine kX (fun hc => ?_) fun hc => ?_ | fail
 refine Nx.ret_fn rfl [] ⟨?_,rfl⟩ (by exact zE)
 have : z = 0 ∨ z = 1 ∨ z = 2 ∨ z = 3 ∨ z = 4 ∨ z = 5 ∨ z = 6 ∨ z = 7 ∨ z = 8 ∨ z = 9:=by omega
 rcases this with rfl | rfl | rfl | rfl | rfl | rfl | rfl | rfl | rfl | rfl <;> rfl
theorem AppendUint_spec (A : Option Addr) (c : Nat) (l : List UInt8) (z : Nat) (hz : z ≤ 9) (hl : l.length ≤ 100000) (I : PH) : FnSpec Tryz.prog 222 [.slice A l.length c,.int .u64 z,.int .i64 10] I [bytesR A c l]
  (fun v R' => ∃ A' c',v = .slice A' (l ++ [UInt8.ofNat (48 + z)]).length c' ∧ R' = [bytesR A' c' (l ++ [UInt8.ofNat (48 + z)])]):=by
 refine FnSpec.enterP Tryz.func222 rfl Tryz.ntmps222 rfl fun w F => ?_
 repeat' first | refine kW ?_ | (refine Nx.zo ?_; first | refine kP ?_ | refine kV (digit_spec z hz I) ?_ | refine Nx.append_strB 0 rfl rfl rfl rfl rfl (by kernel_rfl) rfl rfl (by simp; omega) (fun A2 c2 => ?_)) | refine kS ?_ | refine kB fun bx => ?_ | refine kA fun A2 c2 => ?_ | refine kX (fun hc => ?_) fun hc => ?_ | fail
 exact Nx.ret_fn rfl [_] ⟨_,_,rfl,rfl⟩ (by exact zE)
theorem negU {m : Nat} (hm : m ≤ 9) : IntKind.u64.wrap (0 - -(m : Int) % B64) = m:=by
 rw [IntKind.wrap_u64]; unfold B64; omega
theorem run_negU {P : Program} {m : Nat} (hm : m ≤ 9) : pureRun P (Op.unary .neg (.int .u64 (-(m : Int) % B64))) = some (.int .u64 (m : Int)):=by
 show some (Value.int .u64 (IntKind.u64.wrap (0 - -(m : Int) % B64))) = _
 rw [negU hm]
theorem AppendInt0_spec (A : Option Addr) (c : Nat) (l : List UInt8) (z : Int) (hz : -9 ≤ z ∧ z ≤ 9) (hl : l.length ≤ 90000) (I : PH) : FnSpec Tryz.prog 180 [.slice A l.length c,.int .i64 z,.int .i64 10] I [bytesR A c l]
  (fun v R' => ∃ A' c',v = .slice A' (l ++ numT z).length c' ∧ R' = [bytesR A' c' (l ++ numT z)]):=by
 by_cases h0 : z < 0
 ·unfold numT
  rw [if_pos h0]
  obtain ⟨m,hm⟩ : ∃ m : Nat,(-z).toNat = m ∧ m ≤ 9 ∧ z = -(m : Int):=⟨(-z).toNat,rfl,by omega,by omega⟩
  obtain ⟨hm1,hm2,rfl⟩:=hm
  rw [hm1]
  refine FnSpec.enterP Tryz.func180 rfl Tryz.ntmps180 rfl fun w F => ?_
  repeat' first | refine kW ?_ | (refine Nx.zo ?_; first | refine kP ?_ | refine Nx.conv_u64 rfl rfl rfl rfl ?_ | refine Nx.un rfl (v:=.int .u64 (m : Int)) (run_negU hm2) rfl ?_ | refine Nx.append_bytes 0 (l:=l) (l2:=[45]) rfl rfl rfl rfl (by kernel_rfl) rfl rfl rfl rfl rfl (by omega) (fun A2 c2 => ?_)) | refine kS ?_ | refine kB fun bx => ?_ | refine kA fun A2 c2 => ?_ | refine kX (fun hc => ?_) fun hc => ?_ | fail
  refine Nx.at_op rfl rfl ?_
  refine Nx.call rfl rfl rfl (by kernel_rfl) rfl (AppendUint_spec A2 c2 (l ++ [45]) m hm2 (by simp; omega) I) (by exact zE) ?_
  rintro u R' ⟨A3,c3,rfl,rfl⟩
  repeat' first | refine kS ?_ | refine kB fun bx => ?_ | refine kA fun A2 c2 => ?_ | refine kX (fun hc => ?_) fun hc => ?_ | fail
  refine Nx.ret_fn rfl [_] ⟨A3,c3,?_,?_⟩ (by exact zE)
  ·rw [List.append_assoc]; rfl
  ·rw [List.append_assoc]; rfl
 ·unfold numT
  rw [if_neg h0]
  obtain ⟨m,rfl⟩ : ∃ m : Nat,z = m:=⟨z.toNat,by omega⟩
  rw [nCt]
  have hm64 : (m : Int) % B64 = m:=by unfold B64; omega
  refine FnSpec.enterP Tryz.func180 rfl Tryz.ntmps180 rfl fun w F => ?_
  repeat' first | refine kW ?_ | (refine Nx.zo ?_; first | refine kP ?_ | refine Nx.conv_u64 rfl rfl rfl rfl ?_) | refine kS ?_ | refine kB fun bx => ?_ | refine kA fun A2 c2 => ?_ | refine kX (fun hc => ?_) fun hc => ?_ | fail
  rw [hm64]
  refine Nx.at_op rfl rfl ?_
  refine Nx.call rfl rfl rfl (by kernel_rfl) rfl (AppendUint_spec A c l m (by omega) (by omega) I) (by exact zE) ?_
  rintro u R' ⟨A3,c3,rfl,rfl⟩
  repeat' first | refine kS ?_ | refine kB fun bx => ?_ | refine kA fun A2 c2 => ?_ | refine kX (fun hc => ?_) fun hc => ?_ | fail
  exact Nx.ret_fn rfl [_] ⟨A3,c3,rfl,rfl⟩ (by exact zE)
theorem AppendInt_spec (A : Option Addr) (c : Nat) (l : List UInt8) (z : Int) (hz : -9 ≤ z ∧ z ≤ 9) (hl : l.length ≤ 90000) (I : PH) : FnSpec Tryz.prog 125 [.slice A l.length c,.int .i64 z,.int .i64 10] I [bytesR A c l]
  (fun v R' => ∃ A' c',v = .slice A' (l ++ numT z).length c' ∧ R' = [bytesR A' c' (l ++ numT z)]):=by
 refine FnSpec.enterP Tryz.func125 rfl Tryz.ntmps125 rfl fun w F => ?_
 repeat' first | refine kS ?_ | refine kB fun bx => ?_ | refine kA fun A2 c2 => ?_ | refine kX (fun hc => ?_) fun hc => ?_ | fail
 refine Nx.at_op rfl rfl ?_
 refine Nx.call rfl rfl rfl (by kernel_rfl) rfl (AppendInt0_spec A c l z hz hl I) (by exact zE) ?_
 rintro u R' ⟨A3,c3,rfl,rfl⟩
 repeat' first | refine kS ?_ | refine kB fun bx => ?_ | refine kA fun A2 c2 => ?_ | refine kX (fun hc => ?_) fun hc => ?_ | fail
 exact Nx.ret_fn rfl [_] ⟨A3,c3,rfl,rfl⟩ (by exact zE)
def rowT (l : List Int) : List UInt8:=l.flatMap fun z => numT z ++ [32]
theorem numT_len (z : Int) : 1 ≤ (numT z).length ∧ (numT z).length ≤ 2:=by unfold numT; split <;> simp
theorem rowT_succ {l : List Int} {k : Nat} (hk : k < l.length) : rowT (l.take (k + 1)) = rowT (l.take k) ++ numT (l.getD k default) ++ [32]:=by
 unfold rowT
 rw [tSu hk,List.flatMap_append,gEl,gEq hk]
 simp
theorem rowT_len (l : List Int) : (rowT l).length ≤ 3 * l.length:=by
 induction l with
 | nil => simp [rowT]
 | cons z r ih =>
  have:=numT_len z
  unfold rowT at ih ⊢
  simp only [List.flatMap_cons,List.length_append,List.length_cons,List.length_nil]
  omega
def Small (l : List Int) : Prop:=∀ z ∈ l,-9 ≤ z ∧ z ≤ 9
theorem ofNat_inj {a b : Nat} (ha : a ≤ 9) (hb : b ≤ 9) (h : UInt8.ofNat (48 + a) = UInt8.ofNat (48 + b)) : a = b:=by
 have:=congrArg UInt8.toNat h
 simp only [UInt8.toNat_ofNat'] at this
 omega
theorem dig_ne {a : Nat} (ha : a ≤ 9) : UInt8.ofNat (48 + a) ≠ 45 ∧ UInt8.ofNat (48 + a) ≠ 59 ∧ UInt8.ofNat (48 + a) ≠ 32:=by
 have key : ∀ c : UInt8,c.toNat < 48 ∨ 57 < c.toNat → UInt8.ofNat (48 + a) ≠ c:=fun c hc h => by
  have:=congrArg UInt8.toNat h
  simp only [UInt8.toNat_ofNat'] at this
  omega
 exact ⟨key _ (by decide),key _ (by decide),key _ (by decide)⟩
theorem numT_inj {z z' : Int} (hz : -9 ≤ z ∧ z ≤ 9) (hz' : -9 ≤ z' ∧ z' ≤ 9) {X X' : List UInt8} (h : numT z ++ X = numT z' ++ X') : z = z' ∧ X = X':=by
 unfold numT at h
 by_cases h0 : z < 0 <;> by_cases h1 : z' < 0
 ·rw [if_pos h0,if_pos h1] at h
  simp only [List.cons_append,List.nil_append,List.cons.injEq,true_and] at h
  have:=ofNat_inj (by omega) (by omega) h.1
  exact ⟨by omega,h.2⟩
 ·rw [if_pos h0,if_neg h1] at h
  simp only [List.cons_append,List.nil_append,List.cons.injEq] at h
  exact absurd h.1.symm (dig_ne (by omega)).1
 ·rw [if_neg h0,if_pos h1] at h
  simp only [List.cons_append,List.nil_append,List.cons.injEq] at h
  exact absurd h.1 (dig_ne (by omega)).1
 ·rw [if_neg h0,if_neg h1] at h
  simp only [List.cons_append,List.nil_append,List.cons.injEq] at h
  have:=ofNat_inj (by omega) (by omega) h.1
  exact ⟨by omega,h.2⟩
theorem numT_59 {z : Int} (hz : -9 ≤ z ∧ z ≤ 9) {X X' : List UInt8} : numT z ++ X ≠ 59 :: X':=fun h => by
 unfold numT at h
 split at h
 ·simp only [List.cons_append,List.cons.injEq] at h
  exact absurd h.1 (by decide)
 ·simp only [List.cons_append,List.cons.injEq] at h
  exact (dig_ne (by omega)).2.1 h.1
theorem rowT_cons (z : Int) (l : List Int) : rowT (z :: l) = numT z ++ (32 :: rowT l):=by simp [rowT]
theorem rowT_inj : ∀ {l l' : List Int} {X X' : List UInt8},Small l → Small l' → rowT l ++ 59 :: X = rowT l' ++ 59 :: X' → l = l' ∧ X = X'
 | [],[],X,X',_,_,h => by
  simp only [rowT,List.flatMap_nil,List.nil_append,List.cons.injEq,true_and] at h
  exact ⟨rfl,h⟩
 | [],z :: l',X,X',_,h2,h => by
  rw [rowT_cons,List.append_assoc] at h
  exact absurd h.symm (numT_59 (h2 z List.mem_cons_self))
 | z :: l,[],X,X',h1,_,h => by
  rw [rowT_cons,List.append_assoc] at h
  exact absurd h (numT_59 (h1 z List.mem_cons_self))
 | z :: l,z' :: l',X,X',h1,h2,h => by
  rw [rowT_cons,rowT_cons,List.append_assoc,List.append_assoc] at h
  obtain ⟨he,h⟩:=numT_inj (h1 z List.mem_cons_self) (h2 z' List.mem_cons_self) h
  simp only [List.cons_append,List.cons.injEq,true_and] at h
  obtain ⟨hl,hX⟩:=rowT_inj (fun x hx => h1 x (List.mem_cons_of_mem _ hx)) (fun x hx => h2 x (List.mem_cons_of_mem _ hx)) h
  exact ⟨by rw [he,hl],hX⟩
def badV (z : Int) : Bool:=decide (z ≠ -1) && !decide (0 ≤ z ∧ z ≤ 1000000)
theorem bad_spec (z : Int) (I : PH) : FnSpec Tryz.prog 179 [.int .i64 z] I [] (fun v R' => v = .bool (badV z) ∧ R' = []):=by
 have hv:=value_spec z I
 unfold badV
 refine FnSpec.enterP Tryz.func179 rfl Tryz.ntmps179 rfl fun w F => ?_
 by_cases h : z = -1
 ·rw [decide_eq_false (fun h' : z ≠ -1 => h' h),Bool.false_and]
  repeat' first | refine kW ?_ | (refine Nx.zo ?_; first | refine kP ?_ | refine kV hv ?_) | refine kS ?_ | refine kB fun bx => ?_ | refine kA fun A2 c2 => ?_ | refine kX (fun hc => ?_) fun hc => ?_ | fail
  exact kT
 ·rw [decide_eq_true (show z ≠ -1 from h),Bool.true_and]
  repeat' first | refine kW ?_ | (refine Nx.zo ?_; first | refine kP ?_ | refine kV hv ?_) | refine kS ?_ | refine kB fun bx => ?_ | refine kA fun A2 c2 => ?_ | refine kX (fun hc => ?_) fun hc => ?_ | fail
  exact kT
def relE (_ : List Int) (r : Rel) (before : Int) : Int :=
 if r.num ≤ before ∨ 24 ≤ r.num then 48 else if (r.val.2.2.length : Int) ≠ prod (szs r.v) then 17 else if r.val.2.2.any badV = true then 2 else 0
theorem echeck_spec (A : Option Addr) (c : Nat) (l : List Int) (r : Rel) (before : Int) (I : PH) (hl : Ints I A c l) (hs : Sizes l) (hv : RowsOf I r.va r.vc r.v) (hd : Ints I r.val.1 r.val.2.1 r.val.2.2) (hw : Viewed l r.v) :
  FnSpec Tryz.prog 123 [.agg #[.slice A l.length c],.agg #[.int .i64 r.num,.slice r.va r.v.length r.vc,.slice r.val.1 r.val.2.2.length r.val.2.1],.int .i64 before] I [] (fun u R' => u = .int .i64 (relE l r before) ∧ R' = []):=by
 obtain ⟨num,B,cv,v,D,cd,vs⟩:=r
 dsimp only at hv hd hw ⊢
 have hvl:=hd.len
 have hP:=Published_spec A B c cv l v I hl hs hv hw
 have hC:=ContainsFunc_spec 179 badV D cd vs I hd (by kernel_rfl) (fun z => bad_spec z I)
 unfold relE
 dsimp only
 generalize prod (szs v) = P at hP
 refine FnSpec.enterP Tryz.func123 rfl Tryz.ntmps123 rfl fun w F => ?_
 by_cases h1 : num ≤ before
 ·rw [if_pos (.inl h1)]
  repeat' first | refine kS ?_ | refine kB fun bx => ?_ | refine kA fun A2 c2 => ?_ | refine kX (fun hc => ?_) fun hc => ?_ | fail
  exact kT
 by_cases h2 : 24 ≤ num
 ·rw [if_pos (.inr h2)]
  repeat' first | refine kS ?_ | refine kB fun bx => ?_ | refine kA fun A2 c2 => ?_ | refine kX (fun hc => ?_) fun hc => ?_ | fail
  exact kT
 rw [if_neg (by omega)]
 by_cases h3 : (vs.length : Int) ≠ P
 ·rw [if_pos h3]
  repeat' first | ((with_reducible refine Nx.is_wp ?_); first | refine Nx.wo ?_ | refine kD 6 [0,1,2,3,4,5,6,7] [6] ?_) | (refine Nx.zo ?_; first | refine kP ?_ | refine Nx.loads rfl rfl rfl rfl (Rds.cut 0 1 rfl rfl) rfl ?_ | refine Nx.callv rfl rfl rfl (by kernel_rfl) rfl (View_spec _ _ _ _ _ _ _ hl hs hv hw) ?_ | refine kV hP ?_) | refine kS ?_ | refine kB fun bx => ?_ | refine kA fun A2 c2 => ?_ | ((with_reducible refine Nx.is_mix ?_); refine kQ rfl rfl rfl rfl (by first | exact .inl rfl | exact .inr ⟨_,_,_,rfl,rfl,rfl⟩) (by first | exact QRun.opr rfl | exact QRun.loads rfl rfl rfl (Rds.cut 0 1 rfl rfl) rfl) ?_) | refine kX (fun hc => ?_) fun hc => ?_ | fail
  exact kT
 rw [if_neg h3]
 have h3 : (vs.length : Int) = P:=Decidable.byContradiction h3
 cases hb : vs.any badV with
 | true =>
  rw [if_pos rfl]
  rw [hb] at hC
  repeat' first | ((with_reducible refine Nx.is_wp ?_); first | refine Nx.wo ?_ | refine kD 6 [0,1,2,3,4,5,6,7] [6] ?_) | (refine Nx.zo ?_; first | refine kP ?_ | refine Nx.loads rfl rfl rfl rfl (Rds.cut 0 1 rfl rfl) rfl ?_ | refine Nx.callv rfl rfl rfl (by kernel_rfl) rfl (View_spec _ _ _ _ _ _ _ hl hs hv hw) ?_ | refine kV hP ?_ | refine kV hC ?_) | refine kS ?_ | refine kB fun bx => ?_ | refine kA fun A2 c2 => ?_ | ((with_reducible refine Nx.is_mix ?_); refine kQ rfl rfl rfl rfl (by first | exact .inl rfl | exact .inr ⟨_,_,_,rfl,rfl,rfl⟩) (by first | exact QRun.opr rfl | exact QRun.loads rfl rfl rfl (Rds.cut 0 1 rfl rfl) rfl) ?_) | refine kX (fun hc => ?_) fun hc => ?_ | fail
  exact kT
 | false =>
  rw [if_neg (by decide)]
  rw [hb] at hC
  repeat' first | ((with_reducible refine Nx.is_wp ?_); first | refine Nx.wo ?_ | refine kD 6 [0,1,2,3,4,5,6,7] [6] ?_) | (refine Nx.zo ?_; first | refine kP ?_ | refine Nx.loads rfl rfl rfl rfl (Rds.cut 0 1 rfl rfl) rfl ?_ | refine Nx.callv rfl rfl rfl (by kernel_rfl) rfl (View_spec _ _ _ _ _ _ _ hl hs hv hw) ?_ | refine kV hP ?_ | refine kV hC ?_) | refine kS ?_ | refine kB fun bx => ?_ | refine kA fun A2 c2 => ?_ | ((with_reducible refine Nx.is_mix ?_); refine kQ rfl rfl rfl rfl (by first | exact .inl rfl | exact .inr ⟨_,_,_,rfl,rfl,rfl⟩) (by first | exact QRun.opr rfl | exact QRun.loads rfl rfl rfl (Rds.cut 0 1 rfl rfl) rfl) ?_) | refine kX (fun hc => ?_) fun hc => ?_ | fail
  exact kT
def relsF (l : List Int) : Int → List Rel → Int
 | _,[] => 0
 | b,r :: rest => if relE l r b ≠ 0 then relE l r b else relsF l r.num rest
def relsE (l : List Int) (rs : List Rel) : Int:=if 24 < rs.length then 1 else relsF l (-1) rs
theorem drop_atR {l : List Rel} {k : Nat} (hk : k < l.length) : l.drop k = l.getD k default :: l.drop (k + 1):=by
 rw [List.drop_eq_getElem_cons hk,gEl,gEq hk]; rfl
theorem relsF_at {l : List Int} {rs : List Rel} {k : Nat} {b : Int} (hk : k < rs.length) : relsF l b (rs.drop k) = if relE l (rs.getD k default) b ≠ 0 then relE l (rs.getD k default) b else relsF l (rs.getD k default).num (rs.drop (k + 1)):=by
 rw [drop_atR hk,relsF]
theorem ECheck_spec (A As : Option Addr) (c cs : Nat) (l : List Int) (rs : List Rel) (I : PH) (hl : Ints I A c l) (hs : Sizes l) (hr : Rels I As cs rs) (hw : ∀ r ∈ rs,Viewed l r.v) :
  FnSpec Tryz.prog 66 [.agg #[.slice A l.length c],.slice As rs.length cs] I [] (fun u R' => u = .int .i64 (relsE l rs) ∧ R' = []):=by
 have hrl:=hr.outer.len
 refine FnSpec.enterP Tryz.func66 rfl Tryz.ntmps66 rfl fun w F => ?_
 unfold relsE
 by_cases h24 : 24 < rs.length
 ·rw [if_pos h24]
  repeat' first | refine kW ?_ | (refine Nx.zo ?_; first | refine kP ?_ | refine Nx.callv rfl rfl rfl (by kernel_rfl) rfl (Check_spec _ _ _ _ hl hs) ?_) | refine kS ?_ | refine kB fun bx => ?_ | refine kA fun A2 c2 => ?_ | refine kX (fun hc => ?_) fun hc => ?_ | fail
  exact kT
 rw [if_neg h24]
 repeat' first | refine kW ?_ | (refine Nx.zo ?_; first | refine kP ?_ | refine Nx.callv rfl rfl rfl (by kernel_rfl) rfl (Check_spec _ _ _ _ hl hs) ?_) | refine kS ?_ | refine kB fun bx => ?_ | refine kA fun A2 c2 => ?_ | refine kX (fun hc => ?_) fun hc => ?_ | fail
 revert bx; intro b2
 refine Nx.p_loop (σ:=Nat × Int) (fun s => [(2,.pointer (some ⟨b2,0,none⟩)),(6,.int .i64 s.2),(18,.slice As rs.length cs),(19,.int .i64 rs.length),(20,.int .i64 (s.1 : Int))])
  (fun _ => [Blk b2 54 [.slice A l.length c],F]) (fun s => s.1 ≤ rs.length ∧ relsF l (-1) rs = relsF l s.2 (rs.drop s.1)) (fun s => rs.length - s.1) (0,-1) rfl ⟨nZl _,rfl⟩ zR (by exact zE) ?_
 rintro ⟨i,b⟩ ⟨hi,he⟩
 dsimp only at hi he ⊢
 by_cases hiv : i < rs.length
 case neg =>
  rw [List.drop_eq_nil_of_le (by omega),relsF] at he
  rw [he]
  repeat' first | refine kS ?_ | refine kB fun bx => ?_ | refine kA fun A2 c2 => ?_ | refine kX (fun hc => ?_) fun hc => ?_ | fail
  exact kT
 rw [relsF_at hiv] at he
 have hwi:=hw _ (getD_memR hiv)
 have hS:=echeck_spec A c l (rs.getD i default) b I hl hs (hr.view _ (getD_memR hiv)) (hr.val _ (getD_memR hiv)) hwi
 have hrds : ∀ (W : World) (R : List Res),Rds W I R ((ad As).add (i * 3)) (relC (rs.getD i default)):=fun W R => hr.outer.rds hiv
 generalize rs.getD i default = r at he hS hrds
 obtain ⟨num,va,vc,v,D,cd,vs⟩:=r
 dsimp only at he hS
 replace hrds : ∀ (W : World) (R : List Res),Rds W I R ((ad As).add (i * 3)) [.int .i64 num,.slice va v.length vc,.slice D vs.length cd]:=hrds
 generalize relE l ⟨num,va,vc,v,(D,cd,vs)⟩ b = er at he hS
 by_cases h0 : er = 0
 ·rw [if_neg (by omega)] at he
  subst h0
  repeat' first | refine kW ?_ | (refine Nx.zo ?_; first | refine kP ?_ | refine Nx.indexAddr_nat rfl rfl rfl rfl rfl hiv (hr.outer.isSome (by omega) (by omega)) ?_ | refine Nx.loads rfl rfl rfl rfl (hrds _ _) rfl ?_ | refine kV hS ?_) | refine kS ?_ | refine kB fun bx => ?_ | refine kA fun A2 c2 => ?_ | refine kX (fun hc => ?_) fun hc => ?_ | fail
  exact Nx.again (i + 1,num) ⟨hiv,he⟩ (by dsimp only; omega) zR (by exact zE)
 ·rw [if_pos h0] at he
  rw [he]
  repeat' first | refine kW ?_ | (refine Nx.zo ?_; first | refine kP ?_ | refine Nx.indexAddr_nat rfl rfl rfl rfl rfl hiv (hr.outer.isSome (by omega) (by omega)) ?_ | refine Nx.loads rfl rfl rfl rfl (hrds _ _) rfl ?_ | refine kV hS ?_) | refine kS ?_ | refine kB fun bx => ?_ | refine kA fun A2 c2 => ?_ | refine kX (fun hc => ?_) fun hc => ?_ | fail
  exact kT
end Go.Proofs.YtpcnapidlhpbkaaGreatDoor
namespace Go.Eng
theorem Ent.app {R R' : List Res} (h : Ent R R') : ∀ A : List Res,Ent (A ++ R) (A ++ R')
 | [] => h
 | _ :: A => Ent.cons (Ent.app h A)
theorem Ent.stars_app {A B R : List Res} : Ent (Stars A :: Stars B :: R) (Stars (A ++ B) :: R):=by
 refine Ent.unstars.trans ?_
 refine (Ent.app Ent.unstars A).trans ?_
 rw [← List.append_assoc]
 exact Ent.stars
end Go.Eng
namespace Go.Proofs.YtpcnapidlhpbkaaGreatDoor
open Go.Eng Go.Sol
attribute [local irreducible] opK wpList Code.wp Exit.then Exit.inBlock fnPost bodyPost Nx Calls Oper.wp Rd Rds Wr Ent Stars Blk Again Vec FnSpec wpMix QRun Stop Upto wpAt
theorem eq_one (l : List EqR) : ∀ u ∈ l.flatMap eqC,u.oneCell' = true:=fun u hu => by
 obtain ⟨x,_,hx⟩:=List.mem_flatMap.1 hu
 simp only [eqC,List.mem_cons,List.not_mem_nil,or_false] at hx
 rcases hx with rfl | rfl <;> rfl
theorem relE_ok {l : List Int} {r : Rel} {b : Int} (hw : Viewed l r.v) (_ : Sizes l) (h : relE l r b = 0) : b < r.num ∧ r.num < 24 ∧ RelV l r:=by
 unfold relE at h
 split at h
 ·omega
 rename_i h1
 split at h
 ·omega
 rename_i h2
 split at h
 ·omega
 rename_i h3
 have h2 : (r.val.2.2.length : Int) = prod (szs r.v):=Decidable.byContradiction h2
 refine ⟨by omega,by omega,hw,by omega,fun j hj => ?_⟩
 have h4 : ∀ z ∈ r.val.2.2,¬ badV z = true:=fun z hz hb => h3 (List.any_eq_true.2 ⟨z,hz,hb⟩)
 have h5:=h4 _ (getD_memI hj)
 unfold badV at h5
 by_cases hz : r.val.2.2.getD j default = -1
 ·exact .inl hz
 ·right
  rw [decide_eq_true hz,Bool.true_and] at h5
  exact Decidable.byContradiction fun hc => h5 (by rw [decide_eq_false hc]; rfl)
theorem relE_of {l : List Int} {r : Rel} {b : Int} (hb : b < r.num) (h24 : r.num < 24) (hs : Sizes l) (h : RelV l r) : relE l r b = 0:=by
 have hp:=(h.view.sizes hs).bound (k:=(szs r.v).length) (nLr _)
 rw [tLn] at hp
 have hl:=h.len
 unfold relE
 rw [if_neg (by omega),if_neg (by omega),if_neg]
 intro ha
 obtain ⟨z,hz,hbz⟩:=List.any_eq_true.1 ha
 obtain ⟨j,hj,rfl⟩:=mem_getDI hz
 unfold badV at hbz
 rcases h.each j hj with h1 | h1
 ·rw [h1] at hbz; simp at hbz
 ·rw [decide_eq_true h1] at hbz; simp at hbz
theorem relsF_ok {l : List Int} (hs : Sizes l) : ∀ {rs : List Rel} {b : Int},(∀ r ∈ rs,Viewed l r.v) → relsF l b rs = 0 → (∀ i,i < rs.length → RelV l (rs.getD i default) ∧ b < (rs.getD i default).num ∧ (rs.getD i default).num < 24) ∧ ∀ i,i + 1 < rs.length → (rs.getD i default).num < (rs.getD (i + 1) default).num
 | [],_,_,_ => ⟨fun i hi => absurd hi (Nat.not_lt_zero _),fun i hi => absurd hi (Nat.not_lt_zero _)⟩
 | r :: rs,b,hw,h => by
  rw [relsF] at h
  split at h
  ·omega
  rename_i h0
  have h0 : relE l r b = 0:=Decidable.byContradiction h0
  obtain ⟨h1,h2,h3⟩:=relE_ok (hw r List.mem_cons_self) hs h0
  obtain ⟨h4,h5⟩:=relsF_ok hs (fun x hx => hw x (List.mem_cons_of_mem _ hx)) h
  refine ⟨fun i hi => ?_,fun i hi => ?_⟩
  ·cases i with
   | zero => exact ⟨h3,h1,h2⟩
   | succ i =>
    obtain ⟨a,c,d⟩:=h4 i (by simpa using hi)
    exact ⟨a,by show b < (rs.getD i default).num; omega,d⟩
  ·cases i with
   | zero => exact (h4 0 (by simpa using hi)).2.1
   | succ i => exact h5 i (by simpa using hi)
theorem relsF_of {l : List Int} (hs : Sizes l) : ∀ {rs : List Rel} {b : Int},(∀ i,i < rs.length → RelV l (rs.getD i default) ∧ (rs.getD i default).num < 24) → (0 < rs.length → b < (rs.getD 0 default).num) → (∀ i,i + 1 < rs.length → (rs.getD i default).num < (rs.getD (i + 1) default).num) → relsF l b rs = 0
 | [],_,_,_,_ => rfl
 | r :: rs,b,h1,h2,h3 => by
  obtain ⟨h4,h5⟩:=h1 0 (by simp)
  rw [relsF,if_neg (by rw [show relE l r b = 0 from relE_of (h2 (by simp)) h5 hs h4]; simp)]
  exact relsF_of hs (fun i hi => h1 (i + 1) (by simpa using hi)) (fun hi => h3 0 (by simpa using hi)) fun i hi => h3 (i + 1) (by simpa using hi)
theorem relsE_iff {l : List Int} {rs : List Rel} (hs : Sizes l) (hw : ∀ r ∈ rs,Viewed l r.v) : relsE l rs = 0 ↔ RelsV l rs:=by
 unfold relsE
 constructor
 ·intro h
  split at h
  ·omega
  obtain ⟨h1,h2⟩:=relsF_ok hs hw h
  exact ⟨by omega,fun i hi => ⟨(h1 i hi).1,by have:=(h1 i hi).2.1; omega,(h1 i hi).2.2⟩,h2⟩
 ·intro h
  have:=h.len
  rw [if_neg (by omega)]
  exact relsF_of hs (fun i hi => ⟨(h.each i hi).1,(h.each i hi).2.2⟩) (fun hi => by have:=(h.each 0 hi).2.1; omega) h.asc
theorem told_spec (A : Option Addr) (c : Nat) (l : List Int) (r : Rel) (I : PH) (hl : Ints I A c l) (hs : Sizes l) (hv : RowsOf I r.va r.vc r.v) (hd : Ints I r.val.1 r.val.2.1 r.val.2.2) (hV : RelV l r) :
  FnSpec Tryz.prog 67 [.agg #[.slice A l.length c],.agg #[.int .i64 r.num,.slice r.va r.v.length r.vc,.slice r.val.1 r.val.2.2.length r.val.2.1]] I []
   (fun u R' => ∃ (A' : Option Addr) (c' : Nat) (qs : List EqR),u = .slice A' qs.length c' ∧ qs.map cont = told l r ∧ qs.length ≤ 48 ∧ R' = eqsR A' c' qs):=by
 obtain ⟨num,va,vc,v,D,cd,vs⟩:=r
 obtain ⟨hw,hlen,heach⟩:=hV
 dsimp only at hv hd hw hlen heach ⊢
 have hszs:=hw.sizes hs
 have hvl:=hd.len
 have hpc:=hszs.cells
 have hpr:=hszs.bound (k:=(szs v).length) (nLr _)
 rw [tLn] at hpr
 refine FnSpec.enterP Tryz.func67 rfl Tryz.ntmps67 rfl fun w F => ?_
 repeat' first | refine kS ?_ | refine kB fun bx => ?_ | refine kA fun A2 c2 => ?_ | refine kX (fun hc => ?_) fun hc => ?_ | fail
 rename_i b2
 revert bx; intro b3
 refine Nx.p_loop (σ:=Nat × Option Addr × Nat × List EqR) (fun s => [(2,.pointer (some ⟨b2,0,none⟩)),(3,.pointer (some ⟨b3,0,none⟩)),(5,.slice s.2.1 s.2.2.2.length s.2.2.1),(11,.slice D vs.length cd),(12,.int .i64 vs.length),(13,.int .i64 (s.1 : Int))])
  (fun s => Blk b3 116 [.int .i64 num,.slice va v.length vc,.slice D vs.length cd] :: Blk b2 54 [.slice A l.length c] :: (eqsR s.2.1 s.2.2.1 s.2.2.2 ++ [F])) (fun s => s.1 ≤ vs.length ∧ s.2.2.2.map cont = toldK l v vs s.1 ∧ s.2.2.2.length ≤ s.1) (fun s => vs.length - s.1) (0,none,0,[]) rfl ⟨nZl _,rfl,nLr _⟩ zR ((Ent.stars_nil _).trans ((Ent.vec_nil 46 2 _).trans (by unfold eqsR; (exact zE)))) ?_
 rintro ⟨j,Ap,cp,ps⟩ ⟨hj,hps,hpl⟩
 dsimp only at hj hps hpl ⊢
 by_cases hjv : j < vs.length
 case neg =>
  obtain rfl : j = vs.length:=by omega
  repeat' first | refine kS ?_ | refine kB fun bx => ?_ | refine kA fun A2 c2 => ?_ | refine kX (fun hc => ?_) fun hc => ?_ | fail
  exact Nx.ret_fn rfl [_,_] ⟨Ap,cp,ps,rfl,hps,by omega,rfl⟩ (by exact zE)
 have hrd : ∀ (W : World) (R : List Res),Rd W I R ((ad D).add (j * 1)) (.int .i64 (vs.getD j default)):=fun W R => hd.rd hjv
 have hts : toldK l v vs (j + 1) = toldK l v vs j ++ if vs.getD j default = -1 then [] else [(memK l v (j : Int) (prod l).toNat,vs.getD j default)]:=rfl
 have hM:=Members_spec A va c vc l v (j : Int) I hl hs hv hw ⟨by omega,by omega⟩
 generalize memK l v (j : Int) (prod l).toNat = mm at hM hts
 generalize vs.getD j default = z at hrd hts
 by_cases hz : z = -1
 ·subst hz
  rw [if_pos rfl,List.append_nil] at hts
  repeat' first | refine kW ?_ | (refine Nx.zo ?_; first | refine kP ?_ | refine Nx.indexAddr_nat (A:=D) rfl rfl rfl rfl rfl hjv (hd.isSome (by omega)) ?_ | refine Nx.load rfl rfl rfl (hrd _ _) ?_) | refine kS ?_ | refine kB fun bx => ?_ | refine kA fun A2 c2 => ?_ | refine kX (fun hc => ?_) fun hc => ?_ | fail
  exact Nx.again (j + 1,Ap,cp,ps) ⟨hjv,by rw [hts]; exact hps,by dsimp only; omega⟩ (by dsimp only; omega) zR (by exact zE)
 ·rw [if_neg hz] at hts
  repeat' first | refine kW ?_ | (refine Nx.zo ?_; first | refine kP ?_ | refine Nx.indexAddr_nat (A:=D) rfl rfl rfl rfl rfl hjv (hd.isSome (by omega)) ?_ | refine Nx.load rfl rfl rfl (hrd _ _) ?_ | refine Nx.loads rfl rfl rfl rfl (Rds.cut 0 1 rfl rfl) rfl ?_ | (refine kC hM ?_; rintro _ _ ⟨Am,cm,rfl,rfl⟩)) | refine kS ?_ | refine kB fun bx => ?_ | refine kA fun A2 c2 => ?_ | refine kX (fun hc => ?_) fun hc => ?_ | fail
  refine Nx.again (j + 1,A2,c2,ps ++ [((Am,cm,mm),z)]) ⟨hjv,by dsimp only; rw [hts,mAp,hps]; rfl,by dsimp only; rw [lAp]; show ps.length + 1 ≤ _; omega⟩ (by dsimp only; omega) ⟨rfl,rfl,by dsimp only; rw [lAp]; rfl,rfl,rfl,rfl,trivial⟩ ?_
  dsimp only
  refine Ent.trans (R':=rowR (Am,cm,mm) :: Stars (ps.map fun q => rowR q.1) :: [Vec 46 2 A2 (ps.length + 1) c2 (ps.flatMap eqC ++ eqC ((Am,cm,mm),z)),Blk b3 116 [.int .i64 num,.slice va v.length vc,.slice D vs.length cd],Blk b2 54 [.slice A l.length c],F]) (by unfold rowR eqC eqsR; (exact zE)) ?_
  refine Ent.trans (R':=Stars ((ps.map fun q => rowR q.1) ++ [rowR (Am,cm,mm)]) :: [Vec 46 2 A2 (ps.length + 1) c2 (ps.flatMap eqC ++ eqC ((Am,cm,mm),z)),Blk b3 116 [.int .i64 num,.slice va v.length vc,.slice D vs.length cd],Blk b2 54 [.slice A l.length c],F]) Ent.bundle ?_
  unfold eqsR
  rw [lAp,List.flatMap_append,mAp,List.flatMap_cons,List.flatMap_nil,List.append_nil]
  (exact zE)
theorem EAll_spec (A As : Option Addr) (c cs : Nat) (l : List Int) (rs : List Rel) (I : PH) (hl : Ints I A c l) (hs : Sizes l) (hr : Rels I As cs rs) (hw : ∀ r ∈ rs,Viewed l r.v) :
  FnSpec Tryz.prog 22 [.agg #[.slice A l.length c],.slice As rs.length cs] I []
   (fun u R' => ∃ (A' : Option Addr) (c' : Nat) (qs : List EqR),u = .tuple #[.slice A' qs.length c',.int .i64 (relsE l rs)] ∧ qs.map cont = (if relsE l rs = 0 then rs.flatMap (told l) else []) ∧ qs.length ≤ 24 * 48 ∧ R' = eqsR A' c' qs):=by
 have hEC:=ECheck_spec A As c cs l rs I hl hs hr hw
 have hiff:=relsE_iff hs hw
 refine FnSpec.enterP Tryz.func22 rfl Tryz.ntmps22 rfl fun w F => ?_
 by_cases h0 : relsE l rs = 0
 case neg =>
  rw [if_neg h0]
  generalize relsE l rs = er at h0 hEC
  repeat' first | refine kW ?_ | (refine Nx.zo ?_; first | refine kP ?_ | refine kV hEC ?_) | refine kS ?_ | refine kB fun bx => ?_ | refine kA fun A2 c2 => ?_ | refine kX (fun hc => ?_) fun hc => ?_ | fail
  exact Nx.ret_fn rfl [_,_] ⟨none,0,[],rfl,rfl,by decide,rfl⟩ ((Ent.stars_nil _).trans ((Ent.vec_nil 46 2 _).trans (by exact zE)))
 have hV:=hiff.1 h0
 rw [if_pos h0,h0]
 rw [h0] at hEC
 have h24:=hV.len
 repeat' first | refine kW ?_ | (refine Nx.zo ?_; first | refine kP ?_ | refine kV hEC ?_) | refine kS ?_ | refine kB fun bx => ?_ | refine kA fun A2 c2 => ?_ | refine kX (fun hc => ?_) fun hc => ?_ | fail
 revert bx; intro b2
 refine Nx.p_loop (σ:=Nat × Option Addr × Nat × List EqR) (fun s => [(2,.pointer (some ⟨b2,0,none⟩)),(7,.slice s.2.1 s.2.2.2.length s.2.2.1),(16,.slice As rs.length cs),(17,.int .i64 rs.length),(18,.int .i64 (s.1 : Int))])
  (fun s => Blk b2 54 [.slice A l.length c] :: (eqsR s.2.1 s.2.2.1 s.2.2.2 ++ [F])) (fun s => s.1 ≤ rs.length ∧ s.2.2.2.map cont = (rs.take s.1).flatMap (told l) ∧ s.2.2.2.length ≤ s.1 * 48) (fun s => rs.length - s.1) (0,none,0,[]) rfl ⟨nZl _,rfl,nLr _⟩ zR ((Ent.stars_nil _).trans ((Ent.vec_nil 46 2 _).trans (by unfold eqsR; (exact zE)))) ?_
 rintro ⟨i,Ao,co,qs⟩ ⟨hi,hqs,hql⟩
 dsimp only at hi hqs hql ⊢
 by_cases hiv : i < rs.length
 case neg =>
  obtain rfl : i = rs.length:=by omega
  rw [tLn] at hqs
  repeat' first | refine kS ?_ | refine kB fun bx => ?_ | refine kA fun A2 c2 => ?_ | refine kX (fun hc => ?_) fun hc => ?_ | fail
  exact Nx.ret_fn rfl [_,_] ⟨Ao,co,qs,rfl,hqs,by omega,rfl⟩ (by exact zE)
 have htk:=take_snocR hiv
 have hT:=told_spec A c l (rs.getD i default) I hl hs (hr.view _ (getD_memR hiv)) (hr.val _ (getD_memR hiv)) (hV.each i hiv).1
 have hrds : ∀ (W : World) (R : List Res),Rds W I R ((ad As).add (i * 3)) (relC (rs.getD i default)):=fun W R => hr.outer.rds hiv
 generalize rs.getD i default = r at htk hT hrds
 obtain ⟨num,va,vc,v,D,cd,vs⟩:=r
 dsimp only at hT
 replace hrds : ∀ (W : World) (R : List Res),Rds W I R ((ad As).add (i * 3)) [.int .i64 num,.slice va v.length vc,.slice D vs.length cd]:=hrds
 repeat' first | refine kW ?_ | (refine Nx.zo ?_; first | refine kP ?_ | refine Nx.indexAddr_nat rfl rfl rfl rfl rfl hiv (hr.outer.isSome (by omega) (by omega)) ?_ | refine Nx.loads rfl rfl rfl rfl (hrds _ _) rfl ?_ | (refine kC hT ?_; rintro _ _ ⟨Am,cm,ps,rfl,hps,hpl,rfl⟩) | refine Nx.append_vec 3 rfl rfl rfl rfl (by kernel_rfl) rfl rfl (eq_one ps) (by omega) fun A2 c2 => ?_) | refine kS ?_ | refine kB fun bx => ?_ | refine kA fun A2 c2 => ?_ | refine kX (fun hc => ?_) fun hc => ?_ | fail
 refine Nx.again (i + 1,A2,c2,qs ++ ps) ⟨hiv,by dsimp only; rw [htk,List.flatMap_append,List.flatMap_cons,List.flatMap_nil,List.append_nil,mAp,hqs,hps],by dsimp only; rw [lAp]; omega⟩ (by dsimp only; omega) ⟨rfl,by dsimp only; rw [lAp]; rfl,rfl,rfl,rfl,trivial⟩ ?_
 dsimp only
 refine Ent.trans (R':=Stars (qs.map fun q => rowR q.1) :: Stars (ps.map fun q => rowR q.1) :: [Vec 46 2 A2 (qs.length + ps.length) c2 (qs.flatMap eqC ++ ps.flatMap eqC),Blk b2 54 [.slice A l.length c],F]) (by exact zE) ?_
 refine Ent.stars_app.trans ?_
 unfold eqsR
 rw [lAp,List.flatMap_append,mAp]
 (exact zE)
theorem etext_spec (A : Option Addr) (c : Nat) (l : List Int) (I : PH) (hl : Ints I A c l) (h9 : l.length ≤ 1000) (h1 : Small l) :
  FnSpec Tryz.prog 68 [.slice A l.length c] I [] (fun u R' => u = strV (rowT l) ∧ R' = []):=by
 refine FnSpec.enterP Tryz.func68 rfl Tryz.ntmps68 rfl fun w F => ?_
 repeat' first | refine kS ?_ | refine kB fun bx => ?_ | refine kA fun A2 c2 => ?_ | refine kX (fun hc => ?_) fun hc => ?_ | fail
 refine Nx.p_loop (σ:=Nat × Option Addr × Nat) (fun s => [(3,.slice s.2.1 (rowT (l.take s.1)).length s.2.2),(6,.slice A l.length c),(7,.int .i64 l.length),(8,.int .i64 (s.1 : Int))])
  (fun s => [bytesR s.2.1 s.2.2 (rowT (l.take s.1)),F]) (fun s => s.1 ≤ l.length) (fun s => l.length - s.1) (0,none,0) rfl (nZl _) zR ((Ent.vec_nil _ _ _).trans (by exact zE)) ?_
 rintro ⟨j,A2,c2⟩ hj
 dsimp only at hj ⊢
 have hrl:=rowT_len (l.take j)
 rw [lTk] at hrl
 by_cases hjl : j < l.length
 ·have hz:=h1 _ (getD_mem hjl)
  have hsj:=rowT_succ hjl
  repeat' first | refine kW ?_ | (refine Nx.zo ?_; first | refine kP ?_ | refine Nx.indexAddr_nat rfl rfl rfl rfl rfl (by omega) (hl.isSome (by omega)) ?_ | refine Nx.load rfl rfl rfl (hl.rd (by omega)) ?_) | refine kS ?_ | refine kB fun bx => ?_ | refine kA fun A2 c2 => ?_ | refine kX (fun hc => ?_) fun hc => ?_ | fail
  refine Nx.at_op rfl rfl ?_
  refine Nx.call rfl rfl rfl (by kernel_rfl) rfl (AppendInt_spec A2 c2 (rowT (l.take j)) (l.getD j default) hz (by omega) I) (by exact zE) ?_
  rintro u R' ⟨A3,c3,rfl,rfl⟩
  have hn2:=numT_len (l.getD j default)
  repeat' first | refine kW ?_ | (refine Nx.zo ?_; first | refine kP ?_ | refine Nx.append_bytes 0 (l2:=[32]) rfl rfl rfl rfl (by kernel_rfl) rfl rfl rfl rfl rfl (by simp only [List.length_append]; omega) (fun A2 c2 => ?_)) | refine kS ?_ | refine kB fun bx => ?_ | refine kA fun A2 c2 => ?_ | refine kX (fun hc => ?_) fun hc => ?_ | fail
  rw [← hsj]
  exact Nx.again (j + 1,_,_) hjl (by dsimp only; omega) zR (by exact zE)
 ·obtain rfl : j = l.length:=by omega
  rw [tLn]
  repeat' first | refine kW ?_ | (refine Nx.zo ?_; first | refine kP ?_ | refine Nx.vec_str 0 rfl rfl rfl rfl rfl rfl rfl ?_) | refine kS ?_ | refine kB fun bx => ?_ | refine kA fun A2 c2 => ?_ | refine kX (fun hc => ?_) fun hc => ?_ | fail
  exact kT
theorem etext_inj {l l' : List Int} (h1 : Small l) (h2 : Small l') (h : rowT l = rowT l') : l = l' :=
 (rowT_inj (X:=[]) (X':=[]) h1 h2 (by rw [h])).1
def SaidT (t : List Int) (rs : List EqR) (sl : List (List UInt8 × Int)) : Prop :=
 ∀ l : List Int,Small l → mget sl (rowT l) = if l ∈ rs.map (fun q => q.1.2.2) then some (sumC t (l.map Int.toNat)) else none
theorem SaidT.nil (t : List Int) : SaidT t [] []:=fun l _ => by
 rw [if_neg (by simp)]; rfl
theorem SaidT.snoc {t : List Int} {rs : List EqR} {sl : List (List UInt8 × Int)} {q : EqR} (h : SaidT t rs sl) (hq : Small q.1.2.2) (hv : sumC t (q.1.2.2.map Int.toNat) = q.2) : SaidT t (rs ++ [q]) (mset sl (rowT q.1.2.2) q.2):=fun l hl => by
 rw [mget_set,mAp]
 by_cases he : rowT l = rowT q.1.2.2
 ·have:=etext_inj hl hq he
  subst this
  rw [if_pos rfl,if_pos (by simp),hv]
 ·rw [if_neg he,h l hl]
  have hne : l ≠ q.1.2.2:=fun h => he (by rw [h])
  have e : (l ∈ List.map (fun q => q.1.2.2) rs ++ List.map (fun q => q.1.2.2) [q]) ↔ l ∈ List.map (fun q => q.1.2.2) rs:=by
   rw [List.mem_append]
   simp [hne]
  by_cases hm : l ∈ List.map (fun q => q.1.2.2) rs
  ·rw [if_pos hm,if_pos (e.2 hm)]
  ·rw [if_neg hm,if_neg fun h => hm (e.1 h)]
theorem good_small {N : Nat} {q : EqR} (hg : GoodE N q) (hN : N ≤ 8) : Small q.1.2.2:=fun z hz => by
 have:=hg.lt z hz
 omega
theorem EReduce_spec (A : Option Addr) (c N : Nat) (t : List Int) (qs : List EqR) (I : PH) (hq : Eqs I A c qs) (hN : 1 ≤ N ∧ N ≤ 8) (hl : qs.length ≤ 1152) (hg : ∀ q ∈ qs,GoodE N q) (hs : ∀ q ∈ qs,sumC t (eqn q).1 = q.2) :
  FnSpec Tryz.prog 23 [.int .i64 (N : Int),.slice A qs.length c] I []
   (fun u R' => ∃ (A' : Option Addr) (c' : Nat) (rs : List EqR),u = .tuple #[.slice A' rs.length c',.int .i64 0] ∧ (∀ p,p ∈ rs.map cont ↔ p ∈ qs.map cont) ∧ rs.length ≤ qs.length ∧ R' = eqsR A' c' rs):=by
 have KE : KeyEnc Tryz.prog 9 strV:=KeyEnc.str (by kernel_rfl)
 have hv : validB (N : Int) qs = true:=valid_of ⟨hN.1,by omega⟩ hl hg
 have hV:=Valid_spec (N : Int) A c qs I hq
 rw [hv] at hV
 refine FnSpec.enterP Tryz.func23 rfl Tryz.ntmps23 rfl fun w F => ?_
 repeat' first | refine kW ?_ | (refine Nx.zo ?_; first | refine kP ?_ | refine kV hV ?_) | refine kS ?_ | refine kB fun bx => ?_ | refine kA fun A2 c2 => ?_ | refine kX (fun hc => ?_) fun hc => ?_ | fail
 refine Nx.at_op rfl rfl ?_
 refine Nx.makeMap strV (Value.int .i64) rfl (fun bm => ?_)
 repeat' first | refine kS ?_ | refine kB fun bx => ?_ | refine kA fun A2 c2 => ?_ | refine kX (fun hc => ?_) fun hc => ?_ | fail
 refine Nx.p_loop (σ:=Nat × Option Addr × Nat × List EqR × List (List UInt8 × Int)) (fun s => [(6,.map (some bm)),(7,.slice s.2.1 s.2.2.2.1.length s.2.2.1),(18,.slice A qs.length c),(19,.int .i64 qs.length),(20,.int .i64 (s.1 : Int))])
  (fun s => MapR strV (Value.int .i64) bm s.2.2.2.2 :: (eqsR s.2.1 s.2.2.1 s.2.2.2.1 ++ [F])) (fun s => s.1 ≤ qs.length ∧ (∀ p,p ∈ s.2.2.2.1.map cont ↔ p ∈ (qs.take s.1).map cont) ∧ s.2.2.2.1.length ≤ s.1 ∧ SaidT t s.2.2.2.1 s.2.2.2.2) (fun s => qs.length - s.1) (0,none,0,[],[]) rfl ⟨nZl _,fun p => Iff.rfl,nLr _,SaidT.nil t⟩ zR ((Ent.stars_nil _).trans ((Ent.vec_nil 46 2 _).trans (by unfold eqsR; (exact zE)))) ?_
 rintro ⟨i,Ao,co,rs,sl⟩ ⟨hi,hrs,hrl,hsd⟩
 dsimp only at hi hrs hrl hsd ⊢
 by_cases hil : i < qs.length
 case neg =>
  obtain rfl : i = qs.length:=by omega
  rw [tLn] at hrs
  repeat' first | refine kS ?_ | refine kB fun bx => ?_ | refine kA fun A2 c2 => ?_ | refine kX (fun hc => ?_) fun hc => ?_ | fail
  exact Nx.ret_fn rfl [_,_] ⟨Ao,co,rs,rfl,hrs,hrl,rfl⟩ (by exact zE)
 have hqm : qs.getD i default ∈ qs:=getD_memQ hil
 have htk:=take_snocQ hil
 have hrds : ∀ (W : World) (R : List Res),Rds W I R ((ad A).add (i * 2)) (eqC (qs.getD i default)):=fun W R => hq.outer.rds hil
 have hAs:=hq.outer.isSome (by omega) (by omega)
 have hin:=hq.inner _ hqm
 have hgi:=hg _ hqm
 have hsi:=hs _ hqm
 have hqv:=hgi.val
 generalize qs.getD i default = q at htk hrds hin hgi hsi hqm hqv
 have hsm:=good_small hgi (by omega)
 have hcl : q.1.2.2.length ≤ 8:=by
  have:=good_len hgi
  omega
 have hget:=hsd _ hsm
 obtain ⟨⟨Aq,cq,l⟩,z⟩:=q
 dsimp only at hin hsm hcl hget hqv
 replace hsi : sumC t (l.map Int.toNat) = z:=hsi
 replace hrds : ∀ (W : World) (R : List Res),Rds W I R ((ad A).add (i * 2)) [.slice Aq l.length cq,.int .i64 z]:=hrds
 have hT:=etext_spec Aq cq l I hin (by omega) hsm
 have hget2 : ∀ r0,mget sl (rowT l) = r0 → ((mget sl (rowT l)).getD 0 = r0.getD 0 ∧ (mget sl (rowT l)).isSome = r0.isSome):=fun r0 h => by rw [h]; exact ⟨rfl,rfl⟩
 by_cases hold : l ∈ rs.map (fun q => q.1.2.2)
 ·rw [if_pos hold,hsi] at hget
  obtain ⟨hg1,hg2⟩:=hget2 _ hget
  repeat' first | refine kW ?_ | (refine Nx.zo ?_; first | refine kP ?_ | refine Nx.indexAddr_nat (A:=A) rfl rfl rfl rfl rfl hil hAs ?_ | refine Nx.loads rfl rfl rfl rfl (hrds _ _) rfl ?_ | refine kV hT ?_ | (refine Nx.mapGet 1 strV (Value.int .i64) (k:=rowT l) (z:=0) (ok:=true) rfl rfl KE rfl rfl rfl rfl rfl ?_; rw [hg1,hg2]; dsimp only [Option.getD_some,Option.isSome_some]; rw [if_pos rfl])) | refine kS ?_ | refine kB fun bx => ?_ | refine kA fun A2 c2 => ?_ | refine kX (fun hc => ?_) fun hc => ?_ | fail
  refine Nx.again (i + 1,Ao,co,rs,sl) ⟨hil,fun p => ?_,by dsimp only; omega,hsd⟩ (by dsimp only; omega) zR (by unfold eqsR; (exact zE))
  dsimp only
  rw [htk,mAp,List.mem_append,← hrs p]
  refine ⟨.inl,fun h => h.elim id fun h => ?_⟩
  rw [List.mem_singleton.1 h]
  obtain ⟨q',hq',he⟩:=List.mem_map.1 hold
  have hm : cont q' ∈ rs.map cont:=List.mem_map.2 ⟨q',hq',rfl⟩
  obtain ⟨q2,hq2,he2⟩:=List.mem_map.1 ((hrs _).1 hm)
  have hs2:=hs q2 (List.mem_of_mem_take hq2)
  have e1 : q2.1.2.2 = q'.1.2.2:=congrArg (fun x : List Int × Int => x.1) he2
  have e2 : q2.2 = q'.2:=congrArg (fun x : List Int × Int => x.2) he2
  have e3 : sumC t (q2.1.2.2.map Int.toNat) = q2.2:=hs2
  rw [e1,show q'.1.2.2 = l from he,hsi,e2] at e3
  have e4 : cont q' = cont ((Aq,cq,l),z):=Prod.ext (show q'.1.2.2 = l from he) e3.symm
  rw [← e4]
  exact hm
 ·rw [if_neg hold] at hget
  obtain ⟨hg1,hg2⟩:=hget2 _ hget
  repeat' first | ((with_reducible refine Nx.is_wp ?_); first | refine Nx.wo ?_ | refine kF 12 [0,1,2,4,5,3,6,7] [3,7] [8,9] ?_) | (refine Nx.zo ?_; first | refine kP ?_ | refine Nx.indexAddr_nat (A:=A) rfl rfl rfl rfl rfl hil hAs ?_ | refine Nx.loads rfl rfl rfl rfl (hrds _ _) rfl ?_ | refine kV hT ?_ | (refine Nx.mapGet 1 strV (Value.int .i64) (k:=rowT l) (z:=0) (ok:=true) rfl rfl KE rfl rfl rfl rfl rfl ?_; rw [hg1,hg2]; dsimp only [Option.getD_none,Option.isSome_none]; rw [if_pos rfl]) | refine Nx.mapSet 1 strV (Value.int .i64) (k:=rowT l) (v:=z) (.inr rfl) rfl rfl rfl KE rfl rfl ?_ | (refine Nx.call (Rpre:=[]) rfl rfl rfl (by kernel_rfl) rfl (CloneI_spec Aq cq l _ hin (by omega)) (Ent.refl _) ?_; rintro _ _ ⟨A',c',rfl,rfl⟩)) | refine kS ?_ | refine kB fun bx => ?_ | refine kA fun A2 c2 => ?_ | ((with_reducible refine Nx.is_mix ?_); refine kQ rfl rfl rfl rfl (by first | exact .inl rfl | exact .inr ⟨_,_,_,rfl,rfl,rfl⟩) (by first | exact QRun.opr rfl | exact QRun.load rfl rfl (Rd.at_ 0 rfl rfl)) ?_) | refine kX (fun hc => ?_) fun hc => ?_ | fail
  refine Nx.again (i + 1,A2,c2,rs ++ [((A',c',l),z)],mset sl (rowT l) z) ⟨hil,fun p => ?_,?_,hsd.snoc (q:=((A',c',l),z)) hsm hsi⟩ (by dsimp only; omega) ⟨rfl,by dsimp only; rw [lAp]; rfl,rfl,rfl,rfl,trivial⟩ ?_
  ·dsimp only
   rw [htk,mAp,mAp,List.mem_append,List.mem_append,hrs p]
   exact Iff.rfl
  ·dsimp only
   rw [lAp]
   show rs.length + 1 ≤ _
   omega
  dsimp only
  refine Ent.trans (R':=rowR (A',c',l) :: Stars (rs.map fun q => rowR q.1) :: [Vec 46 2 A2 (rs.length + 1) c2 (rs.flatMap eqC ++ eqC ((A',c',l),z)),MapR strV (Value.int .i64) bm (mset sl (rowT l) z),F]) (by unfold rowR eqC eqsR; (exact zE)) ?_
  refine Ent.trans (R':=Stars ((rs.map fun q => rowR q.1) ++ [rowR (A',c',l)]) :: [Vec 46 2 A2 (rs.length + 1) c2 (rs.flatMap eqC ++ eqC ((A',c',l),z)),MapR strV (Value.int .i64) bm (mset sl (rowT l) z),F]) Ent.bundle ?_
  unfold eqsR
  rw [lAp,List.flatMap_append,mAp,List.flatMap_cons,List.flatMap_nil,List.append_nil]
  (exact zE)
end Go.Proofs.YtpcnapidlhpbkaaGreatDoor
