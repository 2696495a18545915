/- Contracts of functions of the given program, and lemmas. -/
import Derived.Recover
import Derived.WalkSmall
import Derived.Test.YtpcnapidlhpbkaaGreatDoorBq4
set_option maxHeartbeats 32000000
namespace Go.Eng
section
variable {C : Cx} {e : Env} {I : PH} {R R1 R2 : List Res} {K : Act → World → Prop} {Q : Exit → Act → World → Prop} {W : World} {n c : Nat} {P : Program} {t ty el : TypeId} {pos : String} {after : Array Edge} {g : Option (Nat × Bool)} {x y : Operand} {A : Option Addr} {v v1 v2 : Value}
theorem Wr.two {B : Addr} (h1 : Wr P W I R B [v1] R1) (h2 : Wr P W I R1 (B.add 1) [v2] R2) : Wr P W I R B [v1, v2] R2 := by
  intro w hw
  obtain ⟨w1, r1, s1⟩ := h1 w hw
  obtain ⟨w2, r2, s2⟩ := h2 w1 s1
  refine ⟨w2, ?_, s2⟩
  unfold storeCells at r1 r2 ⊢
  rw [Sem.run_bind] at r1 r2 ⊢
  have e : (B.add 1).add 0 = B.add (0 + 1) := by rw [Addr.add_add]
  rw [e] at r2
  unfold storeCells at r1 r2 ⊢
  cases hs : (store (B.add 0) v1).run P w with
  | ok u w' =>
    rw [hs, Result.andThen_ok] at r1
    rw [Result.andThen_ok]
    have hw' : w' = w1 := by
      have : (Result.ok () w' : Result Unit) = .ok () w1 := r1
      injection this
    subst hw'
    rw [Sem.run_bind]
    exact r2
  | _ => rw [hs] at r1; cases r1
theorem run_addK {P : Program} {t : TypeId} {x y : Operand} {p q r : Int} (hr : I64 (p + q)) (h : p + q = r) : pureRun P (do eqGuard .add t x y (.int .i64 p) (.int .i64 q); binOp .add t (.int .i64 p) (.int .i64 q)) = some (.int .i64 r) := by rw [← h, ← wrap_i64 hr]; rfl
theorem Wr.vec2 {i : Nat} {xs : List Value} (hi : i < n) (h1 : v1.oneCell' = true) (h2 : v2.oneCell' = true) : Wr P W I (Vec t 2 A n c xs :: R) ((ad A).add (i * 2)) [v1, v2] (Vec t 2 A n c ((xs.set (i * 2) v1).set (i * 2 + 1) v2) :: R) := by
  refine Wr.two (Wr.vecN (by omega) h1) ?_
  rw [Addr.add_add]
  exact Wr.vecN (by omega) h2
theorem flat_set2 {α : Type} [Inhabited α] {f : α → List Value} {a b : α → Value} (hf : ∀ x, f x = [a x, b x]) {l : List α} {i : Nat} {z : α} (hi : i < l.length) : ((l.flatMap f).set (i * 2) (a z)).set (i * 2 + 1) (b z) = (l.set i z).flatMap f := by
  have e1 : ∀ l : List α, ∀ i, i < l.length → ((l.flatMap f).set (i * 2) (a z)).set (i * 2 + 1) (b z) = (l.set i z).flatMap f := fun l => by
    induction l with
    | nil => intro i hi; simp at hi
    | cons x l ih =>
      intro i hi
      cases i with
      | zero => rw [List.set_cons_zero, List.flatMap_cons, List.flatMap_cons, hf x, hf z]; rfl
      | succ i =>
        rw [List.set_cons_succ, List.flatMap_cons, List.flatMap_cons, hf x, ← ih i (by simpa using hi), show (i + 1) * 2 = i * 2 + 1 + 1 by omega]
        rfl
  exact e1 l i hi
theorem Nx.store_el2 (k : Nat) {α : Type} [Inhabited α] {f : α → List Value} {a b : α → Value} {l : List α} {i : Nat} {z : α} (hx : evo e x = some (.pointer (some ((ad A).add (i * 2))))) (hy : evo e y = some v) (hc : cellsL v = [a z, b z]) (hf : ∀ x, f x = [a x, b x]) (h1 : (a z).oneCell' = true) (h2 : (b z).oneCell' = true) (hn : cellsIn C.P t = some 2)
    (hk : nthL R k = some (Vec el 2 A n c (l.flatMap f))) (hi : i < l.length) (hin : i < n) (h : Nx C e I (Vec el 2 A n c ((l.set i z).flatMap f) :: R.eraseIdx k) K) : Nx C e I R (opK C.P ⟨none, .store t x y, ty, pos, after, g⟩ K Q) := by
  refine Nx.ent (Ent.pull k R _ (nthL_eq.symm.trans hk)) (Nx.store hx hy ((cellsL_eq _).trans hc) hn rfl (Wr.vec2 hin h1 h2) ?_)
  rw [flat_set2 hf hi]
  exact h
theorem Nx.store_row2 (k : Nat) {β α : Type} [Inhabited β] [Inhabited α] {f : α → List Value} {a b : α → Value} {r : β → Res} {bs : List β} {j : Nat} {y' : β} {l : List α} {i : Nat} {z : α} (hx : evo e x = some (.pointer (some ((ad A).add (i * 2))))) (hy : evo e y = some v) (hc : cellsL v = [a z, b z]) (hf : ∀ x, f x = [a x, b x]) (h1 : (a z).oneCell' = true) (h2 : (b z).oneCell' = true) (hn : cellsIn C.P t = some 2)
    (hk : nthL R k = some (Stars (bs.map r))) (hj : j < bs.length) (hr : r (bs.getD j default) = Vec el 2 A n c (l.flatMap f)) (hr' : r y' = Vec el 2 A n c ((l.set i z).flatMap f)) (hi : i < l.length) (hin : i < n)
    (h : Nx C e I (Stars ((bs.set j y').map r) :: R.eraseIdx k) K) : Nx C e I R (opK C.P ⟨none, .store t x y, ty, pos, after, g⟩ K Q) := by
  have hg : (bs.map r)[j]? = some (Vec el 2 A n c (l.flatMap f)) := by
    rw [List.getElem?_map, List.getElem?_eq_getElem hj, ← hr, List.getD_eq_getElem?_getD, List.getElem?_eq_getElem hj]; rfl
  refine Nx.ent ((Ent.pull k R _ (nthL_eq.symm.trans hk)).trans (Ent.takeOut j hg)) ?_
  refine Nx.store_el2 0 hx hy hc hf h1 h2 hn rfl hi hin ?_
  refine Nx.ent ?_ h
  rw [List.map_set, hr']
  exact Ent.putIn j (by rw [List.length_map]; exact hj)
theorem Rds.rowN {W : World} (k : Nat) {β α : Type} [Inhabited β] [Inhabited α] {f : α → List Value} {r : β → Res} {bs : List β} {j sz : Nat} {l : List α} {i : Nat} (hf : ∀ x, (f x).length = sz) (hk : nthL R k = some (Stars (bs.map r))) (hj : j < bs.length) (hr : r (bs.getD j default) = Vec el sz A n c (l.flatMap f)) (hi : i < l.length) : Rds W I R ((ad A).add (i * sz)) (f (l.getD i default)) := fun q u hq =>
  Rd.ent ((Ent.pull k R _ (nthL_eq.symm.trans hk)).trans (Ent.takeOut j (r := Vec el sz A n c (l.flatMap f)) (by rw [List.getElem?_map, List.getElem?_eq_getElem hj, ← hr, List.getD_eq_getElem?_getD, List.getElem?_eq_getElem hj]; rfl))) (Rds.vecN 0 hf rfl hi q u hq)
end
end Go.Eng
namespace Go.Proofs.YtpcnapidlhpbkaaGreatDoor
open Go.Eng
attribute [local irreducible] opK wpList Code.wp Exit.then Exit.inBlock fnPost bodyPost Nx Calls Oper.wp Rd Rds Wr Ent Stars Blk Again Vec FnSpec wpMix QRun Stop Upto wpAt
theorem rAdd_rat (p q : Rat) (hp : RB p) (hq : RB q) (I : PH) : FnSpec Tryz.prog 18 [ratV p, ratV q] I [] (fun v R' => v = redV (p + q) ∧ R' = []) := by
  have := rAdd_spec p.num p.den q.num q.den (rat_i64 hp).1 (rat_i64 hp).2 (rat_i64 hq).1 (rat_i64 hq).2 I
  rw [opV_rat hp hq, Rat.num_divInt_den, Rat.num_divInt_den] at this
  exact this
theorem rMul_rat (p q : Rat) (hp : RB p) (hq : RB q) (I : PH) : FnSpec Tryz.prog 53 [ratV p, ratV q] I [] (fun v R' => v = redV (p * q) ∧ R' = []) := by
  have := rMul_spec p.num p.den q.num q.den (rat_i64 hp).1 (rat_i64 hp).2 (rat_i64 hq).1 (rat_i64 hq).2 I
  rw [opV_rat hp hq, Rat.num_divInt_den, Rat.num_divInt_den] at this
  exact this
theorem rDiv_rat (p q : Rat) (hp : RB p) (hq : RB q) (h0 : q.num ≠ 0) (I : PH) : FnSpec Tryz.prog 211 [ratV p, ratV q] I [] (fun v R' => v = redV (p / q) ∧ R' = []) := by
  have := rDiv_spec p.num p.den q.num q.den (rat_i64 hp).1 (rat_i64 hp).2 (rat_i64 hq).1 (rat_i64 hq).2 I
  unfold divV at this
  rw [if_pos ⟨hp.fok, hq.fok⟩, if_neg h0, Rat.num_divInt_den, Rat.num_divInt_den] at this
  exact this
theorem rLess_rat (p q : Rat) (hp : RB p) (hq : RB q) (I : PH) : FnSpec Tryz.prog 19 [ratV p, ratV q] I [] (fun v R' => v = .bool (decide (p < q)) ∧ R' = []) := by
  have := rLess_spec p.num p.den q.num q.den (rat_i64 hp).1 (rat_i64 hp).2 (rat_i64 hq).1 (rat_i64 hq).2 I
  rw [show decide (FOk p.num p.den ∧ FOk q.num q.den ∧ p.num * q.den < q.num * p.den) = decide (p < q) from decide_eq_decide.2 ⟨fun h => (Rat.lt_iff p q).2 h.2.2, fun h => ⟨hp.fok, hq.fok, (Rat.lt_iff p q).1 h⟩⟩] at this
  exact this
theorem RB_int {z : Int} (h : z.natAbs ≤ 1152921504606846976) : RB (z : Rat) := ⟨h, by show (1 : Nat) ≤ _; omega⟩
theorem rat_ne {q : Rat} (h : q ≠ 0) : q.num ≠ 0 := fun h0 => h (Rat.num_eq_zero.1 h0)
set_option maxRecDepth 10000 in
theorem bwhole_spec (z : Int) (I : PH) : FnSpec Tryz.prog 56 [.int .i64 z] I [] (fun v R' => v = ratV (z : Rat) ∧ R' = []) := by
  refine FnSpec.enterP Tryz.func56 rfl Tryz.ntmps56 rfl fun w F => ?_
  repeat' first
    | ((with_reducible refine Nx.is_wp ?_); first | refine Nx.wo ?_ | refine Nx.zp (fun hc => ?_) (fun hc => ?_))
    | (refine Nx.zo ?_; first | refine Nx.opr rfl rfl ?_ | refine Nx.so ?_ | refine Nx.sb (fun bx => ?_) | refine Nx.sa (fun A2 c2 => ?_))
    | refine Nx.za ?_ | refine Nx.zr (fun hc => ?_) (fun hc => ?_)
    | refine Nx.zq ?_ | refine Nx.zu (fun hc => ?_) (fun hc => ?_)
    | refine Nx.zx ?_ | fail
  first | exact Nx.ret_fn rfl [] ⟨rfl, rfl⟩ (by (exact Ent.auto)) | exact Nx.ret_cell 0 rfl rfl rfl rfl rfl rfl [] ⟨rfl, rfl⟩ (by (exact Ent.auto))
set_option maxRecDepth 10000 in
theorem btimes_spec (p q : Rat) (hp : RB p) (hq : RB q) (h : RB (p * q)) (I : PH) (hT : TabI I) : FnSpec Tryz.prog 115 [ratV p, ratV q] I [] (fun v R' => v = ratV (p * q) ∧ R' = []) := by
  have hM := Mul_rat p q hp hq I hT
  rw [redV_pos h] at hM
  refine FnSpec.enterP Tryz.func115 rfl Tryz.ntmps115 rfl fun w F => ?_
  repeat' first
    | ((with_reducible refine Nx.is_wp ?_); first | refine Nx.wo ?_ | refine Nx.zp (fun hc => ?_) (fun hc => ?_))
    | (refine Nx.zo ?_; first | refine Nx.opr rfl rfl ?_ | refine Nx.callv rfl rfl rfl (by kernel_rfl) rfl hM ?_ | refine Nx.so ?_ | refine Nx.sb (fun bx => ?_) | refine Nx.sa (fun A2 c2 => ?_))
    | refine Nx.za ?_ | refine Nx.zr (fun hc => ?_) (fun hc => ?_)
    | refine Nx.zq ?_ | refine Nx.zu (fun hc => ?_) (fun hc => ?_)
    | refine Nx.zx ?_ | fail
  first | exact Nx.ret_fn rfl [] ⟨rfl, rfl⟩ (by (exact Ent.auto)) | exact Nx.ret_cell 0 rfl rfl rfl rfl rfl rfl [] ⟨rfl, rfl⟩ (by (exact Ent.auto))
set_option maxRecDepth 10000 in
theorem bminus_spec (p q : Rat) (hp : RB p) (hq : RB q) (h : RB (p - q)) (I : PH) (hT : TabI I) : FnSpec Tryz.prog 176 [ratV p, ratV q] I [] (fun v R' => v = ratV (p - q) ∧ R' = []) := by
  have hM := Sub_rat p q hp hq I hT
  rw [redV_pos h] at hM
  refine FnSpec.enterP Tryz.func176 rfl Tryz.ntmps176 rfl fun w F => ?_
  repeat' first
    | ((with_reducible refine Nx.is_wp ?_); first | refine Nx.wo ?_ | refine Nx.zp (fun hc => ?_) (fun hc => ?_))
    | (refine Nx.zo ?_; first | refine Nx.opr rfl rfl ?_ | refine Nx.callv rfl rfl rfl (by kernel_rfl) rfl hM ?_ | refine Nx.so ?_ | refine Nx.sb (fun bx => ?_) | refine Nx.sa (fun A2 c2 => ?_))
    | refine Nx.za ?_ | refine Nx.zr (fun hc => ?_) (fun hc => ?_)
    | refine Nx.zq ?_ | refine Nx.zu (fun hc => ?_) (fun hc => ?_)
    | refine Nx.zx ?_ | fail
  first | exact Nx.ret_fn rfl [] ⟨rfl, rfl⟩ (by (exact Ent.auto)) | exact Nx.ret_cell 0 rfl rfl rfl rfl rfl rfl [] ⟨rfl, rfl⟩ (by (exact Ent.auto))
set_option maxRecDepth 10000 in
theorem bover_spec (p q : Rat) (hp : RB p) (hq : RB q) (h0 : q ≠ 0) (h : RB (p / q)) (I : PH) (hT : TabI I) : FnSpec Tryz.prog 175 [ratV p, ratV q] I [] (fun v R' => v = ratV (p / q) ∧ R' = []) := by
  have hM := Div_rat p q hp hq (rat_ne h0) I hT
  rw [redV_pos h] at hM
  refine FnSpec.enterP Tryz.func175 rfl Tryz.ntmps175 rfl fun w F => ?_
  repeat' first
    | ((with_reducible refine Nx.is_wp ?_); first | refine Nx.wo ?_ | refine Nx.zp (fun hc => ?_) (fun hc => ?_))
    | (refine Nx.zo ?_; first | refine Nx.opr rfl rfl ?_ | refine Nx.callv rfl rfl rfl (by kernel_rfl) rfl hM ?_ | refine Nx.so ?_ | refine Nx.sb (fun bx => ?_) | refine Nx.sa (fun A2 c2 => ?_))
    | refine Nx.za ?_ | refine Nx.zr (fun hc => ?_) (fun hc => ?_)
    | refine Nx.zq ?_ | refine Nx.zu (fun hc => ?_) (fun hc => ?_)
    | refine Nx.zx ?_ | fail
  first | exact Nx.ret_fn rfl [] ⟨rfl, rfl⟩ (by (exact Ent.auto)) | exact Nx.ret_cell 0 rfl rfl rfl rfl rfl rfl [] ⟨rfl, rfl⟩ (by (exact Ent.auto))
set_option maxRecDepth 10000 in
theorem rwhole_spec (z : Int) (I : PH) : FnSpec Tryz.prog 52 [.int .i64 z] I [] (fun v R' => v = ratV (z : Rat) ∧ R' = []) := by
  refine FnSpec.enterP Tryz.func52 rfl Tryz.ntmps52 rfl fun w F => ?_
  repeat' first
    | ((with_reducible refine Nx.is_wp ?_); first | refine Nx.wo ?_ | refine Nx.zp (fun hc => ?_) (fun hc => ?_))
    | (refine Nx.zo ?_; first | refine Nx.opr rfl rfl ?_ | refine Nx.so ?_ | refine Nx.sb (fun bx => ?_) | refine Nx.sa (fun A2 c2 => ?_))
    | refine Nx.za ?_ | refine Nx.zr (fun hc => ?_) (fun hc => ?_)
    | refine Nx.zq ?_ | refine Nx.zu (fun hc => ?_) (fun hc => ?_)
    | refine Nx.zx ?_ | fail
  first | exact Nx.ret_fn rfl [] ⟨rfl, rfl⟩ (by (exact Ent.auto)) | exact Nx.ret_cell 0 rfl rfl rfl rfl rfl rfl [] ⟨rfl, rfl⟩ (by (exact Ent.auto))
set_option maxRecDepth 10000 in
theorem radd_spec (p q : Rat) (hp : RB p) (hq : RB q) (h : RB (p + q)) (I : PH) : FnSpec Tryz.prog 95 [ratV p, ratV q] I [] (fun v R' => v = ratV (p + q) ∧ R' = []) := by
  have hM := rAdd_rat p q hp hq I
  rw [redV_pos h] at hM
  refine FnSpec.enterP Tryz.func95 rfl Tryz.ntmps95 rfl fun w F => ?_
  repeat' first
    | ((with_reducible refine Nx.is_wp ?_); first | refine Nx.wo ?_ | refine Nx.zp (fun hc => ?_) (fun hc => ?_))
    | (refine Nx.zo ?_; first | refine Nx.opr rfl rfl ?_ | refine Nx.callv rfl rfl rfl (by kernel_rfl) rfl hM ?_ | refine Nx.so ?_ | refine Nx.sb (fun bx => ?_) | refine Nx.sa (fun A2 c2 => ?_))
    | refine Nx.za ?_ | refine Nx.zr (fun hc => ?_) (fun hc => ?_)
    | refine Nx.zq ?_ | refine Nx.zu (fun hc => ?_) (fun hc => ?_)
    | refine Nx.zx ?_ | fail
  first | exact Nx.ret_fn rfl [] ⟨rfl, rfl⟩ (by (exact Ent.auto)) | exact Nx.ret_cell 0 rfl rfl rfl rfl rfl rfl [] ⟨rfl, rfl⟩ (by (exact Ent.auto))
set_option maxRecDepth 10000 in
theorem rmul_spec (p q : Rat) (hp : RB p) (hq : RB q) (h : RB (p * q)) (I : PH) : FnSpec Tryz.prog 96 [ratV p, ratV q] I [] (fun v R' => v = ratV (p * q) ∧ R' = []) := by
  have hM := rMul_rat p q hp hq I
  rw [redV_pos h] at hM
  refine FnSpec.enterP Tryz.func96 rfl Tryz.ntmps96 rfl fun w F => ?_
  repeat' first
    | ((with_reducible refine Nx.is_wp ?_); first | refine Nx.wo ?_ | refine Nx.zp (fun hc => ?_) (fun hc => ?_))
    | (refine Nx.zo ?_; first | refine Nx.opr rfl rfl ?_ | refine Nx.callv rfl rfl rfl (by kernel_rfl) rfl hM ?_ | refine Nx.so ?_ | refine Nx.sb (fun bx => ?_) | refine Nx.sa (fun A2 c2 => ?_))
    | refine Nx.za ?_ | refine Nx.zr (fun hc => ?_) (fun hc => ?_)
    | refine Nx.zq ?_ | refine Nx.zu (fun hc => ?_) (fun hc => ?_)
    | refine Nx.zx ?_ | fail
  first | exact Nx.ret_fn rfl [] ⟨rfl, rfl⟩ (by (exact Ent.auto)) | exact Nx.ret_cell 0 rfl rfl rfl rfl rfl rfl [] ⟨rfl, rfl⟩ (by (exact Ent.auto))
set_option maxRecDepth 10000 in
theorem rdiv_spec (p q : Rat) (hp : RB p) (hq : RB q) (h0 : q ≠ 0) (h : RB (p / q)) (I : PH) : FnSpec Tryz.prog 161 [ratV p, ratV q] I [] (fun v R' => v = ratV (p / q) ∧ R' = []) := by
  have hM := rDiv_rat p q hp hq (rat_ne h0) I
  rw [redV_pos h] at hM
  refine FnSpec.enterP Tryz.func161 rfl Tryz.ntmps161 rfl fun w F => ?_
  repeat' first
    | ((with_reducible refine Nx.is_wp ?_); first | refine Nx.wo ?_ | refine Nx.zp (fun hc => ?_) (fun hc => ?_))
    | (refine Nx.zo ?_; first | refine Nx.opr rfl rfl ?_ | refine Nx.callv rfl rfl rfl (by kernel_rfl) rfl hM ?_ | refine Nx.so ?_ | refine Nx.sb (fun bx => ?_) | refine Nx.sa (fun A2 c2 => ?_))
    | refine Nx.za ?_ | refine Nx.zr (fun hc => ?_) (fun hc => ?_)
    | refine Nx.zq ?_ | refine Nx.zu (fun hc => ?_) (fun hc => ?_)
    | refine Nx.zx ?_ | fail
  first | exact Nx.ret_fn rfl [] ⟨rfl, rfl⟩ (by (exact Ent.auto)) | exact Nx.ret_cell 0 rfl rfl rfl rfl rfl rfl [] ⟨rfl, rfl⟩ (by (exact Ent.auto))
def ratC (q : Rat) : List Value := [.int .i64 q.num, .int .i64 q.den]
theorem ratC_len (q : Rat) : (ratC q).length = 2 := rfl
abbrev Rats := SliceN ratC 2
abbrev ratsR (A : Option Addr) (n c : Nat) (l : List Rat) : Res := Vec 24 2 A n c (l.flatMap ratC)
def rl (n : Nat) (f : Nat → Rat) : List Rat := (List.range n).map f
theorem rl_len (n : Nat) (f : Nat → Rat) : (rl n f).length = n := by unfold rl; rw [List.length_map, List.length_range]
theorem rl_at {n k : Nat} (f : Nat → Rat) (h : k < n) : (rl n f).getD k default = f k := by
  unfold rl
  rw [List.getD_eq_getElem?_getD, List.getElem?_map, List.getElem?_range h]; rfl
theorem rl_congr {n : Nat} {f g : Nat → Rat} (h : ∀ k, k < n → f k = g k) : rl n f = rl n g := List.map_congr_left fun k hk => h k (List.mem_range.1 hk)
theorem rl_succ (n : Nat) (f : Nat → Rat) : rl (n + 1) f = rl n f ++ [f n] := by unfold rl; rw [List.range_succ, List.map_append]; rfl
def updF (f : Nat → Rat) (k : Nat) (v : Rat) : Nat → Rat := fun j => if j = k then v else f j
theorem rl_set {n k : Nat} {f : Nat → Rat} {v : Rat} : (rl n f).set k v = rl n (updF f k v) := by
  refine List.ext_getElem? fun j => ?_
  unfold rl updF
  rw [List.getElem?_set, List.getElem?_map, List.length_map, List.length_range]
  by_cases hj : j < n
  · rw [List.getElem?_map, List.getElem?_range hj]
    by_cases h : k = j
    · subst h; rw [if_pos rfl, if_pos hj]; show some v = some (if k = k then v else f k); rw [if_pos rfl]
    · rw [if_neg h]; show some (f j) = some (if j = k then v else f j); rw [if_neg (Ne.symm h)]
  · have e : ∀ g : Nat → Rat, Option.map g (List.range n)[j]? = none := fun g => by rw [List.getElem?_eq_none (by rw [List.length_range]; omega)]; rfl
    rw [List.getElem?_map, e, e]
    split
    · rw [if_neg (by omega)]
    · rfl
end Go.Proofs.YtpcnapidlhpbkaaGreatDoor
namespace Go.Proofs.YtpcnapidlhpbkaaGreatDoor
open Go.Eng
attribute [local irreducible] opK wpList Code.wp Exit.then Exit.inBlock fnPost bodyPost Nx Calls Oper.wp Rd Rds Wr Ent Stars Blk Again Vec FnSpec wpMix QRun Stop Upto wpAt
structure TA where
  Ar : Option Addr
  cr : Nat
  Ab : Option Addr
  cb : Nat
  ra : Nat → Option Addr × Nat
abbrev tabC (q : Bl.Eqs) (vr vb vc : Value) : List Value := [.int .i64 (q.cnt : Int), .int .i64 (q.m : Int), vr, vb, vc]
abbrev tabV (q : Bl.Eqs) (ta : TA) (vc : Value) : List Value := tabC q (.slice ta.Ar q.m ta.cr) (.slice ta.Ab q.m ta.cb) vc
structure TabQ (I : PH) (q : Bl.Eqs) (ta : TA) (s : Bl.Tab) : Prop where
  outer : SliceOf (fun i : Nat => Value.slice (ta.ra i).1 (q.N + 1) (ta.ra i).2) I ta.Ar ta.cr (List.range q.m)
  rows : ∀ i, i < q.m → Rats I (ta.ra i).1 (ta.ra i).2 (rl (q.N + 1) (s.T i))
  basis : SliceOf (fun i : Nat => Value.int .i64 (s.B i : Int)) I ta.Ab ta.cb (List.range q.m)
theorem range_getD {k m : Nat} (h : k < m) : (List.range m).getD k default = k := by rw [List.getD_eq_getElem?_getD, List.getElem?_range h]; rfl
section
variable {I : PH} {q : Bl.Eqs} {ta : TA} {s : Bl.Tab} {W : World} {R : List Res}
theorem TabQ.row (h : TabQ I q ta s) {i : Nat} (hi : i < q.m) : Rd W I R ((ad ta.Ar).add (i * 1)) (.slice (ta.ra i).1 (q.N + 1) (ta.ra i).2) := by
  have := h.outer.rd (W := W) (R := R) (k := i) (by rw [List.length_range]; exact hi)
  rwa [range_getD hi] at this
theorem TabQ.bas (h : TabQ I q ta s) {i : Nat} (hi : i < q.m) : Rd W I R ((ad ta.Ab).add (i * 1)) (.int .i64 (s.B i : Int)) := by
  have := h.basis.rd (W := W) (R := R) (k := i) (by rw [List.length_range]; exact hi)
  rwa [range_getD hi] at this
theorem TabQ.num (h : TabQ I q ta s) {i k : Nat} (hi : i < q.m) (hk : k < q.N + 1) : Rds W I R ((ad (ta.ra i).1).add (k * 2)) (ratC (s.T i k)) := by
  have := (h.rows i hi).rds (W := W) (R := R) (k := k) (by rw [rl_len]; exact hk)
  rwa [rl_at _ hk] at this
theorem TabQ.as (h : TabQ I q ta s) (hm : 0 < q.m) : ta.Ar.isSome = true := h.outer.isSome (by rw [List.length_range]; exact hm)
theorem TabQ.bs (h : TabQ I q ta s) (hm : 0 < q.m) : ta.Ab.isSome = true := h.basis.isSome (by rw [List.length_range]; exact hm)
theorem TabQ.rs (h : TabQ I q ta s) {i : Nat} (hi : i < q.m) : (ta.ra i).1.isSome = true := (h.rows i hi).isSome (by rw [rl_len]; omega) (by omega)
theorem cost_rd {Ac : Option Addr} {cc : Nat} {c : Nat → Int} {n : Nat} (h : Rats I Ac cc (rl n (Bl.cst c))) {k : Nat} (hk : k < n) : Rds W I R ((ad Ac).add (k * 2)) (ratC (Bl.cst c k)) := by
  have := h.rds (W := W) (R := R) (k := k) (by rw [rl_len]; exact hk)
  rwa [rl_at _ hk] at this
end
set_option maxRecDepth 10000 in
theorem value_spec' (b : Nat) (q : Bl.Eqs) (hq : q.Small) (vr vb vc : Value) (I : PH) :
    FnSpec Tryz.prog 153 [.pointer (some ⟨b, 0, none⟩)] I [Blk b 193 (tabC q vr vb vc)] (fun v R' => v = .int .i64 ((q.cnt : Int) + (q.m : Int)) ∧ R' = [Blk b 193 (tabC q vr vb vc)]) := by
  have h1 := hq.cnt
  have h2 := hq.m
  refine FnSpec.enterP Tryz.func153 rfl Tryz.ntmps153 rfl fun w F => ?_
  repeat' first
    | ((with_reducible refine Nx.is_wp ?_); first | refine Nx.wo ?_ | refine Nx.p_draw (id := 1) rfl [0, 1, 2, 3, 4, 5, 6, 7, 8, 9] [] _ rfl rfl (by kernel_rfl) (by kernel_rfl) rfl PanicOk.auto (Ent.refl _) ?_ | refine Nx.zp (fun hc => ?_) (fun hc => ?_))
    | (refine Nx.zo ?_; first | refine Nx.opr rfl rfl ?_ | refine Nx.so ?_ | refine Nx.sb (fun bx => ?_) | refine Nx.sa (fun A2 c2 => ?_))
    | refine Nx.za ?_ | refine Nx.zr (fun hc => ?_) (fun hc => ?_)
    | refine Nx.zq ?_ | refine Nx.zu (fun hc => ?_) (fun hc => ?_)
    | refine Nx.zx ?_ | fail
  exact Nx.ret_fn rfl [_] ⟨rfl, rfl⟩ (by (exact Ent.auto))
def gn (c : Nat → Int) (s : Bl.Tab) (col j : Nat) : Rat := Bl.cst c col - Bl.sm j fun i => Bl.cst c (s.B i) * s.T i col
theorem gn_succ (c : Nat → Int) (s : Bl.Tab) (col j : Nat) : gn c s col (j + 1) = gn c s col j - Bl.cst c (s.B j) * s.T j col := by
  unfold gn
  rw [Bl.sm]
  grind
theorem gn_end (c : Nat → Int) (s : Bl.Tab) (col m : Nat) : gn c s col m = Bl.gain m (Bl.cst c) s col := rfl
set_option maxRecDepth 10000 in
theorem gain_spec (b : Nat) (q : Bl.Eqs) (hq : q.Small) (ta : TA) (s : Bl.Tab) (hs : Bl.Inv q s) (c : Nat → Int) (hc : ∀ k, (c k).natAbs ≤ 1) (Ac : Option Addr) (cc : Nat) (I : PH) (hT : TabI I) (h : TabQ I q ta s) (hcost : Rats I Ac cc (rl q.N (Bl.cst c))) (col : Nat) (hcol : col < q.N) :
    FnSpec Tryz.prog 116 [.pointer (some ⟨b, 0, none⟩), .int .i64 (col : Int)] I [Blk b 193 (tabV q ta (.slice Ac q.N cc))] (fun v R' => v = ratV (Bl.gain q.m (Bl.cst c) s col) ∧ R' = [Blk b 193 (tabV q ta (.slice Ac q.N cc))]) := by
  have h1 := hq.cnt
  have h2 := hq.m
  have hN : (q.cnt : Int) + (q.m : Int) = (q.N : Int) := by show _ = ((q.cnt + q.m : Nat) : Int); omega
  have hNb : q.N ≤ 20 := by show q.cnt + q.m ≤ 20; omega
  obtain ⟨D, hD⟩ := hs.num hq
  have hAc := hcost.isSome (by rw [rl_len]; omega) (by omega)
  have hV := value_spec' b q hq (.slice ta.Ar q.m ta.cr) (.slice ta.Ab q.m ta.cb) (.slice Ac q.N cc) I
  rw [hN] at hV
  have hcol1 : ∀ (W : World) (Q : List Res), Rds W I Q ((ad Ac).add (col * 2)) (ratC (Bl.cst c col)) := fun W Q => cost_rd hcost hcol
  refine FnSpec.enterP Tryz.func116 rfl Tryz.ntmps116 rfl fun w F => ?_
  repeat' first
    | ((with_reducible refine Nx.is_wp ?_); first | refine Nx.wo ?_ | refine Nx.zp (fun hc => ?_) (fun hc => ?_))
    | (refine Nx.zo ?_; first | refine Nx.opr rfl rfl ?_ | refine Nx.callv rfl rfl rfl (by kernel_rfl) rfl (bwhole_spec _ _) ?_ | (refine Nx.call rfl rfl rfl (by kernel_rfl) rfl hV (by (exact Ent.auto)) ?_; rintro _ _ ⟨rfl, rfl⟩) | refine Nx.indexAddr_nat (A := Ac) (i := col) (sz := 2) rfl rfl rfl rfl rfl hcol hAc ?_ | refine Nx.loads rfl rfl rfl rfl (hcol1 _ _) rfl ?_ | refine Nx.so ?_ | refine Nx.sb (fun bx => ?_) | refine Nx.sa (fun A2 c2 => ?_))
    | refine Nx.za ?_ | refine Nx.zr (fun hc => ?_) (fun hc => ?_)
    | refine Nx.zq ?_ | refine Nx.zu (fun hc => ?_) (fun hc => ?_)
    | refine Nx.zx ?_ | fail
  rename_i b4
  revert bx; intro b5
  refine Nx.p_loop (σ := Nat) (fun j => [(0, .pointer (some ⟨b, 0, none⟩)), (1, .int .i64 (col : Int)), (4, .pointer (some ⟨b4, 0, none⟩)), (5, .pointer (some ⟨b5, 0, none⟩)), (23, .slice ta.Ab q.m ta.cb), (24, .int .i64 (q.m : Int)), (25, .int .i64 (j : Int))])
    (fun j => [Blk b5 24 (ratC (gn c s col j)), Blk b4 24 [.int .i64 0, .int .i64 0], Blk b 193 (tabV q ta (.slice Ac q.N cc)), F]) (fun j => j ≤ q.m) (fun j => q.m - j) 0 rfl (Nat.zero_le _) ⟨rfl, rfl, rfl, rfl, rfl, rfl, rfl, trivial⟩ (by rw [show gn c s col 0 = Bl.cst c col by unfold gn; rw [Bl.sm]; grind]; (exact Ent.auto)) ?_
  intro j hj
  have hj : j ≤ q.m := hj
  have hrb : ∀ i, i ≤ q.m → RB (gn c s col i) := fun i hi => hD.rbs hq hcol (fun i => c (s.B i)) (fun i => hc _) (c col) (hc col) hi
  by_cases hjm : j < q.m
  case neg =>
    obtain rfl : j = q.m := by omega
    rw [gn_end]
    repeat' first
      | ((with_reducible refine Nx.is_wp ?_); first | refine Nx.wo ?_ | refine Nx.zp (fun hc => ?_) (fun hc => ?_))
      | (refine Nx.zo ?_; first | refine Nx.opr rfl rfl ?_ | refine Nx.so ?_ | refine Nx.sb (fun bx => ?_) | refine Nx.sa (fun A2 c2 => ?_))
      | refine Nx.za ?_ | refine Nx.zr (fun hc => ?_) (fun hc => ?_)
      | refine Nx.zq ?_ | refine Nx.zu (fun hc => ?_) (fun hc => ?_)
      | refine Nx.zx ?_ | fail
    exact Nx.ret_cell 0 rfl rfl rfl rfl rfl rfl [_] ⟨rfl, rfl⟩ (by (exact Ent.auto))
  have hB := hs.ok.bas j hjm
  have r1 := fun (W : World) (Q : List Res) => h.bas (W := W) (R := Q) hjm
  have r2 := fun (W : World) (Q : List Res) => cost_rd (I := I) (W := W) (R := Q) hcost hB
  have r3 := fun (W : World) (Q : List Res) => h.row (W := W) (R := Q) hjm
  have r4 := fun (W : World) (Q : List Res) => h.num (W := W) (R := Q) hjm (show col < q.N + 1 by omega)
  have hAr := h.as (by omega)
  have hAb := h.bs (by omega)
  have hra := h.rs hjm
  have hM1 := btimes_spec (Bl.cst c (s.B j)) (s.T j col) (RB_int (by have := hc (s.B j); omega)) (hD.rb hjm (Nat.le_of_lt hcol)) (hD.rb1 hjm (Nat.le_of_lt hcol) _ (hc _)) I hT
  have hM2 := bminus_spec (gn c s col j) (Bl.cst c (s.B j) * s.T j col) (hrb j hj) (hD.rb1 hjm (Nat.le_of_lt hcol) _ (hc _)) (by rw [← gn_succ]; exact hrb (j + 1) hjm) I hT
  rw [← gn_succ] at hM2
  generalize s.B j = k at hB r1 r2 hM1 hM2
  have hm64 : (q.m : Int) ≤ 10 := by omega
  repeat' first
    | ((with_reducible refine Nx.is_wp ?_); first | refine Nx.wo ?_ | refine Nx.p_drawF (id := 7) rfl [0, 1, 2, 3, 4, 5, 6, 7, 8, 9, 10, 11, 12, 13, 14, 15, 16, 17, 18] [18] [19, 20] _ rfl rfl (by kernel_rfl) (by kernel_rfl) rfl PanicOk.auto (Ent.refl _) ?_ | refine Nx.zp (fun hc => ?_) (fun hc => ?_))
    | (refine Nx.zo ?_; first | refine Nx.opr rfl rfl ?_ | refine Nx.indexAddr_nat (A := ta.Ab) (i := j) (sz := 1) rfl rfl rfl rfl rfl hjm hAb ?_ | refine Nx.load rfl rfl rfl (r1 _ _) ?_ | refine Nx.callv rfl rfl rfl (by kernel_rfl) rfl hM1 ?_ | refine Nx.callv rfl rfl rfl (by kernel_rfl) rfl hM2 ?_ | refine Nx.so ?_ | refine Nx.sb (fun bx => ?_) | refine Nx.sa (fun A2 c2 => ?_))
    | refine Nx.za ?_ | refine Nx.zr (fun hc => ?_) (fun hc => ?_)
    | ((with_reducible refine Nx.is_mix ?_); first | refine Nx.m_quiet rfl rfl rfl rfl rfl (by first | exact QRun.opr rfl | exact QRun.idx (A := Ac) (i := k) (sz := 2) rfl rfl rfl rfl hB hAc | exact QRun.loads rfl rfl rfl (r2 _ _) rfl | exact QRun.idx (A := ta.Ar) (i := j) (sz := 1) rfl rfl rfl rfl hjm hAr | exact QRun.load rfl rfl (r3 _ _) | exact QRun.idx (A := (ta.ra j).1) (i := col) (sz := 2) rfl rfl rfl rfl (by omega) hra | exact QRun.loads rfl rfl rfl (r4 _ _) rfl | exact QRun.loads rfl rfl rfl (Rds.cut 0 2 rfl rfl) rfl) ?_ | refine Nx.m_quiet_do rfl rfl rfl rfl rfl rfl rfl (by first | exact QRun.opr rfl | exact QRun.idx (A := Ac) (i := k) (sz := 2) rfl rfl rfl rfl hB hAc | exact QRun.loads rfl rfl rfl (r2 _ _) rfl | exact QRun.idx (A := ta.Ar) (i := j) (sz := 1) rfl rfl rfl rfl hjm hAr | exact QRun.load rfl rfl (r3 _ _) | exact QRun.idx (A := (ta.ra j).1) (i := col) (sz := 2) rfl rfl rfl rfl (by omega) hra | exact QRun.loads rfl rfl rfl (r4 _ _) rfl | exact QRun.loads rfl rfl rfl (Rds.cut 0 2 rfl rfl) rfl) ?_ | refine Nx.m ?_ | refine Nx.zm ?_ | refine Nx.zt (fun hc => ?_) (fun hc => ?_))
    | refine Nx.zx ?_ | fail
  exact Nx.again (j + 1) hjm (by omega) ⟨rfl, rfl, rfl, rfl, rfl, rfl, rfl, trivial⟩ (by (exact Ent.auto))
end Go.Proofs.YtpcnapidlhpbkaaGreatDoor
namespace Go.Eng
section
variable {C : Cx} {e : Env} {S : World → Prop} {ty t u : TypeId} {pos : String} {after : Array Edge} {g : Option (Nat × Bool)} {x : Operand} {dst : Option Tmp}
theorem QRun.un {op : UnOp} {vx v : Value} (hx : evo e x = some vx) (hv : pureRun C.P (Op.unary op vx) = some v) : QRun C e S ⟨dst, .unOp op t x, ty, pos, after, g⟩ v :=
  fun a w ha _ => by simp only [execOp, ha.eval hx]; exact run_v (run_of_pureRun hv w)
theorem QRun.neg {p : Int} (hx : evo e x = some (.int .i64 p)) (hr : I64 (-p)) : QRun C e S ⟨dst, .unOp .neg t x, ty, pos, after, g⟩ (.int .i64 (-p)) :=
  QRun.un hx (by rw [← wrap_i64 hr, ← Int.zero_sub]; rfl)
theorem Nx.unstop {I : PH} {R : List Res} {K : Act → World → Prop} (h : Nx C e I R K) : Nx C e I R (Stop K) := h
end
end Go.Eng
namespace Go.Proofs.YtpcnapidlhpbkaaGreatDoor
open Go.Eng
attribute [local irreducible] opK wpList Code.wp Exit.then Exit.inBlock fnPost bodyPost Nx Calls Oper.wp Rd Rds Wr Ent Stars Blk Again Vec FnSpec wpMix QRun Stop Upto wpAt
set_option maxRecDepth 10000 in
theorem enter_spec (b : Nat) (q : Bl.Eqs) (hq : q.Small) (ta : TA) (s : Bl.Tab) (hs : Bl.Inv q s) (c : Nat → Int) (hc : ∀ k, (c k).natAbs ≤ 1) (Ac : Option Addr) (cc : Nat) (I : PH) (hT : TabI I) (h : TabQ I q ta s) (hcost : Rats I Ac cc (rl q.N (Bl.cst c))) :
    FnSpec Tryz.prog 112 [.pointer (some ⟨b, 0, none⟩)] I [Blk b 193 (tabV q ta (.slice Ac q.N cc))]
      (fun v R' => ((v = .int .i64 (-1) ∧ ∀ k, k < q.cnt → Bl.gain q.m (Bl.cst c) s k ≤ 0) ∨ ∃ e : Nat, v = .int .i64 (e : Int) ∧ Bl.Ent q.m q.cnt (Bl.cst c) s e) ∧ R' = [Blk b 193 (tabV q ta (.slice Ac q.N cc))]) := by
  have h1 := hq.cnt
  have h2 := hq.m
  obtain ⟨D, hD⟩ := hs.num hq
  refine FnSpec.enterP Tryz.func112 rfl Tryz.ntmps112 rfl fun w F => ?_
  repeat' first
    | ((with_reducible refine Nx.is_wp ?_); first | refine Nx.wo ?_ | refine Nx.zp (fun hc => ?_) (fun hc => ?_))
    | (refine Nx.zo ?_; first | refine Nx.opr rfl rfl ?_ | refine Nx.so ?_ | refine Nx.sb (fun bx => ?_) | refine Nx.sa (fun A2 c2 => ?_))
    | refine Nx.za ?_ | refine Nx.zr (fun hc => ?_) (fun hc => ?_)
    | refine Nx.zq ?_ | refine Nx.zu (fun hc => ?_) (fun hc => ?_)
    | refine Nx.zx ?_ | fail
  refine Nx.p_loop (σ := Nat) (fun k => [(0, .pointer (some ⟨b, 0, none⟩)), (7, .int .i64 (q.cnt : Int)), (8, .int .i64 (k : Int))])
    (fun _ => [Blk b 193 (tabV q ta (.slice Ac q.N cc)), F]) (fun k => k ≤ q.cnt ∧ ∀ j, j < k → Bl.gain q.m (Bl.cst c) s j ≤ 0) (fun k => q.cnt - k) 0 rfl ⟨Nat.zero_le _, fun j hj => absurd hj (Nat.not_lt_zero _)⟩ ⟨rfl, rfl, rfl, trivial⟩ (by (exact Ent.auto)) ?_
  rintro k ⟨hk, hno⟩
  by_cases hkc : k < q.cnt
  case neg =>
    obtain rfl : k = q.cnt := by omega
    repeat' first
      | ((with_reducible refine Nx.is_wp ?_); first | refine Nx.wo ?_ | refine Nx.zp (fun hc => ?_) (fun hc => ?_))
      | (refine Nx.zo ?_; first | refine Nx.opr rfl rfl ?_ | refine Nx.so ?_ | refine Nx.sb (fun bx => ?_) | refine Nx.sa (fun A2 c2 => ?_))
      | refine Nx.za ?_ | refine Nx.zr (fun hc => ?_) (fun hc => ?_)
      | refine Nx.zq ?_ | refine Nx.zu (fun hc => ?_) (fun hc => ?_)
      | refine Nx.zx ?_ | fail
    exact Nx.ret_fn rfl [_] ⟨.inl ⟨rfl, hno⟩, rfl⟩ (by (exact Ent.auto))
  have hkN : k < q.N := by show k < q.cnt + q.m; omega
  have hg := gain_spec b q hq ta s hs c hc Ac cc I hT h hcost k hkN
  have hrb : RB (Bl.gain q.m (Bl.cst c) s k) := hD.rbs hq hkN (fun i => c (s.B i)) (fun i => hc _) (c k) (hc k) (Nat.le_refl _)
  have hL := Less_rat ((0 : Int) : Rat) (Bl.gain q.m (Bl.cst c) s k) (RB_int (by decide)) hrb I
  by_cases hpos : 0 < Bl.gain q.m (Bl.cst c) s k
  · rw [decide_eq_true (show ((0 : Int) : Rat) < Bl.gain q.m (Bl.cst c) s k from hpos)] at hL
    repeat' first
      | ((with_reducible refine Nx.is_wp ?_); first | refine Nx.wo ?_ | refine Nx.zp (fun hc => ?_) (fun hc => ?_))
      | (refine Nx.zo ?_; first | refine Nx.opr rfl rfl ?_ | refine Nx.callv rfl rfl rfl (by kernel_rfl) rfl (bwhole_spec _ _) ?_ | (refine Nx.call rfl rfl rfl (by kernel_rfl) rfl hg (by (exact Ent.auto)) ?_; rintro _ _ ⟨rfl, rfl⟩) | refine Nx.callv rfl rfl rfl (by kernel_rfl) rfl hL ?_ | refine Nx.so ?_ | refine Nx.sb (fun bx => ?_) | refine Nx.sa (fun A2 c2 => ?_))
      | refine Nx.za ?_ | refine Nx.zr (fun hc => ?_) (fun hc => ?_)
      | refine Nx.zq ?_ | refine Nx.zu (fun hc => ?_) (fun hc => ?_)
      | refine Nx.zx ?_ | fail
    exact Nx.ret_fn rfl [_] ⟨.inr ⟨k, rfl, hkc, hpos, hno⟩, rfl⟩ (by (exact Ent.auto))
  · rw [decide_eq_false (show ¬ ((0 : Int) : Rat) < Bl.gain q.m (Bl.cst c) s k from hpos)] at hL
    repeat' first
      | ((with_reducible refine Nx.is_wp ?_); first | refine Nx.wo ?_ | refine Nx.zp (fun hc => ?_) (fun hc => ?_))
      | (refine Nx.zo ?_; first | refine Nx.opr rfl rfl ?_ | refine Nx.callv rfl rfl rfl (by kernel_rfl) rfl (bwhole_spec _ _) ?_ | (refine Nx.call rfl rfl rfl (by kernel_rfl) rfl hg (by (exact Ent.auto)) ?_; rintro _ _ ⟨rfl, rfl⟩) | refine Nx.callv rfl rfl rfl (by kernel_rfl) rfl hL ?_ | refine Nx.so ?_ | refine Nx.sb (fun bx => ?_) | refine Nx.sa (fun A2 c2 => ?_))
      | refine Nx.za ?_ | refine Nx.zr (fun hc => ?_) (fun hc => ?_)
      | refine Nx.zq ?_ | refine Nx.zu (fun hc => ?_) (fun hc => ?_)
      | refine Nx.zx ?_ | fail
    refine Nx.again (k + 1) ⟨hkc, fun j hj => ?_⟩ (by omega) ⟨rfl, rfl, rfl, trivial⟩ (by (exact Ent.auto))
    by_cases hjk : j < k
    · exact hno j hjk
    · obtain rfl : j = k := by omega
      exact Rat.not_lt.1 hpos
def Best (q : Bl.Eqs) (s : Bl.Tab) (e n : Nat) : Option Nat → Prop
  | none => ∀ i, i < n → s.T i e ≤ 0
  | some r => r < n ∧ 0 < s.T r e ∧ ∀ i, i < n → 0 < s.T i e → s.T r q.N / s.T r e < s.T i q.N / s.T i e ∨ (s.T r q.N / s.T r e = s.T i q.N / s.T i e ∧ s.B r ≤ s.B i)
theorem Best.skip {q : Bl.Eqs} {s : Bl.Tab} {e n : Nat} {o : Option Nat} (h : Best q s e n o) (hn : s.T n e ≤ 0) : Best q s e (n + 1) o := by
  cases o with
  | none =>
    intro i hi
    by_cases hin : i < n
    · exact h i hin
    · obtain rfl : i = n := by omega
      exact hn
  | some r =>
    obtain ⟨h1, h2, h3⟩ := h
    refine ⟨by omega, h2, fun i hi hp => ?_⟩
    by_cases hin : i < n
    · exact h3 i hin hp
    · obtain rfl : i = n := by omega
      exact absurd hp (Rat.not_lt.2 hn)
theorem Best.keep {q : Bl.Eqs} {s : Bl.Tab} {e n r : Nat} (h : Best q s e n (some r)) (hn : s.T r q.N / s.T r e < s.T n q.N / s.T n e ∨ (s.T r q.N / s.T r e = s.T n q.N / s.T n e ∧ s.B r ≤ s.B n)) : Best q s e (n + 1) (some r) := by
  obtain ⟨h1, h2, h3⟩ := h
  refine ⟨by omega, h2, fun i hi hp => ?_⟩
  by_cases hin : i < n
  · exact h3 i hin hp
  · obtain rfl : i = n := by omega
    exact hn
theorem Best.first {q : Bl.Eqs} {s : Bl.Tab} {e n : Nat} (h : Best q s e n none) (hp : 0 < s.T n e) : Best q s e (n + 1) (some n) := by
  refine ⟨by omega, hp, fun i hi hpi => ?_⟩
  by_cases hin : i < n
  · exact absurd hpi (Rat.not_lt.2 (h i hin))
  · obtain rfl : i = n := by omega
    exact .inr ⟨rfl, Nat.le_refl _⟩
theorem Best.take {q : Bl.Eqs} {s : Bl.Tab} {e n r : Nat} (h : Best q s e n (some r)) (hp : 0 < s.T n e) (hn : s.T n q.N / s.T n e < s.T r q.N / s.T r e ∨ (s.T n q.N / s.T n e = s.T r q.N / s.T r e ∧ s.B n < s.B r)) : Best q s e (n + 1) (some n) := by
  obtain ⟨h1, h2, h3⟩ := h
  refine ⟨by omega, hp, fun i hi hpi => ?_⟩
  by_cases hin : i < n
  · rcases h3 i hin hpi with h4 | ⟨h4, h5⟩
    · rcases hn with h6 | ⟨h6, _⟩
      · exact .inl (by grind)
      · rw [h6]; exact .inl h4
    · rcases hn with h6 | ⟨h6, h7⟩
      · rw [← h4]; exact .inl h6
      · exact .inr ⟨h6.trans h4, by omega⟩
  · obtain rfl : i = n := by omega
    exact .inr ⟨rfl, Nat.le_refl _⟩
theorem eql_fracK {x y : Operand} (a b c d : Int) (r : Bool) (h : decide (a = c ∧ b = d) = r) (w : World) :
    (do eqGuard .eql 24 x y (.agg #[.int .i64 a, .int .i64 b]) (.agg #[.int .i64 c, .int .i64 d]); binOp .eql 24 (.agg #[.int .i64 a, .int .i64 b]) (.agg #[.int .i64 c, .int .i64 d])).run Tryz.prog w = .ok (.bool r) w := by subst h; exact eql_frac a b c d w
def bestV : Option Nat → Int
  | none => -1
  | some r => r
def bestC (q : Bl.Eqs) (s : Bl.Tab) (e : Nat) : Option Nat → List Value
  | none => [.int .i64 0, .int .i64 0]
  | some r => ratC (s.T r q.N / s.T r e)
theorem rat_eq_iff {p q : Rat} : (p.num = q.num ∧ (p.den : Int) = (q.den : Int)) ↔ p = q := ⟨fun h => Rat.ext h.1 (by omega), fun h => by subst h; exact ⟨rfl, rfl⟩⟩
set_option maxRecDepth 10000 in
theorem leave_spec (b : Nat) (q : Bl.Eqs) (hq : q.Small) (ta : TA) (s : Bl.Tab) (hs : Bl.Inv q s) (vc : Value) (I : PH) (hT : TabI I) (h : TabQ I q ta s) (e : Nat) (he : e < q.cnt) :
    FnSpec Tryz.prog 113 [.pointer (some ⟨b, 0, none⟩), .int .i64 (e : Int)] I [Blk b 193 (tabV q ta vc)]
      (fun v R' => ((v = .int .i64 (-1) ∧ ∀ i, i < q.m → s.T i e ≤ 0) ∨ ∃ r : Nat, v = .int .i64 (r : Int) ∧ Bl.Lea q.m q.N s e r) ∧ R' = [Blk b 193 (tabV q ta vc)]) := by
  have h1 := hq.cnt
  have h2 := hq.m
  have hN : (q.cnt : Int) + (q.m : Int) = (q.N : Int) := by show _ = ((q.cnt + q.m : Nat) : Int); omega
  have hNb : q.N ≤ 20 := by show q.cnt + q.m ≤ 20; omega
  have heN : e < q.N := by show e < q.cnt + q.m; omega
  obtain ⟨D, hD⟩ := hs.num hq
  have hV := value_spec' b q hq (.slice ta.Ar q.m ta.cr) (.slice ta.Ab q.m ta.cb) vc I
  rw [hN] at hV
  refine FnSpec.enterP Tryz.func113 rfl Tryz.ntmps113 rfl fun w F => ?_
  repeat' first
    | ((with_reducible refine Nx.is_wp ?_); first | refine Nx.wo ?_ | refine Nx.zp (fun hc => ?_) (fun hc => ?_))
    | (refine Nx.zo ?_; first | refine Nx.opr rfl rfl ?_ | refine Nx.so ?_ | refine Nx.sb (fun bx => ?_) | refine Nx.sa (fun A2 c2 => ?_))
    | refine Nx.za ?_ | refine Nx.zr (fun hc => ?_) (fun hc => ?_)
    | refine Nx.zq ?_ | refine Nx.zu (fun hc => ?_) (fun hc => ?_)
    | refine Nx.zx ?_ | fail
  revert bx; intro b6
  refine Nx.p_loop (σ := Nat × Option Nat) (fun z => [(0, .pointer (some ⟨b, 0, none⟩)), (1, .int .i64 (e : Int)), (5, .int .i64 (bestV z.2)), (6, .pointer (some ⟨b6, 0, none⟩)), (13, .slice ta.Ar q.m ta.cr), (14, .int .i64 (q.m : Int)), (15, .int .i64 (z.1 : Int))])
    (fun z => [Blk b6 24 (bestC q s e z.2), Blk b 193 (tabV q ta vc), F]) (fun z => z.1 ≤ q.m ∧ Best q s e z.1 z.2) (fun z => q.m - z.1) (0, none) rfl ⟨Nat.zero_le _, fun i hi => absurd hi (Nat.not_lt_zero _)⟩ ⟨rfl, rfl, rfl, rfl, rfl, rfl, rfl, trivial⟩ (by (exact Ent.auto)) ?_
  rintro ⟨i, o⟩ ⟨hi, ho⟩
  dsimp only at hi ho ⊢
  by_cases him : i < q.m
  case neg =>
    obtain rfl : i = q.m := by omega
    repeat' first
      | ((with_reducible refine Nx.is_wp ?_); first | refine Nx.wo ?_ | refine Nx.zp (fun hc => ?_) (fun hc => ?_))
      | (refine Nx.zo ?_; first | refine Nx.opr rfl rfl ?_ | refine Nx.so ?_ | refine Nx.sb (fun bx => ?_) | refine Nx.sa (fun A2 c2 => ?_))
      | refine Nx.za ?_ | refine Nx.zr (fun hc => ?_) (fun hc => ?_)
      | refine Nx.zq ?_ | refine Nx.zu (fun hc => ?_) (fun hc => ?_)
      | refine Nx.zx ?_ | fail
    cases o with
    | none => exact Nx.ret_fn rfl [_] ⟨.inl ⟨rfl, ho⟩, rfl⟩ (by (exact Ent.auto))
    | some r => exact Nx.ret_fn rfl [_] ⟨.inr ⟨r, rfl, ho.1, ho.2.1, ho.2.2⟩, rfl⟩ (by (exact Ent.auto))
  have hAr := h.as (by omega)
  have hAb := h.bs (by omega)
  have hra := h.rs him
  have r3 := fun (W : World) (Q : List Res) => h.row (W := W) (R := Q) him
  have r4 := fun (W : World) (Q : List Res) => h.num (W := W) (R := Q) him (show e < q.N + 1 by omega)
  have hL := Less_rat ((0 : Int) : Rat) (s.T i e) (RB_int (by decide)) (hD.rb him (Nat.le_of_lt heN)) I
  by_cases hp : 0 < s.T i e
  case neg =>
    rw [decide_eq_false (show ¬ ((0 : Int) : Rat) < s.T i e from hp)] at hL
    repeat' first
      | ((with_reducible refine Nx.is_wp ?_); first | refine Nx.wo ?_ | refine Nx.p_drawF (id := 6) rfl [1, 2, 3, 4, 0] [0] [5, 6] _ rfl rfl (by kernel_rfl) (by kernel_rfl) rfl PanicOk.auto (Ent.refl _) ?_ | refine Nx.p_poolF (id := 7) rfl [0, 1, 5, 6, 7, 8, 2, 3, 4, 9] [2, 9] [] [11] [11] [⟨10, 9, 24, _⟩] rfl rfl (by kernel_rfl) (by kernel_rfl) (by decide) (PoolFit.cons ⟨⟨_, _, _, rfl⟩, rfl, rfl⟩ PoolFit.nil) PanicOk.auto (Ent.refl _) ?_ | refine Nx.p_drawF (id := 8) rfl [0, 1, 2, 3, 4, 5, 6, 7, 8, 9, 10, 11, 12, 13, 14, 15, 16, 17, 18, 19, 20, 21, 22, 23, 24, 25, 26, 27, 28] [5] [] _ rfl rfl (by kernel_rfl) (by kernel_rfl) rfl PanicOk.auto (Ent.refl _) ?_ | refine Nx.p_drawF (id := 9) rfl [0, 1, 2] [] [3] _ rfl rfl (by kernel_rfl) (by kernel_rfl) rfl PanicOk.auto (Ent.refl _) ?_ | refine Nx.zp (fun hc => ?_) (fun hc => ?_))
      | ((first | refine Nx.at_op rfl rfl ?_ | refine Nx.m_loud rfl rfl rfl ?_ | refine Nx.at_do rfl rfl rfl rfl ?_ | refine Nx.m_loud_do rfl rfl rfl rfl rfl ?_ | refine GoodF.loud_ rfl rfl rfl rfl (fun ex X => ?_)); first | refine Nx.opr rfl rfl ?_ | refine Nx.indexAddr_nat (A := ta.Ar) (i := i) (sz := 1) rfl rfl rfl rfl rfl him hAr ?_ | refine Nx.load rfl rfl rfl (r3 _ _) ?_ | refine Nx.callv rfl rfl rfl (by kernel_rfl) rfl (bwhole_spec _ _) ?_ | refine Nx.callv rfl rfl rfl (by kernel_rfl) rfl hL ?_ | refine Nx.so ?_ | refine Nx.sb (fun bx => ?_) | refine Nx.sa (fun A2 c2 => ?_))
      | refine Nx.za ?_ | refine Nx.zr (fun hc => ?_) (fun hc => ?_)
      | ((with_reducible refine Nx.is_mix ?_); first | refine Nx.m_quiet rfl rfl rfl rfl rfl (by first | exact QRun.opr rfl | exact QRun.idx (A := (ta.ra i).1) (i := e) (sz := 2) rfl rfl rfl rfl (by omega) hra | exact QRun.loads rfl rfl rfl (r4 _ _) rfl) ?_ | refine Nx.m_quiet_do rfl rfl rfl rfl rfl rfl rfl (by first | exact QRun.opr rfl | exact QRun.idx (A := (ta.ra i).1) (i := e) (sz := 2) rfl rfl rfl rfl (by omega) hra | exact QRun.loads rfl rfl rfl (r4 _ _) rfl) ?_ | refine Nx.m ?_ | refine Nx.zm ?_ | refine Nx.zt (fun hc => ?_) (fun hc => ?_))
      | ((with_reducible refine GoodF.is ?_); first | refine GoodF.quiet rfl rfl rfl rfl rfl rfl (by first | exact QRun.opr rfl | exact QRun.idx (A := (ta.ra i).1) (i := e) (sz := 2) rfl rfl rfl rfl (by omega) hra | exact QRun.loads rfl rfl rfl (r4 _ _) rfl |  exact QRun.std) ?_ | refine GoodF.done1 rfl (fun bx => ?_) | refine GoodF.done2 rfl (fun bx by_ => ?_) | refine GoodF.done3 rfl (fun bx by_ bz => ?_))
      | ((fail_if_success (with_reducible refine Nx.is_at ?_)); (fail_if_success (with_reducible refine Nx.is_wp ?_)); (fail_if_success (with_reducible refine Nx.is_mix ?_)); first | refine Nx.ex ?_ | refine Nx.pool_nextF 0 rfl (by exact Ent.auto) ?_ | refine Nx.pool_nextF 1 rfl (by exact Ent.auto) ?_ | refine Nx.pool_nextF 2 rfl (by exact Ent.auto) ?_ | refine Nx.pool_nextF 3 rfl (by exact Ent.auto) ?_)
    exact Nx.again (i + 1, o) ⟨him, ho.skip (Rat.not_lt.1 hp)⟩ (by dsimp only; omega) ⟨rfl, rfl, rfl, rfl, rfl, rfl, rfl, trivial⟩ (by (exact Ent.auto))
  rw [decide_eq_true (show ((0 : Int) : Rat) < s.T i e from hp)] at hL
  have hne : s.T i e ≠ 0 := by grind
  have r5 := fun (W : World) (Q : List Res) => h.num (W := W) (R := Q) him (show q.N < q.N + 1 by omega)
  have hrq : ∀ r, r < q.m → 0 < s.T r e → RB (s.T r q.N / s.T r e) := fun r hr hpr => hD.rbq hr hr (Nat.le_refl _) heN (by grind)
  have hM := bover_spec (s.T i q.N) (s.T i e) (hD.rb him (Nat.le_refl _)) (hD.rb him (Nat.le_of_lt heN)) hne (hrq i him hp) I hT
  obtain ⟨rq, hrq'⟩ : ∃ rq, rq = s.T i q.N / s.T i e := ⟨_, rfl⟩
  rw [← hrq'] at hM
  obtain ⟨xe, hxe⟩ : ∃ xe, xe = s.T i e := ⟨_, rfl⟩
  obtain ⟨xn, hxn⟩ : ∃ xn, xn = s.T i q.N := ⟨_, rfl⟩
  rw [← hxe] at hL r4
  rw [← hxe, ← hxn] at hM
  rw [← hxn] at r5
  have hbc : ∃ x y : Int, bestC q s e o = [.int .i64 x, .int .i64 y] := by
    cases o with
    | none => exact ⟨_, _, rfl⟩
    | some r => exact ⟨_, _, rfl⟩
  obtain ⟨bx1, bx2, hbx⟩ := hbc
  obtain ⟨bv, hbv⟩ : ∃ bv, bv = bestV o := ⟨_, rfl⟩
  rw [hbx, ← hbv]
  repeat' first
    | ((with_reducible refine Nx.is_wp ?_); first | refine Nx.p_stopr 8 rfl ?_ | refine Nx.wo ?_ | refine Nx.p_drawF (id := 6) rfl [1, 2, 3, 4, 0] [0] [5, 6] _ rfl rfl (by kernel_rfl) (by kernel_rfl) rfl PanicOk.auto (Ent.refl _) ?_ | refine Nx.p_poolF (id := 7) rfl [0, 1, 5, 6, 7, 8, 2, 3, 4, 9] [2, 9] [] [11] [11] [⟨10, 9, 24, _⟩] rfl rfl (by kernel_rfl) (by kernel_rfl) (by decide) (PoolFit.cons ⟨⟨_, _, _, rfl⟩, rfl, rfl⟩ PoolFit.nil) PanicOk.auto (Ent.refl _) ?_ | refine Nx.p_drawF (id := 8) rfl [0, 1, 2, 3, 4, 5, 6, 7, 8, 9, 10, 11, 12, 13, 14, 15, 16, 17, 18, 19, 20, 21, 22, 23, 24, 25, 26, 27, 28] [5] [] _ rfl rfl (by kernel_rfl) (by kernel_rfl) rfl PanicOk.auto (Ent.refl _) ?_ | refine Nx.p_drawF (id := 9) rfl [0, 1, 2] [] [3] _ rfl rfl (by kernel_rfl) (by kernel_rfl) rfl PanicOk.auto (Ent.refl _) ?_ | refine Nx.zp (fun hc => ?_) (fun hc => ?_))
    | ((first | refine Nx.at_op rfl rfl ?_ | refine Nx.m_loud rfl rfl rfl ?_ | refine Nx.at_do rfl rfl rfl rfl ?_ | refine Nx.m_loud_do rfl rfl rfl rfl rfl ?_ | refine GoodF.loud_ rfl rfl rfl rfl (fun ex X => ?_)); first | refine Nx.opr rfl rfl ?_ | refine Nx.indexAddr_nat (A := ta.Ar) (i := i) (sz := 1) rfl rfl rfl rfl rfl him hAr ?_ | refine Nx.load rfl rfl rfl (r3 _ _) ?_ | refine Nx.callv rfl rfl rfl (by kernel_rfl) rfl (bwhole_spec _ _) ?_ | refine Nx.callv rfl rfl rfl (by kernel_rfl) rfl hL ?_ | (refine Nx.call rfl rfl rfl (by kernel_rfl) rfl hV (by (exact Ent.auto)) ?_; rintro _ _ ⟨rfl, rfl⟩) | refine Nx.callv rfl rfl rfl (by kernel_rfl) rfl hM ?_ | refine Nx.so ?_ | refine Nx.sb (fun bx => ?_) | refine Nx.sa (fun A2 c2 => ?_))
    | refine Nx.za ?_ | refine Nx.zr (fun hc => ?_) (fun hc => ?_)
    | ((with_reducible refine Nx.is_mix ?_); first | refine Nx.m_quiet rfl rfl rfl rfl rfl (by first | exact QRun.opr rfl | exact QRun.idx (A := (ta.ra i).1) (i := e) (sz := 2) rfl rfl rfl rfl (by omega) hra | exact QRun.loads rfl rfl rfl (r4 _ _) rfl | exact QRun.idx (A := (ta.ra i).1) (i := q.N) (sz := 2) rfl rfl rfl rfl (by omega) hra | exact QRun.loads rfl rfl rfl (r5 _ _) rfl) ?_ | refine Nx.m_quiet_do rfl rfl rfl rfl rfl rfl rfl (by first | exact QRun.opr rfl | exact QRun.idx (A := (ta.ra i).1) (i := e) (sz := 2) rfl rfl rfl rfl (by omega) hra | exact QRun.loads rfl rfl rfl (r4 _ _) rfl | exact QRun.idx (A := (ta.ra i).1) (i := q.N) (sz := 2) rfl rfl rfl rfl (by omega) hra | exact QRun.loads rfl rfl rfl (r5 _ _) rfl) ?_ | refine Nx.m ?_ | refine Nx.zm ?_ | refine Nx.zt (fun hc => ?_) (fun hc => ?_))
    | ((with_reducible refine GoodF.is ?_); first | refine GoodF.quiet rfl rfl rfl rfl rfl rfl (by first | exact QRun.opr rfl | exact QRun.idx (A := (ta.ra i).1) (i := e) (sz := 2) rfl rfl rfl rfl (by omega) hra | exact QRun.loads rfl rfl rfl (r4 _ _) rfl | exact QRun.idx (A := (ta.ra i).1) (i := q.N) (sz := 2) rfl rfl rfl rfl (by omega) hra | exact QRun.loads rfl rfl rfl (r5 _ _) rfl |  exact QRun.std) ?_ | refine GoodF.done1 rfl (fun bx => ?_) | refine GoodF.done2 rfl (fun bx by_ => ?_) | refine GoodF.done3 rfl (fun bx by_ bz => ?_))
    | ((fail_if_success (with_reducible refine Nx.is_at ?_)); (fail_if_success (with_reducible refine Nx.is_wp ?_)); (fail_if_success (with_reducible refine Nx.is_mix ?_)); first | refine Nx.ex ?_ | refine Nx.pool_nextF 0 rfl (by exact Ent.auto) ?_ | refine Nx.pool_nextF 1 rfl (by exact Ent.auto) ?_ | refine Nx.pool_nextF 2 rfl (by exact Ent.auto) ?_ | refine Nx.pool_nextF 3 rfl (by exact Ent.auto) ?_)
  refine Nx.unstop ?_
  revert bx; intro b9
  have hset : Best q s e (i + 1) (some i) → bestC q s e (some i) = ratC rq := fun _ => by rw [hrq']; rfl
  cases o with
  | none =>
    have hbn := ho.first hp
    have hsb := hset hbn
    have hbvn : bv = -1 := hbv
    subst hbvn
    repeat' first
      | ((with_reducible refine Nx.is_wp ?_); first | refine Nx.wo ?_ | refine Nx.p_drawF (id := 6) rfl [1, 2, 3, 4, 0] [0] [5, 6] _ rfl rfl (by kernel_rfl) (by kernel_rfl) rfl PanicOk.auto (Ent.refl _) ?_ | refine Nx.p_poolF (id := 7) rfl [0, 1, 5, 6, 7, 8, 2, 3, 4, 9] [2, 9] [] [11] [11] [⟨10, 9, 24, _⟩] rfl rfl (by kernel_rfl) (by kernel_rfl) (by decide) (PoolFit.cons ⟨⟨_, _, _, rfl⟩, rfl, rfl⟩ PoolFit.nil) PanicOk.auto (Ent.refl _) ?_ | refine Nx.p_drawF (id := 8) rfl [0, 1, 2, 3, 4, 5, 6, 7, 8, 9, 10, 11, 12, 13, 14, 15, 16, 17, 18, 19, 20, 21, 22, 23, 24, 25, 26, 27, 28] [5] [] _ rfl rfl (by kernel_rfl) (by kernel_rfl) rfl PanicOk.auto (Ent.refl _) ?_ | refine Nx.p_drawF (id := 9) rfl [0, 1, 2] [] [3] _ rfl rfl (by kernel_rfl) (by kernel_rfl) rfl PanicOk.auto (Ent.refl _) ?_ | refine Nx.zp (fun hc => ?_) (fun hc => ?_))
      | ((first | refine Nx.at_op rfl rfl ?_ | refine Nx.m_loud rfl rfl rfl ?_ | refine Nx.at_do rfl rfl rfl rfl ?_ | refine Nx.m_loud_do rfl rfl rfl rfl rfl ?_ | refine GoodF.loud_ rfl rfl rfl rfl (fun ex X => ?_)); first | refine Nx.opr rfl rfl ?_ | refine Nx.so ?_ | refine Nx.sb (fun bx => ?_) | refine Nx.sa (fun A2 c2 => ?_))
      | refine Nx.za ?_ | refine Nx.zr (fun hc => ?_) (fun hc => ?_)
      | refine Nx.zq ?_ | refine Nx.zu (fun hc => ?_) (fun hc => ?_)
      | ((with_reducible refine GoodF.is ?_); first | refine GoodF.quiet rfl rfl rfl rfl rfl rfl (by first | exact QRun.opr rfl |  exact QRun.std) ?_ | refine GoodF.done1 rfl (fun bx => ?_) | refine GoodF.done2 rfl (fun bx by_ => ?_) | refine GoodF.done3 rfl (fun bx by_ bz => ?_))
      | ((fail_if_success (with_reducible refine Nx.is_at ?_)); (fail_if_success (with_reducible refine Nx.is_wp ?_)); (fail_if_success (with_reducible refine Nx.is_mix ?_)); first | refine Nx.ex ?_ | refine Nx.pool_nextF 0 rfl (by exact Ent.auto) ?_ | refine Nx.pool_nextF 1 rfl (by exact Ent.auto) ?_ | refine Nx.pool_nextF 2 rfl (by exact Ent.auto) ?_ | refine Nx.pool_nextF 3 rfl (by exact Ent.auto) ?_)
    exact Nx.again (i + 1, some i) ⟨him, hbn⟩ (by dsimp only; omega) ⟨rfl, rfl, rfl, rfl, rfl, rfl, rfl, trivial⟩ (by dsimp only; rw [hsb]; (exact Ent.auto))
  | some r =>
    have hr := ho.1
    have hbvr : bv = (r : Int) := hbv
    subst hbvr
    obtain ⟨rr, hrr⟩ : ∃ rr, rr = s.T r q.N / s.T r e := ⟨_, rfl⟩
    have hRB1 : RB rq := by rw [hrq']; exact hrq i him hp
    have hRB2 : RB rr := by rw [hrr]; exact hrq r (by omega) ho.2.1
    have hL2 := Less_rat rq rr hRB1 hRB2 I
    have hbx2 : [Value.int .i64 bx1, Value.int .i64 bx2] = ratC rr := by rw [← hbx, hrr]; rfl
    rw [hbx2]
    have hkeep : bestC q s e (some r) = ratC rr := by rw [hrr]; rfl
    have b1 := fun (W : World) (Q : List Res) => h.bas (W := W) (R := Q) him
    have b2 := fun (W : World) (Q : List Res) => h.bas (W := W) (R := Q) (show r < q.m by omega)
    have hrm : r < q.m := by omega
    have htake : rq < rr ∨ (rq = rr ∧ s.B i < s.B r) → Best q s e (i + 1) (some i) := fun hh => ho.take hp (by rw [← hrq', ← hrr]; exact hh)
    have hstay : rr < rq ∨ (rr = rq ∧ s.B r ≤ s.B i) → Best q s e (i + 1) (some r) := fun hh => ho.keep (by rw [← hrq', ← hrr]; exact hh)
    generalize s.B i = Bi at b1 htake hstay
    generalize s.B r = Br at b2 htake hstay
    clear hbx hbx2 hbv r3 r4 r5 hM hL hV
    by_cases hlt : rq < rr
    · rw [decide_eq_true hlt] at hL2
      have hbn := htake (.inl hlt)
      have hsb := hset hbn
      repeat' first
        | ((with_reducible refine Nx.is_wp ?_); first | refine Nx.wo ?_ | refine Nx.p_drawF (id := 6) rfl [1, 2, 3, 4, 0] [0] [5, 6] _ rfl rfl (by kernel_rfl) (by kernel_rfl) rfl PanicOk.auto (Ent.refl _) ?_ | refine Nx.p_poolF (id := 7) rfl [0, 1, 5, 6, 7, 8, 2, 3, 4, 9] [2, 9] [] [11] [11] [⟨10, 9, 24, _⟩] rfl rfl (by kernel_rfl) (by kernel_rfl) (by decide) (PoolFit.cons ⟨⟨_, _, _, rfl⟩, rfl, rfl⟩ PoolFit.nil) PanicOk.auto (Ent.refl _) ?_ | refine Nx.p_drawF (id := 8) rfl [0, 1, 2, 3, 4, 5, 6, 7, 8, 9, 10, 11, 12, 13, 14, 15, 16, 17, 18, 19, 20, 21, 22, 23, 24, 25, 26, 27, 28] [5] [] _ rfl rfl (by kernel_rfl) (by kernel_rfl) rfl PanicOk.auto (Ent.refl _) ?_ | refine Nx.p_drawF (id := 9) rfl [0, 1, 2] [] [3] _ rfl rfl (by kernel_rfl) (by kernel_rfl) rfl PanicOk.auto (Ent.refl _) ?_ | refine Nx.zp (fun hc => ?_) (fun hc => ?_))
        | ((first | refine Nx.at_op rfl rfl ?_ | refine Nx.m_loud rfl rfl rfl ?_ | refine Nx.at_do rfl rfl rfl rfl ?_ | refine Nx.m_loud_do rfl rfl rfl rfl rfl ?_ | refine GoodF.loud_ rfl rfl rfl rfl (fun ex X => ?_)); first | refine Nx.opr rfl rfl ?_ | refine Nx.callv rfl rfl rfl (by kernel_rfl) rfl hL2 ?_ | refine Nx.so ?_ | refine Nx.sb (fun bx => ?_) | refine Nx.sa (fun A2 c2 => ?_))
        | refine Nx.za ?_ | refine Nx.zr (fun hc => ?_) (fun hc => ?_)
        | ((with_reducible refine Nx.is_mix ?_); first | refine Nx.m_quiet rfl rfl rfl rfl rfl (by first | exact QRun.opr rfl | exact QRun.loads rfl rfl rfl (Rds.cut 0 2 rfl rfl) rfl | exact QRun.loads rfl rfl rfl (Rds.cut 1 2 rfl rfl) rfl) ?_ | refine Nx.m_quiet_do rfl rfl rfl rfl rfl rfl rfl (by first | exact QRun.opr rfl | exact QRun.loads rfl rfl rfl (Rds.cut 0 2 rfl rfl) rfl | exact QRun.loads rfl rfl rfl (Rds.cut 1 2 rfl rfl) rfl) ?_ | refine Nx.m ?_ | refine Nx.zm ?_ | refine Nx.zt (fun hc => ?_) (fun hc => ?_))
        | ((with_reducible refine GoodF.is ?_); first | refine GoodF.quiet rfl rfl rfl rfl rfl rfl (by first | exact QRun.opr rfl | exact QRun.loads rfl rfl rfl (Rds.cut 0 2 rfl rfl) rfl | exact QRun.loads rfl rfl rfl (Rds.cut 1 2 rfl rfl) rfl |  exact QRun.std) ?_ | refine GoodF.done1 rfl (fun bx => ?_) | refine GoodF.done2 rfl (fun bx by_ => ?_) | refine GoodF.done3 rfl (fun bx by_ bz => ?_))
        | ((fail_if_success (with_reducible refine Nx.is_at ?_)); (fail_if_success (with_reducible refine Nx.is_wp ?_)); (fail_if_success (with_reducible refine Nx.is_mix ?_)); first | refine Nx.ex ?_ | refine Nx.pool_nextF 0 rfl (by exact Ent.auto) ?_ | refine Nx.pool_nextF 1 rfl (by exact Ent.auto) ?_ | refine Nx.pool_nextF 2 rfl (by exact Ent.auto) ?_ | refine Nx.pool_nextF 3 rfl (by exact Ent.auto) ?_)
      exact Nx.again (i + 1, some i) ⟨him, hbn⟩ (by dsimp only; omega) ⟨rfl, rfl, rfl, rfl, rfl, rfl, rfl, trivial⟩ (by dsimp only; rw [hsb]; (exact Ent.auto))
    rw [decide_eq_false hlt] at hL2
    by_cases heq : rq = rr
    · have hE := fun {x y : Operand} (w : World) => eql_fracK (x := x) (y := y) rq.num rq.den rr.num rr.den true (decide_eq_true (rat_eq_iff.2 heq)) w
      by_cases hB : Bi < Br
      · have hbn := htake (.inr ⟨heq, hB⟩)
        have hsb := hset hbn
        repeat' first
          | ((with_reducible refine Nx.is_wp ?_); first | refine Nx.wo ?_ | refine Nx.p_drawF (id := 6) rfl [1, 2, 3, 4, 0] [0] [5, 6] _ rfl rfl (by kernel_rfl) (by kernel_rfl) rfl PanicOk.auto (Ent.refl _) ?_ | refine Nx.p_poolF (id := 7) rfl [0, 1, 5, 6, 7, 8, 2, 3, 4, 9] [2, 9] [] [11] [11] [⟨10, 9, 24, _⟩] rfl rfl (by kernel_rfl) (by kernel_rfl) (by decide) (PoolFit.cons ⟨⟨_, _, _, rfl⟩, rfl, rfl⟩ PoolFit.nil) PanicOk.auto (Ent.refl _) ?_ | refine Nx.p_drawF (id := 8) rfl [0, 1, 2, 3, 4, 5, 6, 7, 8, 9, 10, 11, 12, 13, 14, 15, 16, 17, 18, 19, 20, 21, 22, 23, 24, 25, 26, 27, 28] [5] [] _ rfl rfl (by kernel_rfl) (by kernel_rfl) rfl PanicOk.auto (Ent.refl _) ?_ | refine Nx.p_drawF (id := 9) rfl [0, 1, 2] [] [3] _ rfl rfl (by kernel_rfl) (by kernel_rfl) rfl PanicOk.auto (Ent.refl _) ?_ | refine Nx.zp (fun hc => ?_) (fun hc => ?_))
          | ((first | refine Nx.at_op rfl rfl ?_ | refine Nx.m_loud rfl rfl rfl ?_ | refine Nx.at_do rfl rfl rfl rfl ?_ | refine Nx.m_loud_do rfl rfl rfl rfl rfl ?_ | refine GoodF.loud_ rfl rfl rfl rfl (fun ex X => ?_)); first | refine Nx.opr rfl rfl ?_ | refine Nx.callv rfl rfl rfl (by kernel_rfl) rfl hL2 ?_ | refine Nx.so ?_ | refine Nx.sb (fun bx => ?_) | refine Nx.sa (fun A2 c2 => ?_))
          | refine Nx.za ?_ | refine Nx.zr (fun hc => ?_) (fun hc => ?_)
          | ((with_reducible refine Nx.is_mix ?_); first | refine Nx.m_quiet rfl rfl rfl rfl rfl (by first | exact QRun.opr rfl | exact QRun.binr rfl rfl hE | exact QRun.idx (A := ta.Ab) (i := i) (sz := 1) rfl rfl rfl rfl him hAb | exact QRun.idx (A := ta.Ab) (i := r) (sz := 1) rfl rfl rfl rfl hrm hAb | exact QRun.load rfl rfl (b1 _ _) | exact QRun.load rfl rfl (b2 _ _)) ?_ | refine Nx.m_quiet_do rfl rfl rfl rfl rfl rfl rfl (by first | exact QRun.opr rfl | exact QRun.binr rfl rfl hE | exact QRun.idx (A := ta.Ab) (i := i) (sz := 1) rfl rfl rfl rfl him hAb | exact QRun.idx (A := ta.Ab) (i := r) (sz := 1) rfl rfl rfl rfl hrm hAb | exact QRun.load rfl rfl (b1 _ _) | exact QRun.load rfl rfl (b2 _ _)) ?_ | refine Nx.m ?_ | refine Nx.zm ?_ | refine Nx.zt (fun hc => ?_) (fun hc => ?_))
          | ((with_reducible refine GoodF.is ?_); first | refine GoodF.quiet rfl rfl rfl rfl rfl rfl (by first | exact QRun.opr rfl | exact QRun.binr rfl rfl hE | exact QRun.idx (A := ta.Ab) (i := i) (sz := 1) rfl rfl rfl rfl him hAb | exact QRun.idx (A := ta.Ab) (i := r) (sz := 1) rfl rfl rfl rfl hrm hAb | exact QRun.load rfl rfl (b1 _ _) | exact QRun.load rfl rfl (b2 _ _) |  exact QRun.std) ?_ | refine GoodF.done1 rfl (fun bx => ?_) | refine GoodF.done2 rfl (fun bx by_ => ?_) | refine GoodF.done3 rfl (fun bx by_ bz => ?_))
          | ((fail_if_success (with_reducible refine Nx.is_at ?_)); (fail_if_success (with_reducible refine Nx.is_wp ?_)); (fail_if_success (with_reducible refine Nx.is_mix ?_)); first | refine Nx.ex ?_ | refine Nx.pool_nextF 0 rfl (by exact Ent.auto) ?_ | refine Nx.pool_nextF 1 rfl (by exact Ent.auto) ?_ | refine Nx.pool_nextF 2 rfl (by exact Ent.auto) ?_ | refine Nx.pool_nextF 3 rfl (by exact Ent.auto) ?_)
        exact Nx.again (i + 1, some i) ⟨him, hbn⟩ (by dsimp only; omega) ⟨rfl, rfl, rfl, rfl, rfl, rfl, rfl, trivial⟩ (by dsimp only; rw [hsb]; (exact Ent.auto))
      · have hbn := hstay (.inr ⟨heq.symm, by omega⟩)
        repeat' first
          | ((with_reducible refine Nx.is_wp ?_); first | refine Nx.wo ?_ | refine Nx.p_drawF (id := 6) rfl [1, 2, 3, 4, 0] [0] [5, 6] _ rfl rfl (by kernel_rfl) (by kernel_rfl) rfl PanicOk.auto (Ent.refl _) ?_ | refine Nx.p_poolF (id := 7) rfl [0, 1, 5, 6, 7, 8, 2, 3, 4, 9] [2, 9] [] [11] [11] [⟨10, 9, 24, _⟩] rfl rfl (by kernel_rfl) (by kernel_rfl) (by decide) (PoolFit.cons ⟨⟨_, _, _, rfl⟩, rfl, rfl⟩ PoolFit.nil) PanicOk.auto (Ent.refl _) ?_ | refine Nx.p_drawF (id := 8) rfl [0, 1, 2, 3, 4, 5, 6, 7, 8, 9, 10, 11, 12, 13, 14, 15, 16, 17, 18, 19, 20, 21, 22, 23, 24, 25, 26, 27, 28] [5] [] _ rfl rfl (by kernel_rfl) (by kernel_rfl) rfl PanicOk.auto (Ent.refl _) ?_ | refine Nx.p_drawF (id := 9) rfl [0, 1, 2] [] [3] _ rfl rfl (by kernel_rfl) (by kernel_rfl) rfl PanicOk.auto (Ent.refl _) ?_ | refine Nx.zp (fun hc => ?_) (fun hc => ?_))
          | ((first | refine Nx.at_op rfl rfl ?_ | refine Nx.m_loud rfl rfl rfl ?_ | refine Nx.at_do rfl rfl rfl rfl ?_ | refine Nx.m_loud_do rfl rfl rfl rfl rfl ?_ | refine GoodF.loud_ rfl rfl rfl rfl (fun ex X => ?_)); first | refine Nx.opr rfl rfl ?_ | refine Nx.callv rfl rfl rfl (by kernel_rfl) rfl hL2 ?_ | refine Nx.so ?_ | refine Nx.sb (fun bx => ?_) | refine Nx.sa (fun A2 c2 => ?_))
          | refine Nx.za ?_ | refine Nx.zr (fun hc => ?_) (fun hc => ?_)
          | ((with_reducible refine Nx.is_mix ?_); first | refine Nx.m_quiet rfl rfl rfl rfl rfl (by first | exact QRun.opr rfl | exact QRun.binr rfl rfl hE | exact QRun.idx (A := ta.Ab) (i := i) (sz := 1) rfl rfl rfl rfl him hAb | exact QRun.idx (A := ta.Ab) (i := r) (sz := 1) rfl rfl rfl rfl hrm hAb | exact QRun.load rfl rfl (b1 _ _) | exact QRun.load rfl rfl (b2 _ _)) ?_ | refine Nx.m_quiet_do rfl rfl rfl rfl rfl rfl rfl (by first | exact QRun.opr rfl | exact QRun.binr rfl rfl hE | exact QRun.idx (A := ta.Ab) (i := i) (sz := 1) rfl rfl rfl rfl him hAb | exact QRun.idx (A := ta.Ab) (i := r) (sz := 1) rfl rfl rfl rfl hrm hAb | exact QRun.load rfl rfl (b1 _ _) | exact QRun.load rfl rfl (b2 _ _)) ?_ | refine Nx.m ?_ | refine Nx.zm ?_ | refine Nx.zt (fun hc => ?_) (fun hc => ?_))
          | ((with_reducible refine GoodF.is ?_); first | refine GoodF.quiet rfl rfl rfl rfl rfl rfl (by first | exact QRun.opr rfl | exact QRun.binr rfl rfl hE | exact QRun.idx (A := ta.Ab) (i := i) (sz := 1) rfl rfl rfl rfl him hAb | exact QRun.idx (A := ta.Ab) (i := r) (sz := 1) rfl rfl rfl rfl hrm hAb | exact QRun.load rfl rfl (b1 _ _) | exact QRun.load rfl rfl (b2 _ _) |  exact QRun.std) ?_ | refine GoodF.done1 rfl (fun bx => ?_) | refine GoodF.done2 rfl (fun bx by_ => ?_) | refine GoodF.done3 rfl (fun bx by_ bz => ?_))
          | ((fail_if_success (with_reducible refine Nx.is_at ?_)); (fail_if_success (with_reducible refine Nx.is_wp ?_)); (fail_if_success (with_reducible refine Nx.is_mix ?_)); first | refine Nx.ex ?_ | refine Nx.pool_nextF 0 rfl (by exact Ent.auto) ?_ | refine Nx.pool_nextF 1 rfl (by exact Ent.auto) ?_ | refine Nx.pool_nextF 2 rfl (by exact Ent.auto) ?_ | refine Nx.pool_nextF 3 rfl (by exact Ent.auto) ?_)
        exact Nx.again (i + 1, some r) ⟨him, hbn⟩ (by dsimp only; omega) ⟨rfl, rfl, rfl, rfl, rfl, rfl, rfl, trivial⟩ (by dsimp only; rw [hkeep]; (exact Ent.auto))
    · have hE := fun {x y : Operand} (w : World) => eql_fracK (x := x) (y := y) rq.num rq.den rr.num rr.den false (decide_eq_false fun hh => heq (rat_eq_iff.1 hh)) w
      have hbn := hstay (.inl (by grind))
      repeat' first
        | ((with_reducible refine Nx.is_wp ?_); first | refine Nx.wo ?_ | refine Nx.p_drawF (id := 6) rfl [1, 2, 3, 4, 0] [0] [5, 6] _ rfl rfl (by kernel_rfl) (by kernel_rfl) rfl PanicOk.auto (Ent.refl _) ?_ | refine Nx.p_poolF (id := 7) rfl [0, 1, 5, 6, 7, 8, 2, 3, 4, 9] [2, 9] [] [11] [11] [⟨10, 9, 24, _⟩] rfl rfl (by kernel_rfl) (by kernel_rfl) (by decide) (PoolFit.cons ⟨⟨_, _, _, rfl⟩, rfl, rfl⟩ PoolFit.nil) PanicOk.auto (Ent.refl _) ?_ | refine Nx.p_drawF (id := 8) rfl [0, 1, 2, 3, 4, 5, 6, 7, 8, 9, 10, 11, 12, 13, 14, 15, 16, 17, 18, 19, 20, 21, 22, 23, 24, 25, 26, 27, 28] [5] [] _ rfl rfl (by kernel_rfl) (by kernel_rfl) rfl PanicOk.auto (Ent.refl _) ?_ | refine Nx.p_drawF (id := 9) rfl [0, 1, 2] [] [3] _ rfl rfl (by kernel_rfl) (by kernel_rfl) rfl PanicOk.auto (Ent.refl _) ?_ | refine Nx.zp (fun hc => ?_) (fun hc => ?_))
        | ((first | refine Nx.at_op rfl rfl ?_ | refine Nx.m_loud rfl rfl rfl ?_ | refine Nx.at_do rfl rfl rfl rfl ?_ | refine Nx.m_loud_do rfl rfl rfl rfl rfl ?_ | refine GoodF.loud_ rfl rfl rfl rfl (fun ex X => ?_)); first | refine Nx.opr rfl rfl ?_ | refine Nx.callv rfl rfl rfl (by kernel_rfl) rfl hL2 ?_ | refine Nx.so ?_ | refine Nx.sb (fun bx => ?_) | refine Nx.sa (fun A2 c2 => ?_))
        | refine Nx.za ?_ | refine Nx.zr (fun hc => ?_) (fun hc => ?_)
        | ((with_reducible refine Nx.is_mix ?_); first | refine Nx.m_quiet rfl rfl rfl rfl rfl (by first | exact QRun.opr rfl | exact QRun.binr rfl rfl hE) ?_ | refine Nx.m_quiet_do rfl rfl rfl rfl rfl rfl rfl (by first | exact QRun.opr rfl | exact QRun.binr rfl rfl hE) ?_ | refine Nx.m ?_ | refine Nx.zm ?_ | refine Nx.zt (fun hc => ?_) (fun hc => ?_))
        | ((with_reducible refine GoodF.is ?_); first | refine GoodF.quiet rfl rfl rfl rfl rfl rfl (by first | exact QRun.opr rfl | exact QRun.binr rfl rfl hE |  exact QRun.std) ?_ | refine GoodF.done1 rfl (fun bx => ?_) | refine GoodF.done2 rfl (fun bx by_ => ?_) | refine GoodF.done3 rfl (fun bx by_ bz => ?_))
        | ((fail_if_success (with_reducible refine Nx.is_at ?_)); (fail_if_success (with_reducible refine Nx.is_wp ?_)); (fail_if_success (with_reducible refine Nx.is_mix ?_)); first | refine Nx.ex ?_ | refine Nx.pool_nextF 0 rfl (by exact Ent.auto) ?_ | refine Nx.pool_nextF 1 rfl (by exact Ent.auto) ?_ | refine Nx.pool_nextF 2 rfl (by exact Ent.auto) ?_ | refine Nx.pool_nextF 3 rfl (by exact Ent.auto) ?_)
      exact Nx.again (i + 1, some r) ⟨him, hbn⟩ (by dsimp only; omega) ⟨rfl, rfl, rfl, rfl, rfl, rfl, rfl, trivial⟩ (by dsimp only; rw [hkeep]; (exact Ent.auto))
end Go.Proofs.YtpcnapidlhpbkaaGreatDoor
namespace Go.Proofs.YtpcnapidlhpbkaaGreatDoor
open Go.Eng
attribute [local irreducible] opK wpList Code.wp Exit.then Exit.inBlock fnPost bodyPost Nx Calls Oper.wp Rd Rds Wr Ent Stars Blk Again Vec FnSpec wpMix QRun Stop Upto wpAt
abbrev RowT := Nat × (Nat → Rat)
def rowsL (q : Bl.Eqs) (T : Nat → Nat → Rat) : List RowT := (List.range q.m).map fun i => (i, T i)
def rowF (q : Bl.Eqs) (ta : TA) (x : RowT) : Res := ratsR (ta.ra x.1).1 (q.N + 1) (ta.ra x.1).2 (rl (q.N + 1) x.2)
def trowsR (q : Bl.Eqs) (ta : TA) (T : Nat → Nat → Rat) : Res := Stars ((rowsL q T).map (rowF q ta))
def basL (q : Bl.Eqs) (B : Nat → Nat) : List Int := (List.range q.m).map fun i => (B i : Int)
def basisR (q : Bl.Eqs) (ta : TA) (B : Nat → Nat) : Res := Vec 3 1 ta.Ab q.m ta.cb ((basL q B).map (Value.int .i64))
theorem rowsL_len (q : Bl.Eqs) (T : Nat → Nat → Rat) : (rowsL q T).length = q.m := by unfold rowsL; rw [List.length_map, List.length_range]
theorem rowsL_at {q : Bl.Eqs} {T : Nat → Nat → Rat} {i : Nat} (hi : i < q.m) : (rowsL q T).getD i default = (i, T i) := by
  unfold rowsL
  rw [List.getD_eq_getElem?_getD, List.getElem?_map, List.getElem?_range hi]; rfl
theorem rowsL_set {q : Bl.Eqs} {T : Nat → Nat → Rat} {i : Nat} {f : Nat → Rat} : (rowsL q T).set i (i, f) = rowsL q (fun a => if a = i then f else T a) := by
  refine List.ext_getElem? fun j => ?_
  unfold rowsL
  rw [List.getElem?_set, List.getElem?_map, List.length_map, List.length_range, List.getElem?_map]
  by_cases hj : j < q.m
  · rw [List.getElem?_range hj]
    by_cases h : i = j
    · subst h; rw [if_pos rfl, if_pos hj]; show some (i, f) = some (i, if i = i then f else T i); rw [if_pos rfl]
    · rw [if_neg h]; show some (j, T j) = some (j, if j = i then f else T j); rw [if_neg (Ne.symm h)]
  · rw [List.getElem?_eq_none (by rw [List.length_range]; omega)]
    split
    · rw [if_neg (by omega)]; rfl
    · rfl
theorem basL_len (q : Bl.Eqs) (B : Nat → Nat) : (basL q B).length = q.m := by unfold basL; rw [List.length_map, List.length_range]
theorem basL_at {q : Bl.Eqs} {B : Nat → Nat} {i : Nat} (hi : i < q.m) : (basL q B).getD i default = (B i : Int) := by
  unfold basL
  rw [List.getD_eq_getElem?_getD, List.getElem?_map, List.getElem?_range hi]; rfl
theorem basL_set {q : Bl.Eqs} {B : Nat → Nat} {i e : Nat} : (basL q B).set i (e : Int) = basL q (fun a => if a = i then e else B a) := by
  refine List.ext_getElem? fun j => ?_
  unfold basL
  rw [List.getElem?_set, List.getElem?_map, List.length_map, List.length_range, List.getElem?_map]
  by_cases hj : j < q.m
  · rw [List.getElem?_range hj]
    by_cases h : i = j
    · subst h; rw [if_pos rfl, if_pos hj]; show some (e : Int) = some (((if i = i then e else B i) : Nat) : Int); rw [if_pos rfl]
    · rw [if_neg h]; show some (B j : Int) = some (((if j = i then e else B j) : Nat) : Int); rw [if_neg (Ne.symm h)]
  · rw [List.getElem?_eq_none (by rw [List.length_range]; omega)]
    split
    · rw [if_neg (by omega)]; rfl
    · rfl
def upd2 (T : Nat → Nat → Rat) (i k : Nat) (z : Rat) : Nat → Nat → Rat := fun a => if a = i then updF (T i) k z else T a
section
variable {C : Cx} {e : Env} {I : PH} {R : List Res} {K : Act → World → Prop} {Q : Exit → Act → World → Prop} {t ty : TypeId} {pos : String} {after : Array Edge} {g : Option (Nat × Bool)} {x y : Operand} {q : Bl.Eqs} {ta : TA} {T : Nat → Nat → Rat} {i kk : Nat}
theorem num_rds {W : World} (k : Nat) (hk : nthL R k = some (trowsR q ta T)) (hi : i < q.m) (hkk : kk < q.N + 1) : Rds W I R ((ad (ta.ra i).1).add (kk * 2)) (ratC (T i kk)) := by
  have := Rds.rowN (W := W) (I := I) (R := R) (f := ratC) (r := rowF q ta) (bs := rowsL q T) (j := i) (sz := 2) (l := rl (q.N + 1) (T i)) (i := kk) (A := (ta.ra i).1) (n := q.N + 1) (c := (ta.ra i).2) (el := 24) k ratC_len hk (by rw [rowsL_len]; exact hi) (by rw [rowsL_at hi]; rfl) (by rw [rl_len]; exact hkk)
  rwa [rl_at _ hkk] at this
theorem Nx.store_num (k : Nat) {z : Rat} (hx : evo e x = some (.pointer (some ((ad (ta.ra i).1).add (kk * 2))))) (hy : evo e y = some (ratV z)) (hn : Go.Eng.cellsIn C.P t = some 2) (hk : nthL R k = some (trowsR q ta T)) (hi : i < q.m) (hkk : kk < q.N + 1)
    (h : Nx C e I (trowsR q ta (upd2 T i kk z) :: R.eraseIdx k) K) : Nx C e I R (opK C.P ⟨none, .store t x y, ty, pos, after, g⟩ K Q) := by
  refine Nx.store_row2 (f := ratC) (a := fun q => .int .i64 q.num) (b := fun q => .int .i64 q.den) (r := rowF q ta) (bs := rowsL q T) (j := i) (y' := (i, updF (T i) kk z)) (l := rl (q.N + 1) (T i)) (i := kk) (z := z) (A := (ta.ra i).1) (n := q.N + 1) (c := (ta.ra i).2) (el := 24) k hx hy rfl (fun _ => rfl) rfl rfl hn hk (by rw [rowsL_len]; exact hi) (by rw [rowsL_at hi]; rfl) (by rw [rl_set]; rfl) (by rw [rl_len]; exact hkk) hkk ?_
  rw [rowsL_set]
  exact h
end
def T1 (T : Nat → Nat → Rat) (r : Nat) (p : Rat) (k : Nat) : Nat → Nat → Rat := fun a j => if a = r ∧ j < k then T r j / p else T a j
theorem T1_zero (T : Nat → Nat → Rat) (r : Nat) (p : Rat) : T1 T r p 0 = T := by
  funext a j
  unfold T1
  rw [if_neg (by omega)]
theorem T1_succ (T : Nat → Nat → Rat) (r : Nat) (p : Rat) (k : Nat) : upd2 (T1 T r p k) r k (T r k / p) = T1 T r p (k + 1) := by
  funext a j
  unfold upd2 updF T1
  by_cases ha : a = r
  · subst ha
    rw [if_pos rfl]
    by_cases hj : j = k
    · subst hj; rw [if_pos rfl, if_pos ⟨rfl, by omega⟩]
    · rw [if_neg hj]
      by_cases hjk : j < k
      · rw [if_pos ⟨rfl, hjk⟩, if_pos ⟨rfl, by omega⟩]
      · rw [if_neg (by omega), if_neg (by omega)]
  · rw [if_neg ha, if_neg (by omega), if_neg (by omega)]
def T2 (T : Nat → Nat → Rat) (N r e i k : Nat) : Nat → Nat → Rat := fun a j => if a = r then (if j < N + 1 then T r j / T r e else T r j) else if (a < i ∨ (a = i ∧ j < k)) ∧ j < N + 1 then T a j - T a e * (T r j / T r e) else T a j
theorem T2_zero (T : Nat → Nat → Rat) (N r e : Nat) : T1 T r (T r e) (N + 1) = T2 T N r e 0 0 := by
  funext a j
  unfold T1 T2
  by_cases ha : a = r
  · subst ha
    rw [if_pos rfl]
    by_cases hj : j < N + 1
    · rw [if_pos ⟨rfl, hj⟩, if_pos hj]
    · rw [if_neg (by omega), if_neg hj]
  · rw [if_neg (by omega), if_neg ha, if_neg (by omega)]
theorem T2_succ (T : Nat → Nat → Rat) {N r e i k : Nat} (hi : i ≠ r) (hk : k < N + 1) : upd2 (T2 T N r e i k) i k (T i k - T i e * (T r k / T r e)) = T2 T N r e i (k + 1) := by
  funext a j
  unfold upd2 updF T2
  by_cases ha : a = i
  · subst ha
    rw [if_pos rfl, if_neg hi, if_neg hi]
    by_cases hj : j = k
    · subst hj; rw [if_pos rfl, if_pos ⟨.inr ⟨rfl, by omega⟩, hk⟩]
    · rw [if_neg hj]
      by_cases hjk : j < k
      · rw [if_pos ⟨.inr ⟨rfl, hjk⟩, by omega⟩, if_pos ⟨.inr ⟨rfl, by omega⟩, by omega⟩]
      · rw [if_neg (by omega), if_neg (by omega)]
  · rw [if_neg ha]
    by_cases har : a = r
    · rw [if_pos har, if_pos har]
    · rw [if_neg har, if_neg har]
      by_cases hai : a < i ∧ j < N + 1
      · rw [if_pos ⟨.inl hai.1, hai.2⟩, if_pos ⟨.inl hai.1, hai.2⟩]
      · rw [if_neg (by omega), if_neg (by omega)]
theorem T2_row (T : Nat → Nat → Rat) {N r e i : Nat} : T2 T N r e i (N + 1) = T2 T N r e (i + 1) 0 := by
  funext a j
  unfold T2
  by_cases har : a = r
  · rw [if_pos har, if_pos har]
  · rw [if_neg har, if_neg har]
    by_cases h : (a < i ∨ a = i) ∧ j < N + 1
    · rw [if_pos ⟨h.1.elim .inl fun h1 => .inr ⟨h1, h.2⟩, h.2⟩, if_pos ⟨.inl (by omega), h.2⟩]
    · rw [if_neg (by omega), if_neg (by omega)]
theorem T2_skip (T : Nat → Nat → Rat) {N r e i : Nat} (h : i = r ∨ T i e = 0) : T2 T N r e i 0 = T2 T N r e (i + 1) 0 := by
  funext a j
  unfold T2
  by_cases har : a = r
  · rw [if_pos har, if_pos har]
  · rw [if_neg har, if_neg har]
    by_cases hai : a = i
    · subst hai
      have h0 : T a e = 0 := h.resolve_left har
      rw [if_neg (by omega)]
      split
      · rw [h0]; grind
      · rfl
    · by_cases h1 : a < i ∧ j < N + 1
      · rw [if_pos ⟨.inl h1.1, h1.2⟩, if_pos ⟨.inl (by omega), h1.2⟩]
      · rw [if_neg (by omega), if_neg (by omega)]
theorem rows_congr {q : Bl.Eqs} {ta : TA} {T T' : Nat → Nat → Rat} (h : ∀ i j, i < q.m → j < q.N + 1 → T i j = T' i j) : trowsR q ta T = trowsR q ta T' := by
  unfold trowsR rowsL
  rw [List.map_map, List.map_map]
  congr 1
  refine List.map_congr_left fun i hi => ?_
  show rowF q ta (i, T i) = rowF q ta (i, T' i)
  unfold rowF
  rw [rl_congr (f := T i) (g := T' i) fun j hj => h i j (List.mem_range.1 hi) hj]
theorem T2_end {q : Bl.Eqs} {ta : TA} {s : Bl.Tab} {r e : Nat} : trowsR q ta (T2 s.T q.N r e q.m 0) = trowsR q ta (Bl.piv s r e).T := rows_congr fun i j hi hj => by
  unfold T2
  rw [Bl.piv_T]
  by_cases hir : i = r
  · rw [if_pos hir, if_pos hj, if_pos hir]
  · rw [if_neg hir, if_pos ⟨.inl hi, hj⟩, if_neg hir]
set_option maxRecDepth 10000 in
theorem pivot_spec (b : Nat) (q : Bl.Eqs) (hq : q.Small) (ta : TA) (s : Bl.Tab) (hs : Bl.Inv q s) (r e : Nat) (hr : r < q.m) (he : e < q.cnt) (hne : s.T r e ≠ 0) (hs' : Bl.Inv q (Bl.piv s r e)) (vc : Value) (I : PH) (hT : TabI I)
    (ho : SliceOf (fun i : Nat => Value.slice (ta.ra i).1 (q.N + 1) (ta.ra i).2) I ta.Ar ta.cr (List.range q.m)) (hra : ∀ i, i < q.m → (ta.ra i).1.isSome = true) (hAb : ta.Ab.isSome = true) :
    FnSpec Tryz.prog 155 [.pointer (some ⟨b, 0, none⟩), .int .i64 (r : Int), .int .i64 (e : Int)] I [Blk b 193 (tabV q ta vc), basisR q ta s.B, trowsR q ta s.T]
      (fun _ R' => R' = [Blk b 193 (tabV q ta vc), basisR q ta (Bl.piv s r e).B, trowsR q ta (Bl.piv s r e).T]) := by
  have h1 := hq.cnt
  have h2 := hq.m
  have hNb : q.N ≤ 20 := by show q.cnt + q.m ≤ 20; omega
  have heN : e < q.N := by show e < q.cnt + q.m; omega
  obtain ⟨D, hD⟩ := hs.num hq
  obtain ⟨D', hD'⟩ := hs'.num hq
  have ror := fun (W : World) (Q : List Res) (i : Nat) (hi : i < q.m) => (by
    have := ho.rd (W := W) (R := Q) (k := i) (by rw [List.length_range]; exact hi)
    rwa [range_getD hi] at this : Rd W I Q ((ad ta.Ar).add (i * 1)) (.slice (ta.ra i).1 (q.N + 1) (ta.ra i).2))
  have hAr : ta.Ar.isSome = true := ho.isSome (by rw [List.length_range]; omega)
  have ro1 := fun (W : World) (Q : List Res) => ror W Q r hr
  have hrr := hra r hr
  obtain ⟨p, hp⟩ : ∃ p, p = s.T r e := ⟨_, rfl⟩
  have hpe : ∀ {W : World} {R : List Res} (k : Nat), nthL R k = some (trowsR q ta s.T) → Rds W I R ((ad (ta.ra r).1).add (e * 2)) (ratC p) := fun k hk => by rw [hp]; exact num_rds k hk hr (by omega)
  refine FnSpec.enterP Tryz.func155 rfl Tryz.ntmps155 rfl fun w F => ?_
  repeat' first
    | ((with_reducible refine Nx.is_wp ?_); first | refine Nx.wo ?_ | refine Nx.zp (fun hc => ?_) (fun hc => ?_))
    | (refine Nx.zo ?_; first | refine Nx.opr rfl rfl ?_ | refine Nx.indexAddr_nat (A := ta.Ar) (i := r) (sz := 1) rfl rfl rfl rfl rfl hr hAr ?_ | refine Nx.load rfl rfl rfl (ro1 _ _) ?_ | refine Nx.indexAddr_nat (A := (ta.ra r).1) (i := e) (sz := 2) rfl rfl rfl rfl rfl (by omega) hrr ?_ | refine Nx.loads rfl rfl rfl rfl (hpe 2 rfl) rfl ?_ | refine Nx.so ?_ | refine Nx.sb (fun bx => ?_) | refine Nx.sa (fun A2 c2 => ?_))
    | refine Nx.za ?_ | refine Nx.zr (fun hc => ?_) (fun hc => ?_)
    | refine Nx.zq ?_ | refine Nx.zu (fun hc => ?_) (fun hc => ?_)
    | refine Nx.zx ?_ | fail
  revert bx; intro b6
  have hpne : p ≠ 0 := by rw [hp]; exact hne
  have hRBp : RB p := by rw [hp]; exact hD.rb hr (by omega)
  refine Nx.p_loop (σ := Nat) (fun k => [(0, .pointer (some ⟨b, 0, none⟩)), (1, .int .i64 (r : Int)), (2, .int .i64 (e : Int)), (6, .pointer (some ⟨b6, 0, none⟩)), (30, .slice (ta.ra r).1 (q.N + 1) (ta.ra r).2), (31, .int .i64 ((q.N + 1 : Nat) : Int)), (32, .int .i64 (k : Int))])
    (fun k => [Blk b6 24 (ratC p), trowsR q ta (T1 s.T r p k), Blk b 193 (tabV q ta vc), basisR q ta s.B, F]) (fun k => k ≤ q.N + 1) (fun k => q.N + 1 - k) 0 rfl (Nat.zero_le _) ⟨rfl, rfl, rfl, rfl, rfl, rfl, rfl, trivial⟩ (by rw [T1_zero]; (exact Ent.auto)) ?_
  intro k hk
  have hk : k ≤ q.N + 1 := hk
  by_cases hkN : k < q.N + 1
  · obtain ⟨xk, hxk⟩ : ∃ xk, xk = s.T r k := ⟨_, rfl⟩
    obtain ⟨qk, hqk⟩ : ∃ qk, qk = xk / p := ⟨_, rfl⟩
    have hxe : ∀ (W : World) (R : List Res) (j : Nat), nthL R j = some (trowsR q ta (T1 s.T r p k)) → Rds W I R ((ad (ta.ra r).1).add (k * 2)) (ratC xk) := fun W R j hj => by
      have := num_rds (W := W) (I := I) j hj hr hkN
      rw [show T1 s.T r p k r k = xk by rw [hxk]; unfold T1; rw [if_neg (by omega)]] at this
      exact this
    have hM := bover_spec xk p (by rw [hxk]; exact hD.rb hr (by omega)) hRBp hpne (by rw [hxk, hp]; exact hD.rbq hr hr (by omega) heN hne) I hT
    rw [← hqk] at hM
    have hup := T1_succ s.T r p k
    rw [← hxk, ← hqk] at hup
    repeat' first
      | ((with_reducible refine Nx.is_wp ?_); first | refine Nx.wo ?_ | refine Nx.p_drawF (id := 4) rfl [0, 1, 2, 3, 4, 5, 6, 7, 8, 9, 10, 11] [10] [12] _ rfl rfl (by kernel_rfl) (by kernel_rfl) rfl PanicOk.auto (Ent.refl _) ?_ | refine Nx.p_drawF (id := 14) rfl [0, 1, 2, 3, 4, 5, 6, 7, 8, 9, 10] [8, 9] [11] _ rfl rfl (by kernel_rfl) (by kernel_rfl) rfl PanicOk.auto (Ent.refl _) ?_ | refine Nx.zp (fun hc => ?_) (fun hc => ?_))
      | (refine Nx.zo ?_; first | refine Nx.opr rfl rfl ?_ | refine Nx.indexAddr_nat (A := (ta.ra r).1) (i := k) (sz := 2) rfl rfl rfl rfl rfl hkN hrr ?_ | refine Nx.loads rfl rfl rfl rfl (hxe _ _ 1 rfl) rfl ?_ | refine Nx.callv rfl rfl rfl (by kernel_rfl) rfl hM ?_ | refine Nx.store_num 2 rfl rfl rfl rfl hr hkN ?_ | refine Nx.so ?_ | refine Nx.sb (fun bx => ?_) | refine Nx.sa (fun A2 c2 => ?_))
      | refine Nx.za ?_ | refine Nx.zr (fun hc => ?_) (fun hc => ?_)
      | ((with_reducible refine Nx.is_mix ?_); first | refine Nx.m_quiet rfl rfl rfl rfl rfl (by first | exact QRun.opr rfl | exact QRun.idx (A := ta.Ar) (i := r) (sz := 1) rfl rfl rfl rfl hr hAr | exact QRun.load rfl rfl (ro1 _ _) | exact QRun.loads rfl rfl rfl (Rds.cut 0 2 rfl rfl) rfl | exact QRun.loads rfl rfl rfl (Rds.cut 1 2 rfl rfl) rfl | exact QRun.idx (A := (ta.ra r).1) (i := k) (sz := 2) rfl rfl rfl rfl hkN hrr) ?_ | refine Nx.m_quiet_do rfl rfl rfl rfl rfl rfl rfl (by first | exact QRun.opr rfl | exact QRun.idx (A := ta.Ar) (i := r) (sz := 1) rfl rfl rfl rfl hr hAr | exact QRun.load rfl rfl (ro1 _ _) | exact QRun.loads rfl rfl rfl (Rds.cut 0 2 rfl rfl) rfl | exact QRun.loads rfl rfl rfl (Rds.cut 1 2 rfl rfl) rfl | exact QRun.idx (A := (ta.ra r).1) (i := k) (sz := 2) rfl rfl rfl rfl hkN hrr) ?_ | refine Nx.m ?_ | refine Nx.zm ?_ | refine Nx.zt (fun hc => ?_) (fun hc => ?_))
      | refine Nx.zx ?_ | fail
    exact Nx.again (k + 1) hkN (by omega) ⟨rfl, rfl, rfl, rfl, rfl, rfl, rfl, trivial⟩ (by rw [← hup]; (exact Ent.auto))
  obtain rfl : k = q.N + 1 := by omega
  rw [hp, T2_zero, ← hp]
  clear hpe hRBp
  repeat' first
    | ((with_reducible refine Nx.is_wp ?_); first | refine Nx.wo ?_ | refine Nx.zp (fun hc => ?_) (fun hc => ?_))
    | (refine Nx.zo ?_; first | refine Nx.opr rfl rfl ?_ | refine Nx.so ?_ | refine Nx.sb (fun bx => ?_) | refine Nx.sa (fun A2 c2 => ?_))
    | refine Nx.za ?_ | refine Nx.zr (fun hc => ?_) (fun hc => ?_)
    | refine Nx.zq ?_ | refine Nx.zu (fun hc => ?_) (fun hc => ?_)
    | refine Nx.zx ?_ | fail
  refine Nx.p_loop (σ := Nat) (fun i => [(0, .pointer (some ⟨b, 0, none⟩)), (1, .int .i64 (r : Int)), (2, .int .i64 (e : Int)), (53, .slice ta.Ar q.m ta.cr), (54, .int .i64 (q.m : Int)), (55, .int .i64 (i : Int))])
    (fun i => [trowsR q ta (T2 s.T q.N r e i 0), Blk b 193 (tabV q ta vc), basisR q ta s.B, F]) (fun i => i ≤ q.m) (fun i => q.m - i) 0 rfl (Nat.zero_le _) ⟨rfl, rfl, rfl, rfl, rfl, rfl, trivial⟩ (by (exact Ent.auto)) ?_
  intro i hi
  have hi : i ≤ q.m := hi
  by_cases him : i < q.m
  case neg =>
    obtain rfl : i = q.m := by omega
    rw [T2_end]
    have hbs : (basL q s.B).set r (e : Int) = basL q (Bl.piv s r e).B := basL_set
    repeat' first
      | ((with_reducible refine Nx.is_wp ?_); first | refine Nx.wo ?_ | refine Nx.zp (fun hc => ?_) (fun hc => ?_))
      | (refine Nx.zo ?_; first | refine Nx.opr rfl rfl ?_ | refine Nx.indexAddr_nat (A := ta.Ab) (i := r) (sz := 1) rfl rfl rfl rfl rfl hr hAb ?_ | refine Nx.store_ints 2 (A := ta.Ab) (i := r) (l := basL q s.B) (z := (e : Int)) rfl rfl rfl rfl hr ?_ | refine Nx.so ?_ | refine Nx.sb (fun bx => ?_) | refine Nx.sa (fun A2 c2 => ?_))
      | refine Nx.za ?_ | refine Nx.zr (fun hc => ?_) (fun hc => ?_)
      | refine Nx.zq ?_ | refine Nx.zu (fun hc => ?_) (fun hc => ?_)
      | refine Nx.zx ?_ | fail
    refine Nx.end_fn rfl [_, _, _] rfl ?_
    rw [hbs]
    unfold basisR
    (exact Ent.auto)
  have roi := fun (W : World) (Q : List Res) => ror W Q i him
  have hri := hra i him
  obtain ⟨z, hz⟩ : ∃ z, z = T2 s.T q.N r e i 0 i e := ⟨_, rfl⟩
  have hze : ∀ (W : World) (R : List Res) (j : Nat), nthL R j = some (trowsR q ta (T2 s.T q.N r e i 0)) → Rds W I R ((ad (ta.ra i).1).add (e * 2)) (ratC z) := fun W R j hj => by
    have := num_rds (W := W) (I := I) j hj him (show e < q.N + 1 by omega)
    rwa [← hz] at this
  by_cases hir : i = r
  · subst hir
    have hsk := T2_skip s.T (N := q.N) (r := i) (e := e) (i := i) (.inl rfl)
    repeat' first
      | ((with_reducible refine Nx.is_wp ?_); first | refine Nx.wo ?_ | refine Nx.zp (fun hc => ?_) (fun hc => ?_))
      | (refine Nx.zo ?_; first | refine Nx.opr rfl rfl ?_ | refine Nx.indexAddr_nat (A := ta.Ar) (i := i) (sz := 1) rfl rfl rfl rfl rfl him hAr ?_ | refine Nx.load rfl rfl rfl (roi _ _) ?_ | refine Nx.indexAddr_nat (A := (ta.ra i).1) (i := e) (sz := 2) rfl rfl rfl rfl rfl (by omega) hri ?_ | refine Nx.loads rfl rfl rfl rfl (hze _ _ 0 rfl) rfl ?_ | refine Nx.so ?_ | refine Nx.sb (fun bx => ?_) | refine Nx.sa (fun A2 c2 => ?_))
      | refine Nx.za ?_ | refine Nx.zr (fun hc => ?_) (fun hc => ?_)
      | refine Nx.zq ?_ | refine Nx.zu (fun hc => ?_) (fun hc => ?_)
      | refine Nx.zx ?_ | fail
    exact Nx.again (i + 1) him (by omega) ⟨rfl, rfl, rfl, rfl, rfl, rfl, trivial⟩ (by rw [← hsk]; (exact Ent.auto))
  have hzi : z = s.T i e := by rw [hz]; unfold T2; rw [if_neg hir, if_neg (by omega)]
  by_cases hz0 : z = 0
  · have hsk := T2_skip s.T (N := q.N) (r := r) (e := e) (i := i) (.inr (by rw [← hzi]; exact hz0))
    have hn0 : z.num = 0 := by rw [hz0]; rfl
    repeat' first
      | ((with_reducible refine Nx.is_wp ?_); first | refine Nx.wo ?_ | refine Nx.zp (fun hc => ?_) (fun hc => ?_))
      | (refine Nx.zo ?_; first | refine Nx.opr rfl rfl ?_ | refine Nx.indexAddr_nat (A := ta.Ar) (i := i) (sz := 1) rfl rfl rfl rfl rfl him hAr ?_ | refine Nx.load rfl rfl rfl (roi _ _) ?_ | refine Nx.indexAddr_nat (A := (ta.ra i).1) (i := e) (sz := 2) rfl rfl rfl rfl rfl (by omega) hri ?_ | refine Nx.loads rfl rfl rfl rfl (hze _ _ 0 rfl) rfl ?_ | refine Nx.so ?_ | refine Nx.sb (fun bx => ?_) | refine Nx.sa (fun A2 c2 => ?_))
      | refine Nx.za ?_ | refine Nx.zr (fun hc => ?_) (fun hc => ?_)
      | refine Nx.zq ?_ | refine Nx.zu (fun hc => ?_) (fun hc => ?_)
      | refine Nx.zx ?_ | fail
    exact Nx.again (i + 1) him (by omega) ⟨rfl, rfl, rfl, rfl, rfl, rfl, trivial⟩ (by rw [← hsk]; (exact Ent.auto))
  have hn0 : z.num ≠ 0 := rat_ne hz0
  have hRBz : RB z := by rw [hzi]; exact hD.rb him (by omega)
  repeat' first
    | ((with_reducible refine Nx.is_wp ?_); first | refine Nx.wo ?_ | refine Nx.zp (fun hc => ?_) (fun hc => ?_))
    | (refine Nx.zo ?_; first | refine Nx.opr rfl rfl ?_ | refine Nx.indexAddr_nat (A := ta.Ar) (i := i) (sz := 1) rfl rfl rfl rfl rfl him hAr ?_ | refine Nx.load rfl rfl rfl (roi _ _) ?_ | refine Nx.indexAddr_nat (A := (ta.ra i).1) (i := e) (sz := 2) rfl rfl rfl rfl rfl (by omega) hri ?_ | refine Nx.loads rfl rfl rfl rfl (hze _ _ 0 rfl) rfl ?_ | refine Nx.indexAddr_nat (A := ta.Ar) (i := r) (sz := 1) rfl rfl rfl rfl rfl hr hAr ?_ | refine Nx.load rfl rfl rfl (ro1 _ _) ?_ | refine Nx.so ?_ | refine Nx.sb (fun bx => ?_) | refine Nx.sa (fun A2 c2 => ?_))
    | refine Nx.za ?_ | refine Nx.zr (fun hc => ?_) (fun hc => ?_)
    | refine Nx.zq ?_ | refine Nx.zu (fun hc => ?_) (fun hc => ?_)
    | refine Nx.zx ?_ | fail
  revert bx; intro b11
  refine Nx.p_loop (σ := Nat) (fun k => [(0, .pointer (some ⟨b, 0, none⟩)), (1, .int .i64 (r : Int)), (2, .int .i64 (e : Int)), (9, .int .i64 (i : Int)), (10, .slice (ta.ra i).1 (q.N + 1) (ta.ra i).2), (11, .pointer (some ⟨b11, 0, none⟩)), (53, .slice ta.Ar q.m ta.cr), (54, .int .i64 (q.m : Int)), (55, .int .i64 (i : Int)), (78, .slice (ta.ra r).1 (q.N + 1) (ta.ra r).2), (79, .int .i64 ((q.N + 1 : Nat) : Int)), (80, .int .i64 (k : Int))])
    (fun k => [Blk b11 24 (ratC z), trowsR q ta (T2 s.T q.N r e i k), Blk b 193 (tabV q ta vc), basisR q ta s.B, F]) (fun k => k ≤ q.N + 1) (fun k => q.N + 1 - k) 0 rfl (Nat.zero_le _) ⟨rfl, rfl, rfl, rfl, rfl, rfl, rfl, rfl, rfl, rfl, rfl, rfl, trivial⟩ (by (exact Ent.auto)) ?_
  intro k hk
  have hk : k ≤ q.N + 1 := hk
  by_cases hkN : k < q.N + 1
  case neg =>
    obtain rfl : k = q.N + 1 := by omega
    rw [T2_row]
    repeat' first
      | ((with_reducible refine Nx.is_wp ?_); first | refine Nx.wo ?_ | refine Nx.zp (fun hc => ?_) (fun hc => ?_))
      | (refine Nx.zo ?_; first | refine Nx.opr rfl rfl ?_ | refine Nx.so ?_ | refine Nx.sb (fun bx => ?_) | refine Nx.sa (fun A2 c2 => ?_))
      | refine Nx.za ?_ | refine Nx.zr (fun hc => ?_) (fun hc => ?_)
      | refine Nx.zq ?_ | refine Nx.zu (fun hc => ?_) (fun hc => ?_)
      | refine Nx.zx ?_ | fail
    exact Nx.again (i + 1) him (by omega) ⟨rfl, rfl, rfl, rfl, rfl, rfl, trivial⟩ (by (exact Ent.auto))
  obtain ⟨qk, hqk⟩ : ∃ qk, qk = s.T r k / s.T r e := ⟨_, rfl⟩
  obtain ⟨xk, hxk⟩ : ∃ xk, xk = s.T i k := ⟨_, rfl⟩
  obtain ⟨pr, hpr⟩ : ∃ pr, pr = z * qk := ⟨_, rfl⟩
  obtain ⟨nk, hnk⟩ : ∃ nk, nk = xk - pr := ⟨_, rfl⟩
  have hqe : ∀ (W : World) (R : List Res) (j : Nat), nthL R j = some (trowsR q ta (T2 s.T q.N r e i k)) → Rds W I R ((ad (ta.ra r).1).add (k * 2)) (ratC qk) := fun W R j hj => by
    have := num_rds (W := W) (I := I) j hj hr hkN
    rwa [show T2 s.T q.N r e i k r k = qk by rw [hqk]; unfold T2; rw [if_pos rfl, if_pos hkN]] at this
  have hxe : ∀ (W : World) (R : List Res) (j : Nat), nthL R j = some (trowsR q ta (T2 s.T q.N r e i k)) → Rds W I R ((ad (ta.ra i).1).add (k * 2)) (ratC xk) := fun W R j hj => by
    have := num_rds (W := W) (I := I) j hj him hkN
    rwa [show T2 s.T q.N r e i k i k = xk by rw [hxk]; unfold T2; rw [if_neg hir, if_neg (by omega)]] at this
  have hRq : RB qk := by rw [hqk]; exact hD.rbq hr hr (by omega) heN hne
  have hRp : RB pr := by rw [hpr, hzi, hqk]; exact hD.rbt him hr (by omega) heN hne
  have hRn : RB nk := by
    have : nk = (Bl.piv s r e).T i k := by rw [Bl.piv_T, if_neg hir, hnk, hxk, hpr, hzi, hqk]
    rw [this]; exact hD'.rb him (by omega)
  have hM1 := btimes_spec z qk hRBz hRq (by rw [← hpr]; exact hRp) I hT
  rw [← hpr] at hM1
  have hM2 := bminus_spec xk pr (by rw [hxk]; exact hD.rb him (by omega)) hRp (by rw [← hnk]; exact hRn) I hT
  rw [← hnk] at hM2
  have hup := T2_succ s.T (N := q.N) (r := r) (e := e) (i := i) (k := k) hir hkN
  rw [← hxk, ← hzi, ← hqk, ← hpr, ← hnk] at hup
  clear hqk hxk hpr hnk hRq hRp hRn hze hz
  repeat' first
    | ((with_reducible refine Nx.is_wp ?_); first | refine Nx.wo ?_ | refine Nx.p_drawF (id := 4) rfl [0, 1, 2, 3, 4, 5, 6, 7, 8, 9, 10, 11] [10] [12] _ rfl rfl (by kernel_rfl) (by kernel_rfl) rfl PanicOk.auto (Ent.refl _) ?_ | refine Nx.p_drawF (id := 14) rfl [0, 1, 2, 3, 4, 5, 6, 7, 8, 9, 10] [8, 9] [11] _ rfl rfl (by kernel_rfl) (by kernel_rfl) rfl PanicOk.auto (Ent.refl _) ?_ | refine Nx.zp (fun hc => ?_) (fun hc => ?_))
    | (refine Nx.zo ?_; first | refine Nx.opr rfl rfl ?_ | refine Nx.indexAddr_nat (A := (ta.ra r).1) (i := k) (sz := 2) rfl rfl rfl rfl rfl hkN hrr ?_ | refine Nx.loads rfl rfl rfl rfl (hqe _ _ 1 rfl) rfl ?_ | refine Nx.callv rfl rfl rfl (by kernel_rfl) rfl hM1 ?_ | refine Nx.callv rfl rfl rfl (by kernel_rfl) rfl hM2 ?_ | refine Nx.indexAddr_nat (A := (ta.ra i).1) (i := k) (sz := 2) rfl rfl rfl rfl rfl hkN hri ?_ | refine Nx.store_num 2 rfl rfl rfl rfl him hkN ?_ | refine Nx.so ?_ | refine Nx.sb (fun bx => ?_) | refine Nx.sa (fun A2 c2 => ?_))
    | refine Nx.za ?_ | refine Nx.zr (fun hc => ?_) (fun hc => ?_)
    | ((with_reducible refine Nx.is_mix ?_); first | refine Nx.m_quiet rfl rfl rfl rfl rfl (by first | exact QRun.opr rfl | exact QRun.idx (A := (ta.ra i).1) (i := k) (sz := 2) rfl rfl rfl rfl hkN hri | exact QRun.loads rfl rfl rfl (hxe _ _ 2 rfl) rfl | exact QRun.loads rfl rfl rfl (Rds.cut 0 2 rfl rfl) rfl | exact QRun.loads rfl rfl rfl (Rds.cut 1 2 rfl rfl) rfl) ?_ | refine Nx.m_quiet_do rfl rfl rfl rfl rfl rfl rfl (by first | exact QRun.opr rfl | exact QRun.idx (A := (ta.ra i).1) (i := k) (sz := 2) rfl rfl rfl rfl hkN hri | exact QRun.loads rfl rfl rfl (hxe _ _ 2 rfl) rfl | exact QRun.loads rfl rfl rfl (Rds.cut 0 2 rfl rfl) rfl | exact QRun.loads rfl rfl rfl (Rds.cut 1 2 rfl rfl) rfl) ?_ | refine Nx.m ?_ | refine Nx.zm ?_ | refine Nx.zt (fun hc => ?_) (fun hc => ?_))
    | refine Nx.zx ?_ | fail
  exact Nx.again (k + 1) hkN (by omega) ⟨rfl, rfl, rfl, rfl, rfl, rfl, rfl, rfl, rfl, rfl, rfl, rfl, trivial⟩ (by rw [← hup]; (exact Ent.auto))
end Go.Proofs.YtpcnapidlhpbkaaGreatDoor
namespace Go.Proofs.YtpcnapidlhpbkaaGreatDoor
open Go.Eng
attribute [local irreducible] opK wpList Code.wp Exit.then Exit.inBlock fnPost bodyPost Nx Calls Oper.wp Rd Rds Wr Ent Stars Blk Again Vec FnSpec wpMix QRun Stop Upto wpAt
theorem tab_mono {I I' : PH} (hle : PH.le I I') (h : TabI I) : TabI I' := fun W w R hw => h W w R (St.imm_le hle hw)
theorem Stars.nth : ∀ {L : List Res} {m : PH} {i : Nat} {r : Res}, Stars L m → L[i]? = some r → ∃ m', PH.le m' m ∧ r m' := fun h hi => Stars.get _ h (nthL_eq.trans hi)
theorem tabq_of {q : Bl.Eqs} {ta : TA} {s : Bl.Tab} {m I' : PH} (hm : PH.le m I') (h : Stars [basisR q ta s.B, trowsR q ta s.T] m) (ho : SliceOf (fun i : Nat => Value.slice (ta.ra i).1 (q.N + 1) (ta.ra i).2) I' ta.Ar ta.cr (List.range q.m)) : TabQ I' q ta s := by
  obtain ⟨m1, d1, h1⟩ := Stars.get 0 h rfl
  obtain ⟨m2, d2, h2⟩ := Stars.get 1 h rfl
  refine ⟨ho, fun i hi => ?_, ?_⟩
  · obtain ⟨m3, d3, h3⟩ := Stars.nth (i := i) h2 (by rw [List.getElem?_map]; unfold rowsL; rw [List.getElem?_map, List.getElem?_range hi]; rfl)
    have h3 : Vec 24 2 (ta.ra i).1 (q.N + 1) (ta.ra i).2 ((rl (q.N + 1) (s.T i)).flatMap ratC) m3 := h3
    exact Vec.sliceN (t := 24) (l := rl (q.N + 1) (s.T i)) ((d3.trans d2).trans hm) (by rw [rl_len]; exact h3) fun _ _ => rfl
  · have h1 : Vec 3 1 ta.Ab q.m ta.cb ((basL q s.B).map (Value.int .i64)) m1 := h1
    refine Vec.sliceOf (t := 3) (d1.trans hm) ?_
    rw [List.length_range]
    unfold basL at h1
    rw [List.map_map] at h1
    exact h1
set_option maxRecDepth 10000 in
theorem improve_spec (b : Nat) (q : Bl.Eqs) (hq : q.Small) (ta : TA) (s0 : Bl.Tab) (hs0 : Bl.Inv q s0) (c : Nat → Int) (hc : ∀ k, (c k).natAbs ≤ 1) (Ac : Option Addr) (cc : Nat) (I : PH) (hT : TabI I) (hcost : Rats I Ac cc (rl q.N (Bl.cst c)))
    (ho : SliceOf (fun i : Nat => Value.slice (ta.ra i).1 (q.N + 1) (ta.ra i).2) I ta.Ar ta.cr (List.range q.m)) (hra : ∀ i, i < q.m → (ta.ra i).1.isSome = true) (hAb : 0 < q.m → ta.Ab.isSome = true) :
    FnSpec Tryz.prog 111 [.pointer (some ⟨b, 0, none⟩), .func (.func 112) #[.pointer (some ⟨b, 0, none⟩)] #[], .func (.func 113) #[.pointer (some ⟨b, 0, none⟩)] #[]] I
      [Blk b 193 (tabV q ta (.slice Ac q.N cc)), basisR q ta s0.B, trowsR q ta s0.T]
      (fun v R' => ∃ (s' : Bl.Tab) (bo : Bool), v = .bool bo ∧ Bl.Run q.m q.N q.cnt (Bl.cst c) s0 s' bo ∧ R' = [Blk b 193 (tabV q ta (.slice Ac q.N cc)), basisR q ta s'.B, trowsR q ta s'.T]) := by
  have h1 := hq.cnt
  have h2 := hq.m
  refine FnSpec.enterP Tryz.func111 rfl Tryz.ntmps111 rfl fun w F => ?_
  repeat' first
    | ((with_reducible refine Nx.is_wp ?_); first | refine Nx.wo ?_ | refine Nx.zp (fun hc => ?_) (fun hc => ?_))
    | (refine Nx.zo ?_; first | refine Nx.opr rfl rfl ?_ | refine Nx.so ?_ | refine Nx.sb (fun bx => ?_) | refine Nx.sa (fun A2 c2 => ?_))
    | refine Nx.za ?_ | refine Nx.zr (fun hc => ?_) (fun hc => ?_)
    | refine Nx.zq ?_ | refine Nx.zu (fun hc => ?_) (fun hc => ?_)
    | refine Nx.zx ?_ | fail
  refine Nx.p_loop (σ := Nat × Bl.Tab) (fun _ => [(0, .pointer (some ⟨b, 0, none⟩)), (1, .func (.func 112) #[.pointer (some ⟨b, 0, none⟩)] #[]), (2, .func (.func 113) #[.pointer (some ⟨b, 0, none⟩)] #[])])
    (fun z => [Blk b 193 (tabV q ta (.slice Ac q.N cc)), basisR q ta z.2.B, trowsR q ta z.2.T, F]) (fun z => Bl.Gone q.m q.N q.cnt (Bl.cst c) s0 z.2 z.1 ∧ Bl.Inv q z.2) (fun z => q.N ^ q.m - z.1) (0, s0) rfl ⟨Bl.Gone.zero s0, hs0⟩ ⟨rfl, rfl, rfl, trivial⟩ (by (exact Ent.auto)) ?_
  rintro ⟨k, s⟩ ⟨hgone, hs⟩
  dsimp only at hgone hs ⊢
  have hlt := hgone.lt (show q.cnt ≤ q.cnt + q.m by omega) hs0.ok
  have hEn := fun (m I' : PH) (hle : PH.le I I') (hm : PH.le m I') (hv : Stars [basisR q ta s.B, trowsR q ta s.T] m) => enter_spec b q hq ta s hs c hc Ac cc I' (tab_mono hle hT) (tabq_of hm hv (ho.mono hle)) (hcost.mono hle)
  have hLv := fun (e : Nat) (he : e < q.cnt) (m I' : PH) (hle : PH.le I I') (hm : PH.le m I') (hv : Stars [basisR q ta s.B, trowsR q ta s.T] m) => leave_spec b q hq ta s hs (.slice Ac q.N cc) I' (tab_mono hle hT) (tabq_of hm hv (ho.mono hle)) e he
  have hPv := fun (e r : Nat) (he : Bl.Ent q.m q.cnt (Bl.cst c) s e) (hl : Bl.Lea q.m q.N s e r) => pivot_spec b q hq ta s hs r e hl.lt he.lt (by have := hl.pos; grind) (hs.step he hl) (.slice Ac q.N cc) I hT ho hra (hAb (by have := hl.lt; omega))
  repeat' first
    | ((with_reducible refine Nx.is_wp ?_); first | refine Nx.wo ?_ | refine Nx.zp (fun hc => ?_) (fun hc => ?_))
    | (refine Nx.zo ?_; first | refine Nx.opr rfl rfl ?_ | (refine Nx.call rfl rfl rfl (by kernel_rfl) rfl (FnSpec.keep [basisR q ta s.B, trowsR q ta s.T] hEn) (by (exact Ent.auto)) ?_; rintro _ _ ⟨_, ⟨⟨rfl, hg⟩ | ⟨e, rfl, he⟩, rfl⟩, rfl⟩) | (refine Nx.call rfl rfl rfl (by kernel_rfl) rfl (FnSpec.keep [basisR q ta s.B, trowsR q ta s.T] (hLv e he.lt)) (by (exact Ent.auto)) ?_; rintro _ _ ⟨_, ⟨⟨rfl, hnl⟩ | ⟨r, rfl, hl⟩, rfl⟩, rfl⟩) | (refine Nx.call rfl rfl rfl (by kernel_rfl) rfl (hPv e r he hl) (by (exact Ent.auto)) ?_; rintro _ _ rfl) | refine Nx.so ?_ | refine Nx.sb (fun bx => ?_) | refine Nx.sa (fun A2 c2 => ?_))
    | refine Nx.za ?_ | refine Nx.zr (fun hc => ?_) (fun hc => ?_)
    | refine Nx.zq ?_ | refine Nx.zu (fun hc => ?_) (fun hc => ?_)
    | refine Nx.zx ?_ | fail
  · exact Nx.ret_fn rfl [_, _, _] ⟨s, true, rfl, hgone.run (.opt hg), rfl⟩ (by (exact Ent.auto))
  · exact Nx.ret_fn rfl [_, _, _] ⟨s, false, rfl, hgone.run (.unb he hnl), rfl⟩ (by (exact Ent.auto))
  · exact Nx.again (k + 1, Bl.piv s r e) ⟨hgone.next he hl, hs.step he hl⟩ (by dsimp only; omega) ⟨rfl, rfl, rfl, trivial⟩ (by (exact Ent.auto))
end Go.Proofs.YtpcnapidlhpbkaaGreatDoor
namespace Go.Proofs.YtpcnapidlhpbkaaGreatDoor
open Go.Eng
attribute [local irreducible] opK wpList Code.wp Exit.then Exit.inBlock fnPost bodyPost Nx Calls Oper.wp Rd Rds Wr Ent Stars Blk Again Vec FnSpec wpMix QRun Stop Upto wpAt
def prod (l : List Int) : Int := l.foldl (· * ·) 1
theorem prod_succ (l : List Int) (k : Nat) (hk : k < l.length) : prod (l.take (k + 1)) = prod (l.take k) * l.getD k default := by
  unfold prod
  rw [List.take_succ_eq_append_getElem hk, List.foldl_append]
  simp [List.getD_eq_getElem?_getD, List.getElem?_eq_getElem hk]
structure Sizes (l : List Int) : Prop where
  dims : 1 ≤ l.length ∧ l.length ≤ 4
  each : ∀ x ∈ l, 1 ≤ x ∧ x ≤ 8
  cells : prod l ≤ 48
theorem Sizes.at {l : List Int} (h : Sizes l) {k : Nat} (hk : k < l.length) : 1 ≤ l.getD k default ∧ l.getD k default ≤ 8 := h.each _ (by rw [List.getD_eq_getElem?_getD, List.getElem?_eq_getElem hk]; exact List.getElem_mem _)
theorem Sizes.some {l : List Int} (h : Sizes l) : ∀ k, k ≤ l.length → 1 ≤ prod (l.take k) ∧ prod (l.take k) ≤ 8 ^ k
  | 0, _ => by simp [prod]
  | k + 1, hk => by
    have ih := h.some k (by omega)
    have hx := h.at (k := k) (by omega)
    rw [prod_succ l k (by omega)]
    refine ⟨?_, ?_⟩
    · have := Int.mul_le_mul ih.1 hx.1 (by omega) (by omega)
      omega
    · rw [Int.pow_succ]
      exact Int.mul_le_mul ih.2 hx.2 (by omega) (by omega)
theorem Sizes.bound {l : List Int} (h : Sizes l) {k : Nat} (hk : k ≤ l.length) : 1 ≤ prod (l.take k) ∧ prod (l.take k) ≤ 4096 := by
  have h1 := h.some k hk
  refine ⟨h1.1, Int.le_trans h1.2 ?_⟩
  have hd := h.dims
  have : k = 0 ∨ k = 1 ∨ k = 2 ∨ k = 3 ∨ k = 4 := by omega
  rcases this with rfl | rfl | rfl | rfl | rfl <;> decide
set_option maxRecDepth 10000 in
theorem product_spec (A : Option Addr) (c : Nat) (l : List Int) (I : PH) (hl : Ints I A c l) (hs : Sizes l) :
    FnSpec Tryz.prog 136 [.slice A l.length c] I [] (fun v R' => v = .int .i64 (prod l) ∧ R' = []) := by
  have hlen := hl.len
  refine FnSpec.enterP Tryz.func136 rfl Tryz.ntmps136 rfl fun w F => ?_
  repeat' first
    | ((with_reducible refine Nx.is_wp ?_); first | refine Nx.wo ?_ | refine Nx.zp (fun hc => ?_) (fun hc => ?_))
    | (refine Nx.zo ?_; first | refine Nx.opr rfl rfl ?_ | refine Nx.so ?_ | refine Nx.sb (fun bx => ?_) | refine Nx.sa (fun A2 c2 => ?_))
    | refine Nx.za ?_ | refine Nx.zr (fun hc => ?_) (fun hc => ?_)
    | refine Nx.zq ?_ | refine Nx.zu (fun hc => ?_) (fun hc => ?_)
    | refine Nx.zx ?_ | fail
  refine Nx.p_loop (σ := Nat) (fun k => [(6, .slice A l.length c), (7, .int .i64 l.length), (8, .int .i64 (k : Int)), (3, .int .i64 (prod (l.take k)))])
    (fun _ => [F]) (fun k => k ≤ l.length) (fun k => l.length - k) 0 rfl (Nat.zero_le _) ⟨rfl, rfl, rfl, rfl, trivial⟩ (Ent.refl _) ?_
  intro k hk
  have hb := hs.bound hk
  have hb1 : k < l.length → prod (l.take k) * l.getD k default ≤ 4096 ∧ 1 ≤ prod (l.take k) * l.getD k default := fun h => by rw [← prod_succ l k h]; exact (hs.bound (by omega)).symm
  repeat' first
    | ((with_reducible refine Nx.is_wp ?_); first | refine Nx.wo ?_ | refine Nx.zp (fun hc => ?_) (fun hc => ?_))
    | (refine Nx.zo ?_; first | refine Nx.opr rfl rfl ?_ | refine Nx.indexAddr_nat rfl rfl rfl rfl rfl (by omega) (hl.isSome (by omega)) ?_ | refine Nx.load rfl rfl rfl (hl.rd (by omega)) ?_ | refine Nx.so ?_ | refine Nx.sb (fun bx => ?_) | refine Nx.sa (fun A2 c2 => ?_))
    | refine Nx.za ?_ | refine Nx.zr (fun hc => ?_) (fun hc => ?_)
    | refine Nx.zq ?_ | refine Nx.zu (fun hc => ?_) (fun hc => ?_)
    | refine Nx.zx ?_ | fail
  · exact Nx.again (k + 1) (by omega) (by omega) ⟨rfl, rfl, rfl, by rw [prod_succ l k (by omega)]; rfl, trivial⟩ (Ent.refl _)
  · exact Nx.ret_fn rfl [] ⟨by rw [List.take_of_length_le (by omega)], rfl⟩ (Ent.refl _)
set_option maxRecDepth 10000 in
theorem Check_spec (A : Option Addr) (c : Nat) (l : List Int) (I : PH) (hl : Ints I A c l) (hs : Sizes l) :
    FnSpec Tryz.prog 122 [.agg #[.slice A l.length c]] I [] (fun v R' => v = .int .i64 0 ∧ R' = []) := by
  have hlen := hl.len
  have hd := hs.dims
  refine FnSpec.enterP Tryz.func122 rfl Tryz.ntmps122 rfl fun w F => ?_
  repeat' first
    | ((with_reducible refine Nx.is_wp ?_); first | refine Nx.wo ?_ | refine Nx.zp (fun hc => ?_) (fun hc => ?_))
    | (refine Nx.zo ?_; first | refine Nx.opr rfl rfl ?_ | refine Nx.so ?_ | refine Nx.sb (fun bx => ?_) | refine Nx.sa (fun A2 c2 => ?_))
    | refine Nx.za ?_ | refine Nx.zr (fun hc => ?_) (fun hc => ?_)
    | refine Nx.zq ?_ | refine Nx.zu (fun hc => ?_) (fun hc => ?_)
    | refine Nx.zx ?_ | fail
  refine Nx.p_loop (σ := Nat) (fun k => [(17, .slice A l.length c), (18, .int .i64 l.length), (19, .int .i64 (k : Int)), (3, .int .i64 (prod (l.take k)))])
    (fun _ => [F]) (fun k => k ≤ l.length) (fun k => l.length - k) 0 rfl (Nat.zero_le _) ⟨rfl, rfl, rfl, rfl, trivial⟩ (by (exact Ent.auto)) ?_
  intro k hk
  have hb := hs.bound hk
  have hb1 : k < l.length → prod (l.take k) * l.getD k default ≤ 4096 ∧ 1 ≤ prod (l.take k) * l.getD k default := fun h => by rw [← prod_succ l k h]; exact (hs.bound (by omega)).symm
  have hx : k < l.length → 1 ≤ l.getD k default ∧ l.getD k default ≤ 8 := fun h => hs.at h
  have hf : l.length ≤ k → prod (l.take k) ≤ 48 := fun h => by rw [List.take_of_length_le h]; exact hs.cells
  repeat' first
    | ((with_reducible refine Nx.is_wp ?_); first | refine Nx.wo ?_ | refine Nx.zp (fun hc => ?_) (fun hc => ?_))
    | (refine Nx.zo ?_; first | refine Nx.opr rfl rfl ?_ | refine Nx.indexAddr_nat rfl rfl rfl rfl rfl (by omega) (hl.isSome (by omega)) ?_ | refine Nx.load rfl rfl rfl (hl.rd (by omega)) ?_ | refine Nx.so ?_ | refine Nx.sb (fun bx => ?_) | refine Nx.sa (fun A2 c2 => ?_))
    | refine Nx.za ?_ | refine Nx.zr (fun hc => ?_) (fun hc => ?_)
    | refine Nx.zq ?_ | refine Nx.zu (fun hc => ?_) (fun hc => ?_)
    | refine Nx.zx ?_ | fail
  · exact Nx.again (k + 1) (by omega) (by omega) ⟨rfl, rfl, rfl, by rw [prod_succ l k (by omega)]; rfl, trivial⟩ (Ent.refl _)
  · exact Nx.ret_fn rfl [] ⟨rfl, rfl⟩ (Ent.refl _)
set_option maxRecDepth 10000 in
theorem RCheck_spec (A : Option Addr) (c : Nat) (l : List Int) (I : PH) (hl : Ints I A c l) (hs : Sizes l) :
    FnSpec Tryz.prog 65 [.agg #[.slice A l.length c]] I [] (fun v R' => v = .int .i64 0 ∧ R' = []) := by
  have hlen := hl.len
  have hd := hs.dims
  refine FnSpec.enterP Tryz.func65 rfl Tryz.ntmps65 rfl fun w F => ?_
  repeat' first
    | ((with_reducible refine Nx.is_wp ?_); first | refine Nx.wo ?_ | refine Nx.zp (fun hc => ?_) (fun hc => ?_))
    | (refine Nx.zo ?_; first | refine Nx.opr rfl rfl ?_ | refine Nx.so ?_ | refine Nx.sb (fun bx => ?_) | refine Nx.sa (fun A2 c2 => ?_))
    | refine Nx.za ?_ | refine Nx.zr (fun hc => ?_) (fun hc => ?_)
    | refine Nx.zq ?_ | refine Nx.zu (fun hc => ?_) (fun hc => ?_)
    | refine Nx.zx ?_ | fail
  refine Nx.p_loop (σ := Nat) (fun k => [(17, .slice A l.length c), (18, .int .i64 l.length), (19, .int .i64 (k : Int)), (3, .int .i64 (prod (l.take k)))])
    (fun _ => [F]) (fun k => k ≤ l.length) (fun k => l.length - k) 0 rfl (Nat.zero_le _) ⟨rfl, rfl, rfl, rfl, trivial⟩ (by (exact Ent.auto)) ?_
  intro k hk
  have hb := hs.bound hk
  have hb1 : k < l.length → prod (l.take k) * l.getD k default ≤ 4096 ∧ 1 ≤ prod (l.take k) * l.getD k default := fun h => by rw [← prod_succ l k h]; exact (hs.bound (by omega)).symm
  have hx : k < l.length → 1 ≤ l.getD k default ∧ l.getD k default ≤ 8 := fun h => hs.at h
  have hf : l.length ≤ k → prod (l.take k) ≤ 48 := fun h => by rw [List.take_of_length_le h]; exact hs.cells
  repeat' first
    | ((with_reducible refine Nx.is_wp ?_); first | refine Nx.wo ?_ | refine Nx.zp (fun hc => ?_) (fun hc => ?_))
    | (refine Nx.zo ?_; first | refine Nx.opr rfl rfl ?_ | refine Nx.indexAddr_nat rfl rfl rfl rfl rfl (by omega) (hl.isSome (by omega)) ?_ | refine Nx.load rfl rfl rfl (hl.rd (by omega)) ?_ | refine Nx.so ?_ | refine Nx.sb (fun bx => ?_) | refine Nx.sa (fun A2 c2 => ?_))
    | refine Nx.za ?_ | refine Nx.zr (fun hc => ?_) (fun hc => ?_)
    | refine Nx.zq ?_ | refine Nx.zu (fun hc => ?_) (fun hc => ?_)
    | refine Nx.zx ?_ | fail
  · exact Nx.again (k + 1) (by omega) (by omega) ⟨rfl, rfl, rfl, by rw [prod_succ l k (by omega)]; rfl, trivial⟩ (Ent.refl _)
  · exact Nx.ret_fn rfl [] ⟨rfl, rfl⟩ (Ent.refl _)
set_option maxRecDepth 10000 in
theorem RCount_spec (A : Option Addr) (c : Nat) (l : List Int) (I : PH) (hl : Ints I A c l) (hs : Sizes l) :
    FnSpec Tryz.prog 21 [.agg #[.slice A l.length c]] I [] (fun v R' => v = .int .i64 (prod l) ∧ R' = []) := by
  have hlen := hl.len
  refine FnSpec.enterP Tryz.func21 rfl Tryz.ntmps21 rfl fun w F => ?_
  repeat' first
    | ((with_reducible refine Nx.is_wp ?_); first | refine Nx.wo ?_ | refine Nx.zp (fun hc => ?_) (fun hc => ?_))
    | (refine Nx.zo ?_; first | refine Nx.opr rfl rfl ?_ | refine Nx.callv rfl rfl rfl (by kernel_rfl) rfl (RCheck_spec _ _ _ _ hl hs) ?_ | refine Nx.so ?_ | refine Nx.sb (fun bx => ?_) | refine Nx.sa (fun A2 c2 => ?_))
    | refine Nx.za ?_ | refine Nx.zr (fun hc => ?_) (fun hc => ?_)
    | refine Nx.zq ?_ | refine Nx.zu (fun hc => ?_) (fun hc => ?_)
    | refine Nx.zx ?_ | fail
  refine Nx.p_loop (σ := Nat) (fun k => [(10, .slice A l.length c), (11, .int .i64 l.length), (12, .int .i64 (k : Int)), (3, .int .i64 (prod (l.take k)))])
    (fun _ => [F]) (fun k => k ≤ l.length) (fun k => l.length - k) 0 rfl (Nat.zero_le _) ⟨rfl, rfl, rfl, rfl, trivial⟩ (by (exact Ent.auto)) ?_
  intro k hk
  have hb := hs.bound hk
  have hb1 : k < l.length → prod (l.take k) * l.getD k default ≤ 4096 ∧ 1 ≤ prod (l.take k) * l.getD k default := fun h => by rw [← prod_succ l k h]; exact (hs.bound (by omega)).symm
  repeat' first
    | ((with_reducible refine Nx.is_wp ?_); first | refine Nx.wo ?_ | refine Nx.zp (fun hc => ?_) (fun hc => ?_))
    | (refine Nx.zo ?_; first | refine Nx.opr rfl rfl ?_ | refine Nx.indexAddr_nat rfl rfl rfl rfl rfl (by omega) (hl.isSome (by omega)) ?_ | refine Nx.load rfl rfl rfl (hl.rd (by omega)) ?_ | refine Nx.so ?_ | refine Nx.sb (fun bx => ?_) | refine Nx.sa (fun A2 c2 => ?_))
    | refine Nx.za ?_ | refine Nx.zr (fun hc => ?_) (fun hc => ?_)
    | refine Nx.zq ?_ | refine Nx.zu (fun hc => ?_) (fun hc => ?_)
    | refine Nx.zx ?_ | fail
  · exact Nx.again (k + 1) (by omega) (by omega) ⟨rfl, rfl, rfl, by rw [prod_succ l k (by omega)]; rfl, trivial⟩ (Ent.refl _)
  · exact Nx.ret_fn rfl [] ⟨by rw [List.take_of_length_le (by omega)], rfl⟩ (Ent.refl _)
end Go.Proofs.YtpcnapidlhpbkaaGreatDoor
namespace Go.Proofs.YtpcnapidlhpbkaaGreatDoor
open Go.Eng
attribute [local irreducible] opK wpList Code.wp Exit.then Exit.inBlock fnPost bodyPost Nx Calls Oper.wp Rd Rds Wr Ent Stars Blk Again Vec FnSpec wpMix QRun Stop Upto wpAt
def numK (l xs : List Int) : Nat → Int
  | 0 => 0
  | k + 1 => numK l xs k * l.getD k default + xs.getD k default
structure InR (l xs : List Int) : Prop where
  len : xs.length = l.length
  each : ∀ k, k < l.length → 0 ≤ xs.getD k default ∧ xs.getD k default < l.getD k default
theorem mul_add_lt {a b p d x : Int} (ha : 0 ≤ a ∧ a < p) (hx : 0 ≤ x ∧ x < d) (hb : b = p * d) : 0 ≤ a * d + x ∧ a * d + x < b := by
  have h1 : 0 ≤ a * d := Int.mul_nonneg ha.1 (by omega)
  have h2 : (a + 1) * d ≤ p * d := Int.mul_le_mul_of_nonneg_right (by omega) (by omega)
  rw [Int.add_mul] at h2
  omega
theorem numK_bound {l xs : List Int} (hx : InR l xs) : ∀ k, k ≤ l.length → 0 ≤ numK l xs k ∧ numK l xs k < prod (l.take k)
  | 0, _ => by simp [numK, prod]
  | k + 1, hk => by
    simp only [numK]
    exact mul_add_lt (numK_bound hx k (by omega)) (hx.each k (by omega)) (prod_succ l k (by omega))
end Go.Proofs.YtpcnapidlhpbkaaGreatDoor
namespace Go.Proofs.YtpcnapidlhpbkaaGreatDoor
open Go.Eng
attribute [local irreducible] opK wpList Code.wp Exit.then Exit.inBlock fnPost bodyPost Nx Calls Oper.wp Rd Rds Wr Ent Stars Blk Again Vec FnSpec wpMix QRun Stop Upto wpAt
def contF (l xs : List Int) : Nat → Nat → Int → Int
  | 0, _, m => m
  | r + 1, j, m => contF l xs r (j + 1) (m * l.getD j default + xs.getD j default)
theorem contF_num (l xs : List Int) : ∀ r j, contF l xs r j (numK l xs j) = numK l xs (j + r)
  | 0, j => rfl
  | r + 1, j => by
    have := contF_num l xs r (j + 1)
    simp only [contF]
    rw [show j + (r + 1) = j + 1 + r by omega, ← this]
    rfl
theorem getD_set_ne {xs : List Int} {i j : Nat} {z : Int} (h : i ≠ j) : (xs.set i z).getD j default = xs.getD j default := by
  rw [List.getD_eq_getElem?_getD, List.getD_eq_getElem?_getD, List.getElem?_set_ne h]
theorem getD_set_eq {xs : List Int} {i : Nat} {z : Int} (h : i < xs.length) : (xs.set i z).getD i default = z := by
  rw [List.getD_eq_getElem?_getD, List.getElem?_set_self h]; rfl
theorem contF_set (l xs : List Int) (i : Nat) (z : Int) : ∀ r j m, i < j → contF l (xs.set i z) r j m = contF l xs r j m
  | 0, _, _, _ => rfl
  | r + 1, j, m, h => by
    simp only [contF]
    rw [getD_set_ne (by omega), contF_set l xs i z r (j + 1) _ (by omega)]
structure PlOk (l : List Int) (n : Int) (s : Nat × List Int × Int) : Prop where
  le : s.1 ≤ l.length
  len : s.2.1.length = l.length
  m : 0 ≤ s.2.2 ∧ s.2.2 < prod (l.take s.1)
  each : ∀ i, s.1 ≤ i → i < l.length → 0 ≤ s.2.1.getD i default ∧ s.2.1.getD i default < l.getD i default
  num : contF l s.2.1 (l.length - s.1) s.1 s.2.2 = n
  last : s.1 < l.length → s.2.1.getD (l.length - 1) default = n % l.getD (l.length - 1) default
  first : s.1 = l.length → s.2.2 = n
theorem PlOk.step {l : List Int} {n : Int} {j : Nat} {xs : List Int} {m : Int} (hs : Sizes l) (h : PlOk l n (j + 1, xs, m)) : PlOk l n (j, xs.set j (m % l.getD j default), m / l.getD j default) := by
  have hle : j + 1 ≤ l.length := h.le
  have hlen : xs.length = l.length := h.len
  have hd := hs.at (k := j) (by omega)
  have hm : 0 ≤ m ∧ m < prod (l.take (j + 1)) := h.m
  rw [prod_succ l j (by omega)] at hm
  have hset : (xs.set j (m % l.getD j default)).getD j default = m % l.getD j default := getD_set_eq (by omega)
  refine ⟨by show j ≤ l.length; omega, by simpa using hlen, ⟨Int.ediv_nonneg hm.1 (by omega), Int.ediv_lt_of_lt_mul (by omega) hm.2⟩, fun i h1 h2 => ?_, ?_, fun _ => ?_, fun h1 => ?_⟩
  · show 0 ≤ (xs.set j (m % l.getD j default)).getD i default ∧ (xs.set j (m % l.getD j default)).getD i default < l.getD i default
    by_cases hij : j = i
    · subst hij
      rw [hset]
      exact ⟨Int.emod_nonneg _ (by omega), Int.emod_lt_of_pos _ (by omega)⟩
    · rw [getD_set_ne hij]
      have h1 : j ≤ i := h1
      exact h.each i (by show j + 1 ≤ i; omega) h2
  · show contF l (xs.set j (m % l.getD j default)) (l.length - j) j (m / l.getD j default) = n
    rw [show l.length - j = (l.length - (j + 1)) + 1 by omega]
    simp only [contF]
    rw [hset, contF_set l xs j _ _ _ _ (by omega), show m / l.getD j default * l.getD j default + m % l.getD j default = m by rw [Int.mul_comm]; exact Int.mul_ediv_add_emod m _]
    exact h.num
  · show (xs.set j (m % l.getD j default)).getD (l.length - 1) default = n % l.getD (l.length - 1) default
    by_cases hj : j = l.length - 1
    · have hmn : m = n := h.first (by show j + 1 = l.length; omega)
      rw [← hj, hset, hmn]
    · rw [getD_set_ne hj]
      exact h.last (by show j + 1 < l.length; omega)
  · have h1 : j = l.length := h1
    omega
end Go.Proofs.YtpcnapidlhpbkaaGreatDoor
namespace Go.Proofs.YtpcnapidlhpbkaaGreatDoor
open Go.Eng
attribute [local irreducible] opK wpList Code.wp Exit.then Exit.inBlock fnPost bodyPost Nx Calls Oper.wp Rd Rds Wr Ent Stars Blk Again Vec FnSpec wpMix QRun Stop Upto wpAt
def numb : List Int → Int → Option Int
  | [], nx => some nx
  | g :: r, nx => if g < -1 ∨ nx < g then none else numb r (if g = nx then nx + 1 else nx)
def numbB (l : List Int) : Bool := match numb l 0 with
  | some n => decide (0 < n)
  | none => false
theorem drop_at {l : List Int} {k : Nat} (hk : k < l.length) : l.drop k = l.getD k default :: l.drop (k + 1) := by
  rw [List.drop_eq_getElem_cons hk]
  simp [List.getD_eq_getElem?_getD, List.getElem?_eq_getElem hk]
end Go.Proofs.YtpcnapidlhpbkaaGreatDoor
namespace Go.Proofs.YtpcnapidlhpbkaaGreatDoor
open Go.Eng
attribute [local irreducible] opK wpList Code.wp Exit.then Exit.inBlock fnPost bodyPost Nx Calls Oper.wp Rd Rds Wr Ent Stars Blk Again Vec FnSpec wpMix QRun Stop Upto wpAt
def maxL (l : List Int) : Nat → Int
  | 0 => l.getD 0 default
  | k + 1 => max (maxL l k) (l.getD (k + 1) default)
end Go.Proofs.YtpcnapidlhpbkaaGreatDoor
namespace Go.Proofs.YtpcnapidlhpbkaaGreatDoor
open Go.Eng
attribute [local irreducible] opK wpList Code.wp Exit.then Exit.inBlock fnPost bodyPost Nx Calls Oper.wp Rd Rds Wr Ent Stars Blk Again Vec FnSpec wpMix QRun Stop Upto wpAt
abbrev Row := Option Addr × Nat × List Int
def rowV (r : Row) : Value := .slice r.1 r.2.2.length r.2.1
structure RowsOf (I : PH) (A : Option Addr) (c : Nat) (v : List Row) : Prop where
  outer : SliceOf rowV I A c v
  inner : ∀ r ∈ v, Ints I r.1 r.2.1 r.2.2
theorem RowsOf.at {I : PH} {A : Option Addr} {c : Nat} {v : List Row} (h : RowsOf I A c v) {k : Nat} (hk : k < v.length) : Ints I (v.getD k default).1 (v.getD k default).2.1 (v.getD k default).2.2 :=
  h.inner _ (by rw [List.getD_eq_getElem?_getD, List.getElem?_eq_getElem hk]; exact List.getElem_mem _)
structure Viewed (l : List Int) (v : List Row) : Prop where
  len : v.length = l.length
  each : ∀ k, k < l.length → ((v.getD k default).2.2.length : Int) = l.getD k default ∧ numbB (v.getD k default).2.2 = true
end Go.Proofs.YtpcnapidlhpbkaaGreatDoor
namespace Go.Sol
abbrev Eqn := List Nat × Int
def sumC (t : List Int) : List Nat → Int
  | [] => 0
  | c :: cs => t.getD c 0 + sumC t cs
theorem getD_setI {t : List Int} {c d : Nat} {v : Int} (hc : c < t.length) : (t.set c v).getD d 0 = if d = c then v else t.getD d 0 := by
  rw [List.getD_eq_getElem?_getD, List.getElem?_set]
  by_cases h : c = d
  · rw [if_pos h, if_pos h.symm, if_pos hc]; rfl
  · rw [if_neg h, if_neg (Ne.symm h), ← List.getD_eq_getElem?_getD]
theorem sumC_set {t : List Int} {c : Nat} {v : Int} (hc : c < t.length) : ∀ {cs : List Nat}, cs.Nodup → sumC (t.set c v) cs = sumC t cs + if c ∈ cs then v - t.getD c 0 else 0
  | [], _ => by simp [sumC]
  | d :: cs, hn => by
    obtain ⟨h1, h2⟩ := List.nodup_cons.1 hn
    rw [sumC, sumC, sumC_set hc h2, getD_setI hc]
    by_cases hd : d = c
    · subst hd
      rw [if_pos rfl, if_neg h1, if_pos (by simp)]; omega
    · rw [if_neg hd]
      by_cases hm : c ∈ cs
      · rw [if_pos hm, if_pos (by simp [hm])]; omega
      · rw [if_neg hm, if_neg (by simp [hm, Ne.symm hd])]; omega
def restQ (t : List Int) (q : Eqn) : Int := q.2 - sumC t q.1
def openQ (U : List Nat) (q : Eqn) : Nat := (q.1.filter fun c => decide (c ∈ U)).length
def lowF (t : List Int) (U : List Nat) (c : Nat) : List Eqn → Int
  | [] => 0
  | q :: l => if c ∈ q.1 ∧ openQ U q = 1 then max (restQ t q) (lowF t U c l) else lowF t U c l
def highF (M : Int) (t : List Int) (c : Nat) : List Eqn → Int
  | [] => M
  | q :: l => if c ∈ q.1 then min (restQ t q) (highF M t c l) else highF M t c l
theorem lowF_le {t : List Int} {U : List Nat} {c : Nat} {v : Int} : ∀ {l : List Eqn}, lowF t U c l ≤ v ↔ 0 ≤ v ∧ ∀ q ∈ l, c ∈ q.1 → openQ U q = 1 → restQ t q ≤ v
  | [] => by simp [lowF]
  | q :: l => by
    unfold lowF
    by_cases h : c ∈ q.1 ∧ openQ U q = 1
    · rw [if_pos h, Int.max_le, lowF_le]
      constructor
      · rintro ⟨h1, h2, h3⟩
        refine ⟨h2, fun p hp => ?_⟩
        rcases List.mem_cons.1 hp with rfl | hp
        · exact fun _ _ => h1
        · exact h3 p hp
      · rintro ⟨h1, h2⟩
        exact ⟨h2 q (by simp) h.1 h.2, h1, fun p hp => h2 p (by simp [hp])⟩
    · rw [if_neg h, lowF_le]
      constructor
      · rintro ⟨h2, h3⟩
        refine ⟨h2, fun p hp => ?_⟩
        rcases List.mem_cons.1 hp with rfl | hp
        · exact fun a b => absurd ⟨a, b⟩ h
        · exact h3 p hp
      · rintro ⟨h1, h2⟩
        exact ⟨h1, fun p hp => h2 p (by simp [hp])⟩
theorem le_highF {M : Int} {t : List Int} {c : Nat} {v : Int} : ∀ {l : List Eqn}, v ≤ highF M t c l ↔ v ≤ M ∧ ∀ q ∈ l, c ∈ q.1 → v ≤ restQ t q
  | [] => by simp [highF]
  | q :: l => by
    unfold highF
    by_cases h : c ∈ q.1
    · rw [if_pos h, Int.le_min, le_highF]
      constructor
      · rintro ⟨h1, h2, h3⟩
        refine ⟨h2, fun p hp => ?_⟩
        rcases List.mem_cons.1 hp with rfl | hp
        · exact fun _ => h1
        · exact h3 p hp
      · rintro ⟨h1, h2⟩
        exact ⟨h2 q (by simp) h, h1, fun p hp => h2 p (by simp [hp])⟩
    · rw [if_neg h, le_highF]
      constructor
      · rintro ⟨h2, h3⟩
        refine ⟨h2, fun p hp => ?_⟩
        rcases List.mem_cons.1 hp with rfl | hp
        · exact fun a => absurd a h
        · exact h3 p hp
      · rintro ⟨h1, h2⟩
        exact ⟨h1, fun p hp => h2 p (by simp [hp])⟩
structure Inv (n : Nat) (l : List Eqn) (U : List Nat) (t : List Int) : Prop where
  len : t.length = n
  nd : U.Nodup
  lt : ∀ c ∈ U, c < n
  zero : ∀ c ∈ U, t.getD c 0 = 0
  pos : ∀ q ∈ l, 0 ≤ restQ t q
  done : ∀ q ∈ l, openQ U q = 0 → restQ t q = 0
def Once (l : List Eqn) : Prop := ∀ q ∈ l, q.1.Nodup
theorem openQ_cons {c : Nat} {U : List Nat} {q : Eqn} (hn : q.1.Nodup) (hc : c ∉ U) : openQ (c :: U) q = openQ U q + if c ∈ q.1 then 1 else 0 := by
  unfold openQ
  obtain ⟨cs, v⟩ := q
  dsimp only at *
  induction cs with
  | nil => rfl
  | cons d cs ih =>
    obtain ⟨h1, h2⟩ := List.nodup_cons.1 hn
    have ih := ih h2
    by_cases hd : d = c
    · subst hd
      rw [List.filter_cons_of_pos (by simp), List.filter_cons_of_neg (by simp [hc]), List.length_cons, ih, if_neg h1, if_pos (by simp)]
    · have hmem : (d ∈ c :: U) ↔ d ∈ U := by simp [hd]
      have e1 : (c ∈ d :: cs) ↔ c ∈ cs := by simp [Ne.symm hd]
      by_cases hdU : d ∈ U
      · rw [List.filter_cons_of_pos (by simp [hdU]), List.filter_cons_of_pos (by simp [hdU]), List.length_cons, List.length_cons, ih]
        by_cases hcs : c ∈ cs
        · rw [if_pos hcs, if_pos (e1.2 hcs)]
        · rw [if_neg hcs, if_neg fun h => hcs (e1.1 h)]
      · rw [List.filter_cons_of_neg (by simp [hdU, hd]), List.filter_cons_of_neg (by simp [hdU]), ih]
        by_cases hcs : c ∈ cs
        · rw [if_pos hcs, if_pos (e1.2 hcs)]
        · rw [if_neg hcs, if_neg fun h => hcs (e1.1 h)]
theorem restQ_set {t : List Int} {c : Nat} {v : Int} {q : Eqn} (hc : c < t.length) (hn : q.1.Nodup) (h0 : t.getD c 0 = 0) : restQ (t.set c v) q = restQ t q - if c ∈ q.1 then v else 0 := by
  unfold restQ
  rw [sumC_set hc hn, h0]
  split <;> omega
theorem Inv.step {n : Nat} {l : List Eqn} {c : Nat} {U : List Nat} {t : List Int} {M v : Int} (ho : Once l) (h : Inv n l (c :: U) t) (h1 : lowF t (c :: U) c l ≤ v) (h2 : v ≤ highF M t c l) : Inv n l U (t.set c v) := by
  obtain ⟨hn1, hn2⟩ := List.nodup_cons.1 h.nd
  have hcn := h.lt c (by simp)
  have hlen := h.len
  have h0 := h.zero c (by simp)
  obtain ⟨hv, hlow⟩ := lowF_le.1 h1
  obtain ⟨_, hhigh⟩ := le_highF.1 h2
  refine ⟨by rw [List.length_set]; exact hlen, hn2, fun d hd => h.lt d (by simp [hd]), fun d hd => ?_, fun q hq => ?_, fun q hq hop => ?_⟩
  · rw [getD_setI (by omega), if_neg (fun e => hn1 (by rw [← e]; exact hd))]
    exact h.zero d (by simp [hd])
  · rw [restQ_set (by omega) (ho q hq) h0]
    have := h.pos q hq
    by_cases hc : c ∈ q.1
    · rw [if_pos hc]; have := hhigh q hq hc; omega
    · rw [if_neg hc]; omega
  · have hoc := openQ_cons (q := q) (ho q hq) hn1
    rw [restQ_set (by omega) (ho q hq) h0]
    by_cases hc : c ∈ q.1
    · rw [if_pos hc] at hoc ⊢
      have e1 := hlow q hq hc (by omega)
      have e2 := hhigh q hq hc
      omega
    · rw [if_neg hc] at hoc ⊢
      have := h.done q hq (by omega)
      omega
end Go.Sol
namespace Go.Eng
def FnSpecP (P : Program) (f : FuncId) (args : List Value) (I : PH) (Rpre : List Res) (Post : Value → List Res → Prop) (Pan : List PanicEntry → List Res → Prop) : Prop :=
  ∀ (w : World) (F : Res), St w I (Rpre ++ [F]) w → Calls P f args.toArray w fun e w' => (∃ v R', e = .returned v ∧ Post v R' ∧ St w I (R' ++ [F]) w') ∨ (∃ ch R', e = .panicked ch ∧ Pan ch R' ∧ St w I (R' ++ [F]) w')
def fnPostP (P : Program) (fn : Func) (I : PH) (F : Res) (W : World) (Post : Value → List Res → Prop) (Pan : List PanicEntry → List Res → Prop) : Exit → Act → World → Prop :=
  bodyPost P fn fun e w' => (∃ v R', e = .returned v ∧ Post v R' ∧ St W I (R' ++ [F]) w') ∨ (∃ ch R', e = .panicked ch ∧ Pan ch R' ∧ St W I (R' ++ [F]) w')
section
variable {C : Cx} {e : Env} {I : PH} {R : List Res} {K : Act → World → Prop} {Q : Exit → Act → World → Prop}
variable {d : Nat} {ty : TypeId} {pos : String} {after : Array Edge} {g : Option (Nat × Bool)} {x : Operand} {dst : Option Tmp}
end
def L (ds : List Deferred) (K : Act → World → Prop) : Act → World → Prop := fun a w => K { a with defers := ds } w
section
variable {C : Cx} {e : Env} {I : PH} {R : List Res} {K : Act → World → Prop} {Q : Exit → Act → World → Prop} {ds : List Deferred} {ops : Array Oper} {i : Nat} {o : Oper} {c : Code}
variable {d : Nat} {ty : TypeId} {pos : String} {after : Array Edge} {g : Option (Nat × Bool)}
def fnPostD (P : Program) (fn : Func) (I : PH) (F : Res) (W : World) (Post : Value → List Res → Prop) : Exit → Act → World → Prop :=
  bodyPostD P fn fun e w' => ∃ v R', e = .returned v ∧ Post v R' ∧ St W I (R' ++ [F]) w'
end
end Go.Eng
namespace Go.Proofs.YtpcnapidlhpbkaaGreatDoor
open Go.Eng Go.Sol
attribute [local irreducible] opK wpList Code.wp Exit.then Exit.inBlock fnPost bodyPost Nx Calls Oper.wp Rd Rds Wr Ent Stars Blk Again Vec FnSpec wpMix QRun Stop Upto wpAt
abbrev iR (A : Option Addr) (c : Nat) (l : List Int) : Res := Vec 3 1 A l.length c (l.map (Value.int .i64))
structure Pl where
  b : Nat
  tv : Value
  iv : Value
  Ar : Option Addr
  cr : Nat
  Ao : Option Addr
  co : Nat
  At : Option Addr
  ct : Nat
def inL (l : List Eqn) (c : Nat) : List Int := ((List.range l.length).filter fun i => decide (c ∈ (l.getD i default).1)).map Int.ofNat
structure InI (I : PH) (p : Pl) (n : Nat) (l : List Eqn) : Prop where
  ex : ∃ (Ai : Option Addr) (ci : Nat) (ins : List Row), p.iv = .slice Ai n ci ∧ ins.length = n ∧ SliceOf rowV I Ai ci ins ∧ (∀ r ∈ ins, Ints I r.1 r.2.1 r.2.2) ∧ ∀ c, c < n → (ins.getD c default).2.2 = inL l c
end Go.Proofs.YtpcnapidlhpbkaaGreatDoor
namespace Go.Eng
section
variable {C : Cx} {e : Env} {I : PH} {R : List Res} {K : Act → World → Prop} {Q : Exit → Act → World → Prop} {ds : List Deferred}
variable {d : Nat} {ty : TypeId} {pos : String} {after : Array Edge} {g : Option (Nat × Bool)}
end
end Go.Eng
namespace Go.Sol
theorem flat_snoc {α : Type} (g : Nat → List α) (k : Nat) : (List.range (k + 1)).flatMap g = (List.range k).flatMap g ++ g k := by
  rw [List.range_succ, List.flatMap_append]; simp
end Go.Sol
namespace Go.Eng
theorem Blk.cell {b k : Nat} {t : TypeId} {cs : List Value} {v : Value} {m : PH} (h : Blk b t cs m) (hk : nthL cs k = some v) : cellH m ⟨b, k, none⟩ = some v := by
  rw [nthL_eq] at hk
  simp [cellH, show m b = _ from h]
  exact hk
end Go.Eng
namespace Go.Proofs.YtpcnapidlhpbkaaGreatDoor
open Go.Eng Go.Sol
attribute [local irreducible] opK wpList Code.wp Exit.then Exit.inBlock fnPost bodyPost Nx Calls Oper.wp Rd Rds Wr Ent Stars Blk Again Vec FnSpec wpMix QRun Stop Upto wpAt
abbrev EqR := Row × Int
def eqC (q : EqR) : List Value := [.slice q.1.1 q.1.2.2.length q.1.2.1, .int .i64 q.2]
structure Eqs (I : PH) (A : Option Addr) (c : Nat) (l : List EqR) : Prop where
  outer : SliceN eqC 2 I A c l
  inner : ∀ q ∈ l, Ints I q.1.1 q.1.2.1 q.1.2.2
theorem Eqs.mono {I I' : PH} {A : Option Addr} {c : Nat} {l : List EqR} (hle : PH.le I I') (h : Eqs I A c l) : Eqs I' A c l := ⟨h.outer.mono hle, fun q hq => (h.inner q hq).mono hle⟩
theorem Eqs.len {I : PH} {A : Option Addr} {c : Nat} {l : List EqR} (h : Eqs I A c l) : (l.length : Int) ≤ 9223372036854775807 := h.outer.len
theorem getD_memQ {l : List EqR} {k : Nat} (h : k < l.length) : l.getD k default ∈ l := by rw [List.getD_eq_getElem?_getD, List.getElem?_eq_getElem h]; exact List.getElem_mem _
theorem take_snocQ {l : List EqR} {k : Nat} (h : k < l.length) : l.take (k + 1) = l.take k ++ [l.getD k default] := by rw [List.take_succ_eq_append_getElem h, List.getD_eq_getElem?_getD, List.getElem?_eq_getElem h]; rfl
theorem take_snocJ {l : List Int} {k : Nat} (h : k < l.length) : l.take (k + 1) = l.take k ++ [l.getD k default] := by rw [List.take_succ_eq_append_getElem h, List.getD_eq_getElem?_getD, List.getElem?_eq_getElem h]; rfl
theorem eqC_len (q : EqR) : (eqC q).length = 2 := rfl
structure GoodE (n : Nat) (q : EqR) : Prop where
  ne : q.1.2.2 ≠ []
  val : 0 ≤ q.2 ∧ q.2 ≤ 1000000
  asc : q.1.2.2.Pairwise (· < ·)
  lt : ∀ x ∈ q.1.2.2, 0 ≤ x ∧ x < n
def eqn (q : EqR) : Eqn := (q.1.2.2.map Int.toNat, q.2)
end Go.Proofs.YtpcnapidlhpbkaaGreatDoor
namespace Go.Eng
section
variable {P : Program} {ops : Array Oper} {Q : Exit → Act → World → Prop} {S : World → Prop} {loud fin : List Nat}
def wpFork (P : Program) (ops : Array Oper) (Q : Exit → Act → World → Prop) (S : World → Prop) (loud fin : List Nat) : Nat → Array Bool → Act → World → Prop
  | 0, _, _, _ => False
  | n + 1, listed, a, w => (mixOk ops loud fin listed = true ∧ fin.length ≤ n + 1 ∧ wpMix P ops Q S loud fin a w) ∨
    (Region.ready .any ops listed ≠ [] ∧ ∀ i ∈ Region.ready .any ops listed, wpOp P ops Q i (fun a' w' => S w' ∧ wpFork P ops Q S loud fin n (listed.setIfInBounds i true) a' w') a w)
theorem wpFork_any (hs : Region.noSelect ops = true) (hQ : PanicOk Q) : ∀ (n : Nat) (listed : Array Bool) (a : Act) (w : World), wpFork P ops Q S loud fin n listed a w → S w → wpAnyH P .any ops Q S n listed a w
  | 0, _, _, _, h, _ => h.elim
  | n + 1, listed, a, w, h, hS => by
    rcases h with ⟨h1, h2, h3⟩ | ⟨h1, h2⟩
    · exact wpMix_any hs hQ fin (n + 1) listed a w h1 h2 hS h3
    · exact wpAnyH_all rfl h1 fun i hi => wpOp_mono (fun a' w' ⟨h3, h4⟩ => ⟨h3, wpFork_any hs hQ n _ a' w' h4 h3⟩) (h2 i hi)
end
def listedOf (n : Nat) (q : List Nat) : Array Bool := q.foldl (fun a i => a.setIfInBounds i true) (Array.replicate n false)
section
variable {C : Cx} {e e' : Env} {I : PH} {R R' R0 : List Res} {K K' : Act → World → Prop} {Q : Exit → Act → World → Prop} {W : World}
variable {ops : Array Oper} {S : World → Prop} {loud fin : List Nat} {c : Code} {n i j : Nat} {o oi oj : Oper} {listed : Array Bool}
theorem Nx.p_fork {id : Nat} (hid : cid c = id) (q fin loud : List Nat) (R0 : List Res) (fuel : Nat) (hk : ck c = 2) (hm : C.P.follows .mixedOrders = true) (hs : Region.noSelect (cops c) = true)
    (hok : preOk (cops c) (fun l => l == listedOf (cops c).size q) q (Array.replicate (cops c).size false) = true) (hlen : fuel + q.length = (cops c).size) (hQ : PanicOk Q) (hR : Ent R R0)
    (h : Nx C e I R (wpMix C.P (cops c) (Exit.then (wpFork C.P (cops c) Q (St C.W I R0) loud fin fuel (listedOf (cops c).size q)) Q) (St C.W I R0) [] q)) : Nx C e I R (c.wp C.P Q) := by
  have hc : c = .region (cid c) (cops c) true := by
    cases c <;> first | (simp [ck] at hk; done) | skip
    rename_i b
    cases b with
    | false => simp [ck] at hk
    | true => rfl
  clear hid
  rw [hc]
  intro a w ha hw
  refine wp_region_held (S := St C.W I R0) hm ?_
  have key := fun hT => wpMix_pre (fuel := fuel) (S := St C.W I R0) (Q := Q) hs hQ hT q _ a _ hok (hw.drew.ent hR) (h a _ ha hw.drew)
  rw [hlen] at key
  refine key (fun listed a w hpo hSw hT => ?_)
  have hl : listed = listedOf (cops c).size q := by simpa using hpo
  subst hl
  exact wpFork_any hs hQ fuel _ a w hT hSw
theorem Nx.fork_fin (hok : mixOk ops loud fin listed = true) (hl : Nat.ble fin.length (n + 1) = true) (h : Nx C e I R (wpMix C.P ops Q S loud fin)) : Nx C e I R (wpFork C.P ops Q S loud fin (n + 1) listed) :=
  fun a w ha hw => .inl ⟨hok, Nat.le_of_ble_eq_true hl, h a w ha hw⟩
theorem wpOp_of {k : Nat} (ho : opAt ops.toList k = some o) (hg : o.guard = none) (h : Nx C e I R (opK C.P o K Q)) : ∀ a w, Mod C.n e a → St C.W I R w → wpOp C.P ops Q k K a w := fun a w ha hw => by
  unfold wpOp
  rw [opAt_arr ho]
  dsimp only
  rw [if_pos (by simp [Region.wanted, hg])]
  exact .inl (h a w ha hw)
theorem Nx.fork1 (hr : Region.ready .any ops listed = [i]) (ho : opAt ops.toList i = some oi) (hg : oi.guard = none)
    (h : Nx C e I R (opK C.P oi (fun a w => S w ∧ wpFork C.P ops Q S loud fin n (listed.setIfInBounds i true) a w) Q)) : Nx C e I R (wpFork C.P ops Q S loud fin (n + 1) listed) := fun a w ha hw =>
  .inr ⟨by rw [hr]; simp, fun k hk => by
    rw [hr, List.mem_singleton] at hk
    subst hk
    exact wpOp_of ho hg h a w ha hw⟩
theorem Nx.fork2 (hr : Region.ready .any ops listed = [i, j]) (hoi : opAt ops.toList i = some oi) (hgi : oi.guard = none) (hoj : opAt ops.toList j = some oj) (hgj : oj.guard = none)
    (hi : Nx C e I R (opK C.P oi (fun a w => S w ∧ wpFork C.P ops Q S loud fin n (listed.setIfInBounds i true) a w) Q))
    (hj : Nx C e I R (opK C.P oj (fun a w => S w ∧ wpFork C.P ops Q S loud fin n (listed.setIfInBounds j true) a w) Q)) : Nx C e I R (wpFork C.P ops Q S loud fin (n + 1) listed) := fun a w ha hw =>
  .inr ⟨by rw [hr]; simp, fun k hk => by
    rw [hr, List.mem_cons, List.mem_singleton] at hk
    rcases hk with rfl | rfl
    · exact wpOp_of hoi hgi hi a w ha hw
    · exact wpOp_of hoj hgj hj a w ha hw⟩
end
end Go.Eng
