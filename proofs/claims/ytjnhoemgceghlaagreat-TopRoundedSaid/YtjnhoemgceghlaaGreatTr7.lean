/- Contracts of functions of the given program, and lemmas about plain lists and numbers: what the laws of this seat lean on. -/
import Derived.Test.YtjnhoemgceghlaaGreatTr6
namespace Go.Proofs.YtjnhoemgceghlaaGreat
open Go.Eng Go.Sol
attribute [local irreducible] opK wpList Code.wp Exit.then Exit.inBlock fnPost bodyPost Nx Calls Oper.wp Rd Rds Wr Ent Stars Blk Again Vec FnSpec wpMix QRun Stop Upto wpAt
/-! equations.Valid -/
def ascB (n : Int) : Int → List Int → Bool
  | _, [] => true
  | b, x :: r => decide (b < x ∧ x < n) && ascB n x r
def rightB (n : Int) (q : EqR) : Bool := decide (q.1.2.2 ≠ []) && decide (0 ≤ q.2 ∧ q.2 ≤ 1000000) && ascB n (-1) q.1.2.2
def validB (n : Int) (l : List EqR) : Bool := decide (1 ≤ n ∧ n ≤ 48) && decide (l.length ≤ 1152) && l.all (rightB n)
set_option maxHeartbeats 8000000 in
set_option maxRecDepth 10000 in
theorem value_spec (z : Int) (I : PH) : FnSpec Tryz.prog 146 [.int .i64 z] I [] (fun v R' => v = .bool (decide (0 ≤ z ∧ z ≤ 1000000)) ∧ R' = []) := by
  refine FnSpec.enterP Tryz.func146 rfl Tryz.ntmps146 rfl fun w F => ?_
  by_cases h : 0 ≤ z
  · by_cases h2 : z ≤ 1000000
    · rw [decide_eq_true (show 0 ≤ z ∧ z ≤ 1000000 from ⟨h, h2⟩)]
      repeat' first
        | ((with_reducible refine Nx.is_wp ?_); first | refine Nx.wo ?_ | refine Nx.zp (fun hc => ?_) (fun hc => ?_))
        | (refine Nx.zo ?_; first | refine Nx.opr rfl rfl ?_ | refine Nx.so ?_ | refine Nx.sb (fun bx => ?_) | refine Nx.sa (fun A2 c2 => ?_))
        | ((with_reducible refine Nx.is_at ?_); first | refine Nx.a ?_ | refine Nx.zd ?_ | refine Nx.zs (fun hc => ?_) (fun hc => ?_))
        | ((with_reducible refine Nx.is_mix ?_); first | refine Nx.m ?_ | refine Nx.zm ?_ | refine Nx.zt (fun hc => ?_) (fun hc => ?_))
        | refine Nx.zx ?_ | fail
      exact Nx.ret_fn rfl [] ⟨congrArg Value.bool (decide_eq_true h2), rfl⟩ (by (exact Ent.auto))
    · rw [decide_eq_false (show ¬(0 ≤ z ∧ z ≤ 1000000) by omega)]
      repeat' first
        | ((with_reducible refine Nx.is_wp ?_); first | refine Nx.wo ?_ | refine Nx.zp (fun hc => ?_) (fun hc => ?_))
        | (refine Nx.zo ?_; first | refine Nx.opr rfl rfl ?_ | refine Nx.so ?_ | refine Nx.sb (fun bx => ?_) | refine Nx.sa (fun A2 c2 => ?_))
        | ((with_reducible refine Nx.is_at ?_); first | refine Nx.a ?_ | refine Nx.zd ?_ | refine Nx.zs (fun hc => ?_) (fun hc => ?_))
        | ((with_reducible refine Nx.is_mix ?_); first | refine Nx.m ?_ | refine Nx.zm ?_ | refine Nx.zt (fun hc => ?_) (fun hc => ?_))
        | refine Nx.zx ?_ | fail
      exact Nx.ret_fn rfl [] ⟨congrArg Value.bool (decide_eq_false h2), rfl⟩ (by (exact Ent.auto))
  · rw [decide_eq_false (show ¬(0 ≤ z ∧ z ≤ 1000000) by omega)]
    repeat' first
      | ((with_reducible refine Nx.is_wp ?_); first | refine Nx.wo ?_ | refine Nx.zp (fun hc => ?_) (fun hc => ?_))
      | (refine Nx.zo ?_; first | refine Nx.opr rfl rfl ?_ | refine Nx.so ?_ | refine Nx.sb (fun bx => ?_) | refine Nx.sa (fun A2 c2 => ?_))
      | ((with_reducible refine Nx.is_at ?_); first | refine Nx.a ?_ | refine Nx.zd ?_ | refine Nx.zs (fun hc => ?_) (fun hc => ?_))
      | ((with_reducible refine Nx.is_mix ?_); first | refine Nx.m ?_ | refine Nx.zm ?_ | refine Nx.zt (fun hc => ?_) (fun hc => ?_))
      | refine Nx.zx ?_ | fail
    exact Nx.ret_fn rfl [] ⟨rfl, rfl⟩ (by (exact Ent.auto))
def lastOr (b : Int) (xs : List Int) (k : Nat) : Int := if k = 0 then b else xs.getD (k - 1) default
theorem ascB_at {n b : Int} : ∀ {xs : List Int} {k : Nat}, k < xs.length → ascB n (lastOr b xs k) (xs.drop k) = (decide (lastOr b xs k < xs.getD k default ∧ xs.getD k default < n) && ascB n (lastOr b xs (k + 1)) (xs.drop (k + 1))) := by
  intro xs k hk
  rw [List.drop_eq_getElem_cons hk, ascB]
  have e : xs.getD k default = xs[k] := by rw [List.getD_eq_getElem?_getD, List.getElem?_eq_getElem hk]; rfl
  rw [show lastOr b xs (k + 1) = xs[k] by unfold lastOr; rw [if_neg (by omega), Nat.add_sub_cancel, e], e]
set_option maxRecDepth 10000 in
set_option maxHeartbeats 4000000 in
theorem right_spec (n : Int) (q : EqR) (I : PH) (hq : Ints I q.1.1 q.1.2.1 q.1.2.2) :
    FnSpec Tryz.prog 149 [.int .i64 n, .agg #[.slice q.1.1 q.1.2.2.length q.1.2.1, .int .i64 q.2]] I [] (fun v R' => v = .bool (rightB n q) ∧ R' = []) := by
  obtain ⟨⟨A, c, xs⟩, z⟩ := q
  dsimp only at hq ⊢
  have hV := value_spec z I
  have hxl := hq.len
  unfold rightB
  dsimp only
  refine FnSpec.enterP Tryz.func149 rfl Tryz.ntmps149 rfl fun w F => ?_
  by_cases h0 : xs = []
  · subst h0
    repeat' first
      | ((with_reducible refine Nx.is_wp ?_); first | refine Nx.wo ?_ | refine Nx.zp (fun hc => ?_) (fun hc => ?_))
      | (refine Nx.zo ?_; first | refine Nx.opr rfl rfl ?_ | refine Nx.so ?_ | refine Nx.sb (fun bx => ?_) | refine Nx.sa (fun A2 c2 => ?_))
      | ((with_reducible refine Nx.is_at ?_); first | refine Nx.a ?_ | refine Nx.zd ?_ | refine Nx.zs (fun hc => ?_) (fun hc => ?_))
      | ((with_reducible refine Nx.is_mix ?_); first | refine Nx.m ?_ | refine Nx.zm ?_ | refine Nx.zt (fun hc => ?_) (fun hc => ?_))
      | refine Nx.zx ?_ | fail
    exact Nx.ret_fn rfl [] ⟨rfl, rfl⟩ (by (exact Ent.auto))
  have hpos : 0 < xs.length := List.length_pos_iff.2 h0
  rw [decide_eq_true h0, Bool.true_and]
  by_cases hv : 0 ≤ z ∧ z ≤ 1000000
  case neg =>
    rw [decide_eq_false hv] at hV ⊢
    repeat' first
      | ((with_reducible refine Nx.is_wp ?_); first | refine Nx.wo ?_ | refine Nx.zp (fun hc => ?_) (fun hc => ?_))
      | (refine Nx.zo ?_; first | refine Nx.opr rfl rfl ?_ | refine Nx.callv rfl rfl rfl (by kernel_rfl) rfl hV ?_ | refine Nx.so ?_ | refine Nx.sb (fun bx => ?_) | refine Nx.sa (fun A2 c2 => ?_))
      | ((with_reducible refine Nx.is_at ?_); first | refine Nx.a ?_ | refine Nx.zd ?_ | refine Nx.zs (fun hc => ?_) (fun hc => ?_))
      | ((with_reducible refine Nx.is_mix ?_); first | refine Nx.m ?_ | refine Nx.zm ?_ | refine Nx.zt (fun hc => ?_) (fun hc => ?_))
      | refine Nx.zx ?_ | fail
    exact Nx.ret_fn rfl [] ⟨rfl, rfl⟩ (by (exact Ent.auto))
  rw [decide_eq_true hv] at hV ⊢
  rw [Bool.true_and]
  repeat' first
    | ((with_reducible refine Nx.is_wp ?_); first | refine Nx.wo ?_ | refine Nx.zp (fun hc => ?_) (fun hc => ?_))
    | (refine Nx.zo ?_; first | refine Nx.opr rfl rfl ?_ | refine Nx.callv rfl rfl rfl (by kernel_rfl) rfl hV ?_ | refine Nx.so ?_ | refine Nx.sb (fun bx => ?_) | refine Nx.sa (fun A2 c2 => ?_))
    | ((with_reducible refine Nx.is_at ?_); first | refine Nx.a ?_ | refine Nx.zd ?_ | refine Nx.zs (fun hc => ?_) (fun hc => ?_))
    | ((with_reducible refine Nx.is_mix ?_); first | refine Nx.m ?_ | refine Nx.zm ?_ | refine Nx.zt (fun hc => ?_) (fun hc => ?_))
    | refine Nx.zx ?_ | fail
  refine Nx.p_loop (σ := Nat) (fun k => [(0, .int .i64 n), (5, .int .i64 (lastOr (-1) xs k)), (19, .slice A xs.length c), (20, .int .i64 xs.length), (21, .int .i64 (k : Int))])
    (fun _ => [F]) (fun k => k ≤ xs.length ∧ ascB n (-1) xs = ascB n (lastOr (-1) xs k) (xs.drop k)) (fun k => xs.length - k) 0 rfl ⟨Nat.zero_le _, rfl⟩ ⟨rfl, rfl, rfl, rfl, rfl, trivial⟩ (by (exact Ent.auto)) ?_
  rintro k ⟨hk, he⟩
  by_cases hlt : k < xs.length
  · rw [ascB_at hlt] at he
    by_cases h1 : lastOr (-1) xs k < xs.getD k default
    · by_cases h2 : xs.getD k default < n
      · rw [decide_eq_true ⟨h1, h2⟩, Bool.true_and] at he
        repeat' first
          | ((with_reducible refine Nx.is_wp ?_); first | refine Nx.wo ?_ | refine Nx.zp (fun hc => ?_) (fun hc => ?_))
          | (refine Nx.zo ?_; first | refine Nx.opr rfl rfl ?_ | refine Nx.indexAddr_nat rfl rfl rfl rfl rfl (by omega) (hq.isSome (by omega)) ?_ | refine Nx.load rfl rfl rfl (hq.rd (by omega)) ?_ | refine Nx.so ?_ | refine Nx.sb (fun bx => ?_) | refine Nx.sa (fun A2 c2 => ?_))
          | ((with_reducible refine Nx.is_at ?_); first | refine Nx.a ?_ | refine Nx.zd ?_ | refine Nx.zs (fun hc => ?_) (fun hc => ?_))
          | ((with_reducible refine Nx.is_mix ?_); first | refine Nx.m ?_ | refine Nx.zm ?_ | refine Nx.zt (fun hc => ?_) (fun hc => ?_))
          | refine Nx.zx ?_ | fail
        exact Nx.again (k + 1) ⟨hlt, he⟩ (by omega) ⟨rfl, by unfold lastOr; rw [if_neg (Nat.succ_ne_zero k), Nat.add_sub_cancel]; rfl, rfl, rfl, rfl, trivial⟩ (by (exact Ent.auto))
      · rw [decide_eq_false (by rintro ⟨_, h⟩; exact h2 h), Bool.false_and] at he
        rw [he]
        repeat' first
          | ((with_reducible refine Nx.is_wp ?_); first | refine Nx.wo ?_ | refine Nx.zp (fun hc => ?_) (fun hc => ?_))
          | (refine Nx.zo ?_; first | refine Nx.opr rfl rfl ?_ | refine Nx.indexAddr_nat rfl rfl rfl rfl rfl (by omega) (hq.isSome (by omega)) ?_ | refine Nx.load rfl rfl rfl (hq.rd (by omega)) ?_ | refine Nx.so ?_ | refine Nx.sb (fun bx => ?_) | refine Nx.sa (fun A2 c2 => ?_))
          | ((with_reducible refine Nx.is_at ?_); first | refine Nx.a ?_ | refine Nx.zd ?_ | refine Nx.zs (fun hc => ?_) (fun hc => ?_))
          | ((with_reducible refine Nx.is_mix ?_); first | refine Nx.m ?_ | refine Nx.zm ?_ | refine Nx.zt (fun hc => ?_) (fun hc => ?_))
          | refine Nx.zx ?_ | fail
        exact Nx.ret_fn rfl [] ⟨rfl, rfl⟩ (by (exact Ent.auto))
    · rw [decide_eq_false (by rintro ⟨h, _⟩; exact h1 h), Bool.false_and] at he
      rw [he]
      repeat' first
        | ((with_reducible refine Nx.is_wp ?_); first | refine Nx.wo ?_ | refine Nx.zp (fun hc => ?_) (fun hc => ?_))
        | (refine Nx.zo ?_; first | refine Nx.opr rfl rfl ?_ | refine Nx.indexAddr_nat rfl rfl rfl rfl rfl (by omega) (hq.isSome (by omega)) ?_ | refine Nx.load rfl rfl rfl (hq.rd (by omega)) ?_ | refine Nx.so ?_ | refine Nx.sb (fun bx => ?_) | refine Nx.sa (fun A2 c2 => ?_))
        | ((with_reducible refine Nx.is_at ?_); first | refine Nx.a ?_ | refine Nx.zd ?_ | refine Nx.zs (fun hc => ?_) (fun hc => ?_))
        | ((with_reducible refine Nx.is_mix ?_); first | refine Nx.m ?_ | refine Nx.zm ?_ | refine Nx.zt (fun hc => ?_) (fun hc => ?_))
        | refine Nx.zx ?_ | fail
      exact Nx.ret_fn rfl [] ⟨rfl, rfl⟩ (by (exact Ent.auto))
  · obtain rfl : k = xs.length := by omega
    rw [List.drop_length] at he
    rw [he]
    repeat' first
      | ((with_reducible refine Nx.is_wp ?_); first | refine Nx.wo ?_ | refine Nx.zp (fun hc => ?_) (fun hc => ?_))
      | (refine Nx.zo ?_; first | refine Nx.opr rfl rfl ?_ | refine Nx.so ?_ | refine Nx.sb (fun bx => ?_) | refine Nx.sa (fun A2 c2 => ?_))
      | ((with_reducible refine Nx.is_at ?_); first | refine Nx.a ?_ | refine Nx.zd ?_ | refine Nx.zs (fun hc => ?_) (fun hc => ?_))
      | ((with_reducible refine Nx.is_mix ?_); first | refine Nx.m ?_ | refine Nx.zm ?_ | refine Nx.zt (fun hc => ?_) (fun hc => ?_))
      | refine Nx.zx ?_ | fail
    exact Nx.ret_fn rfl [] ⟨rfl, rfl⟩ (by (exact Ent.auto))
set_option maxHeartbeats 8000000 in
set_option maxRecDepth 10000 in
theorem wrong_spec (n : Int) (b : Nat) (q : EqR) (I : PH) (hq : Ints I q.1.1 q.1.2.1 q.1.2.2) (hb : ∀ (W : World) (R : List Res), Rd W I R ⟨b, 0, none⟩ (.int .i64 n)) :
    FnSpec Tryz.prog 148 [.agg #[.slice q.1.1 q.1.2.2.length q.1.2.1, .int .i64 q.2], .pointer (some ⟨b, 0, none⟩)] I [] (fun v R' => v = .bool (!rightB n q) ∧ R' = []) := by
  have hR := right_spec n q I hq
  refine FnSpec.enterP Tryz.func148 rfl Tryz.ntmps148 rfl fun w F => ?_
  repeat' first
    | ((with_reducible refine Nx.is_wp ?_); first | refine Nx.wo ?_ | refine Nx.zp (fun hc => ?_) (fun hc => ?_))
    | (refine Nx.zo ?_; first | refine Nx.opr rfl rfl ?_ | refine Nx.load rfl rfl rfl (hb _ _) ?_ | refine Nx.callv rfl rfl rfl (by kernel_rfl) rfl hR ?_ | refine Nx.so ?_ | refine Nx.sb (fun bx => ?_) | refine Nx.sa (fun A2 c2 => ?_))
    | ((with_reducible refine Nx.is_at ?_); first | refine Nx.a ?_ | refine Nx.zd ?_ | refine Nx.zs (fun hc => ?_) (fun hc => ?_))
    | ((with_reducible refine Nx.is_mix ?_); first | refine Nx.m ?_ | refine Nx.zm ?_ | refine Nx.zt (fun hc => ?_) (fun hc => ?_))
    | refine Nx.zx ?_ | fail
  exact Nx.ret_fn rfl [] ⟨rfl, rfl⟩ (by (exact Ent.auto))
set_option maxRecDepth 10000 in
set_option maxHeartbeats 4000000 in
theorem IndexFuncE_spec (n : Int) (b : Nat) (A : Option Addr) (c : Nat) (l : List EqR) (I : PH) (hl : Eqs I A c l) (hb : ∀ (W : World) (R : List Res), Rd W I R ⟨b, 0, none⟩ (.int .i64 n)) :
    FnSpec Tryz.prog 170 [.slice A l.length c, .func (.func 148) #[] #[.pointer (some ⟨b, 0, none⟩)]] I [] (fun v R' => ∃ i : Int, v = .int .i64 i ∧ decide (0 ≤ i) = !(l.all (rightB n)) ∧ R' = []) := by
  have hlen := hl.len
  refine FnSpec.enterP Tryz.func170 rfl Tryz.ntmps170 rfl fun w F => ?_
  repeat' first
    | ((with_reducible refine Nx.is_wp ?_); first | refine Nx.wo ?_ | refine Nx.zp (fun hc => ?_) (fun hc => ?_))
    | (refine Nx.zo ?_; first | refine Nx.opr rfl rfl ?_ | refine Nx.so ?_ | refine Nx.sb (fun bx => ?_) | refine Nx.sa (fun A2 c2 => ?_))
    | ((with_reducible refine Nx.is_at ?_); first | refine Nx.a ?_ | refine Nx.zd ?_ | refine Nx.zs (fun hc => ?_) (fun hc => ?_))
    | ((with_reducible refine Nx.is_mix ?_); first | refine Nx.m ?_ | refine Nx.zm ?_ | refine Nx.zt (fun hc => ?_) (fun hc => ?_))
    | refine Nx.zx ?_ | fail
  refine Nx.p_loop (σ := Nat) (fun k => [(0, .slice A l.length c), (1, .func (.func 148) #[] #[.pointer (some ⟨b, 0, none⟩)]), (7, .int .i64 l.length), (8, .int .i64 (k : Int))])
    (fun _ => [F]) (fun k => k ≤ l.length ∧ (l.take k).all (rightB n) = true) (fun k => l.length - k) 0 rfl ⟨Nat.zero_le _, by simp⟩ ⟨rfl, rfl, rfl, rfl, trivial⟩ (Ent.refl _) ?_
  rintro k ⟨hk, hall⟩
  by_cases hlt : k < l.length
  · have hin := hl.inner _ (getD_memQ hlt)
    have hmem := getD_memQ hlt
    have hsn := take_snocQ hlt
    have hrds : ∀ (W : World) (R : List Res), Rds W I R ((ad A).add (k * 2)) (eqC (l.getD k default)) := fun W R => hl.outer.rds hlt
    generalize l.getD k default = q at hin hmem hsn hrds
    have hW := wrong_spec n b q I hin hb
    cases hr : rightB n q with
    | true =>
      rw [hr] at hW
      repeat' first
        | ((with_reducible refine Nx.is_wp ?_); first | refine Nx.wo ?_ | refine Nx.zp (fun hc => ?_) (fun hc => ?_))
        | (refine Nx.zo ?_; first | refine Nx.opr rfl rfl ?_ | refine Nx.indexAddr_nat rfl rfl rfl rfl rfl (by omega) (hl.outer.isSome (by omega) (by omega)) ?_ | refine Nx.loads rfl rfl rfl rfl (hrds _ _) rfl ?_ | refine Nx.callv rfl rfl rfl (by kernel_rfl) rfl hW ?_ | refine Nx.so ?_ | refine Nx.sb (fun bx => ?_) | refine Nx.sa (fun A2 c2 => ?_))
        | ((with_reducible refine Nx.is_at ?_); first | refine Nx.a ?_ | refine Nx.zd ?_ | refine Nx.zs (fun hc => ?_) (fun hc => ?_))
        | ((with_reducible refine Nx.is_mix ?_); first | refine Nx.m ?_ | refine Nx.zm ?_ | refine Nx.zt (fun hc => ?_) (fun hc => ?_))
        | refine Nx.zx ?_ | fail
      exact Nx.again (k + 1) ⟨hlt, by rw [hsn, List.all_append, hall]; simp [hr]⟩ (by omega) ⟨rfl, rfl, rfl, rfl, trivial⟩ (Ent.refl _)
    | false =>
      rw [hr] at hW
      repeat' first
        | ((with_reducible refine Nx.is_wp ?_); first | refine Nx.wo ?_ | refine Nx.zp (fun hc => ?_) (fun hc => ?_))
        | (refine Nx.zo ?_; first | refine Nx.opr rfl rfl ?_ | refine Nx.indexAddr_nat rfl rfl rfl rfl rfl (by omega) (hl.outer.isSome (by omega) (by omega)) ?_ | refine Nx.loads rfl rfl rfl rfl (hrds _ _) rfl ?_ | refine Nx.callv rfl rfl rfl (by kernel_rfl) rfl hW ?_ | refine Nx.so ?_ | refine Nx.sb (fun bx => ?_) | refine Nx.sa (fun A2 c2 => ?_))
        | ((with_reducible refine Nx.is_at ?_); first | refine Nx.a ?_ | refine Nx.zd ?_ | refine Nx.zs (fun hc => ?_) (fun hc => ?_))
        | ((with_reducible refine Nx.is_mix ?_); first | refine Nx.m ?_ | refine Nx.zm ?_ | refine Nx.zt (fun hc => ?_) (fun hc => ?_))
        | refine Nx.zx ?_ | fail
      refine Nx.ret_fn rfl [] ⟨(k : Int), rfl, ?_, rfl⟩ (by (exact Ent.auto))
      rw [show l.all (rightB n) = false from List.all_eq_false.2 ⟨q, hmem, by rw [hr]; decide⟩]
      simp
  · obtain rfl : k = l.length := by omega
    rw [List.take_length] at hall
    repeat' first
      | ((with_reducible refine Nx.is_wp ?_); first | refine Nx.wo ?_ | refine Nx.zp (fun hc => ?_) (fun hc => ?_))
      | (refine Nx.zo ?_; first | refine Nx.opr rfl rfl ?_ | refine Nx.so ?_ | refine Nx.sb (fun bx => ?_) | refine Nx.sa (fun A2 c2 => ?_))
      | ((with_reducible refine Nx.is_at ?_); first | refine Nx.a ?_ | refine Nx.zd ?_ | refine Nx.zs (fun hc => ?_) (fun hc => ?_))
      | ((with_reducible refine Nx.is_mix ?_); first | refine Nx.m ?_ | refine Nx.zm ?_ | refine Nx.zt (fun hc => ?_) (fun hc => ?_))
      | refine Nx.zx ?_ | fail
    exact Nx.ret_fn rfl [] ⟨-1, rfl, by rw [hall]; rfl, rfl⟩ (by (exact Ent.auto))
set_option maxHeartbeats 8000000 in
set_option maxRecDepth 10000 in
theorem ContainsFuncE_spec (n : Int) (b : Nat) (A : Option Addr) (c : Nat) (l : List EqR) (I : PH) (hl : Eqs I A c l) (hb : ∀ (W : World) (R : List Res), Rd W I R ⟨b, 0, none⟩ (.int .i64 n)) :
    FnSpec Tryz.prog 147 [.slice A l.length c, .func (.func 148) #[] #[.pointer (some ⟨b, 0, none⟩)]] I [] (fun v R' => v = .bool (!(l.all (rightB n))) ∧ R' = []) := by
  have hI := IndexFuncE_spec n b A c l I hl hb
  refine FnSpec.enterP Tryz.func147 rfl Tryz.ntmps147 rfl fun w F => ?_
  repeat' first
    | ((with_reducible refine Nx.is_wp ?_); first | refine Nx.wo ?_ | refine Nx.zp (fun hc => ?_) (fun hc => ?_))
    | (refine Nx.zo ?_; first | refine Nx.opr rfl rfl ?_ | (refine Nx.call (Rpre := []) rfl rfl rfl (by kernel_rfl) rfl hI (Ent.refl _) ?_; rintro _ _ ⟨i, rfl, hi, rfl⟩) | refine Nx.so ?_ | refine Nx.sb (fun bx => ?_) | refine Nx.sa (fun A2 c2 => ?_))
    | ((with_reducible refine Nx.is_at ?_); first | refine Nx.a ?_ | refine Nx.zd ?_ | refine Nx.zs (fun hc => ?_) (fun hc => ?_))
    | ((with_reducible refine Nx.is_mix ?_); first | refine Nx.m ?_ | refine Nx.zm ?_ | refine Nx.zt (fun hc => ?_) (fun hc => ?_))
    | refine Nx.zx ?_ | fail
  exact Nx.ret_fn rfl [] ⟨by rw [← hi], rfl⟩ (by (exact Ent.auto))
set_option maxRecDepth 10000 in
set_option maxHeartbeats 4000000 in
theorem Valid_spec (n : Int) (A : Option Addr) (c : Nat) (l : List EqR) (I : PH) (hl : Eqs I A c l) :
    FnSpec Tryz.prog 120 [.int .i64 n, .slice A l.length c] I [] (fun v R' => v = .bool (validB n l) ∧ R' = []) := by
  have hlen := hl.len
  unfold validB
  refine FnSpec.enterP Tryz.func120 rfl Tryz.ntmps120 rfl fun w F => ?_
  refine Nx.p_seq rfl ?_
  by_cases h1 : 1 ≤ n
  case neg =>
    rw [decide_eq_false (show ¬(1 ≤ n ∧ n ≤ 48) by omega), Bool.false_and, Bool.false_and]
    repeat' first
      | ((with_reducible refine Nx.is_wp ?_); first | refine Nx.wo ?_ | refine Nx.zp (fun hc => ?_) (fun hc => ?_))
      | (refine Nx.zo ?_; first | refine Nx.opr rfl rfl ?_ | refine Nx.so ?_ | refine Nx.sb (fun bx => ?_) | refine Nx.sa (fun A2 c2 => ?_))
      | ((with_reducible refine Nx.is_at ?_); first | refine Nx.a ?_ | refine Nx.zd ?_ | refine Nx.zs (fun hc => ?_) (fun hc => ?_))
      | ((with_reducible refine Nx.is_mix ?_); first | refine Nx.m ?_ | refine Nx.zm ?_ | refine Nx.zt (fun hc => ?_) (fun hc => ?_))
      | refine Nx.zx ?_ | fail
    exact Nx.ret_fn rfl [] ⟨rfl, rfl⟩ (by (exact Ent.auto))
  by_cases h2 : n ≤ 48
  case neg =>
    rw [decide_eq_false (show ¬(1 ≤ n ∧ n ≤ 48) by omega), Bool.false_and, Bool.false_and]
    repeat' first
      | ((with_reducible refine Nx.is_wp ?_); first | refine Nx.wo ?_ | refine Nx.zp (fun hc => ?_) (fun hc => ?_))
      | (refine Nx.zo ?_; first | refine Nx.opr rfl rfl ?_ | refine Nx.so ?_ | refine Nx.sb (fun bx => ?_) | refine Nx.sa (fun A2 c2 => ?_))
      | ((with_reducible refine Nx.is_at ?_); first | refine Nx.a ?_ | refine Nx.zd ?_ | refine Nx.zs (fun hc => ?_) (fun hc => ?_))
      | ((with_reducible refine Nx.is_mix ?_); first | refine Nx.m ?_ | refine Nx.zm ?_ | refine Nx.zt (fun hc => ?_) (fun hc => ?_))
      | refine Nx.zx ?_ | fail
    exact Nx.ret_fn rfl [] ⟨rfl, rfl⟩ (by (exact Ent.auto))
  rw [decide_eq_true (show 1 ≤ n ∧ n ≤ 48 from ⟨h1, h2⟩), Bool.true_and]
  by_cases h3 : l.length ≤ 1152
  case neg =>
    rw [decide_eq_false h3, Bool.false_and]
    repeat' first
      | ((with_reducible refine Nx.is_wp ?_); first | refine Nx.wo ?_ | refine Nx.zp (fun hc => ?_) (fun hc => ?_))
      | (refine Nx.zo ?_; first | refine Nx.opr rfl rfl ?_ | refine Nx.so ?_ | refine Nx.sb (fun bx => ?_) | refine Nx.sa (fun A2 c2 => ?_))
      | ((with_reducible refine Nx.is_at ?_); first | refine Nx.a ?_ | refine Nx.zd ?_ | refine Nx.zs (fun hc => ?_) (fun hc => ?_))
      | ((with_reducible refine Nx.is_mix ?_); first | refine Nx.m ?_ | refine Nx.zm ?_ | refine Nx.zt (fun hc => ?_) (fun hc => ?_))
      | refine Nx.zx ?_ | fail
    exact Nx.ret_fn rfl [] ⟨rfl, rfl⟩ (by (exact Ent.auto))
  rw [decide_eq_true h3, Bool.true_and]
  repeat' first
    | ((with_reducible refine Nx.is_wp ?_); first | refine Nx.p_stopr 1 rfl ?_ | refine Nx.wo ?_ | refine Nx.zp (fun hc => ?_) (fun hc => ?_))
    | (refine Nx.zo ?_; first | refine Nx.opr rfl rfl ?_ | refine Nx.so ?_ | refine Nx.sb (fun bx => ?_) | refine Nx.sa (fun A2 c2 => ?_))
    | ((with_reducible refine Nx.is_at ?_); first | refine Nx.a ?_ | refine Nx.zd ?_ | refine Nx.zs (fun hc => ?_) (fun hc => ?_))
    | ((with_reducible refine Nx.is_mix ?_); first | refine Nx.m ?_ | refine Nx.zm ?_ | refine Nx.zt (fun hc => ?_) (fun hc => ?_))
    | refine Nx.zx ?_ | fail
  refine unstopN ?_
  revert bx; intro b2
  refine Nx.freezeAt 0 rfl fun I2 m2 hI2 hm2 hb2 => ?_
  have rb : ∀ (W : World) (R : List Res), Rd W I2 R ⟨b2, 0, none⟩ (.int .i64 n) := fun W R => Rd.imm (cellH_mono hm2 (Blk.cell hb2 rfl))
  have hC := ContainsFuncE_spec n b2 A c l I2 (hl.mono hI2) rb
  repeat' first
    | ((with_reducible refine Nx.is_wp ?_); first | refine Nx.wo ?_ | refine Nx.zp (fun hc => ?_) (fun hc => ?_))
    | (refine Nx.zo ?_; first | refine Nx.opr rfl rfl ?_ | refine Nx.load rfl rfl rfl (rb _ _) ?_ | refine Nx.callv rfl rfl rfl (by kernel_rfl) rfl hC ?_ | refine Nx.so ?_ | refine Nx.sb (fun bx => ?_) | refine Nx.sa (fun A2 c2 => ?_))
    | ((with_reducible refine Nx.is_at ?_); first | refine Nx.a ?_ | refine Nx.zd ?_ | refine Nx.zs (fun hc => ?_) (fun hc => ?_))
    | ((with_reducible refine Nx.is_mix ?_); first | refine Nx.m ?_ | refine Nx.zm ?_ | refine Nx.zt (fun hc => ?_) (fun hc => ?_))
    | refine Nx.zx ?_ | fail
  exact Nx.imm_le hI2 (Nx.ret_fn rfl [] ⟨by rw [Bool.not_not], rfl⟩ (by (exact Ent.auto)))
theorem ascB_iff {n : Int} : ∀ {b : Int} {xs : List Int}, ascB n b xs = true ↔ xs.Pairwise (· < ·) ∧ ∀ x ∈ xs, b < x ∧ x < n
  | b, [] => by simp [ascB]
  | b, x :: r => by
    rw [ascB, Bool.and_eq_true, decide_eq_true_eq, ascB_iff, List.pairwise_cons]
    constructor
    · rintro ⟨⟨h1, h2⟩, h3, h4⟩
      refine ⟨⟨fun y hy => (h4 y hy).1, h3⟩, fun y hy => ?_⟩
      rcases List.mem_cons.1 hy with rfl | hy
      · exact ⟨h1, h2⟩
      · have := h4 y hy; omega
    · rintro ⟨⟨h1, h2⟩, h3⟩
      exact ⟨h3 x (by simp), h2, fun y hy => ⟨h1 y hy, (h3 y (by simp [hy])).2⟩⟩
theorem rightB_iff {n : Nat} {q : EqR} : rightB n q = true ↔ GoodE n q := by
  unfold rightB
  rw [Bool.and_eq_true, Bool.and_eq_true, decide_eq_true_eq, decide_eq_true_eq, ascB_iff]
  constructor
  · rintro ⟨⟨h1, h2⟩, h3, h4⟩
    exact ⟨h1, h2, h3, fun x hx => by have := h4 x hx; omega⟩
  · rintro ⟨h1, h2, h3, h4⟩
    exact ⟨⟨h1, h2⟩, h3, fun x hx => by have := h4 x hx; omega⟩
end Go.Proofs.YtjnhoemgceghlaaGreat
/- Contracts of functions of the given program, and lemmas about plain lists and numbers: what the laws of this seat lean on. -/
namespace Go.Proofs.YtjnhoemgceghlaaGreat
open Go.Eng Go.Sol
attribute [local irreducible] opK wpList Code.wp Exit.then Exit.inBlock fnPost bodyPost Nx Calls Oper.wp Rd Rds Wr Ent Stars Blk Again Vec FnSpec wpMix QRun Stop Upto wpAt
/-! Whether equations are small -/
def roomOf (L : List Eqn) (c : Nat) : Int := L.foldl (fun a q => if c ∈ q.1 then min a (q.2 + 1) else a) 1000001
theorem room_snoc (L : List Eqn) (q : Eqn) (c : Nat) : roomOf (L ++ [q]) c = if c ∈ q.1 then min (roomOf L c) (q.2 + 1) else roomOf L c := by
  unfold roomOf; rw [List.foldl_append]; rfl
theorem room_bd : ∀ {L : List Eqn} {c : Nat}, (∀ q ∈ L, 0 ≤ q.2) → 1 ≤ roomOf L c ∧ roomOf L c ≤ 1000001 := by
  intro L c h
  suffices key : ∀ (L : List Eqn) (a : Int), (∀ q ∈ L, 0 ≤ q.2) → 1 ≤ a ∧ a ≤ 1000001 → 1 ≤ L.foldl (fun a q => if c ∈ q.1 then min a (q.2 + 1) else a) a ∧ L.foldl (fun a q => if c ∈ q.1 then min a (q.2 + 1) else a) a ≤ 1000001 from key L _ h (by omega)
  intro L
  induction L with
  | nil => exact fun a _ ha => ha
  | cons q L ih =>
    intro a hq ha
    rw [List.foldl_cons]
    refine ih _ (fun p hp => hq p (by simp [hp])) ?_
    have := hq q (by simp)
    split <;> omega
def sizeB : Int → List Int → Bool
  | _, [] => true
  | a, x :: r => decide (a * x ≤ 65536) && sizeB (a * x) r
def prodK (xs : List Int) : Nat → Int
  | 0 => 1
  | k + 1 => prodK xs k * xs.getD k default
theorem sizeB_at {xs : List Int} {k : Nat} (hk : k < xs.length) : sizeB (prodK xs k) (xs.drop k) = (decide (prodK xs (k + 1) ≤ 65536) && sizeB (prodK xs (k + 1)) (xs.drop (k + 1))) := by
  rw [List.drop_eq_getElem_cons hk, sizeB]
  rw [show prodK xs (k + 1) = prodK xs k * xs[k] by rw [prodK, List.getD_eq_getElem?_getD, List.getElem?_eq_getElem hk]; rfl]
def roomsOf (n : Nat) (L : List Eqn) : List Int := (touch n L).map (roomOf L)
def smallB (n : Nat) (L : List Eqn) : Bool := sizeB 1 (roomsOf n L)
set_option maxRecDepth 10000 in
set_option maxHeartbeats 8000000 in
theorem small_spec (A : Option Addr) (c : Nat) (l : List EqR) (n : Nat) (I : PH) (hl : Eqs I A c l) (hg : ∀ q ∈ l, GoodE n q) (hn1 : 1 ≤ n) (hn : n ≤ 4096) (h9 : (allC l).length ≤ 1000000) :
    FnSpec Tryz.prog 121 [.int .i64 (n : Int), .slice A l.length c] I [] (fun v R' => v = .bool (smallB n (eqns l)) ∧ R' = []) := by
  have hlen := hl.len
  have hT := Touched_spec A c l n I hl hg h9
  have hRp := fun b => RepeatI_spec [.int .i64 1000001] rfl (by simp [Value.oneCell']) b n hn1 hn I
  have hval : ∀ k, ∀ q ∈ eqns (l.take k), 0 ≤ q.2 := fun k q hq => by
    obtain ⟨x, hx, rfl⟩ := List.mem_map.1 hq
    exact (hg x (List.mem_of_mem_take hx)).val.1
  refine FnSpec.enterP Tryz.func121 rfl Tryz.ntmps121 rfl fun w F => ?_
  repeat' first
    | ((with_reducible refine Nx.is_wp ?_); first | refine Nx.wo ?_ | refine Nx.zp (fun hc => ?_) (fun hc => ?_))
    | (refine Nx.zo ?_; first | refine Nx.opr rfl rfl ?_ | (refine Nx.call rfl rfl rfl (by kernel_rfl) rfl (hRp _) (by (exact Ent.auto)) ?_; rintro _ _ ⟨b5, rfl, rfl⟩) | refine Nx.so ?_ | refine Nx.sb (fun bx => ?_) | refine Nx.sa (fun A2 c2 => ?_))
    | ((with_reducible refine Nx.is_at ?_); first | refine Nx.a ?_ | refine Nx.zd ?_ | refine Nx.zs (fun hc => ?_) (fun hc => ?_))
    | ((with_reducible refine Nx.is_mix ?_); first | refine Nx.m ?_ | refine Nx.zm ?_ | refine Nx.zt (fun hc => ?_) (fun hc => ?_))
    | refine Nx.zx ?_ | fail
  refine Nx.p_loop (σ := Nat × List Int) (fun s => [(0, .int .i64 (n : Int)), (1, .slice A l.length c), (5, .slice (some ⟨b5, 0, none⟩) n n), (16, .slice A l.length c), (17, .int .i64 l.length), (18, .int .i64 (s.1 : Int))])
    (fun s => [Vec 3 1 (some ⟨b5, 0, none⟩) n n (s.2.map (Value.int .i64)), F]) (fun s => s.1 ≤ l.length ∧ s.2.length = n ∧ ∀ x, x < n → s.2.getD x default = roomOf (eqns (l.take s.1)) x) (fun s => l.length - s.1) (0, List.replicate n 1000001) rfl ⟨Nat.zero_le _, by simp, fun x hx => by dsimp only; rw [List.getD_eq_getElem?_getD, List.getElem?_replicate, if_pos hx]; rfl⟩ ⟨rfl, rfl, rfl, rfl, rfl, rfl, trivial⟩ ?_ ?_
  · dsimp only
    rw [show (List.replicate n (1000001 : Int)).map (Value.int .i64) = (List.replicate n [Value.int .i64 1000001]).flatten by rw [List.map_replicate]; simp]
    (exact Ent.auto)
  rintro ⟨k, rm⟩ ⟨hk, hrl, hrm⟩
  dsimp only at hk hrl hrm ⊢
  by_cases hlt : k < l.length
  case pos =>
    have hin := hl.inner _ (getD_memQ hlt)
    have hgk := hg _ (getD_memQ hlt)
    have hes := eqns_snoc hlt
    have hvk := hval k
    have hrds : ∀ (W : World) (R : List Res), Rds W I R ((ad A).add (k * 2)) (eqC (l.getD k default)) := fun W R => hl.outer.rds hlt
    generalize l.getD k default = q at *
    obtain ⟨⟨Ax, cx, ix⟩, z⟩ := q
    dsimp only at hin
    replace hrds : ∀ (W : World) (R : List Res), Rds W I R ((ad A).add (k * 2)) [.slice Ax ix.length cx, .int .i64 z] := hrds
    have hixl := hin.len
    have hz := hgk.val
    dsimp only at hz
    repeat' first
      | ((with_reducible refine Nx.is_wp ?_); first | refine Nx.wo ?_ | refine Nx.zp (fun hc => ?_) (fun hc => ?_))
      | (refine Nx.zo ?_; first | refine Nx.opr rfl rfl ?_ | refine Nx.indexAddr_nat rfl rfl rfl rfl rfl (by omega) (hl.outer.isSome (by omega) (by omega)) ?_ | refine Nx.loads rfl rfl rfl rfl (hrds _ _) rfl ?_ | refine Nx.so ?_ | refine Nx.sb (fun bx => ?_) | refine Nx.sa (fun A2 c2 => ?_))
      | ((with_reducible refine Nx.is_at ?_); first | refine Nx.a ?_ | refine Nx.zd ?_ | refine Nx.zs (fun hc => ?_) (fun hc => ?_))
      | ((with_reducible refine Nx.is_mix ?_); first | refine Nx.m ?_ | refine Nx.zm ?_ | refine Nx.zt (fun hc => ?_) (fun hc => ?_))
      | refine Nx.zx ?_ | fail
    revert bx; intro b7
    refine Nx.p_loop (σ := Nat × List Int) (fun s => [(0, .int .i64 (n : Int)), (1, .slice A l.length c), (5, .slice (some ⟨b5, 0, none⟩) n n), (7, .pointer (some ⟨b7, 0, none⟩)), (16, .slice A l.length c), (17, .int .i64 l.length), (18, .int .i64 (k : Int)), (23, .slice Ax ix.length cx), (24, .int .i64 ix.length), (25, .int .i64 (s.1 : Int))])
      (fun s => [Vec 3 1 (some ⟨b5, 0, none⟩) n n (s.2.map (Value.int .i64)), Blk b7 140 [.slice Ax ix.length cx, .int .i64 z], F]) (fun s => s.1 ≤ ix.length ∧ s.2.length = n ∧ ∀ x, x < n → s.2.getD x default = if (x : Int) ∈ ix.take s.1 then min (roomOf (eqns (l.take k)) x) (z + 1) else roomOf (eqns (l.take k)) x) (fun s => ix.length - s.1) (0, rm) rfl ⟨Nat.zero_le _, hrl, fun x hx => by rw [hrm x hx]; simp⟩ ⟨rfl, rfl, rfl, rfl, rfl, rfl, rfl, rfl, rfl, rfl, trivial⟩ (by (exact Ent.auto)) ?_
    rintro ⟨j, r2⟩ ⟨hj, hr2l, hr2⟩
    dsimp only at hj hr2l hr2 ⊢
    by_cases hjl : j < ix.length
    case neg =>
      obtain rfl : j = ix.length := by omega
      repeat' first
        | ((with_reducible refine Nx.is_wp ?_); first | refine Nx.wo ?_ | refine Nx.zp (fun hc => ?_) (fun hc => ?_))
        | (refine Nx.zo ?_; first | refine Nx.opr rfl rfl ?_ | refine Nx.so ?_ | refine Nx.sb (fun bx => ?_) | refine Nx.sa (fun A2 c2 => ?_))
        | ((with_reducible refine Nx.is_at ?_); first | refine Nx.a ?_ | refine Nx.zd ?_ | refine Nx.zs (fun hc => ?_) (fun hc => ?_))
        | ((with_reducible refine Nx.is_mix ?_); first | refine Nx.m ?_ | refine Nx.zm ?_ | refine Nx.zt (fun hc => ?_) (fun hc => ?_))
        | refine Nx.zx ?_ | fail
      refine Nx.again (k + 1, r2) ⟨hlt, hr2l, fun x hx => ?_⟩ (by dsimp only; omega) ⟨rfl, rfl, rfl, rfl, rfl, rfl, trivial⟩ (by (exact Ent.auto))
      dsimp only
      rw [hr2 x hx, hes, room_snoc, List.take_length]
      by_cases hm : (x : Int) ∈ ix
      · rw [if_pos hm, if_pos ((mem_eqn hgk).2 hm)]; rfl
      · rw [if_neg hm, if_neg fun h => hm ((mem_eqn hgk).1 h)]
    have hixj := hgk.lt (ix.getD j default) (by rw [List.getD_eq_getElem?_getD, List.getElem?_eq_getElem hjl]; exact List.getElem_mem _)
    obtain ⟨y, hy⟩ : ∃ y : Nat, ix.getD j default = (y : Int) := ⟨(ix.getD j default).toNat, by omega⟩
    have hyn : y < n := by omega
    have hixr : ∀ (W : World) (R : List Res), Rd W I R ((ad Ax).add (j * 1)) (.int .i64 (y : Int)) := fun W R => by rw [← hy]; exact hin.rd hjl
    have hrv : ∀ (W : World) (R : List Res), Rd W I (Vec 3 1 (some ⟨b5, 0, none⟩) n n (r2.map (Value.int .i64)) :: R) ((ad (some ⟨b5, 0, none⟩)).add (y * 1)) (.int .i64 (r2.getD y default)) := fun W R => Rd.vecEl 0 (f := Value.int .i64) (l := r2) (i := y) rfl (by omega)
    repeat' first
      | ((with_reducible refine Nx.is_wp ?_); first | refine Nx.wo ?_ | refine Nx.p_drawF (id := 8) rfl [0, 1, 2, 3, 4, 5, 6, 7, 8, 9, 10] [] [11] _ rfl rfl (by kernel_rfl) (by kernel_rfl) rfl (by repeat first | exact PanicOk.fn | refine PanicOk.then_ ?_ | refine PanicOk.inB ?_) (Ent.refl _) ?_ | refine Nx.zp (fun hc => ?_) (fun hc => ?_))
      | (refine Nx.zo ?_; first | refine Nx.opr rfl rfl ?_ | refine Nx.indexAddr_nat rfl rfl rfl rfl rfl (by omega) (hin.isSome (by omega)) ?_ | refine Nx.load rfl rfl rfl (hixr _ _) ?_ | refine Nx.store_of 0 (Value.int .i64) rfl rfl rfl rfl rfl rfl (by omega) ?_ | refine Nx.so ?_ | refine Nx.sb (fun bx => ?_) | refine Nx.sa (fun A2 c2 => ?_))
      | ((with_reducible refine Nx.is_at ?_); first | refine Nx.a ?_ | refine Nx.zd ?_ | refine Nx.zs (fun hc => ?_) (fun hc => ?_))
      | ((with_reducible refine Nx.is_mix ?_); first | refine Nx.m_quiet rfl rfl rfl rfl rfl (by first | exact QRun.opr rfl | exact QRun.idx rfl rfl rfl rfl (by omega) rfl | exact QRun.load rfl rfl (hrv _ _)) ?_ | refine Nx.m_quiet_do rfl rfl rfl rfl rfl rfl rfl (by first | exact QRun.opr rfl | exact QRun.idx rfl rfl rfl rfl (by omega) rfl | exact QRun.load rfl rfl (hrv _ _)) ?_ | refine Nx.m ?_ | refine Nx.zm ?_ | refine Nx.zt (fun hc => ?_) (fun hc => ?_))
      | refine Nx.zx ?_ | fail
    have hyj : (y : Int) ∉ ix.take j := fun hm => by
      obtain ⟨a, ha, he⟩ := List.mem_iff_getElem.1 hm
      rw [List.length_take] at ha
      rw [List.getElem_take] at he
      have hlt2 := (List.pairwise_iff_getElem.1 hgk.asc) a j (by dsimp only; omega) hjl (by omega)
      dsimp only at hlt2
      rw [List.getD_eq_getElem?_getD, List.getElem?_eq_getElem hjl] at hy
      have hy : ix[j] = (y : Int) := hy
      omega
    refine Nx.again (j + 1, r2.set y (min (r2.getD y default) (z + 1))) ⟨hjl, by dsimp only; rw [List.length_set]; exact hr2l, fun x hx => ?_⟩ (by dsimp only; omega) ⟨rfl, rfl, rfl, rfl, rfl, rfl, rfl, rfl, rfl, rfl, trivial⟩ (by (exact Ent.auto))
    dsimp only
    rw [take_snocJ hjl, hy]
    by_cases hxy : x = y
    · subst hxy
      rw [List.getD_eq_getElem?_getD, List.getElem?_set_self (by omega), if_pos (by simp)]
      show min (r2.getD x default) (z + 1) = _
      rw [hr2 x hx, if_neg hyj]
    · rw [List.getD_eq_getElem?_getD, List.getElem?_set_ne (Ne.symm hxy), ← List.getD_eq_getElem?_getD, hr2 x hx]
      have e : ((x : Int) ∈ ix.take j ++ [(y : Int)]) ↔ (x : Int) ∈ ix.take j := by
        rw [List.mem_append, List.mem_singleton]
        exact ⟨fun h => h.resolve_right (by omega), .inl⟩
      by_cases hm : (x : Int) ∈ ix.take j
      · rw [if_pos hm, if_pos (e.2 hm)]
      · rw [if_neg hm, if_neg fun h => hm (e.1 h)]
  obtain rfl : k = l.length := by omega
  rw [List.take_length] at hrm
  have hval := hval l.length
  rw [List.take_length] at hval
  have hrooms : (roomsOf n (eqns l)).length = (touch n (eqns l)).length := List.length_map _
  have htdl : (touch n (eqns l)).length ≤ n := by
    unfold touch
    exact Nat.le_trans (List.length_filter_le _ _) (by simp)
  unfold smallB
  repeat' first
    | ((with_reducible refine Nx.is_wp ?_); first | refine Nx.wo ?_ | refine Nx.zp (fun hc => ?_) (fun hc => ?_))
    | (refine Nx.zo ?_; first | refine Nx.opr rfl rfl ?_ | (refine Nx.call (Rpre := []) rfl rfl rfl (by kernel_rfl) rfl hT (Ent.refl _) ?_; rintro _ _ ⟨A9, c9, rfl, rfl⟩) | refine Nx.so ?_ | refine Nx.sb (fun bx => ?_) | refine Nx.sa (fun A2 c2 => ?_))
    | ((with_reducible refine Nx.is_at ?_); first | refine Nx.a ?_ | refine Nx.zd ?_ | refine Nx.zs (fun hc => ?_) (fun hc => ?_))
    | ((with_reducible refine Nx.is_mix ?_); first | refine Nx.m ?_ | refine Nx.zm ?_ | refine Nx.zt (fun hc => ?_) (fun hc => ?_))
    | refine Nx.zx ?_ | fail
  refine Nx.p_loop (σ := Nat) (fun k => [(0, .int .i64 (n : Int)), (5, .slice (some ⟨b5, 0, none⟩) n n), (10, .int .i64 (prodK (roomsOf n (eqns l)) k)), (44, .slice A9 (touch n (eqns l)).length c9), (45, .int .i64 (touch n (eqns l)).length), (46, .int .i64 (k : Int))])
    (fun _ => [iR A9 c9 ((touch n (eqns l)).map Int.ofNat), Vec 3 1 (some ⟨b5, 0, none⟩) n n (rm.map (Value.int .i64)), F]) (fun k => k ≤ (touch n (eqns l)).length ∧ (0 ≤ prodK (roomsOf n (eqns l)) k ∧ prodK (roomsOf n (eqns l)) k ≤ 65536) ∧ sizeB 1 (roomsOf n (eqns l)) = sizeB (prodK (roomsOf n (eqns l)) k) ((roomsOf n (eqns l)).drop k)) (fun k => (touch n (eqns l)).length - k) 0 rfl ⟨Nat.zero_le _, by rw [prodK]; decide, rfl⟩ ⟨rfl, rfl, rfl, rfl, rfl, rfl, trivial⟩ (by (exact Ent.auto)) ?_
  rintro k ⟨hk, ⟨hp0, hp9⟩, he⟩
  by_cases hlt : k < (touch n (eqns l)).length
  case neg =>
    obtain rfl : k = (touch n (eqns l)).length := by omega
    rw [List.drop_eq_nil_of_le (by omega)] at he
    rw [he]
    repeat' first
      | ((with_reducible refine Nx.is_wp ?_); first | refine Nx.wo ?_ | refine Nx.zp (fun hc => ?_) (fun hc => ?_))
      | (refine Nx.zo ?_; first | refine Nx.opr rfl rfl ?_ | refine Nx.so ?_ | refine Nx.sb (fun bx => ?_) | refine Nx.sa (fun A2 c2 => ?_))
      | ((with_reducible refine Nx.is_at ?_); first | refine Nx.a ?_ | refine Nx.zd ?_ | refine Nx.zs (fun hc => ?_) (fun hc => ?_))
      | ((with_reducible refine Nx.is_mix ?_); first | refine Nx.m ?_ | refine Nx.zm ?_ | refine Nx.zt (fun hc => ?_) (fun hc => ?_))
      | refine Nx.zx ?_ | fail
    exact Nx.ret_fn rfl [] ⟨rfl, rfl⟩ (by (exact Ent.auto))
  have hyn := (mem_touch.1 (List.getElem_mem hlt)).1
  have htr : ∀ (W : World) (R : List Res), Rd W I (iR A9 c9 ((touch n (eqns l)).map Int.ofNat) :: R) ((ad A9).add (k * 1)) (.int .i64 (((touch n (eqns l))[k] : Nat) : Int)) := fun W R => by
    have h := Rd.vecEl (W := W) (I := I) (R := iR A9 c9 ((touch n (eqns l)).map Int.ofNat) :: R) 0 (f := Value.int .i64) (l := (touch n (eqns l)).map Int.ofNat) (i := k) rfl (by rw [List.length_map]; exact hlt)
    rw [List.getD_eq_getElem?_getD, List.getElem?_map, List.getElem?_eq_getElem hlt] at h
    exact h
  have hps : prodK (roomsOf n (eqns l)) (k + 1) = prodK (roomsOf n (eqns l)) k * roomOf (eqns l) (touch n (eqns l))[k] := by
    rw [prodK]
    congr 1
    unfold roomsOf
    rw [List.getD_eq_getElem?_getD, List.getElem?_map, List.getElem?_eq_getElem hlt]; rfl
  have hrb := room_bd (L := eqns l) (c := (touch n (eqns l))[k]) hval
  have hat := sizeB_at (xs := roomsOf n (eqns l)) (k := k) (by omega)
  have hry := hrm _ hyn
  refine Nx.vec_fact fun hv1 hv2 hv3 hA9 => ?_
  rw [List.length_map] at hv2 hA9
  generalize (touch n (eqns l))[k] = y at hyn htr hps hrb hry
  have hrv : ∀ (W : World) (R : List Res) (r0 : Res), Rd W I (r0 :: Vec 3 1 (some ⟨b5, 0, none⟩) n n (rm.map (Value.int .i64)) :: R) ((ad (some ⟨b5, 0, none⟩)).add (y * 1)) (.int .i64 (roomOf (eqns l) y)) := fun W R r0 => by
    rw [← hry]
    exact Rd.vecEl 1 (f := Value.int .i64) (l := rm) (i := y) rfl (by omega)
  generalize roomOf (eqns l) y = r at hps hrb hrv
  have hm1 : prodK (roomsOf n (eqns l)) k * r ≤ 65536 * 1000001 := Int.mul_le_mul hp9 hrb.2 (by omega) (by omega)
  have hm0 : 0 ≤ prodK (roomsOf n (eqns l)) k * r := Int.mul_nonneg hp0 (by omega)
  rw [← hps] at hm0 hm1
  rw [hat] at he
  by_cases hsm : prodK (roomsOf n (eqns l)) (k + 1) ≤ 65536
  · rw [decide_eq_true hsm, Bool.true_and] at he
    rw [hps] at hsm hm0 hm1
    repeat' first
      | ((with_reducible refine Nx.is_wp ?_); first | refine Nx.wo ?_ | refine Nx.zp (fun hc => ?_) (fun hc => ?_))
      | (refine Nx.zo ?_; first | refine Nx.opr rfl rfl ?_ | refine Nx.indexAddr_nat rfl rfl rfl rfl rfl (by omega) (hA9 (by omega)) ?_ | refine Nx.load rfl rfl rfl (htr _ _) ?_ | refine Nx.load rfl rfl rfl (hrv _ _ _) ?_ | refine Nx.indexAddr_nat rfl rfl rfl rfl rfl (by omega) rfl ?_ | refine Nx.so ?_ | refine Nx.sb (fun bx => ?_) | refine Nx.sa (fun A2 c2 => ?_))
      | ((with_reducible refine Nx.is_at ?_); first | refine Nx.a ?_ | refine Nx.zd ?_ | refine Nx.zs (fun hc => ?_) (fun hc => ?_))
      | ((with_reducible refine Nx.is_mix ?_); first | refine Nx.m ?_ | refine Nx.zm ?_ | refine Nx.zt (fun hc => ?_) (fun hc => ?_))
      | refine Nx.zx ?_ | fail
    exact Nx.again (k + 1) ⟨hlt, by rw [hps]; exact ⟨hm0, hsm⟩, he⟩ (by omega) ⟨rfl, rfl, by rw [hps]; rfl, rfl, rfl, rfl, trivial⟩ (by (exact Ent.auto))
  · rw [decide_eq_false hsm, Bool.false_and] at he
    rw [he]
    rw [hps] at hsm hm0 hm1
    repeat' first
      | ((with_reducible refine Nx.is_wp ?_); first | refine Nx.wo ?_ | refine Nx.zp (fun hc => ?_) (fun hc => ?_))
      | (refine Nx.zo ?_; first | refine Nx.opr rfl rfl ?_ | refine Nx.indexAddr_nat rfl rfl rfl rfl rfl (by omega) (hA9 (by omega)) ?_ | refine Nx.load rfl rfl rfl (htr _ _) ?_ | refine Nx.load rfl rfl rfl (hrv _ _ _) ?_ | refine Nx.indexAddr_nat rfl rfl rfl rfl rfl (by omega) rfl ?_ | refine Nx.so ?_ | refine Nx.sb (fun bx => ?_) | refine Nx.sa (fun A2 c2 => ?_))
      | ((with_reducible refine Nx.is_at ?_); first | refine Nx.a ?_ | refine Nx.zd ?_ | refine Nx.zs (fun hc => ?_) (fun hc => ?_))
      | ((with_reducible refine Nx.is_mix ?_); first | refine Nx.m ?_ | refine Nx.zm ?_ | refine Nx.zt (fun hc => ?_) (fun hc => ?_))
      | refine Nx.zx ?_ | fail
    exact Nx.ret_fn rfl [] ⟨rfl, rfl⟩ (by (exact Ent.auto))
/-- The error of all functions. -/
def chkQ (n : Int) (l : List EqR) : Int := if validB n l = false then 55 else if smallB n.toNat (eqns l) = false then 1 else 0
theorem valid_good {n : Int} {l : List EqR} (h : validB n l = true) : (1 ≤ n ∧ n ≤ 48) ∧ l.length ≤ 1152 ∧ ∀ q ∈ l, GoodE n.toNat q := by
  unfold validB at h
  simp only [Bool.and_eq_true, decide_eq_true_eq] at h
  obtain ⟨⟨h1, h2⟩, h3⟩ := h
  refine ⟨h1, h2, fun q hq => rightB_iff.1 ?_⟩
  rw [show ((n.toNat : Nat) : Int) = n by omega]
  exact List.all_eq_true.1 h3 q hq
set_option maxHeartbeats 8000000 in
set_option maxRecDepth 10000 in
theorem check_spec (n : Int) (A : Option Addr) (c : Nat) (l : List EqR) (I : PH) (hl : Eqs I A c l) (h9 : (allC l).length ≤ 1000000) :
    FnSpec Tryz.prog 92 [.int .i64 n, .slice A l.length c] I [] (fun v R' => v = .int .i64 (chkQ n l) ∧ R' = []) := by
  have hV := Valid_spec n A c l I hl
  unfold chkQ
  refine FnSpec.enterP Tryz.func92 rfl Tryz.ntmps92 rfl fun w F => ?_
  cases hv : validB n l with
  | false =>
    rw [hv] at hV
    repeat' first
      | ((with_reducible refine Nx.is_wp ?_); first | refine Nx.wo ?_ | refine Nx.zp (fun hc => ?_) (fun hc => ?_))
      | (refine Nx.zo ?_; first | refine Nx.opr rfl rfl ?_ | refine Nx.callv rfl rfl rfl (by kernel_rfl) rfl hV ?_ | refine Nx.so ?_ | refine Nx.sb (fun bx => ?_) | refine Nx.sa (fun A2 c2 => ?_))
      | ((with_reducible refine Nx.is_at ?_); first | refine Nx.a ?_ | refine Nx.zd ?_ | refine Nx.zs (fun hc => ?_) (fun hc => ?_))
      | ((with_reducible refine Nx.is_mix ?_); first | refine Nx.m ?_ | refine Nx.zm ?_ | refine Nx.zt (fun hc => ?_) (fun hc => ?_))
      | refine Nx.zx ?_ | fail
    exact Nx.ret_fn rfl [] ⟨rfl, rfl⟩ (by (exact Ent.auto))
  | true =>
    rw [hv] at hV
    obtain ⟨h1, h2, h3⟩ := valid_good hv
    have hS := small_spec A c l n.toNat I hl h3 (by omega) (by omega) h9
    rw [show ((n.toNat : Nat) : Int) = n by omega] at hS
    rw [if_neg (by decide)]
    cases hs : smallB n.toNat (eqns l) with
    | false =>
      rw [hs] at hS
      repeat' first
        | ((with_reducible refine Nx.is_wp ?_); first | refine Nx.wo ?_ | refine Nx.zp (fun hc => ?_) (fun hc => ?_))
        | (refine Nx.zo ?_; first | refine Nx.opr rfl rfl ?_ | refine Nx.callv rfl rfl rfl (by kernel_rfl) rfl hV ?_ | refine Nx.callv rfl rfl rfl (by kernel_rfl) rfl hS ?_ | refine Nx.so ?_ | refine Nx.sb (fun bx => ?_) | refine Nx.sa (fun A2 c2 => ?_))
        | ((with_reducible refine Nx.is_at ?_); first | refine Nx.a ?_ | refine Nx.zd ?_ | refine Nx.zs (fun hc => ?_) (fun hc => ?_))
        | ((with_reducible refine Nx.is_mix ?_); first | refine Nx.m ?_ | refine Nx.zm ?_ | refine Nx.zt (fun hc => ?_) (fun hc => ?_))
        | refine Nx.zx ?_ | fail
      exact Nx.ret_fn rfl [] ⟨rfl, rfl⟩ (by (exact Ent.auto))
    | true =>
      rw [hs] at hS
      repeat' first
        | ((with_reducible refine Nx.is_wp ?_); first | refine Nx.wo ?_ | refine Nx.zp (fun hc => ?_) (fun hc => ?_))
        | (refine Nx.zo ?_; first | refine Nx.opr rfl rfl ?_ | refine Nx.callv rfl rfl rfl (by kernel_rfl) rfl hV ?_ | refine Nx.callv rfl rfl rfl (by kernel_rfl) rfl hS ?_ | refine Nx.so ?_ | refine Nx.sb (fun bx => ?_) | refine Nx.sa (fun A2 c2 => ?_))
        | ((with_reducible refine Nx.is_at ?_); first | refine Nx.a ?_ | refine Nx.zd ?_ | refine Nx.zs (fun hc => ?_) (fun hc => ?_))
        | ((with_reducible refine Nx.is_mix ?_); first | refine Nx.m ?_ | refine Nx.zm ?_ | refine Nx.zt (fun hc => ?_) (fun hc => ?_))
        | refine Nx.zx ?_ | fail
      exact Nx.ret_fn rfl [] ⟨rfl, rfl⟩ (by (exact Ent.auto))
end Go.Proofs.YtjnhoemgceghlaaGreat
/- Contracts of functions of the given program, and lemmas about plain lists and numbers: what the laws of this seat lean on. -/
namespace Go.Proofs.YtjnhoemgceghlaaGreat
open Go.Eng Go.Sol
attribute [local irreducible] opK wpList Code.wp Exit.then Exit.inBlock fnPost bodyPost Nx Calls Oper.wp Rd Rds Wr Ent Stars Blk Again Vec FnSpec wpMix QRun Stop Upto wpAt
/-! Reaches as rows of three cells; slices.Repeat of one reach -/
abbrev Rch := Int × Int × Bool
def rcC (x : Rch) : List Value := [.int .i64 x.1, .int .i64 x.2.1, .bool x.2.2]
theorem rcC_len (x : Rch) : (rcC x).length = 3 := rfl
theorem rcC_one (x : Rch) : ∀ v ∈ rcC x, v.oneCell' = true := by
  intro v hv
  unfold rcC at hv
  simp only [List.mem_cons, List.not_mem_nil, or_false] at hv
  rcases hv with rfl | rfl | rfl <;> rfl
theorem flat_one {α : Type} {f : α → List Value} (h : ∀ x, ∀ v ∈ f x, v.oneCell' = true) (l : List α) : ∀ v ∈ l.flatMap f, v.oneCell' = true := fun v hv => by
  obtain ⟨x, _, hx⟩ := List.mem_flatMap.1 hv
  exact h x v hx
set_option maxRecDepth 10000 in
set_option maxHeartbeats 8000000 in
theorem RepeatR_spec (cx : List Value) (hcx : cx.length = 3) (h1 : ∀ v ∈ cx, v.oneCell' = true) (b n : Nat) (hn1 : 1 ≤ n) (hn : n ≤ 4096) (I : PH) :
    FnSpec Tryz.prog 137 [.slice (some ⟨b, 0, none⟩) 1 1, .int .i64 (n : Int)] I [Blk b 124 cx] (fun v R' => ∃ b', v = .slice (some ⟨b', 0, none⟩) n n ∧ R' = [Vec 124 3 (some ⟨b', 0, none⟩) n n (List.replicate n cx).flatten]) := by
  have hM := mulU_spec n (by omega) I
  have hB : (n : Int) % B64 = n := by unfold B64; omega
  have hB1 : ((1 : Nat) : Int) % B64 = 1 := by unfold B64; decide
  refine FnSpec.enterP Tryz.func137 rfl Tryz.ntmps137 rfl fun w F => ?_
  repeat' first
    | ((with_reducible refine Nx.is_wp ?_); first | refine Nx.wo ?_ | refine Nx.zp (fun hc => ?_) (fun hc => ?_))
    | (refine Nx.zo ?_; first | refine Nx.opr rfl rfl ?_ | (refine Nx.call (Rpre := []) rfl rfl rfl (by kernel_rfl) rfl hM (Ent.refl _) ?_; rintro _ _ ⟨rfl, rfl⟩) | (refine Nx.conv_u64 (p := ((1 : Nat) : Int)) rfl rfl rfl rfl ?_; rw [hB1]) | (refine Nx.conv_u64 (p := (n : Int)) rfl rfl rfl rfl ?_; rw [hB]) | refine Nx.conv_i64 (p := (n : Int)) rfl rfl rfl (by unfold I64; omega) rfl ?_ | refine Nx.makeStructs rcC (0, 0, false) (by_ := 24) (m := n) (sz := 3) rfl rfl rfl rfl rfl rfl rfl rfl rfl rfl (by omega) (by unfold maxLen; omega) (fun bx => ?_) | refine Nx.so ?_ | refine Nx.sb (fun bx => ?_) | refine Nx.sa (fun A2 c2 => ?_))
    | ((with_reducible refine Nx.is_at ?_); first | refine Nx.a ?_ | refine Nx.zd ?_ | refine Nx.zs (fun hc => ?_) (fun hc => ?_))
    | ((with_reducible refine Nx.is_mix ?_); first | refine Nx.m ?_ | refine Nx.zm ?_ | refine Nx.zt (fun hc => ?_) (fun hc => ?_))
    | refine Nx.zx ?_ | fail
  revert bx; intro b7
  generalize hx0 : (List.replicate n ((0, 0, false) : Rch)).flatMap rcC = x0
  have hx0l : x0.length = n * 3 := by rw [← hx0, flat_len rcC_len, List.length_replicate]
  have hF0 : Filled cx 3 n 1 (x0.take 0 ++ cx ++ x0.drop (0 + cx.length)) := Filled.start hcx h1 hx0l (by rw [← hx0]; exact flat_one rcC_one _) hn1
  repeat' first
    | ((with_reducible refine Nx.is_wp ?_); first | refine Nx.wo ?_ | refine Nx.zp (fun hc => ?_) (fun hc => ?_))
    | (refine Nx.zo ?_; first | refine Nx.opr rfl rfl ?_ | refine Nx.copy_ (k := 1) (sz := 3) (cs := cx) rfl rfl rfl rfl rfl rfl (by show 1 = min 1 n; omega) (by omega) (Rds.at_ 1 rfl) (Wr.vecNs0 (by omega) (by omega) h1) ?_ | refine Nx.so ?_ | refine Nx.sb (fun bx => ?_) | refine Nx.sa (fun A2 c2 => ?_))
    | ((with_reducible refine Nx.is_at ?_); first | refine Nx.a ?_ | refine Nx.zd ?_ | refine Nx.zs (fun hc => ?_) (fun hc => ?_))
    | ((with_reducible refine Nx.is_mix ?_); first | refine Nx.m ?_ | refine Nx.zm ?_ | refine Nx.zt (fun hc => ?_) (fun hc => ?_))
    | refine Nx.zx ?_ | fail
  refine Nx.p_loop (σ := Nat × List Value) (fun s => [(7, .slice (some ⟨b7, 0, none⟩) n n), (8, .int .i64 (s.1 : Int))]) (fun s => [Vec 124 3 (some ⟨b7, 0, none⟩) n n s.2, F]) (fun s => 1 ≤ s.1 ∧ s.1 ≤ n ∧ Filled cx 3 n s.1 s.2) (fun s => n - s.1) (1, x0.take 0 ++ cx ++ x0.drop (0 + cx.length)) rfl ⟨Nat.le_refl _, hn1, hF0⟩ ⟨rfl, rfl, trivial⟩ (by (exact Ent.auto)) ?_
  rintro ⟨m, xs⟩ ⟨hm1, hmn, hF⟩
  dsimp only at hm1 hmn hF ⊢
  by_cases hlt : m < n
  case neg =>
    obtain rfl : m = n := by omega
    have hd := hF.done
    subst hd
    repeat' first
      | ((with_reducible refine Nx.is_wp ?_); first | refine Nx.wo ?_ | refine Nx.zp (fun hc => ?_) (fun hc => ?_))
      | (refine Nx.zo ?_; first | refine Nx.opr rfl rfl ?_ | refine Nx.so ?_ | refine Nx.sb (fun bx => ?_) | refine Nx.sa (fun A2 c2 => ?_))
      | ((with_reducible refine Nx.is_at ?_); first | refine Nx.a ?_ | refine Nx.zd ?_ | refine Nx.zs (fun hc => ?_) (fun hc => ?_))
      | ((with_reducible refine Nx.is_mix ?_); first | refine Nx.m ?_ | refine Nx.zm ?_ | refine Nx.zt (fun hc => ?_) (fun hc => ?_))
      | refine Nx.zx ?_ | fail
    exact Nx.ret_fn rfl [_] ⟨b7, rfl, rfl⟩ (by (exact Ent.auto))
  have hst := hF.step hcx (k := min m (n - m)) (by omega) (by omega)
  have hxl := hF.len
  repeat' first
    | ((with_reducible refine Nx.is_wp ?_); first | refine Nx.wo ?_ | refine Nx.p_drawF (id := 9) rfl [0, 1, 2, 3, 4, 5, 6, 7, 8, 9] [7] [] _ rfl rfl (by kernel_rfl) (by kernel_rfl) rfl (by repeat first | exact PanicOk.fn | refine PanicOk.then_ ?_ | refine PanicOk.inB ?_) (Ent.eraseK 0 _) ?_ | refine Nx.zp (fun hc => ?_) (fun hc => ?_))
    | (refine Nx.zo ?_; first | refine Nx.opr rfl rfl ?_ | refine Nx.copy_ (k := min m (n - m)) (sz := 3) (cs := xs.take (min m (n - m) * 3)) rfl rfl rfl rfl rfl rfl rfl (by rw [List.length_take]; omega) Rds.vec_take (Wr.vecNs (A := some ⟨b7, 0, none⟩) (i := m * 3) (by rw [List.length_take]; omega) (by rw [List.length_take]; omega) (fun v hv => hF.one v (List.mem_of_mem_take hv))) ?_ | refine Nx.so ?_ | refine Nx.sb (fun bx => ?_) | refine Nx.sa (fun A2 c2 => ?_))
    | ((with_reducible refine Nx.is_at ?_); first | refine Nx.a ?_ | refine Nx.zd ?_ | refine Nx.zs (fun hc => ?_) (fun hc => ?_))
    | ((with_reducible refine Nx.is_mix ?_); first | refine Nx.m_quiet rfl rfl rfl rfl rfl (by first | exact QRun.opr rfl | exact QRun.slice_from (sz := 3) rfl rfl rfl rfl hlt (Nat.le_refl _) | exact QRun.slice_hi (sz := 3) rfl rfl rfl rfl hmn) ?_ | refine Nx.m_quiet_do rfl rfl rfl rfl rfl rfl rfl (by first | exact QRun.opr rfl | exact QRun.slice_from (sz := 3) rfl rfl rfl rfl hlt (Nat.le_refl _) | exact QRun.slice_hi (sz := 3) rfl rfl rfl rfl hmn) ?_ | refine Nx.m ?_ | refine Nx.zm ?_ | refine Nx.zt (fun hc => ?_) (fun hc => ?_))
    | refine Nx.zx ?_ | fail
  exact Nx.again (m + min m (n - m), _) ⟨by dsimp only; omega, by dsimp only; omega, hst⟩ (by dsimp only; omega) ⟨rfl, rfl, trivial⟩ (by (exact Ent.auto))
/-! A number found in a list -/
/-! The exported functions -/
def firstOf (n : Int) (l : List EqR) : List Int × Bool × Int := if chkQ n l = 0 then ((solsOf n.toNat (eqns l)).headD [], !(solsOf n.toNat (eqns l)).isEmpty, 0) else ([], false, chkQ n l)
theorem chk_good {n : Int} {l : List EqR} (h : chkQ n l = 0) : (1 ≤ n ∧ n ≤ 48) ∧ l.length ≤ 1152 ∧ (∀ q ∈ l, GoodE n.toNat q) ∧ smallB n.toNat (eqns l) = true := by
  unfold chkQ at h
  cases hv : validB n l with
  | false => rw [hv, if_pos rfl] at h; omega
  | true =>
    rw [hv, if_neg (by decide)] at h
    obtain ⟨h1, h2, h3⟩ := valid_good hv
    refine ⟨h1, h2, h3, ?_⟩
    cases hs : smallB n.toNat (eqns l) with
    | false => rw [hs, if_pos rfl] at h; omega
    | true => rfl
set_option maxHeartbeats 8000000 in
set_option maxRecDepth 10000 in
theorem First_spec (n : Int) (A : Option Addr) (c : Nat) (l : List EqR) (I : PH) (hl : Eqs I A c l) (h9 : (allC l).length ≤ 100000) :
    FnSpec Tryz.prog 68 [.int .i64 n, .slice A l.length c] I []
      (fun v R' => ∃ (A' : Option Addr) (c' : Nat), v = .tuple #[.slice A' (firstOf n l).1.length c', .bool (firstOf n l).2.1, .int .i64 (firstOf n l).2.2] ∧ R' = [iR A' c' (firstOf n l).1]) := by
  have hC := check_spec n A c l I hl (by omega)
  unfold firstOf
  refine FnSpec.enterP Tryz.func68 rfl Tryz.ntmps68 rfl fun w F => ?_
  by_cases h0 : chkQ n l = 0
  case neg =>
    rw [if_neg h0]
    repeat' first
      | ((with_reducible refine Nx.is_wp ?_); first | refine Nx.wo ?_ | refine Nx.zp (fun hc => ?_) (fun hc => ?_))
      | (refine Nx.zo ?_; first | refine Nx.opr rfl rfl ?_ | refine Nx.callv rfl rfl rfl (by kernel_rfl) rfl hC ?_ | refine Nx.so ?_ | refine Nx.sb (fun bx => ?_) | refine Nx.sa (fun A2 c2 => ?_))
      | ((with_reducible refine Nx.is_at ?_); first | refine Nx.a ?_ | refine Nx.zd ?_ | refine Nx.zs (fun hc => ?_) (fun hc => ?_))
      | ((with_reducible refine Nx.is_mix ?_); first | refine Nx.m ?_ | refine Nx.zm ?_ | refine Nx.zt (fun hc => ?_) (fun hc => ?_))
      | refine Nx.zx ?_ | fail
    exact Nx.ret_fn rfl [_] ⟨none, 0, rfl, rfl⟩ ((Ent.vec_nil 3 1 _).trans (by unfold iR; (exact Ent.auto)))
  rw [if_pos h0]
  obtain ⟨h1, h2, h3, _⟩ := chk_good h0
  have hS := some_spec A c l n.toNat 1 I hl h3 (by omega) (by omega) h9 (by omega) (by omega)
  rw [show ((n.toNat : Nat) : Int) = n by omega] at hS
  rw [h0] at hC
  repeat' first
    | ((with_reducible refine Nx.is_wp ?_); first | refine Nx.p_stopr 5 rfl ?_ | refine Nx.wo ?_ | refine Nx.zp (fun hc => ?_) (fun hc => ?_))
    | (refine Nx.zo ?_; first | refine Nx.opr rfl rfl ?_ | refine Nx.callv rfl rfl rfl (by kernel_rfl) rfl hC ?_ | (refine Nx.call (Rpre := []) rfl rfl rfl (by kernel_rfl) rfl hS (Ent.refl _) ?_; rintro _ _ ⟨A1, c1, o, rfl, ho, rfl⟩) | refine Nx.so ?_ | refine Nx.sb (fun bx => ?_) | refine Nx.sa (fun A2 c2 => ?_))
    | ((with_reducible refine Nx.is_at ?_); first | refine Nx.a ?_ | refine Nx.zd ?_ | refine Nx.zs (fun hc => ?_) (fun hc => ?_))
    | ((with_reducible refine Nx.is_mix ?_); first | refine Nx.m ?_ | refine Nx.zm ?_ | refine Nx.zt (fun hc => ?_) (fun hc => ?_))
    | refine Nx.zx ?_ | fail
  refine unstopN ?_
  cases hsol : solsOf n.toNat (eqns l) with
  | nil =>
    rw [hsol] at ho
    have ho : o = [] := by simpa using ho
    subst ho
    repeat' first
      | ((with_reducible refine Nx.is_wp ?_); first | refine Nx.wo ?_ | refine Nx.zp (fun hc => ?_) (fun hc => ?_))
      | (refine Nx.zo ?_; first | refine Nx.opr rfl rfl ?_ | refine Nx.so ?_ | refine Nx.sb (fun bx => ?_) | refine Nx.sa (fun A2 c2 => ?_))
      | ((with_reducible refine Nx.is_at ?_); first | refine Nx.a ?_ | refine Nx.zd ?_ | refine Nx.zs (fun hc => ?_) (fun hc => ?_))
      | ((with_reducible refine Nx.is_mix ?_); first | refine Nx.m ?_ | refine Nx.zm ?_ | refine Nx.zt (fun hc => ?_) (fun hc => ?_))
      | refine Nx.zx ?_ | fail
    exact Nx.ret_fn rfl [_] ⟨none, 0, rfl, rfl⟩ ((Ent.vec_nil 3 1 _).trans (by unfold iR; (exact Ent.auto)))
  | cons t r =>
    rw [hsol] at ho
    match o, ho with
    | [⟨Ao, co, to⟩], ho =>
      have ho : to = t := by simpa using ho
      subst ho
      have hone : ((([(Ao, co, to)] : List Row).length : Nat) : Int) = 1 := rfl
      refine Nx.vec_fact fun _ _ _ hAs => ?_
      repeat' first
        | ((with_reducible refine Nx.is_wp ?_); first | refine Nx.wo ?_ | refine Nx.zp (fun hc => ?_) (fun hc => ?_))
        | (refine Nx.zo ?_; first | refine Nx.opr rfl rfl ?_ | refine Nx.indexAddr_nat (i := 0) rfl rfl rfl rfl rfl (Nat.zero_lt_succ _) (hAs (Nat.zero_lt_succ _)) ?_ | refine Nx.load rfl rfl rfl (Rd.vecEl (f := rowV) (l := [(Ao, co, to)]) (i := 0) 0 rfl (Nat.zero_lt_succ _)) ?_ | refine Nx.so ?_ | refine Nx.sb (fun bx => ?_) | refine Nx.sa (fun A2 c2 => ?_))
        | ((with_reducible refine Nx.is_at ?_); first | refine Nx.a ?_ | refine Nx.zd ?_ | refine Nx.zs (fun hc => ?_) (fun hc => ?_))
        | ((with_reducible refine Nx.is_mix ?_); first | refine Nx.m ?_ | refine Nx.zm ?_ | refine Nx.zt (fun hc => ?_) (fun hc => ?_))
        | refine Nx.zx ?_ | fail
      refine Nx.unfoldAt 1 (B := [rwR (Ao, co, to)]) rfl ?_
      exact Nx.ret_fn rfl [rwR (Ao, co, to)] ⟨Ao, co, rfl, rfl⟩ (by (exact Ent.auto))
end Go.Proofs.YtjnhoemgceghlaaGreat
/- Contracts of functions of the given program, and lemmas about plain lists and numbers: what the laws of this seat lean on. -/
namespace Go.Proofs.YtjnhoemgceghlaaGreat
open Go.Eng Go.Sol
attribute [local irreducible] opK wpList Code.wp Exit.then Exit.inBlock fnPost bodyPost Nx Calls Oper.wp Rd Rds Wr Ent Stars Blk Again Vec FnSpec wpMix QRun Stop Upto wpAt
/-! The reference's equations: what right releases tell -/
/-- A right release of a space. -/
structure RelV (l : List Int) (r : Rel) : Prop where
  view : Viewed l r.v
  len : r.val.2.2.length = (prod (szs r.v)).toNat
  each : ∀ j, j < r.val.2.2.length → r.val.2.2.getD j default = -1 ∨ (0 ≤ r.val.2.2.getD j default ∧ r.val.2.2.getD j default ≤ 1000000)
/-- Right releases of a space, by ascending numbers. -/
structure RelsV (l : List Int) (rs : List Rel) : Prop where
  len : rs.length ≤ 24
  each : ∀ i, i < rs.length → RelV l (rs.getD i default) ∧ 0 ≤ (rs.getD i default).num ∧ (rs.getD i default).num < 24
  asc : ∀ i, i + 1 < rs.length → (rs.getD i default).num < (rs.getD (i + 1) default).num
def prevN (rs : List Rel) : Nat → Int
  | 0 => -1
  | i + 1 => (rs.getD i default).num
theorem RelsV.prev {l : List Int} {rs : List Rel} (h : RelsV l rs) : ∀ {i : Nat}, i < rs.length → prevN rs i < (rs.getD i default).num
  | 0, hi => by have := (h.each 0 hi).2.1; show -1 < _; omega
  | i + 1, hi => h.asc i hi
theorem getD_memR {l : List Rel} {k : Nat} (h : k < l.length) : l.getD k default ∈ l := by
  rw [List.getD_eq_getElem?_getD, List.getElem?_eq_getElem h]; exact List.getElem_mem _
/-! What releases tell -/
def cont (q : EqR) : List Int × Int := (q.1.2.2, q.2)
def toldK (l : List Int) (v : List Row) (vs : List Int) : Nat → List (List Int × Int)
  | 0 => []
  | j + 1 => toldK l v vs j ++ if vs.getD j default = -1 then [] else [(memK l v (j : Int) (prod l).toNat, vs.getD j default)]
def told (l : List Int) (r : Rel) : List (List Int × Int) := toldK l r.v r.val.2.2 r.val.2.2.length
abbrev eqsR (A : Option Addr) (c : Nat) (qs : List EqR) : List Res := [Vec 140 2 A qs.length c (qs.flatMap eqC), Stars (qs.map fun q => rowR q.1)]
theorem take_snocR {l : List Rel} {k : Nat} (h : k < l.length) : l.take (k + 1) = l.take k ++ [l.getD k default] := by
  rw [List.take_add_one, List.getElem?_eq_getElem h, List.getD_eq_getElem?_getD, List.getElem?_eq_getElem h]; rfl
end Go.Proofs.YtjnhoemgceghlaaGreat
/- Contracts of functions of the given program, and lemmas about plain lists and numbers: what the laws of this seat lean on. -/
namespace Go.Proofs.YtjnhoemgceghlaaGreat
open Go.Eng Go.Sol
attribute [local irreducible] opK wpList Code.wp Exit.then Exit.inBlock fnPost bodyPost Nx Calls Oper.wp Rd Rds Wr Ent Stars Blk Again Vec FnSpec wpMix QRun Stop Upto wpAt
/-! Made equations -/
theorem mem_toldK {l : List Int} {v : List Row} {vs : List Int} {x : List Int × Int} : ∀ {n : Nat}, x ∈ toldK l v vs n ↔ ∃ j, j < n ∧ vs.getD j default ≠ -1 ∧ x = (memK l v (j : Int) (prod l).toNat, vs.getD j default)
  | 0 => by simp [toldK]
  | n + 1 => by
    rw [toldK, List.mem_append, mem_toldK]
    constructor
    · rintro (⟨j, h1, h2, h3⟩ | h)
      · exact ⟨j, by omega, h2, h3⟩
      · by_cases hz : vs.getD n default = -1
        · rw [if_pos hz] at h; cases h
        · rw [if_neg hz, List.mem_singleton] at h
          exact ⟨n, by omega, hz, h⟩
    · rintro ⟨j, h1, h2, h3⟩
      rcases Nat.lt_or_ge j n with hj | hj
      · exact .inl ⟨j, hj, h2, h3⟩
      · obtain rfl : j = n := by omega
        right
        rw [if_neg h2, List.mem_singleton]
        exact h3
/-- Equations with which a table agrees. -/
structure EqsOk (N : Nat) (t : List Int) (most : Int) (qs : List EqR) : Prop where
  n : 1 ≤ N ∧ N ≤ 48
  len : t.length = N
  tab : ∀ j, j < t.length → 0 ≤ t.getD j default ∧ t.getD j default ≤ most
  few : qs.length ≤ 8
  good : ∀ q ∈ qs, GoodE N q
  sum : ∀ q ∈ qs, sumC t (eqn q).1 = q.2
end Go.Proofs.YtjnhoemgceghlaaGreat
/- Contracts of functions of the given program, and lemmas about plain lists and numbers: what the laws of this seat lean on. -/
namespace Go.Proofs.YtjnhoemgceghlaaGreat
open Go.Eng Go.Sol
attribute [local irreducible] opK wpList Code.wp Exit.then Exit.inBlock fnPost bodyPost Nx Calls Oper.wp Rd Rds Wr Ent Stars Blk Again Vec FnSpec wpMix QRun Stop Upto wpAt
/-! The program's equations: what releases tell, for right views -/
def badV (z : Int) : Bool := decide (z ≠ -1) && !decide (0 ≤ z ∧ z ≤ 1000000)
set_option maxHeartbeats 8000000 in
set_option maxRecDepth 10000 in
theorem bad_spec (z : Int) (I : PH) : FnSpec Tryz.prog 145 [.int .i64 z] I [] (fun v R' => v = .bool (badV z) ∧ R' = []) := by
  have hv := value_spec z I
  unfold badV
  refine FnSpec.enterP Tryz.func145 rfl Tryz.ntmps145 rfl fun w F => ?_
  by_cases h : z = -1
  · rw [decide_eq_false (fun h' : z ≠ -1 => h' h), Bool.false_and]
    repeat' first
      | ((with_reducible refine Nx.is_wp ?_); first | refine Nx.wo ?_ | refine Nx.zp (fun hc => ?_) (fun hc => ?_))
      | (refine Nx.zo ?_; first | refine Nx.opr rfl rfl ?_ | refine Nx.callv rfl rfl rfl (by kernel_rfl) rfl hv ?_ | refine Nx.so ?_ | refine Nx.sb (fun bx => ?_) | refine Nx.sa (fun A2 c2 => ?_))
      | ((with_reducible refine Nx.is_at ?_); first | refine Nx.a ?_ | refine Nx.zd ?_ | refine Nx.zs (fun hc => ?_) (fun hc => ?_))
      | ((with_reducible refine Nx.is_mix ?_); first | refine Nx.m ?_ | refine Nx.zm ?_ | refine Nx.zt (fun hc => ?_) (fun hc => ?_))
      | refine Nx.zx ?_ | fail
    exact Nx.ret_fn rfl [] ⟨rfl, rfl⟩ (by (exact Ent.auto))
  · rw [decide_eq_true (show z ≠ -1 from h), Bool.true_and]
    repeat' first
      | ((with_reducible refine Nx.is_wp ?_); first | refine Nx.wo ?_ | refine Nx.zp (fun hc => ?_) (fun hc => ?_))
      | (refine Nx.zo ?_; first | refine Nx.opr rfl rfl ?_ | refine Nx.callv rfl rfl rfl (by kernel_rfl) rfl hv ?_ | refine Nx.so ?_ | refine Nx.sb (fun bx => ?_) | refine Nx.sa (fun A2 c2 => ?_))
      | ((with_reducible refine Nx.is_at ?_); first | refine Nx.a ?_ | refine Nx.zd ?_ | refine Nx.zs (fun hc => ?_) (fun hc => ?_))
      | ((with_reducible refine Nx.is_mix ?_); first | refine Nx.m ?_ | refine Nx.zm ?_ | refine Nx.zt (fun hc => ?_) (fun hc => ?_))
      | refine Nx.zx ?_ | fail
    exact Nx.ret_fn rfl [] ⟨rfl, rfl⟩ (by (exact Ent.auto))
/-- The error of a release. -/
def relE (_ : List Int) (r : Rel) (before : Int) : Int :=
  if r.num ≤ before ∨ 24 ≤ r.num then 48 else if (r.val.2.2.length : Int) ≠ prod (szs r.v) then 17 else if r.val.2.2.any badV = true then 2 else 0
set_option maxRecDepth 10000 in
set_option maxHeartbeats 8000000 in
theorem echeck_spec (A : Option Addr) (c : Nat) (l : List Int) (r : Rel) (before : Int) (I : PH) (hl : Ints I A c l) (hs : Sizes l) (hv : RowsOf I r.va r.vc r.v) (hd : Ints I r.val.1 r.val.2.1 r.val.2.2) (hw : Viewed l r.v) :
    FnSpec Tryz.prog 118 [.agg #[.slice A l.length c], .agg #[.int .i64 r.num, .slice r.va r.v.length r.vc, .slice r.val.1 r.val.2.2.length r.val.2.1], .int .i64 before] I [] (fun u R' => u = .int .i64 (relE l r before) ∧ R' = []) := by
  obtain ⟨num, B, cv, v, D, cd, vs⟩ := r
  dsimp only at hv hd hw ⊢
  have hvl := hd.len
  have hP := Published_spec A B c cv l v I hl hs hv hw
  have hC := ContainsFunc_spec 145 badV D cd vs I hd (by kernel_rfl) (fun z => bad_spec z I)
  unfold relE
  dsimp only
  generalize prod (szs v) = P at hP
  refine FnSpec.enterP Tryz.func118 rfl Tryz.ntmps118 rfl fun w F => ?_
  by_cases h1 : num ≤ before
  · rw [if_pos (.inl h1)]
    repeat' first
      | ((with_reducible refine Nx.is_wp ?_); first | refine Nx.wo ?_ | refine Nx.zp (fun hc => ?_) (fun hc => ?_))
      | (refine Nx.zo ?_; first | refine Nx.opr rfl rfl ?_ | refine Nx.so ?_ | refine Nx.sb (fun bx => ?_) | refine Nx.sa (fun A2 c2 => ?_))
      | ((with_reducible refine Nx.is_at ?_); first | refine Nx.a ?_ | refine Nx.zd ?_ | refine Nx.zs (fun hc => ?_) (fun hc => ?_))
      | ((with_reducible refine Nx.is_mix ?_); first | refine Nx.m ?_ | refine Nx.zm ?_ | refine Nx.zt (fun hc => ?_) (fun hc => ?_))
      | refine Nx.zx ?_ | fail
    exact Nx.ret_fn rfl [] ⟨rfl, rfl⟩ (by (exact Ent.auto))
  by_cases h2 : 24 ≤ num
  · rw [if_pos (.inr h2)]
    repeat' first
      | ((with_reducible refine Nx.is_wp ?_); first | refine Nx.wo ?_ | refine Nx.zp (fun hc => ?_) (fun hc => ?_))
      | (refine Nx.zo ?_; first | refine Nx.opr rfl rfl ?_ | refine Nx.so ?_ | refine Nx.sb (fun bx => ?_) | refine Nx.sa (fun A2 c2 => ?_))
      | ((with_reducible refine Nx.is_at ?_); first | refine Nx.a ?_ | refine Nx.zd ?_ | refine Nx.zs (fun hc => ?_) (fun hc => ?_))
      | ((with_reducible refine Nx.is_mix ?_); first | refine Nx.m ?_ | refine Nx.zm ?_ | refine Nx.zt (fun hc => ?_) (fun hc => ?_))
      | refine Nx.zx ?_ | fail
    exact Nx.ret_fn rfl [] ⟨rfl, rfl⟩ (by (exact Ent.auto))
  rw [if_neg (by omega)]
  by_cases h3 : (vs.length : Int) ≠ P
  · rw [if_pos h3]
    repeat' first
      | ((with_reducible refine Nx.is_wp ?_); first | refine Nx.wo ?_ | refine Nx.p_draw (id := 6) rfl [0, 1, 2, 3, 4, 5, 6, 7] [6] _ rfl rfl (by kernel_rfl) (by kernel_rfl) rfl (by repeat first | exact PanicOk.fn | refine PanicOk.then_ ?_ | refine PanicOk.inB ?_) (Ent.refl _) ?_ | refine Nx.zp (fun hc => ?_) (fun hc => ?_))
      | (refine Nx.zo ?_; first | refine Nx.opr rfl rfl ?_ | refine Nx.loads rfl rfl rfl rfl (Rds.cut 0 1 rfl rfl) rfl ?_ | refine Nx.callv rfl rfl rfl (by kernel_rfl) rfl (View_spec _ _ _ _ _ _ _ hl hs hv hw) ?_ | refine Nx.callv rfl rfl rfl (by kernel_rfl) rfl hP ?_ | refine Nx.so ?_ | refine Nx.sb (fun bx => ?_) | refine Nx.sa (fun A2 c2 => ?_))
      | ((with_reducible refine Nx.is_at ?_); first | refine Nx.a ?_ | refine Nx.zd ?_ | refine Nx.zs (fun hc => ?_) (fun hc => ?_))
      | ((with_reducible refine Nx.is_mix ?_); first | refine Nx.m_quiet rfl rfl rfl rfl rfl (by first | exact QRun.opr rfl | exact QRun.loads rfl rfl rfl (Rds.cut 0 1 rfl rfl) rfl) ?_ | refine Nx.m_quiet_do rfl rfl rfl rfl rfl rfl rfl (by first | exact QRun.opr rfl | exact QRun.loads rfl rfl rfl (Rds.cut 0 1 rfl rfl) rfl) ?_ | refine Nx.m ?_ | refine Nx.zm ?_ | refine Nx.zt (fun hc => ?_) (fun hc => ?_))
      | refine Nx.zx ?_ | fail
    exact Nx.ret_fn rfl [] ⟨rfl, rfl⟩ (by (exact Ent.auto))
  rw [if_neg h3]
  have h3 : (vs.length : Int) = P := Decidable.byContradiction h3
  cases hb : vs.any badV with
  | true =>
    rw [if_pos rfl]
    rw [hb] at hC
    repeat' first
      | ((with_reducible refine Nx.is_wp ?_); first | refine Nx.wo ?_ | refine Nx.p_draw (id := 6) rfl [0, 1, 2, 3, 4, 5, 6, 7] [6] _ rfl rfl (by kernel_rfl) (by kernel_rfl) rfl (by repeat first | exact PanicOk.fn | refine PanicOk.then_ ?_ | refine PanicOk.inB ?_) (Ent.refl _) ?_ | refine Nx.zp (fun hc => ?_) (fun hc => ?_))
      | (refine Nx.zo ?_; first | refine Nx.opr rfl rfl ?_ | refine Nx.loads rfl rfl rfl rfl (Rds.cut 0 1 rfl rfl) rfl ?_ | refine Nx.callv rfl rfl rfl (by kernel_rfl) rfl (View_spec _ _ _ _ _ _ _ hl hs hv hw) ?_ | refine Nx.callv rfl rfl rfl (by kernel_rfl) rfl hP ?_ | refine Nx.callv rfl rfl rfl (by kernel_rfl) rfl hC ?_ | refine Nx.so ?_ | refine Nx.sb (fun bx => ?_) | refine Nx.sa (fun A2 c2 => ?_))
      | ((with_reducible refine Nx.is_at ?_); first | refine Nx.a ?_ | refine Nx.zd ?_ | refine Nx.zs (fun hc => ?_) (fun hc => ?_))
      | ((with_reducible refine Nx.is_mix ?_); first | refine Nx.m_quiet rfl rfl rfl rfl rfl (by first | exact QRun.opr rfl | exact QRun.loads rfl rfl rfl (Rds.cut 0 1 rfl rfl) rfl) ?_ | refine Nx.m_quiet_do rfl rfl rfl rfl rfl rfl rfl (by first | exact QRun.opr rfl | exact QRun.loads rfl rfl rfl (Rds.cut 0 1 rfl rfl) rfl) ?_ | refine Nx.m ?_ | refine Nx.zm ?_ | refine Nx.zt (fun hc => ?_) (fun hc => ?_))
      | refine Nx.zx ?_ | fail
    exact Nx.ret_fn rfl [] ⟨rfl, rfl⟩ (by (exact Ent.auto))
  | false =>
    rw [if_neg (by decide)]
    rw [hb] at hC
    repeat' first
      | ((with_reducible refine Nx.is_wp ?_); first | refine Nx.wo ?_ | refine Nx.p_draw (id := 6) rfl [0, 1, 2, 3, 4, 5, 6, 7] [6] _ rfl rfl (by kernel_rfl) (by kernel_rfl) rfl (by repeat first | exact PanicOk.fn | refine PanicOk.then_ ?_ | refine PanicOk.inB ?_) (Ent.refl _) ?_ | refine Nx.zp (fun hc => ?_) (fun hc => ?_))
      | (refine Nx.zo ?_; first | refine Nx.opr rfl rfl ?_ | refine Nx.loads rfl rfl rfl rfl (Rds.cut 0 1 rfl rfl) rfl ?_ | refine Nx.callv rfl rfl rfl (by kernel_rfl) rfl (View_spec _ _ _ _ _ _ _ hl hs hv hw) ?_ | refine Nx.callv rfl rfl rfl (by kernel_rfl) rfl hP ?_ | refine Nx.callv rfl rfl rfl (by kernel_rfl) rfl hC ?_ | refine Nx.so ?_ | refine Nx.sb (fun bx => ?_) | refine Nx.sa (fun A2 c2 => ?_))
      | ((with_reducible refine Nx.is_at ?_); first | refine Nx.a ?_ | refine Nx.zd ?_ | refine Nx.zs (fun hc => ?_) (fun hc => ?_))
      | ((with_reducible refine Nx.is_mix ?_); first | refine Nx.m_quiet rfl rfl rfl rfl rfl (by first | exact QRun.opr rfl | exact QRun.loads rfl rfl rfl (Rds.cut 0 1 rfl rfl) rfl) ?_ | refine Nx.m_quiet_do rfl rfl rfl rfl rfl rfl rfl (by first | exact QRun.opr rfl | exact QRun.loads rfl rfl rfl (Rds.cut 0 1 rfl rfl) rfl) ?_ | refine Nx.m ?_ | refine Nx.zm ?_ | refine Nx.zt (fun hc => ?_) (fun hc => ?_))
      | refine Nx.zx ?_ | fail
    exact Nx.ret_fn rfl [] ⟨rfl, rfl⟩ (by (exact Ent.auto))
def relsF (l : List Int) : Int → List Rel → Int
  | _, [] => 0
  | b, r :: rest => if relE l r b ≠ 0 then relE l r b else relsF l r.num rest
/-- The error of releases. -/
def relsE (l : List Int) (rs : List Rel) : Int := if 24 < rs.length then 1 else relsF l (-1) rs
theorem drop_atR {l : List Rel} {k : Nat} (hk : k < l.length) : l.drop k = l.getD k default :: l.drop (k + 1) := by
  rw [List.drop_eq_getElem_cons hk, List.getD_eq_getElem?_getD, List.getElem?_eq_getElem hk]; rfl
theorem relsF_at {l : List Int} {rs : List Rel} {k : Nat} {b : Int} (hk : k < rs.length) : relsF l b (rs.drop k) = if relE l (rs.getD k default) b ≠ 0 then relE l (rs.getD k default) b else relsF l (rs.getD k default).num (rs.drop (k + 1)) := by
  rw [drop_atR hk, relsF]
set_option maxRecDepth 10000 in
set_option maxHeartbeats 8000000 in
theorem ECheck_spec (A As : Option Addr) (c cs : Nat) (l : List Int) (rs : List Rel) (I : PH) (hl : Ints I A c l) (hs : Sizes l) (hr : Rels I As cs rs) (hw : ∀ r ∈ rs, Viewed l r.v) :
    FnSpec Tryz.prog 90 [.agg #[.slice A l.length c], .slice As rs.length cs] I [] (fun u R' => u = .int .i64 (relsE l rs) ∧ R' = []) := by
  have hrl := hr.outer.len
  refine FnSpec.enterP Tryz.func90 rfl Tryz.ntmps90 rfl fun w F => ?_
  unfold relsE
  by_cases h24 : 24 < rs.length
  · rw [if_pos h24]
    repeat' first
      | ((with_reducible refine Nx.is_wp ?_); first | refine Nx.wo ?_ | refine Nx.zp (fun hc => ?_) (fun hc => ?_))
      | (refine Nx.zo ?_; first | refine Nx.opr rfl rfl ?_ | refine Nx.callv rfl rfl rfl (by kernel_rfl) rfl (Check_spec _ _ _ _ hl hs) ?_ | refine Nx.so ?_ | refine Nx.sb (fun bx => ?_) | refine Nx.sa (fun A2 c2 => ?_))
      | ((with_reducible refine Nx.is_at ?_); first | refine Nx.a ?_ | refine Nx.zd ?_ | refine Nx.zs (fun hc => ?_) (fun hc => ?_))
      | ((with_reducible refine Nx.is_mix ?_); first | refine Nx.m ?_ | refine Nx.zm ?_ | refine Nx.zt (fun hc => ?_) (fun hc => ?_))
      | refine Nx.zx ?_ | fail
    exact Nx.ret_fn rfl [] ⟨rfl, rfl⟩ (by (exact Ent.auto))
  rw [if_neg h24]
  repeat' first
    | ((with_reducible refine Nx.is_wp ?_); first | refine Nx.wo ?_ | refine Nx.zp (fun hc => ?_) (fun hc => ?_))
    | (refine Nx.zo ?_; first | refine Nx.opr rfl rfl ?_ | refine Nx.callv rfl rfl rfl (by kernel_rfl) rfl (Check_spec _ _ _ _ hl hs) ?_ | refine Nx.so ?_ | refine Nx.sb (fun bx => ?_) | refine Nx.sa (fun A2 c2 => ?_))
    | ((with_reducible refine Nx.is_at ?_); first | refine Nx.a ?_ | refine Nx.zd ?_ | refine Nx.zs (fun hc => ?_) (fun hc => ?_))
    | ((with_reducible refine Nx.is_mix ?_); first | refine Nx.m ?_ | refine Nx.zm ?_ | refine Nx.zt (fun hc => ?_) (fun hc => ?_))
    | refine Nx.zx ?_ | fail
  revert bx; intro b2
  refine Nx.p_loop (σ := Nat × Int) (fun s => [(2, .pointer (some ⟨b2, 0, none⟩)), (6, .int .i64 s.2), (18, .slice As rs.length cs), (19, .int .i64 rs.length), (20, .int .i64 (s.1 : Int))])
    (fun _ => [Blk b2 27 [.slice A l.length c], F]) (fun s => s.1 ≤ rs.length ∧ relsF l (-1) rs = relsF l s.2 (rs.drop s.1)) (fun s => rs.length - s.1) (0, -1) rfl ⟨Nat.zero_le _, rfl⟩ ⟨rfl, rfl, rfl, rfl, rfl, trivial⟩ (by (exact Ent.auto)) ?_
  rintro ⟨i, b⟩ ⟨hi, he⟩
  dsimp only at hi he ⊢
  by_cases hiv : i < rs.length
  case neg =>
    rw [List.drop_eq_nil_of_le (by omega), relsF] at he
    rw [he]
    repeat' first
      | ((with_reducible refine Nx.is_wp ?_); first | refine Nx.wo ?_ | refine Nx.zp (fun hc => ?_) (fun hc => ?_))
      | (refine Nx.zo ?_; first | refine Nx.opr rfl rfl ?_ | refine Nx.so ?_ | refine Nx.sb (fun bx => ?_) | refine Nx.sa (fun A2 c2 => ?_))
      | ((with_reducible refine Nx.is_at ?_); first | refine Nx.a ?_ | refine Nx.zd ?_ | refine Nx.zs (fun hc => ?_) (fun hc => ?_))
      | ((with_reducible refine Nx.is_mix ?_); first | refine Nx.m ?_ | refine Nx.zm ?_ | refine Nx.zt (fun hc => ?_) (fun hc => ?_))
      | refine Nx.zx ?_ | fail
    exact Nx.ret_fn rfl [] ⟨rfl, rfl⟩ (by (exact Ent.auto))
  rw [relsF_at hiv] at he
  have hwi := hw _ (getD_memR hiv)
  have hS := echeck_spec A c l (rs.getD i default) b I hl hs (hr.view _ (getD_memR hiv)) (hr.val _ (getD_memR hiv)) hwi
  have hrds : ∀ (W : World) (R : List Res), Rds W I R ((ad As).add (i * 3)) (relC (rs.getD i default)) := fun W R => hr.outer.rds hiv
  generalize rs.getD i default = r at he hS hrds
  obtain ⟨num, va, vc, v, D, cd, vs⟩ := r
  dsimp only at he hS
  replace hrds : ∀ (W : World) (R : List Res), Rds W I R ((ad As).add (i * 3)) [.int .i64 num, .slice va v.length vc, .slice D vs.length cd] := hrds
  generalize relE l ⟨num, va, vc, v, (D, cd, vs)⟩ b = er at he hS
  by_cases h0 : er = 0
  · rw [if_neg (by omega)] at he
    subst h0
    repeat' first
      | ((with_reducible refine Nx.is_wp ?_); first | refine Nx.wo ?_ | refine Nx.zp (fun hc => ?_) (fun hc => ?_))
      | (refine Nx.zo ?_; first | refine Nx.opr rfl rfl ?_ | refine Nx.indexAddr_nat rfl rfl rfl rfl rfl hiv (hr.outer.isSome (by omega) (by omega)) ?_ | refine Nx.loads rfl rfl rfl rfl (hrds _ _) rfl ?_ | refine Nx.callv rfl rfl rfl (by kernel_rfl) rfl hS ?_ | refine Nx.so ?_ | refine Nx.sb (fun bx => ?_) | refine Nx.sa (fun A2 c2 => ?_))
      | ((with_reducible refine Nx.is_at ?_); first | refine Nx.a ?_ | refine Nx.zd ?_ | refine Nx.zs (fun hc => ?_) (fun hc => ?_))
      | ((with_reducible refine Nx.is_mix ?_); first | refine Nx.m ?_ | refine Nx.zm ?_ | refine Nx.zt (fun hc => ?_) (fun hc => ?_))
      | refine Nx.zx ?_ | fail
    exact Nx.again (i + 1, num) ⟨hiv, he⟩ (by dsimp only; omega) ⟨rfl, rfl, rfl, rfl, rfl, trivial⟩ (by (exact Ent.auto))
  · rw [if_pos h0] at he
    rw [he]
    repeat' first
      | ((with_reducible refine Nx.is_wp ?_); first | refine Nx.wo ?_ | refine Nx.zp (fun hc => ?_) (fun hc => ?_))
      | (refine Nx.zo ?_; first | refine Nx.opr rfl rfl ?_ | refine Nx.indexAddr_nat rfl rfl rfl rfl rfl hiv (hr.outer.isSome (by omega) (by omega)) ?_ | refine Nx.loads rfl rfl rfl rfl (hrds _ _) rfl ?_ | refine Nx.callv rfl rfl rfl (by kernel_rfl) rfl hS ?_ | refine Nx.so ?_ | refine Nx.sb (fun bx => ?_) | refine Nx.sa (fun A2 c2 => ?_))
      | ((with_reducible refine Nx.is_at ?_); first | refine Nx.a ?_ | refine Nx.zd ?_ | refine Nx.zs (fun hc => ?_) (fun hc => ?_))
      | ((with_reducible refine Nx.is_mix ?_); first | refine Nx.m ?_ | refine Nx.zm ?_ | refine Nx.zt (fun hc => ?_) (fun hc => ?_))
      | refine Nx.zx ?_ | fail
    exact Nx.ret_fn rfl [] ⟨rfl, rfl⟩ (by (exact Ent.auto))
end Go.Proofs.YtjnhoemgceghlaaGreat
/-
  The proof engine, part AQ: two bundles as one.
-/
namespace Go.Eng
theorem Ent.app {R R' : List Res} (h : Ent R R') : ∀ A : List Res, Ent (A ++ R) (A ++ R')
  | [] => h
  | _ :: A => Ent.cons (Ent.app h A)
theorem Ent.stars_app {A B R : List Res} : Ent (Stars A :: Stars B :: R) (Stars (A ++ B) :: R) := by
  refine Ent.unstars.trans ?_
  refine (Ent.app Ent.unstars A).trans ?_
  rw [← List.append_assoc]
  exact Ent.stars
end Go.Eng
/- Contracts of functions of the given program, and lemmas about plain lists and numbers: what the laws of this seat lean on. -/
namespace Go.Proofs.YtjnhoemgceghlaaGreat
open Go.Eng Go.Sol
attribute [local irreducible] opK wpList Code.wp Exit.then Exit.inBlock fnPost bodyPost Nx Calls Oper.wp Rd Rds Wr Ent Stars Blk Again Vec FnSpec wpMix QRun Stop Upto wpAt
theorem eq_one (l : List EqR) : ∀ u ∈ l.flatMap eqC, u.oneCell' = true := fun u hu => by
  obtain ⟨x, _, hx⟩ := List.mem_flatMap.1 hu
  simp only [eqC, List.mem_cons, List.not_mem_nil, or_false] at hx
  rcases hx with rfl | rfl <;> rfl
theorem relE_ok {l : List Int} {r : Rel} {b : Int} (hw : Viewed l r.v) (_ : Sizes l) (h : relE l r b = 0) : b < r.num ∧ r.num < 24 ∧ RelV l r := by
  unfold relE at h
  split at h
  · omega
  rename_i h1
  split at h
  · omega
  rename_i h2
  split at h
  · omega
  rename_i h3
  have h2 : (r.val.2.2.length : Int) = prod (szs r.v) := Decidable.byContradiction h2
  refine ⟨by omega, by omega, hw, by omega, fun j hj => ?_⟩
  have h4 : ∀ z ∈ r.val.2.2, ¬ badV z = true := fun z hz hb => h3 (List.any_eq_true.2 ⟨z, hz, hb⟩)
  have h5 := h4 _ (getD_memI hj)
  unfold badV at h5
  by_cases hz : r.val.2.2.getD j default = -1
  · exact .inl hz
  · right
    rw [decide_eq_true hz, Bool.true_and] at h5
    exact Decidable.byContradiction fun hc => h5 (by rw [decide_eq_false hc]; rfl)
theorem relE_of {l : List Int} {r : Rel} {b : Int} (hb : b < r.num) (h24 : r.num < 24) (hs : Sizes l) (h : RelV l r) : relE l r b = 0 := by
  have hp := (h.view.sizes hs).bound (k := (szs r.v).length) (Nat.le_refl _)
  rw [List.take_length] at hp
  have hl := h.len
  unfold relE
  rw [if_neg (by omega), if_neg (by omega), if_neg]
  intro ha
  obtain ⟨z, hz, hbz⟩ := List.any_eq_true.1 ha
  obtain ⟨j, hj, rfl⟩ := mem_getDI hz
  unfold badV at hbz
  rcases h.each j hj with h1 | h1
  · rw [h1] at hbz; simp at hbz
  · rw [decide_eq_true h1] at hbz; simp at hbz
theorem relsF_ok {l : List Int} (hs : Sizes l) : ∀ {rs : List Rel} {b : Int}, (∀ r ∈ rs, Viewed l r.v) → relsF l b rs = 0 → (∀ i, i < rs.length → RelV l (rs.getD i default) ∧ b < (rs.getD i default).num ∧ (rs.getD i default).num < 24) ∧ ∀ i, i + 1 < rs.length → (rs.getD i default).num < (rs.getD (i + 1) default).num
  | [], _, _, _ => ⟨fun i hi => absurd hi (Nat.not_lt_zero _), fun i hi => absurd hi (Nat.not_lt_zero _)⟩
  | r :: rs, b, hw, h => by
    rw [relsF] at h
    split at h
    · omega
    rename_i h0
    have h0 : relE l r b = 0 := Decidable.byContradiction h0
    obtain ⟨h1, h2, h3⟩ := relE_ok (hw r List.mem_cons_self) hs h0
    obtain ⟨h4, h5⟩ := relsF_ok hs (fun x hx => hw x (List.mem_cons_of_mem _ hx)) h
    refine ⟨fun i hi => ?_, fun i hi => ?_⟩
    · cases i with
      | zero => exact ⟨h3, h1, h2⟩
      | succ i =>
        obtain ⟨a, c, d⟩ := h4 i (by simpa using hi)
        exact ⟨a, by show b < (rs.getD i default).num; omega, d⟩
    · cases i with
      | zero => exact (h4 0 (by simpa using hi)).2.1
      | succ i => exact h5 i (by simpa using hi)
theorem relsF_of {l : List Int} (hs : Sizes l) : ∀ {rs : List Rel} {b : Int}, (∀ i, i < rs.length → RelV l (rs.getD i default) ∧ (rs.getD i default).num < 24) → (0 < rs.length → b < (rs.getD 0 default).num) → (∀ i, i + 1 < rs.length → (rs.getD i default).num < (rs.getD (i + 1) default).num) → relsF l b rs = 0
  | [], _, _, _, _ => rfl
  | r :: rs, b, h1, h2, h3 => by
    obtain ⟨h4, h5⟩ := h1 0 (by simp)
    rw [relsF, if_neg (by rw [show relE l r b = 0 from relE_of (h2 (by simp)) h5 hs h4]; simp)]
    exact relsF_of hs (fun i hi => h1 (i + 1) (by simpa using hi)) (fun hi => h3 0 (by simpa using hi)) fun i hi => h3 (i + 1) (by simpa using hi)
theorem relsE_iff {l : List Int} {rs : List Rel} (hs : Sizes l) (hw : ∀ r ∈ rs, Viewed l r.v) : relsE l rs = 0 ↔ RelsV l rs := by
  unfold relsE
  constructor
  · intro h
    split at h
    · omega
    obtain ⟨h1, h2⟩ := relsF_ok hs hw h
    exact ⟨by omega, fun i hi => ⟨(h1 i hi).1, by have := (h1 i hi).2.1; omega, (h1 i hi).2.2⟩, h2⟩
  · intro h
    have := h.len
    rw [if_neg (by omega)]
    exact relsF_of hs (fun i hi => ⟨(h.each i hi).1, (h.each i hi).2.2⟩) (fun hi => by have := (h.each 0 hi).2.1; omega) h.asc
set_option maxRecDepth 10000 in
set_option maxHeartbeats 8000000 in
theorem told_spec (A : Option Addr) (c : Nat) (l : List Int) (r : Rel) (I : PH) (hl : Ints I A c l) (hs : Sizes l) (hv : RowsOf I r.va r.vc r.v) (hd : Ints I r.val.1 r.val.2.1 r.val.2.2) (hV : RelV l r) :
    FnSpec Tryz.prog 91 [.agg #[.slice A l.length c], .agg #[.int .i64 r.num, .slice r.va r.v.length r.vc, .slice r.val.1 r.val.2.2.length r.val.2.1]] I []
      (fun u R' => ∃ (A' : Option Addr) (c' : Nat) (qs : List EqR), u = .slice A' qs.length c' ∧ qs.map cont = told l r ∧ qs.length ≤ 48 ∧ R' = eqsR A' c' qs) := by
  obtain ⟨num, va, vc, v, D, cd, vs⟩ := r
  obtain ⟨hw, hlen, heach⟩ := hV
  dsimp only at hv hd hw hlen heach ⊢
  have hszs := hw.sizes hs
  have hvl := hd.len
  have hpc := hszs.cells
  have hpr := hszs.bound (k := (szs v).length) (Nat.le_refl _)
  rw [List.take_length] at hpr
  refine FnSpec.enterP Tryz.func91 rfl Tryz.ntmps91 rfl fun w F => ?_
  repeat' first
    | ((with_reducible refine Nx.is_wp ?_); first | refine Nx.wo ?_ | refine Nx.zp (fun hc => ?_) (fun hc => ?_))
    | (refine Nx.zo ?_; first | refine Nx.opr rfl rfl ?_ | refine Nx.so ?_ | refine Nx.sb (fun bx => ?_) | refine Nx.sa (fun A2 c2 => ?_))
    | ((with_reducible refine Nx.is_at ?_); first | refine Nx.a ?_ | refine Nx.zd ?_ | refine Nx.zs (fun hc => ?_) (fun hc => ?_))
    | ((with_reducible refine Nx.is_mix ?_); first | refine Nx.m ?_ | refine Nx.zm ?_ | refine Nx.zt (fun hc => ?_) (fun hc => ?_))
    | refine Nx.zx ?_ | fail
  rename_i b2
  revert bx; intro b3
  refine Nx.p_loop (σ := Nat × Option Addr × Nat × List EqR) (fun s => [(2, .pointer (some ⟨b2, 0, none⟩)), (3, .pointer (some ⟨b3, 0, none⟩)), (5, .slice s.2.1 s.2.2.2.length s.2.2.1), (11, .slice D vs.length cd), (12, .int .i64 vs.length), (13, .int .i64 (s.1 : Int))])
    (fun s => Blk b3 43 [.int .i64 num, .slice va v.length vc, .slice D vs.length cd] :: Blk b2 27 [.slice A l.length c] :: (eqsR s.2.1 s.2.2.1 s.2.2.2 ++ [F])) (fun s => s.1 ≤ vs.length ∧ s.2.2.2.map cont = toldK l v vs s.1 ∧ s.2.2.2.length ≤ s.1) (fun s => vs.length - s.1) (0, none, 0, []) rfl ⟨Nat.zero_le _, rfl, Nat.le_refl _⟩ ⟨rfl, rfl, rfl, rfl, rfl, rfl, trivial⟩ ((Ent.stars_nil _).trans ((Ent.vec_nil 140 2 _).trans (by unfold eqsR; (exact Ent.auto)))) ?_
  rintro ⟨j, Ap, cp, ps⟩ ⟨hj, hps, hpl⟩
  dsimp only at hj hps hpl ⊢
  by_cases hjv : j < vs.length
  case neg =>
    obtain rfl : j = vs.length := by omega
    repeat' first
      | ((with_reducible refine Nx.is_wp ?_); first | refine Nx.wo ?_ | refine Nx.zp (fun hc => ?_) (fun hc => ?_))
      | (refine Nx.zo ?_; first | refine Nx.opr rfl rfl ?_ | refine Nx.so ?_ | refine Nx.sb (fun bx => ?_) | refine Nx.sa (fun A2 c2 => ?_))
      | ((with_reducible refine Nx.is_at ?_); first | refine Nx.a ?_ | refine Nx.zd ?_ | refine Nx.zs (fun hc => ?_) (fun hc => ?_))
      | ((with_reducible refine Nx.is_mix ?_); first | refine Nx.m ?_ | refine Nx.zm ?_ | refine Nx.zt (fun hc => ?_) (fun hc => ?_))
      | refine Nx.zx ?_ | fail
    exact Nx.ret_fn rfl [_, _] ⟨Ap, cp, ps, rfl, hps, by omega, rfl⟩ (by (exact Ent.auto))
  have hrd : ∀ (W : World) (R : List Res), Rd W I R ((ad D).add (j * 1)) (.int .i64 (vs.getD j default)) := fun W R => hd.rd hjv
  have hts : toldK l v vs (j + 1) = toldK l v vs j ++ if vs.getD j default = -1 then [] else [(memK l v (j : Int) (prod l).toNat, vs.getD j default)] := rfl
  have hM := Members_spec A va c vc l v (j : Int) I hl hs hv hw ⟨by omega, by omega⟩
  generalize memK l v (j : Int) (prod l).toNat = mm at hM hts
  generalize vs.getD j default = z at hrd hts
  by_cases hz : z = -1
  · subst hz
    rw [if_pos rfl, List.append_nil] at hts
    repeat' first
      | ((with_reducible refine Nx.is_wp ?_); first | refine Nx.wo ?_ | refine Nx.zp (fun hc => ?_) (fun hc => ?_))
      | (refine Nx.zo ?_; first | refine Nx.opr rfl rfl ?_ | refine Nx.indexAddr_nat (A := D) rfl rfl rfl rfl rfl hjv (hd.isSome (by omega)) ?_ | refine Nx.load rfl rfl rfl (hrd _ _) ?_ | refine Nx.so ?_ | refine Nx.sb (fun bx => ?_) | refine Nx.sa (fun A2 c2 => ?_))
      | ((with_reducible refine Nx.is_at ?_); first | refine Nx.a ?_ | refine Nx.zd ?_ | refine Nx.zs (fun hc => ?_) (fun hc => ?_))
      | ((with_reducible refine Nx.is_mix ?_); first | refine Nx.m ?_ | refine Nx.zm ?_ | refine Nx.zt (fun hc => ?_) (fun hc => ?_))
      | refine Nx.zx ?_ | fail
    exact Nx.again (j + 1, Ap, cp, ps) ⟨hjv, by rw [hts]; exact hps, by dsimp only; omega⟩ (by dsimp only; omega) ⟨rfl, rfl, rfl, rfl, rfl, rfl, trivial⟩ (by (exact Ent.auto))
  · rw [if_neg hz] at hts
    repeat' first
      | ((with_reducible refine Nx.is_wp ?_); first | refine Nx.wo ?_ | refine Nx.zp (fun hc => ?_) (fun hc => ?_))
      | (refine Nx.zo ?_; first | refine Nx.opr rfl rfl ?_ | refine Nx.indexAddr_nat (A := D) rfl rfl rfl rfl rfl hjv (hd.isSome (by omega)) ?_ | refine Nx.load rfl rfl rfl (hrd _ _) ?_ | refine Nx.loads rfl rfl rfl rfl (Rds.cut 0 1 rfl rfl) rfl ?_ | (refine Nx.call (Rpre := []) rfl rfl rfl (by kernel_rfl) rfl hM (Ent.refl _) ?_; rintro _ _ ⟨Am, cm, rfl, rfl⟩) | refine Nx.so ?_ | refine Nx.sb (fun bx => ?_) | refine Nx.sa (fun A2 c2 => ?_))
      | ((with_reducible refine Nx.is_at ?_); first | refine Nx.a ?_ | refine Nx.zd ?_ | refine Nx.zs (fun hc => ?_) (fun hc => ?_))
      | ((with_reducible refine Nx.is_mix ?_); first | refine Nx.m ?_ | refine Nx.zm ?_ | refine Nx.zt (fun hc => ?_) (fun hc => ?_))
      | refine Nx.zx ?_ | fail
    refine Nx.again (j + 1, A2, c2, ps ++ [((Am, cm, mm), z)]) ⟨hjv, by dsimp only; rw [hts, List.map_append, hps]; rfl, by dsimp only; rw [List.length_append]; show ps.length + 1 ≤ _; omega⟩ (by dsimp only; omega) ⟨rfl, rfl, by dsimp only; rw [List.length_append]; rfl, rfl, rfl, rfl, trivial⟩ ?_
    dsimp only
    refine Ent.trans (R' := rowR (Am, cm, mm) :: Stars (ps.map fun q => rowR q.1) :: [Vec 140 2 A2 (ps.length + 1) c2 (ps.flatMap eqC ++ eqC ((Am, cm, mm), z)), Blk b3 43 [.int .i64 num, .slice va v.length vc, .slice D vs.length cd], Blk b2 27 [.slice A l.length c], F]) (by unfold rowR eqC eqsR; (exact Ent.auto)) ?_
    refine Ent.trans (R' := Stars ((ps.map fun q => rowR q.1) ++ [rowR (Am, cm, mm)]) :: [Vec 140 2 A2 (ps.length + 1) c2 (ps.flatMap eqC ++ eqC ((Am, cm, mm), z)), Blk b3 43 [.int .i64 num, .slice va v.length vc, .slice D vs.length cd], Blk b2 27 [.slice A l.length c], F]) Ent.bundle ?_
    unfold eqsR
    rw [List.length_append, List.flatMap_append, List.map_append, List.flatMap_cons, List.flatMap_nil, List.append_nil]
    (exact Ent.auto)
set_option maxRecDepth 10000 in
set_option maxHeartbeats 8000000 in
theorem EAll_spec (A As : Option Addr) (c cs : Nat) (l : List Int) (rs : List Rel) (I : PH) (hl : Ints I A c l) (hs : Sizes l) (hr : Rels I As cs rs) (hw : ∀ r ∈ rs, Viewed l r.v) :
    FnSpec Tryz.prog 66 [.agg #[.slice A l.length c], .slice As rs.length cs] I []
      (fun u R' => ∃ (A' : Option Addr) (c' : Nat) (qs : List EqR), u = .tuple #[.slice A' qs.length c', .int .i64 (relsE l rs)] ∧ qs.map cont = (if relsE l rs = 0 then rs.flatMap (told l) else []) ∧ qs.length ≤ 24 * 48 ∧ R' = eqsR A' c' qs) := by
  have hEC := ECheck_spec A As c cs l rs I hl hs hr hw
  have hiff := relsE_iff hs hw
  refine FnSpec.enterP Tryz.func66 rfl Tryz.ntmps66 rfl fun w F => ?_
  by_cases h0 : relsE l rs = 0
  case neg =>
    rw [if_neg h0]
    generalize relsE l rs = er at h0 hEC
    repeat' first
      | ((with_reducible refine Nx.is_wp ?_); first | refine Nx.wo ?_ | refine Nx.zp (fun hc => ?_) (fun hc => ?_))
      | (refine Nx.zo ?_; first | refine Nx.opr rfl rfl ?_ | refine Nx.callv rfl rfl rfl (by kernel_rfl) rfl hEC ?_ | refine Nx.so ?_ | refine Nx.sb (fun bx => ?_) | refine Nx.sa (fun A2 c2 => ?_))
      | ((with_reducible refine Nx.is_at ?_); first | refine Nx.a ?_ | refine Nx.zd ?_ | refine Nx.zs (fun hc => ?_) (fun hc => ?_))
      | ((with_reducible refine Nx.is_mix ?_); first | refine Nx.m ?_ | refine Nx.zm ?_ | refine Nx.zt (fun hc => ?_) (fun hc => ?_))
      | refine Nx.zx ?_ | fail
    exact Nx.ret_fn rfl [_, _] ⟨none, 0, [], rfl, rfl, by decide, rfl⟩ ((Ent.stars_nil _).trans ((Ent.vec_nil 140 2 _).trans (by (exact Ent.auto))))
  have hV := hiff.1 h0
  rw [if_pos h0, h0]
  rw [h0] at hEC
  have h24 := hV.len
  repeat' first
    | ((with_reducible refine Nx.is_wp ?_); first | refine Nx.wo ?_ | refine Nx.zp (fun hc => ?_) (fun hc => ?_))
    | (refine Nx.zo ?_; first | refine Nx.opr rfl rfl ?_ | refine Nx.callv rfl rfl rfl (by kernel_rfl) rfl hEC ?_ | refine Nx.so ?_ | refine Nx.sb (fun bx => ?_) | refine Nx.sa (fun A2 c2 => ?_))
    | ((with_reducible refine Nx.is_at ?_); first | refine Nx.a ?_ | refine Nx.zd ?_ | refine Nx.zs (fun hc => ?_) (fun hc => ?_))
    | ((with_reducible refine Nx.is_mix ?_); first | refine Nx.m ?_ | refine Nx.zm ?_ | refine Nx.zt (fun hc => ?_) (fun hc => ?_))
    | refine Nx.zx ?_ | fail
  revert bx; intro b2
  refine Nx.p_loop (σ := Nat × Option Addr × Nat × List EqR) (fun s => [(2, .pointer (some ⟨b2, 0, none⟩)), (7, .slice s.2.1 s.2.2.2.length s.2.2.1), (16, .slice As rs.length cs), (17, .int .i64 rs.length), (18, .int .i64 (s.1 : Int))])
    (fun s => Blk b2 27 [.slice A l.length c] :: (eqsR s.2.1 s.2.2.1 s.2.2.2 ++ [F])) (fun s => s.1 ≤ rs.length ∧ s.2.2.2.map cont = (rs.take s.1).flatMap (told l) ∧ s.2.2.2.length ≤ s.1 * 48) (fun s => rs.length - s.1) (0, none, 0, []) rfl ⟨Nat.zero_le _, rfl, Nat.le_refl _⟩ ⟨rfl, rfl, rfl, rfl, rfl, trivial⟩ ((Ent.stars_nil _).trans ((Ent.vec_nil 140 2 _).trans (by unfold eqsR; (exact Ent.auto)))) ?_
  rintro ⟨i, Ao, co, qs⟩ ⟨hi, hqs, hql⟩
  dsimp only at hi hqs hql ⊢
  by_cases hiv : i < rs.length
  case neg =>
    obtain rfl : i = rs.length := by omega
    rw [List.take_length] at hqs
    repeat' first
      | ((with_reducible refine Nx.is_wp ?_); first | refine Nx.wo ?_ | refine Nx.zp (fun hc => ?_) (fun hc => ?_))
      | (refine Nx.zo ?_; first | refine Nx.opr rfl rfl ?_ | refine Nx.so ?_ | refine Nx.sb (fun bx => ?_) | refine Nx.sa (fun A2 c2 => ?_))
      | ((with_reducible refine Nx.is_at ?_); first | refine Nx.a ?_ | refine Nx.zd ?_ | refine Nx.zs (fun hc => ?_) (fun hc => ?_))
      | ((with_reducible refine Nx.is_mix ?_); first | refine Nx.m ?_ | refine Nx.zm ?_ | refine Nx.zt (fun hc => ?_) (fun hc => ?_))
      | refine Nx.zx ?_ | fail
    exact Nx.ret_fn rfl [_, _] ⟨Ao, co, qs, rfl, hqs, by omega, rfl⟩ (by (exact Ent.auto))
  have htk := take_snocR hiv
  have hT := told_spec A c l (rs.getD i default) I hl hs (hr.view _ (getD_memR hiv)) (hr.val _ (getD_memR hiv)) (hV.each i hiv).1
  have hrds : ∀ (W : World) (R : List Res), Rds W I R ((ad As).add (i * 3)) (relC (rs.getD i default)) := fun W R => hr.outer.rds hiv
  generalize rs.getD i default = r at htk hT hrds
  obtain ⟨num, va, vc, v, D, cd, vs⟩ := r
  dsimp only at hT
  replace hrds : ∀ (W : World) (R : List Res), Rds W I R ((ad As).add (i * 3)) [.int .i64 num, .slice va v.length vc, .slice D vs.length cd] := hrds
  repeat' first
    | ((with_reducible refine Nx.is_wp ?_); first | refine Nx.wo ?_ | refine Nx.zp (fun hc => ?_) (fun hc => ?_))
    | (refine Nx.zo ?_; first | refine Nx.opr rfl rfl ?_ | refine Nx.indexAddr_nat rfl rfl rfl rfl rfl hiv (hr.outer.isSome (by omega) (by omega)) ?_ | refine Nx.loads rfl rfl rfl rfl (hrds _ _) rfl ?_ | (refine Nx.call (Rpre := []) rfl rfl rfl (by kernel_rfl) rfl hT (Ent.refl _) ?_; rintro _ _ ⟨Am, cm, ps, rfl, hps, hpl, rfl⟩) | refine Nx.append_vec 3 rfl rfl rfl rfl (by kernel_rfl) rfl rfl (eq_one ps) (by omega) fun A2 c2 => ?_ | refine Nx.so ?_ | refine Nx.sb (fun bx => ?_) | refine Nx.sa (fun A2 c2 => ?_))
    | ((with_reducible refine Nx.is_at ?_); first | refine Nx.a ?_ | refine Nx.zd ?_ | refine Nx.zs (fun hc => ?_) (fun hc => ?_))
    | ((with_reducible refine Nx.is_mix ?_); first | refine Nx.m ?_ | refine Nx.zm ?_ | refine Nx.zt (fun hc => ?_) (fun hc => ?_))
    | refine Nx.zx ?_ | fail
  refine Nx.again (i + 1, A2, c2, qs ++ ps) ⟨hiv, by dsimp only; rw [htk, List.flatMap_append, List.flatMap_cons, List.flatMap_nil, List.append_nil, List.map_append, hqs, hps], by dsimp only; rw [List.length_append]; omega⟩ (by dsimp only; omega) ⟨rfl, by dsimp only; rw [List.length_append]; rfl, rfl, rfl, rfl, trivial⟩ ?_
  dsimp only
  refine Ent.trans (R' := Stars (qs.map fun q => rowR q.1) :: Stars (ps.map fun q => rowR q.1) :: [Vec 140 2 A2 (qs.length + ps.length) c2 (qs.flatMap eqC ++ ps.flatMap eqC), Blk b2 27 [.slice A l.length c], F]) (by (exact Ent.auto)) ?_
  refine Ent.stars_app.trans ?_
  unfold eqsR
  rw [List.length_append, List.flatMap_append, List.map_append]
  (exact Ent.auto)
end Go.Proofs.YtjnhoemgceghlaaGreat
/-
  The proof engine, part AN: a statement of open order in which memory that a call of its own has made is read before the next call; what is known of all worlds grows from call to call.
-/
namespace Go.Eng
section
variable {P : Program} {ops : Array Oper} {Q : Exit → Act → World → Prop} {md : Region.Mode} {S S' : World → Prop} {fin loud : List Nat}
theorem wpAnyF_weaker (h : ∀ w, S' w → S w) : ∀ (n : Nat) (listed : Array Bool) (a : Act) (w : World), wpAnyF P md ops Q S' fin n listed a w → wpAnyF P md ops Q S fin n listed a w
  | 0, _, _, _, H => H
  | n + 1, _, _, _, H => ⟨H.1, fun i hi => wpOp_mono (fun a' w' h' => ⟨fun hf => h w' (h'.1 hf), wpAnyF_weaker h n _ a' w' h'.2⟩) (H.2 i hi)⟩
/-- The operations in parts; behind each part more may be known of all worlds to come. -/
def wpSegs (P : Program) (ops : Array Oper) (Q : Exit → Act → World → Prop) (loud fin : List Nat) : List (List Nat) → (World → Prop) → Act → World → Prop
  | [], _, a, w => wpMix P ops Q AnyW fin fin a w
  | g :: r, S, a, w => wpMix P ops (Exit.then (fun a w => ∃ S' : World → Prop, (∀ u, S' u → S u) ∧ S' w ∧ wpSegs P ops Q loud fin r S' a w) Q) S loud g a w
theorem wpSegs_anyF (hs : Region.noSelect ops = true) (hQ : PanicOk Q) : ∀ (gs : List (List Nat)) (S : World → Prop) (n : Nat) (listed : Array Bool) (a : Act) (w : World), Closed .any ops listed →
    mixOkF ops fin loud gs.flatten listed = true → gs.flatten.length + fin.length ≤ n → S w → wpSegs P ops Q loud fin gs S a w → wpAnyF P .any ops Q S fin n listed a w
  | [], S, n, listed, a, w, _, hok, hl, _, h => wpMix_fin hs hQ (fun k hk => by simpa using hk) fin n listed a w (fun k hk => by simpa using hk) hok (by simpa using hl) h
  | g :: gs, S, n, listed, a, w, hcl, hok, hl, hS, h => by
    rw [List.flatten_cons] at hok hl
    have key : ∀ (r : List Nat) (n : Nat) (listed : Array Bool) (a : Act) (w : World), Closed .any ops listed → mixOkF ops fin loud (r ++ gs.flatten) listed = true → (r ++ gs.flatten).length + fin.length ≤ n → S w →
        wpMix P ops (Exit.then (fun a w => ∃ S' : World → Prop, (∀ u, S' u → S u) ∧ S' w ∧ wpSegs P ops Q loud fin gs S' a w) Q) S loud r a w → wpAnyF P .any ops Q S fin n listed a w := by
      intro r
      induction r with
      | nil =>
        rintro n listed a w hcl hok hl hS ⟨S', hi, hS', h⟩
        exact wpAnyF_weaker hi _ _ _ _ (wpSegs_anyF hs hQ gs S' n listed a w hcl hok hl hS' h)
      | cons k r ih =>
        intro n listed a w hcl hok hl hS h
        obtain ⟨o, ho, h⟩ := h
        rw [List.cons_append] at hok hl
        unfold mixOkF at hok
        rw [Bool.and_eq_true] at hok
        obtain ⟨hk, hr⟩ := hok
        cases n with
        | zero => simp at hl
        | succ n =>
          have hl' : (r ++ gs.flatten).length + fin.length ≤ n := by simp only [List.length_cons] at hl; omega
          by_cases hc : loud.contains k = true
          · rw [if_pos hc] at h hk
            simp only [Bool.and_eq_true, beq_iff_eq, Bool.not_eq_true'] at hk
            refine ⟨fun h0 => (by rw [hk.1] at h0; cases h0), fun i hi => ?_⟩
            rw [hk.1] at hi
            obtain rfl : i = k := by simpa using hi
            refine wpOp_then (T := fun a w => ∃ S' : World → Prop, (∀ u, S' u → S u) ∧ S' w ∧ wpSegs P ops Q loud fin gs S' a w) ?_
            exact wpOp_mono (fun a' w' h3 => ⟨fun _ => h3.1, ih n _ a' w' (hcl.set (by rw [hk.1]; simp)) hr hl' h3.1 h3.2⟩) h
          · rw [if_neg hc] at h hk
            simp only [Bool.and_eq_true] at hk
            obtain ⟨v, hy, h⟩ := h
            exact wpAnyF_first ho hs hQ hk.2 n listed a w hcl (Region.free_spec ho hk.1.1) (by simpa using hk.1.2) hy hS (ih n _ _ w (hcl.set (by simpa using hk.1.2)) hr hl' hS h)
    exact key g n listed a w hcl hok hl hS h
end
section
variable {C : Cx} {e e' : Env} {I I' : PH} {R R' R0 R1 : List Res} {K K' : Act → World → Prop} {Q : Exit → Act → World → Prop} {c : Code} {ops : Array Oper} {loud fin : List Nat}
theorem Nx.p_segs {id : Nat} (hid : cid c = id) (gs : List (List Nat)) (loud fin : List Nat) (R0 : List Res) (hk : ck c = 2) (hm : C.P.follows .mixedOrders = true) (hs : Region.noSelect (cops c) = true) (hok : mixOkF (cops c) fin loud gs.flatten (Array.replicate (cops c).size false) = true) (hlen : Nat.ble (gs.flatten.length + fin.length) (cops c).size = true) (hQ : PanicOk Q) (hR : Ent R R0)
    (h : Nx C e I R (wpSegs C.P (cops c) Q loud fin gs (St C.W I R0))) : Nx C e I R (c.wp C.P Q) := by
  have hc : c = .region (cid c) (cops c) true := by
    cases c <;> first | (simp [ck] at hk; done) | skip
    rename_i b
    cases b with
    | false => simp [ck] at hk
    | true => rfl
  clear hid
  rw [hc]
  intro a w ha hw
  refine wp_region_any hm (wpAny_of_fin _ _ _ _ (wpSegs_anyF (S := St C.W I R0) hs hQ gs _ _ a _ (Closed.start _) hok (Nat.le_of_ble_eq_true hlen) (hw.drew.ent hR) (h a _ ha hw.drew)))
theorem Nx.segs_in {g : List Nat} {gs : List (List Nat)} {S : World → Prop} (h : Nx C e I R (wpMix C.P ops (Exit.then (fun a w => ∃ S' : World → Prop, (∀ u, S' u → S u) ∧ S' w ∧ wpSegs C.P ops Q loud fin gs S' a w) Q) S loud g)) : Nx C e I R (wpSegs C.P ops Q loud fin (g :: gs) S) := h
theorem Nx.segs_end {S : World → Prop} (h : Nx C e I R (wpMix C.P ops Q AnyW fin fin)) : Nx C e I R (wpSegs C.P ops Q loud fin [] S) := h
/-- Behind a part: from here on 'R' is known of all worlds. -/
theorem Nx.segs_next {gs : List (List Nat)} (hle : PH.le I I') (hR : Ent R R0) (h : Nx C e I' R (wpSegs C.P ops Q loud fin gs (St C.W I' R))) : Nx C e I' R (fun a w => ∃ S' : World → Prop, (∀ u, S' u → St C.W I R0 u) ∧ S' w ∧ wpSegs C.P ops Q loud fin gs S' a w) :=
  fun a w ha hw => ⟨St C.W I' R, fun _ hu => (hu.imm_le hle).ent hR, hw, h a w ha hw⟩
end
end Go.Eng
/- Contracts of functions of the given program, and lemmas about plain lists and numbers: what the laws of this seat lean on. -/
namespace Go.Proofs.YtjnhoemgceghlaaGreat
open Go.Eng Go.Sol
attribute [local irreducible] opK wpList Code.wp Exit.then Exit.inBlock fnPost bodyPost Nx Calls Oper.wp Rd Rds Wr Ent Stars Blk Again Vec FnSpec wpMix QRun Stop Upto wpAt
/-! Reaches and pairs -/
theorem mem_sols {n : Nat} {l : List EqR} (hg : ∀ q ∈ l, GoodE n q) {s : List Int} : s ∈ solsOf n (eqns l) ↔ Goes n 1000000 (eqns l) (touch n (eqns l)) (List.replicate n 0) s :=
  mem_enum (fun q hq => by obtain ⟨x, hx, rfl⟩ := List.mem_map.1 hq; exact eqn_nd (hg x hx)) (inv_start hg (touch_nd _ _) fun _ => Iff.rfl)
theorem mem_ext {n x : Nat} {down : Bool} {l : List EqR} (hg : ∀ q ∈ l, GoodE n q) (hx : x ∈ touch n (eqns l)) {s : List Int} : s ∈ extOf n (eqns l) x down ↔ s ∈ solsOf n (eqns l) := by
  rw [mem_sols hg]
  refine (mem_enum (fun q hq => by obtain ⟨x, hx, rfl⟩ := List.mem_map.1 hq; exact eqn_nd (hg x hx)) (inv_start hg (ord_nd n (eqns l) x) (ord_mem hx))).trans ?_
  constructor
  · exact fun h => ⟨h.len, fun c hc => h.same c fun h' => hc ((ord_mem hx c).1 h'), fun c hc => h.pos c ((ord_mem hx c).2 hc), h.sum⟩
  · exact fun h => ⟨h.len, fun c hc => h.same c fun h' => hc ((ord_mem hx c).2 h'), fun c hc => h.pos c ((ord_mem hx c).1 hc), h.sum⟩
theorem ext_some {n x : Nat} (down : Bool) {l : List EqR} (hg : ∀ q ∈ l, GoodE n q) (hx : x ∈ touch n (eqns l)) (hne : solsOf n (eqns l) ≠ []) : ∃ s r, extOf n (eqns l) x down = s :: r ∧ s.length = n := by
  obtain ⟨s0, h0⟩ := List.exists_mem_of_ne_nil _ hne
  have h1 := (mem_ext (down := down) hg hx).2 h0
  cases he : extOf n (eqns l) x down with
  | nil => rw [he] at h1; cases h1
  | cons s r =>
    refine ⟨s, r, rfl, ?_⟩
    have : s ∈ extOf n (eqns l) x down := by rw [he]; exact List.mem_cons_self ..
    exact ((mem_sols hg).1 ((mem_ext hg hx).1 this)).len
set_option maxHeartbeats 8000000 in
theorem extreme_spec2 {A : Option Addr} {c : Nat} {l : List EqR} {n x : Nat} {down : Bool} {I : PH} {s : List Int} (hl : Eqs I A c l) (hg : ∀ q ∈ l, GoodE n q) (hn : n ≤ 4096) (hll : l.length ≤ 100000) (h9 : (allC l).length ≤ 100000) (hx : x ∈ touch n (eqns l)) (hs : (extOf n (eqns l) x down).headD [] = s) :
    FnSpec Tryz.prog 138 [.int .i64 (n : Int), .slice A l.length c, .int .i64 (x : Int), .bool down] I [] (fun v R' => ∃ (A' : Option Addr) (c' : Nat), v = .slice A' s.length c' ∧ R' = [iR A' c' s]) := by
  refine (extreme_spec A c l n x down I hl hg hn hll h9 hx).mono ?_
  rintro v R' ⟨A', c', tab, rfl, rfl, rfl⟩
  subst hs
  exact ⟨A', c', rfl, rfl⟩
def reachAt (n : Nat) (L : List Eqn) (c : Nat) : Rch := if c ∈ touch n L then (((extOf n L c false).headD []).getD c 0, ((extOf n L c true).headD []).getD c 0, false) else (0, 0, true)
def reachR (n : Int) (l : List EqR) : List Rch × Int := if chkQ n l = 0 then (if solsOf n.toNat (eqns l) = [] then ([], 52) else ((List.range n.toNat).map (reachAt n.toNat (eqns l)), 0)) else ([], chkQ n l)
abbrev rcR (A : Option Addr) (c : Nat) (r : List Rch) : Res := Vec 124 3 A r.length c (r.flatMap rcC)
theorem list_ext_d {α : Type} [Inhabited α] {a b : List α} (hl : a.length = b.length) (h : ∀ j, j < a.length → a.getD j default = b.getD j default) : a = b := by
  refine List.ext_getElem hl fun i h1 h2 => ?_
  have := h i h1
  rw [List.getD_eq_getElem?_getD, List.getD_eq_getElem?_getD, List.getElem?_eq_getElem h1, List.getElem?_eq_getElem h2] at this
  exact this
set_option maxRecDepth 10000 in
set_option maxHeartbeats 8000000 in
theorem Reaches_spec (n : Int) (A : Option Addr) (c : Nat) (l : List EqR) (I : PH) (hl : Eqs I A c l) (h9 : (allC l).length ≤ 100000) :
    FnSpec Tryz.prog 107 [.int .i64 n, .slice A l.length c] I []
      (fun v R' => ∃ (A' : Option Addr) (c' : Nat), v = .tuple #[.slice A' (reachR n l).1.length c', .int .i64 (reachR n l).2] ∧ R' = [rcR A' c' (reachR n l).1]) := by
  have hF := First_spec n A c l I hl h9
  unfold firstOf at hF
  unfold reachR
  refine FnSpec.enterP Tryz.func107 rfl Tryz.ntmps107 rfl fun w F => ?_
  by_cases h0 : chkQ n l = 0
  case neg =>
    rw [if_neg h0] at hF
    rw [if_neg h0]
    repeat' first
      | ((with_reducible refine Nx.is_wp ?_); first | refine Nx.wo ?_ | refine Nx.zp (fun hc => ?_) (fun hc => ?_))
      | (refine Nx.zo ?_; first | refine Nx.opr rfl rfl ?_ | (refine Nx.call (Rpre := []) rfl rfl rfl (by kernel_rfl) rfl hF (Ent.refl _) ?_; rintro _ _ ⟨A1, c1, rfl, rfl⟩) | refine Nx.so ?_ | refine Nx.sb (fun bx => ?_) | refine Nx.sa (fun A2 c2 => ?_))
      | ((with_reducible refine Nx.is_at ?_); first | refine Nx.a ?_ | refine Nx.zd ?_ | refine Nx.zs (fun hc => ?_) (fun hc => ?_))
      | ((with_reducible refine Nx.is_mix ?_); first | refine Nx.m ?_ | refine Nx.zm ?_ | refine Nx.zt (fun hc => ?_) (fun hc => ?_))
      | refine Nx.zx ?_ | fail
    exact Nx.ret_fn rfl [_] ⟨none, 0, rfl, rfl⟩ ((Ent.vec_nil 124 3 _).trans (by unfold rcR; (exact Ent.auto)))
  rw [if_pos h0] at hF ⊢
  obtain ⟨h1, h2, h3, _⟩ := chk_good h0
  by_cases hso : solsOf n.toNat (eqns l) = []
  · rw [if_pos hso]
    rw [hso] at hF
    repeat' first
      | ((with_reducible refine Nx.is_wp ?_); first | refine Nx.wo ?_ | refine Nx.zp (fun hc => ?_) (fun hc => ?_))
      | (refine Nx.zo ?_; first | refine Nx.opr rfl rfl ?_ | (refine Nx.call (Rpre := []) rfl rfl rfl (by kernel_rfl) rfl hF (Ent.refl _) ?_; rintro _ _ ⟨A1, c1, rfl, rfl⟩) | refine Nx.so ?_ | refine Nx.sb (fun bx => ?_) | refine Nx.sa (fun A2 c2 => ?_))
      | ((with_reducible refine Nx.is_at ?_); first | refine Nx.a ?_ | refine Nx.zd ?_ | refine Nx.zs (fun hc => ?_) (fun hc => ?_))
      | ((with_reducible refine Nx.is_mix ?_); first | refine Nx.m ?_ | refine Nx.zm ?_ | refine Nx.zt (fun hc => ?_) (fun hc => ?_))
      | refine Nx.zx ?_ | fail
    exact Nx.ret_fn rfl [_] ⟨none, 0, rfl, rfl⟩ ((Ent.vec_nil 124 3 _).trans (by unfold rcR; (exact Ent.auto)))
  rw [if_neg hso]
  have hne : (solsOf n.toNat (eqns l)).isEmpty = false := by simpa using hso
  rw [hne] at hF
  obtain ⟨m, rfl⟩ : ∃ m : Nat, n = m := ⟨n.toNat, by omega⟩
  rw [Int.toNat_natCast] at hF hso h3 ⊢
  generalize ((solsOf m (eqns l)).headD []) = t0 at hF
  have hT := Touched_spec A c l m I hl h3 (by omega)
  have hRp := fun b => RepeatR_spec [.int .i64 0, .int .i64 0, .bool true] rfl (by simp [Value.oneCell']) b m (by omega) (by omega) I
  have hext : ∀ (x : Nat) (down : Bool), x ∈ touch m (eqns l) → ∃ s, (extOf m (eqns l) x down).headD [] = s ∧ s.length = m := fun x down hx => by
    obtain ⟨s, r, he, hs⟩ := ext_some down h3 hx hso
    exact ⟨s, by rw [he]; rfl, hs⟩
  have htdl : (touch m (eqns l)).length ≤ m := by
    unfold touch
    exact Nat.le_trans (List.length_filter_le _ _) (by simp)
  repeat' first
    | ((with_reducible refine Nx.is_wp ?_); first | refine Nx.wo ?_ | refine Nx.zp (fun hc => ?_) (fun hc => ?_))
    | (refine Nx.zo ?_; first | refine Nx.opr rfl rfl ?_ | (refine Nx.call (Rpre := []) rfl rfl rfl (by kernel_rfl) rfl hF (Ent.refl _) ?_; rintro _ _ ⟨A1, c1, rfl, rfl⟩) | (refine Nx.call rfl rfl rfl (by kernel_rfl) rfl (hRp _) (by (exact Ent.auto)) ?_; rintro _ _ ⟨b5, rfl, rfl⟩) | (refine Nx.call (Rpre := []) rfl rfl rfl (by kernel_rfl) rfl hT (Ent.refl _) ?_; rintro _ _ ⟨A9, c9, rfl, rfl⟩) | refine Nx.so ?_ | refine Nx.sb (fun bx => ?_) | refine Nx.sa (fun A2 c2 => ?_))
    | ((with_reducible refine Nx.is_at ?_); first | refine Nx.a ?_ | refine Nx.zd ?_ | refine Nx.zs (fun hc => ?_) (fun hc => ?_))
    | ((with_reducible refine Nx.is_mix ?_); first | refine Nx.m ?_ | refine Nx.zm ?_ | refine Nx.zt (fun hc => ?_) (fun hc => ?_))
    | refine Nx.zx ?_ | fail
  refine Nx.p_loop (σ := Nat × List Rch) (fun s => [(0, .int .i64 (m : Int)), (1, .slice A l.length c), (9, .slice (some ⟨b5, 0, none⟩) m m), (32, .slice A9 (touch m (eqns l)).length c9), (33, .int .i64 (touch m (eqns l)).length), (34, .int .i64 (s.1 : Int))])
    (fun s => [iR A9 c9 ((touch m (eqns l)).map Int.ofNat), Vec 124 3 (some ⟨b5, 0, none⟩) m m (s.2.flatMap rcC), F])
    (fun s => s.1 ≤ (touch m (eqns l)).length ∧ s.2.length = m ∧ ∀ x, x < m → s.2.getD x default = if x ∈ (touch m (eqns l)).take s.1 then reachAt m (eqns l) x else (0, 0, true)) (fun s => (touch m (eqns l)).length - s.1) (0, List.replicate m (0, 0, true)) rfl
    ⟨Nat.zero_le _, by simp, fun x hx => by dsimp only; rw [List.getD_eq_getElem?_getD, List.getElem?_replicate, if_pos hx]; simp⟩ ⟨rfl, rfl, rfl, rfl, rfl, rfl, trivial⟩ ?_ ?_
  · dsimp only
    rw [show (List.replicate m ((0, 0, true) : Rch)).flatMap rcC = (List.replicate m [Value.int .i64 0, .int .i64 0, .bool true]).flatten by rw [List.flatMap_def, List.map_replicate]; rfl]
    unfold iR
    (exact Ent.auto)
  rintro ⟨k, rl⟩ ⟨hk, hrl, hrx⟩
  dsimp only at hk hrl hrx ⊢
  by_cases hlt : k < (touch m (eqns l)).length
  case neg =>
    obtain rfl : k = (touch m (eqns l)).length := by omega
    rw [List.take_length] at hrx
    have he : rl = (List.range m).map (reachAt m (eqns l)) := by
      refine list_ext_d (by rw [hrl]; simp) fun x hx => ?_
      rw [hrx x (by omega), List.getD_eq_getElem?_getD (l := List.map _ _), List.getElem?_map, List.getElem?_range (by omega)]
      show _ = reachAt m (eqns l) x
      by_cases hm : x ∈ touch m (eqns l)
      · rw [if_pos hm]
      · rw [if_neg hm]; unfold reachAt; rw [if_neg hm]
    rw [← he]
    repeat' first
      | ((with_reducible refine Nx.is_wp ?_); first | refine Nx.wo ?_ | refine Nx.zp (fun hc => ?_) (fun hc => ?_))
      | (refine Nx.zo ?_; first | refine Nx.opr rfl rfl ?_ | refine Nx.so ?_ | refine Nx.sb (fun bx => ?_) | refine Nx.sa (fun A2 c2 => ?_))
      | ((with_reducible refine Nx.is_at ?_); first | refine Nx.a ?_ | refine Nx.zd ?_ | refine Nx.zs (fun hc => ?_) (fun hc => ?_))
      | ((with_reducible refine Nx.is_mix ?_); first | refine Nx.m ?_ | refine Nx.zm ?_ | refine Nx.zt (fun hc => ?_) (fun hc => ?_))
      | refine Nx.zx ?_ | fail
    exact Nx.ret_fn rfl [rcR (some ⟨b5, 0, none⟩) m rl] ⟨some ⟨b5, 0, none⟩, m, by rw [hrl], rfl⟩ (by unfold rcR; rw [hrl]; (exact Ent.auto))
  have hyt : (touch m (eqns l))[k] ∈ touch m (eqns l) := List.getElem_mem hlt
  have hyn := (mem_touch.1 hyt).1
  have htk : (touch m (eqns l)).take (k + 1) = (touch m (eqns l)).take k ++ [(touch m (eqns l))[k]] := List.take_succ_eq_append_getElem hlt
  have htr : ∀ (W : World) (R : List Res), Rd W I (iR A9 c9 ((touch m (eqns l)).map Int.ofNat) :: R) ((ad A9).add (k * 1)) (.int .i64 (((touch m (eqns l))[k] : Nat) : Int)) := fun W R => by
    have h := Rd.vecEl (W := W) (I := I) (R := iR A9 c9 ((touch m (eqns l)).map Int.ofNat) :: R) 0 (f := Value.int .i64) (l := (touch m (eqns l)).map Int.ofNat) (i := k) rfl (by rw [List.length_map]; exact hlt)
    rw [List.getD_eq_getElem?_getD, List.getElem?_map, List.getElem?_eq_getElem hlt] at h
    exact h
  refine Nx.vec_fact fun hv1 hv2 hv3 hA9 => ?_
  rw [List.length_map] at hv2 hA9
  generalize (touch m (eqns l))[k] = y at hyt hyn htk htr
  obtain ⟨s1, hs1, hl1⟩ := hext y false hyt
  obtain ⟨s2, hs2, hl2⟩ := hext y true hyt
  have hra : reachAt m (eqns l) y = (s1.getD y 0, s2.getD y 0, false) := by unfold reachAt; rw [if_pos hyt, hs1, hs2]
  have hE1 := extreme_spec2 hl h3 (by omega) (by omega) h9 hyt hs1
  have hE2 := extreme_spec2 hl h3 (by omega) (by omega) h9 hyt hs2
  repeat' first
    | ((with_reducible refine Nx.is_wp ?_); first | refine Nx.p_segs (id := 10) rfl [[0,1,2,3,4,6,9,10,11,13,5],[7,8,12],[14,15,16,17]] [5,12] [18] _ rfl rfl (by kernel_rfl) (by kernel_rfl) rfl (by repeat first | exact PanicOk.fn | refine PanicOk.then_ ?_ | refine PanicOk.inB ?_) (Ent.refl _) (Nx.segs_in ?_) | refine Nx.wo ?_ | refine Nx.zp (fun hc => ?_) (fun hc => ?_))
    | (refine Nx.zo ?_; first | refine Nx.opr rfl rfl ?_ | refine Nx.indexAddr_nat rfl rfl rfl rfl rfl (by omega) (hA9 (by omega)) ?_ | refine Nx.load rfl rfl rfl (htr _ _) ?_ | (refine Nx.call (Rpre := []) rfl rfl rfl (by kernel_rfl) rfl hE1 (Ent.refl _) ?_; rintro _ _ ⟨Ac, cc, rfl, rfl⟩; refine Nx.vec_fact fun _ _ _ hAc => ?_) | refine Nx.so ?_ | refine Nx.sb (fun bx => ?_) | refine Nx.sa (fun A2 c2 => ?_))
    | ((with_reducible refine Nx.is_at ?_); first | refine Nx.a ?_ | refine Nx.zd ?_ | refine Nx.zs (fun hc => ?_) (fun hc => ?_))
    | ((with_reducible refine Nx.is_mix ?_); first | refine Nx.m ?_ | refine Nx.zm ?_ | refine Nx.zt (fun hc => ?_) (fun hc => ?_))
    | refine Nx.zx ?_ | fail
  refine Nx.segs_next (PH.le_refl _) (by (exact Ent.auto)) (Nx.segs_in ?_)
  repeat' first
    | ((with_reducible refine Nx.is_wp ?_); first | refine Nx.wo ?_ | refine Nx.zp (fun hc => ?_) (fun hc => ?_))
    | (refine Nx.zo ?_; first | refine Nx.opr rfl rfl ?_ | (refine Nx.call (Rpre := []) rfl rfl rfl (by kernel_rfl) rfl hE2 (Ent.refl _) ?_; rintro _ _ ⟨Ad, cd, rfl, rfl⟩; refine Nx.vec_fact fun _ _ _ hAd => ?_) | refine Nx.so ?_ | refine Nx.sb (fun bx => ?_) | refine Nx.sa (fun A2 c2 => ?_))
    | ((with_reducible refine Nx.is_at ?_); first | refine Nx.a ?_ | refine Nx.zd ?_ | refine Nx.zs (fun hc => ?_) (fun hc => ?_))
    | ((with_reducible refine Nx.is_mix ?_); first | refine Nx.m_quiet rfl rfl rfl rfl rfl (by first | exact QRun.opr rfl | exact QRun.idx (sz := 1) rfl rfl rfl rfl (by omega) (hAc (by omega)) | exact QRun.load rfl rfl (Rd.vecEl 0 (f := Value.int .i64) (l := s1) (i := y) rfl (by omega))) ?_ | refine Nx.m_quiet_do rfl rfl rfl rfl rfl rfl rfl (by first | exact QRun.opr rfl | exact QRun.idx (sz := 1) rfl rfl rfl rfl (by omega) (hAc (by omega)) | exact QRun.load rfl rfl (Rd.vecEl 0 (f := Value.int .i64) (l := s1) (i := y) rfl (by omega))) ?_ | refine Nx.m ?_ | refine Nx.zm ?_ | refine Nx.zt (fun hc => ?_) (fun hc => ?_))
    | refine Nx.zx ?_ | fail
  refine Nx.segs_next (PH.le_refl _) (by (exact Ent.auto)) (Nx.segs_in ?_)
  repeat' first
    | ((with_reducible refine Nx.is_wp ?_); first | refine Nx.wo ?_ | refine Nx.zp (fun hc => ?_) (fun hc => ?_))
    | (refine Nx.zo ?_; first | refine Nx.opr rfl rfl ?_ | refine Nx.so ?_ | refine Nx.sb (fun bx => ?_) | refine Nx.sa (fun A2 c2 => ?_))
    | ((with_reducible refine Nx.is_at ?_); first | refine Nx.a ?_ | refine Nx.zd ?_ | refine Nx.zs (fun hc => ?_) (fun hc => ?_))
    | ((with_reducible refine Nx.is_mix ?_); first | refine Nx.m_quiet rfl rfl rfl rfl rfl (by first | exact QRun.opr rfl | exact QRun.idx (sz := 1) rfl rfl rfl rfl (by omega) (hAd (by omega)) | exact QRun.load rfl rfl (Rd.vecEl 0 (f := Value.int .i64) (l := s2) (i := y) rfl (by omega)) | exact QRun.idx (sz := 3) rfl rfl rfl rfl (by omega) rfl) ?_ | refine Nx.m_quiet_do rfl rfl rfl rfl rfl rfl rfl (by first | exact QRun.opr rfl | exact QRun.idx (sz := 1) rfl rfl rfl rfl (by omega) (hAd (by omega)) | exact QRun.load rfl rfl (Rd.vecEl 0 (f := Value.int .i64) (l := s2) (i := y) rfl (by omega)) | exact QRun.idx (sz := 3) rfl rfl rfl rfl (by omega) rfl) ?_ | refine Nx.m ?_ | refine Nx.zm ?_ | refine Nx.zt (fun hc => ?_) (fun hc => ?_))
    | refine Nx.zx ?_ | fail
  refine Nx.segs_next (PH.le_refl _) (by (exact Ent.auto)) (Nx.segs_end ?_)
  repeat' first
    | ((with_reducible refine Nx.is_wp ?_); first | refine Nx.wo ?_ | refine Nx.zp (fun hc => ?_) (fun hc => ?_))
    | (refine Nx.zo ?_; first | refine Nx.opr rfl rfl ?_ | refine Nx.store_elt (A := some ⟨b5, 0, none⟩) 3 rcC (l := rl) (i := y) (x' := (s1.getD y default, s2.getD y default, false)) rfl rfl rfl rfl rfl rcC_len (by decide) (rcC_one _) (by omega) hrl ?_ | refine Nx.so ?_ | refine Nx.sb (fun bx => ?_) | refine Nx.sa (fun A2 c2 => ?_))
    | ((with_reducible refine Nx.is_at ?_); first | refine Nx.a ?_ | refine Nx.zd ?_ | refine Nx.zs (fun hc => ?_) (fun hc => ?_))
    | ((with_reducible refine Nx.is_mix ?_); first | refine Nx.m ?_ | refine Nx.zm ?_ | refine Nx.zt (fun hc => ?_) (fun hc => ?_))
    | refine Nx.zx ?_ | fail
  refine Nx.again (k + 1, rl.set y (s1.getD y default, s2.getD y default, false)) ⟨hlt, by dsimp only; rw [List.length_set]; exact hrl, fun x hx => ?_⟩ (by dsimp only; omega) ⟨rfl, rfl, rfl, rfl, rfl, rfl, trivial⟩ (by unfold iR; rw [List.length_map]; (exact Ent.auto))
  dsimp only
  rw [htk, List.getD_eq_getElem?_getD]
  by_cases hxy : x = y
  · subst hxy
    rw [List.getElem?_set_self (by omega), if_pos (by simp), hra]; rfl
  · rw [List.getElem?_set_ne (Ne.symm hxy), ← List.getD_eq_getElem?_getD, hrx x hx]
    by_cases hm : x ∈ (touch m (eqns l)).take k
    · rw [if_pos hm, if_pos (by simp [hm])]
    · rw [if_neg hm, if_neg (by simp [hm, hxy])]
end Go.Proofs.YtjnhoemgceghlaaGreat
/-
  Plain: the solutions of equations found cell by cell in the order of the cells, with what is left of each equation.
-/
namespace Go.Sol
/-- The least value of the equations in which a cell is, plus 1; 0 if it is in none. -/
def roomR (L : List Eqn) (c : Nat) : Int := L.foldl (fun a q => if c ∈ q.1 then (if a = 0 ∨ q.2 + 1 < a then q.2 + 1 else a) else a) 0
/-- How far a cell can go, where so much is left of each equation. -/
def gtF (t : List Int) (c : Nat) (a : Int) (L : List Eqn) : Int := L.foldl (fun a q => if c ∈ q.1 then min a (restQ t q) else a) a
def topF (L : List Eqn) (t : List Int) : Int := gtF t t.length (max 0 (roomR L t.length - 1)) L
/-- Whether the equations whose last cell has just got its number are right. -/
def fitB (L : List Eqn) (t : List Int) : Bool := L.all fun q => !decide (q.1.getLast? = some (t.length - 1)) || decide (restQ t q = 0)
def rs (L : List Eqn) : Nat → List Int → List (List Int)
  | 0, t => if L.all (fun q => decide (restQ t q = 0)) then [t] else []
  | k + 1, t => (List.range (topF L t + 1).toNat).flatMap fun (n : Nat) => if fitB L (t ++ [(n : Int)]) then rs L k (t ++ [(n : Int)]) else []
/-- Equations over cells below N, ascending. -/
structure Asc (N : Nat) (L : List Eqn) : Prop where
  asc : ∀ q ∈ L, q.1.Pairwise (· < ·)
  lt : ∀ q ∈ L, ∀ c ∈ q.1, c < N
  val : ∀ q ∈ L, 0 ≤ q.2
theorem Asc.once {N : Nat} {L : List Eqn} (h : Asc N L) : Once L := fun q hq => (h.asc q hq).imp fun h => Nat.ne_of_lt h
theorem getD_ge {t : List Int} {c : Nat} (h : t.length ≤ c) : t.getD c 0 = 0 := by
  rw [List.getD_eq_getElem?_getD, List.getElem?_eq_none h]; rfl
/-- A table that goes on from a shorter one. -/
structure From (L : List Eqn) (k : Nat) (t s : List Int) : Prop where
  len : s.length = t.length + k
  pre : s.take t.length = t
  pos : ∀ c, t.length ≤ c → 0 ≤ s.getD c 0 ∧ ((∀ q ∈ L, c ∉ q.1) → s.getD c 0 = 0)
  sum : ∀ q ∈ L, sumC s q.1 = q.2
end Go.Sol
/- Contracts of functions of the given program, and lemmas about plain lists and numbers: what the laws of this seat lean on. -/
namespace Go.Proofs.YtjnhoemgceghlaaGreat
open Go.Eng Go.Sol
attribute [local irreducible] opK wpList Code.wp Exit.then Exit.inBlock fnPost bodyPost Nx Calls Oper.wp Rd Rds Wr Ent Stars Blk Again Vec FnSpec wpMix QRun Stop Upto wpAt
/-! The reference's test of equations -/
/-! Rooms -/
theorem cells_bd {n : Nat} {l : List EqR} (hg : ∀ q ∈ l, GoodE n q) : ∀ q ∈ eqns l, 0 ≤ q.2 ∧ q.2 ≤ 1000000 := fun q hq => by
  obtain ⟨x, hx, rfl⟩ := List.mem_map.1 hq
  exact (hg x hx).val
end Go.Proofs.YtjnhoemgceghlaaGreat
/- Contracts of functions of the given program, and lemmas about plain lists and numbers: what the laws of this seat lean on. -/
namespace Go.Proofs.YtjnhoemgceghlaaGreat
open Go.Eng Go.Sol
attribute [local irreducible] opK wpList Code.wp Exit.then Exit.inBlock fnPost bodyPost Nx Calls Oper.wp Rd Rds Wr Ent Stars Blk Again Vec FnSpec wpMix QRun Stop Upto wpAt
/-! Plain: the reference's search finds the same, in the same order -/
theorem asc_eqns {n : Nat} {l : List EqR} (hg : ∀ q ∈ l, GoodE n q) : Asc n (eqns l) := by
  refine ⟨fun q hq => ?_, fun q hq c hc => ?_, fun q hq => (cells_bd hg q hq).1⟩
  · obtain ⟨x, hx, rfl⟩ := List.mem_map.1 hq
    exact toNat_asc (hg x hx).asc fun y hy => ((hg x hx).lt y hy).1
  · obtain ⟨x, hx, rfl⟩ := List.mem_map.1 hq
    have := (hg x hx).lt _ ((mem_eqn (hg x hx)).1 hc)
    omega
theorem once_eqns {n : Nat} {l : List EqR} (hg : ∀ q ∈ l, GoodE n q) : Once (eqns l) := (asc_eqns hg).once
theorem ext_sorted {n x : Nat} {down : Bool} {l : List EqR} (hg : ∀ q ∈ l, GoodE n q) (hx : x ∈ touch n (eqns l)) : (extOf n (eqns l) x down).Pairwise (ltU down (ordOf n (eqns l) x)) :=
  enum_sorted (once_eqns hg) (inv_start hg (ord_nd n (eqns l) x) (ord_mem hx))
/-! Products -/
/-! The first table with the least, or the greatest, number at a cell -/
/-- The first in such an order has the least, or the greatest, number. -/
theorem ext_head {n x : Nat} {down : Bool} {l : List EqR} (hg : ∀ q ∈ l, GoodE n q) (hx : x ∈ touch n (eqns l)) {h : List Int} {r : List (List Int)} (he : extOf n (eqns l) x down = h :: r) : h ∈ solsOf n (eqns l) ∧ ∀ s ∈ solsOf n (eqns l), if down then s.getD x 0 ≤ h.getD x 0 else h.getD x 0 ≤ s.getD x 0 := by
  have hm := fun s => mem_ext (down := down) (s := s) hg hx
  have hs := ext_sorted (down := down) hg hx
  rw [he] at hs
  refine ⟨(hm _).1 (by rw [he]; exact List.mem_cons_self ..), fun s h' => ?_⟩
  have h' := (hm _).2 h'
  rw [he] at h'
  rcases List.mem_cons.1 h' with rfl | h'
  · cases down <;> exact Int.le_refl _
  · rcases (List.pairwise_cons.1 hs).1 s h' with h1 | h1
    · cases down with
      | true => rw [if_pos rfl] at h1 ⊢; omega
      | false => rw [if_neg (by decide)] at h1 ⊢; omega
    · cases down with
      | true => rw [if_pos rfl]; omega
      | false => rw [if_neg (by decide)]; omega
end Go.Proofs.YtjnhoemgceghlaaGreat
/- Contracts of functions of the given program, and lemmas about plain lists and numbers: what the laws of this seat lean on. -/
namespace Go.Proofs.YtjnhoemgceghlaaGreat
open Go.Eng Go.Sol
attribute [local irreducible] opK wpList Code.wp Exit.then Exit.inBlock fnPost bodyPost Nx Calls Oper.wp Rd Rds Wr Ent Stars Blk Again Vec FnSpec wpMix QRun Stop Upto wpAt
/-! Plain: made equations and their solutions -/
theorem asc_room : ∀ {xs : List Int} {a b : Int}, xs.Pairwise (· < ·) → (∀ x ∈ xs, a ≤ x ∧ x < b) → (xs.length : Int) ≤ max 0 (b - a)
  | [], a, b, _, _ => by simp; omega
  | x :: r, a, b, h, hb => by
    rw [List.pairwise_cons] at h
    have hx := hb x List.mem_cons_self
    have ih := asc_room (a := x + 1) (b := b) h.2 fun y hy => by have := h.1 y hy; have := hb y (List.mem_cons_of_mem _ hy); omega
    rw [List.length_cons]
    omega
theorem good_len {n : Nat} {q : EqR} (hg : GoodE n q) : q.1.2.2.length ≤ n := by
  have := asc_room hg.asc hg.lt
  omega
theorem allC_good {n : Nat} : ∀ {l : List EqR}, (∀ q ∈ l, GoodE n q) → (allC l).length ≤ l.length * n
  | [], _ => by simp [allC]
  | q :: l, hg => by
    have ih := allC_good (l := l) fun p hp => hg p (List.mem_cons_of_mem _ hp)
    have h1 := good_len (hg q List.mem_cons_self)
    show (q.1.2.2 ++ allC l).length ≤ _
    rw [List.length_append, List.length_cons, Nat.succ_mul]
    omega
theorem EqsOk.all {N : Nat} {t : List Int} {most : Int} {qs : List EqR} (h : EqsOk N t most qs) : (allC qs).length ≤ 384 := by
  have h1 := allC_good h.good
  have h2 := h.few
  have h3 := h.n
  exact Nat.le_trans h1 (Nat.mul_le_mul h2 h3.2)
/-- The table, 0 where no equation is. -/
def wantL (N : Nat) (U : List Nat) (t : List Int) : List Int := (List.range N).map fun c => if c ∈ U then t.getD c 0 else 0
theorem wantL_len (N : Nat) (U : List Nat) (t : List Int) : (wantL N U t).length = N := by simp [wantL]
theorem wantL_at {N : Nat} {U : List Nat} {t : List Int} {c : Nat} (hc : c < N) : (wantL N U t).getD c 0 = if c ∈ U then t.getD c 0 else 0 := by
  unfold wantL
  rw [List.getD_eq_getElem?_getD, List.getElem?_map, List.getElem?_range hc]; rfl
theorem wantL_out {N : Nat} {U : List Nat} {t : List Int} {c : Nat} (hc : ¬ c < N) : (wantL N U t).getD c 0 = 0 := getD_ge (by rw [wantL_len]; omega)
/-- Values of a table that agrees with all equations, 0 elsewhere: a solution. -/
theorem want_sol {N : Nat} {l : List EqR} {t : List Int} (hg : ∀ q ∈ l, GoodE N q) (hp : ∀ c ∈ touch N (eqns l), 0 ≤ t.getD c 0 ∧ t.getD c 0 ≤ 1000000) (hs : ∀ q ∈ l, sumC t (eqn q).1 = q.2) : wantL N (touch N (eqns l)) t ∈ solsOf N (eqns l) := by
  have hat : ∀ c ∈ touch N (eqns l), (wantL N (touch N (eqns l)) t).getD c 0 = t.getD c 0 := fun c hc => by
    rw [wantL_at (mem_touch.1 hc).1, if_pos hc]
  refine (mem_sols hg).2 ⟨wantL_len _ _ _, fun c hc => ?_, fun c hc => by rw [hat c hc]; exact hp c hc, fun q hq => ?_⟩
  · rw [zeros_at]
    by_cases hN : c < N
    · rw [wantL_at hN, if_neg hc]
    · exact wantL_out hN
  · obtain ⟨p, hpl, rfl⟩ := List.mem_map.1 hq
    rw [← show sumC t (eqn p).1 = (eqn p).2 from hs p hpl]
    refine sumC_congr fun c hc => hat c (mem_touch.2 ⟨?_, eqn p, hq, hc⟩)
    have := (hg p hpl).lt (c : Int) ((mem_eqn (hg p hpl)).1 hc)
    omega
theorem EqsOk.pos {N : Nat} {t : List Int} {qs : List EqR} (h : EqsOk N t 2 qs) (c : Nat) : 0 ≤ t.getD c 0 ∧ t.getD c 0 ≤ 1000000 := by
  by_cases hc : c < t.length
  · have := h.tab c hc
    exact ⟨this.1, by have := this.2; show t.getD c default ≤ _; omega⟩
  · rw [getD_ge (by omega)]; decide
theorem EqsOk.want {N : Nat} {t : List Int} {qs : List EqR} (h : EqsOk N t 2 qs) : wantL N (touch N (eqns qs)) t ∈ solsOf N (eqns qs) := want_sol h.good (fun c _ => h.pos c) h.sum
theorem EqsOk.some {N : Nat} {t : List Int} {qs : List EqR} (h : EqsOk N t 2 qs) : solsOf N (eqns qs) ≠ [] := fun he => by
  have := h.want; rw [he] at this; cases this
/-! Made equations are given up -/
end Go.Proofs.YtjnhoemgceghlaaGreat
