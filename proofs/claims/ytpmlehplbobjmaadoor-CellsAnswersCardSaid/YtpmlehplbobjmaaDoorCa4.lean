/- Contracts of functions of the given program, and lemmas about plain lists and numbers: what the laws of this seat lean on. -/
import Derived.MapKept
import Derived.Test.YtpmlehplbobjmaaDoorCa3
namespace Go.Proofs.YtpmlehplbobjmaaDoor
open Go.Eng
attribute [local irreducible] opK wpList Code.wp Exit.then Exit.inBlock fnPost bodyPost Nx Calls Oper.wp Rd Rds Wr Ent Stars Blk Again Vec FnSpec wpMix QRun Stop Upto wpAt
/-! Any spaces, and any views of them -/
def sizesB (l : List Int) : Bool := decide (1 ≤ l.length ∧ l.length ≤ 4) && l.all (fun x => decide (1 ≤ x ∧ x ≤ 8)) && decide (prod l ≤ 48)
theorem sizes_iff {l : List Int} : sizesB l = true ↔ Sizes l := by
  unfold sizesB
  rw [Bool.and_eq_true, Bool.and_eq_true, decide_eq_true_eq, decide_eq_true_eq, List.all_eq_true]
  constructor
  · rintro ⟨⟨h1, h2⟩, h3⟩
    exact ⟨h1, fun x hx => of_decide_eq_true (h2 x hx), h3⟩
  · rintro ⟨h1, h2, h3⟩
    exact ⟨⟨h1, fun x hx => decide_eq_true (h2 x hx)⟩, h3⟩
def szE (l : List Int) : Int := if sizesB l = true then 0 else 55
theorem szE_ok {l : List Int} (h : Sizes l) : szE l = 0 := by unfold szE; rw [if_pos (sizes_iff.2 h)]
theorem szE_no {l : List Int} (h : ¬ Sizes l) : szE l = 55 := by unfold szE; rw [if_neg fun h2 => h (sizes_iff.1 h2)]
theorem pref_bd {l : List Int} (h4 : l.length ≤ 4) : ∀ k, k ≤ l.length → (∀ j, j < k → 1 ≤ l.getD j default ∧ l.getD j default ≤ 8) → 1 ≤ prod (l.take k) ∧ prod (l.take k) ≤ 4096 := by
  have key : ∀ k, k ≤ l.length → (∀ j, j < k → 1 ≤ l.getD j default ∧ l.getD j default ≤ 8) → 1 ≤ prod (l.take k) ∧ prod (l.take k) ≤ 8 ^ k := by
    intro k
    induction k with
    | zero => intro _ _; simp [prod]
    | succ k ih =>
      intro hk h
      have ih := ih (by omega) fun j hj => h j (by omega)
      have hx := h k (by omega)
      rw [prod_succ l k (by omega)]
      refine ⟨?_, ?_⟩
      · have := Int.mul_le_mul ih.1 hx.1 (by omega) (by omega)
        omega
      · rw [Int.pow_succ]
        exact Int.mul_le_mul ih.2 hx.2 (by omega) (by omega)
  intro k hk h
  have h1 := key k hk h
  refine ⟨h1.1, Int.le_trans h1.2 ?_⟩
  have : k = 0 ∨ k = 1 ∨ k = 2 ∨ k = 3 ∨ k = 4 := by omega
  rcases this with rfl | rfl | rfl | rfl | rfl <;> decide
theorem Sizes.of {l : List Int} (h1 : 1 ≤ l.length ∧ l.length ≤ 4) (h2 : ∀ j, j < l.length → 1 ≤ l.getD j default ∧ l.getD j default ≤ 8) (h3 : prod l ≤ 48) : Sizes l :=
  ⟨h1, fun x hx => by
    obtain ⟨j, hj, rfl⟩ := List.mem_iff_getElem.1 hx
    have := h2 j hj
    rwa [List.getD_eq_getElem?_getD, List.getElem?_eq_getElem hj] at this, h3⟩
set_option maxHeartbeats 2000000 in
set_option maxRecDepth 10000 in
theorem CheckA_spec (A : Option Addr) (c : Nat) (l : List Int) (I : PH) (hl : Ints I A c l) :
    FnSpec Tryd.prog 20 [.agg #[.slice A l.length c]] I [] (fun v R' => v = .int .i64 (szE l) ∧ R' = []) := by
  have hlen := hl.len
  refine FnSpec.enterP Tryd.func20 rfl Tryd.ntmps20 rfl fun w F => ?_
  by_cases hd : 1 ≤ l.length ∧ l.length ≤ 4
  case neg =>
    have hno : szE l = 55 := szE_no fun h => hd h.dims
    rw [hno]
    by_cases h0 : l.length = 0
    · rw [h0] at *
      repeat' first
        | ((with_reducible refine Nx.is_wp ?_); first | refine Nx.wo ?_ | refine Nx.zp (fun hc => ?_) (fun hc => ?_))
        | (refine Nx.zo ?_; first | refine Nx.opr rfl rfl ?_ | refine Nx.so ?_ | refine Nx.sb (fun bx => ?_) | refine Nx.sa (fun A2 c2 => ?_))
        | refine Nx.za ?_ | refine Nx.zr (fun hc => ?_) (fun hc => ?_)
        | refine Nx.zq ?_ | refine Nx.zu (fun hc => ?_) (fun hc => ?_)
        | refine Nx.zx ?_ | fail
      exact Nx.ret_fn rfl [] ⟨rfl, rfl⟩ (by (exact Ent.auto))
    · have h5 : ¬ (l.length : Int) ≤ 4 := by omega
      repeat' first
        | ((with_reducible refine Nx.is_wp ?_); first | refine Nx.wo ?_ | refine Nx.zp (fun hc => ?_) (fun hc => ?_))
        | (refine Nx.zo ?_; first | refine Nx.opr rfl rfl ?_ | refine Nx.so ?_ | refine Nx.sb (fun bx => ?_) | refine Nx.sa (fun A2 c2 => ?_))
        | refine Nx.za ?_ | refine Nx.zr (fun hc => ?_) (fun hc => ?_)
        | refine Nx.zq ?_ | refine Nx.zu (fun hc => ?_) (fun hc => ?_)
        | refine Nx.zx ?_ | fail
      exact Nx.ret_fn rfl [] ⟨rfl, rfl⟩ (by (exact Ent.auto))
  repeat' first
    | ((with_reducible refine Nx.is_wp ?_); first | refine Nx.wo ?_ | refine Nx.zp (fun hc => ?_) (fun hc => ?_))
    | (refine Nx.zo ?_; first | refine Nx.opr rfl rfl ?_ | refine Nx.so ?_ | refine Nx.sb (fun bx => ?_) | refine Nx.sa (fun A2 c2 => ?_))
    | refine Nx.za ?_ | refine Nx.zr (fun hc => ?_) (fun hc => ?_)
    | refine Nx.zq ?_ | refine Nx.zu (fun hc => ?_) (fun hc => ?_)
    | refine Nx.zx ?_ | fail
  refine Nx.p_loop (σ := Nat) (fun k => [(17, .slice A l.length c), (18, .int .i64 l.length), (19, .int .i64 (k : Int)), (3, .int .i64 (prod (l.take k)))])
    (fun _ => [F]) (fun k => k ≤ l.length ∧ ∀ j, j < k → 1 ≤ l.getD j default ∧ l.getD j default ≤ 8) (fun k => l.length - k) 0 rfl ⟨Nat.zero_le _, fun j hj => absurd hj (Nat.not_lt_zero _)⟩ ⟨rfl, rfl, rfl, rfl, trivial⟩ (by (exact Ent.auto)) ?_
  rintro k ⟨hk, hup⟩
  have hb := pref_bd hd.2 k hk hup
  by_cases hkl : k < l.length
  case neg =>
    obtain rfl : k = l.length := by omega
    rw [List.take_length] at hb ⊢
    by_cases h3 : prod l ≤ 48
    · rw [szE_ok (Sizes.of hd hup h3)]
      repeat' first
        | ((with_reducible refine Nx.is_wp ?_); first | refine Nx.wo ?_ | refine Nx.zp (fun hc => ?_) (fun hc => ?_))
        | (refine Nx.zo ?_; first | refine Nx.opr rfl rfl ?_ | refine Nx.so ?_ | refine Nx.sb (fun bx => ?_) | refine Nx.sa (fun A2 c2 => ?_))
        | refine Nx.za ?_ | refine Nx.zr (fun hc => ?_) (fun hc => ?_)
        | refine Nx.zq ?_ | refine Nx.zu (fun hc => ?_) (fun hc => ?_)
        | refine Nx.zx ?_ | fail
      exact Nx.ret_fn rfl [] ⟨rfl, rfl⟩ (by (exact Ent.auto))
    · rw [szE_no fun h => h3 h.cells]
      repeat' first
        | ((with_reducible refine Nx.is_wp ?_); first | refine Nx.wo ?_ | refine Nx.zp (fun hc => ?_) (fun hc => ?_))
        | (refine Nx.zo ?_; first | refine Nx.opr rfl rfl ?_ | refine Nx.so ?_ | refine Nx.sb (fun bx => ?_) | refine Nx.sa (fun A2 c2 => ?_))
        | refine Nx.za ?_ | refine Nx.zr (fun hc => ?_) (fun hc => ?_)
        | refine Nx.zq ?_ | refine Nx.zu (fun hc => ?_) (fun hc => ?_)
        | refine Nx.zx ?_ | fail
      exact Nx.ret_fn rfl [] ⟨rfl, rfl⟩ (by (exact Ent.auto))
  have hrd : ∀ (W : World) (R : List Res), Rd W I R ((ad A).add (k * 1)) (.int .i64 (l.getD k default)) := fun W R => hl.rd hkl
  have hAs := hl.isSome (by omega)
  have hps := prod_succ l k hkl
  have hmem : l.getD k default ∈ l := by rw [List.getD_eq_getElem?_getD, List.getElem?_eq_getElem hkl]; exact List.getElem_mem _
  have hup2 : (1 ≤ l.getD k default ∧ l.getD k default ≤ 8) → ∀ j, j < k + 1 → 1 ≤ l.getD j default ∧ l.getD j default ≤ 8 := fun h j hj => by
    rcases Nat.lt_or_ge j k with hj2 | hj2
    · exact hup j hj2
    · obtain rfl : j = k := by omega
      exact h
  have hbad : ¬ (1 ≤ l.getD k default ∧ l.getD k default ≤ 8) → szE l = 55 := fun h => szE_no fun hs => h (hs.each _ hmem)
  have hmul : (1 ≤ l.getD k default ∧ l.getD k default ≤ 8) → 1 ≤ prod (l.take k) * l.getD k default ∧ prod (l.take k) * l.getD k default ≤ 4096 := fun h => by rw [← hps]; exact pref_bd hd.2 (k + 1) hkl (hup2 h)
  generalize l.getD k default = x at hrd hps hup2 hbad hmul
  by_cases hx : 1 ≤ x ∧ x ≤ 8
  case neg =>
    rw [hbad hx]
    by_cases hx1 : x < 1
    · repeat' first
        | ((with_reducible refine Nx.is_wp ?_); first | refine Nx.wo ?_ | refine Nx.zp (fun hc => ?_) (fun hc => ?_))
        | (refine Nx.zo ?_; first | refine Nx.opr rfl rfl ?_ | refine Nx.indexAddr_nat rfl rfl rfl rfl rfl hkl hAs ?_ | refine Nx.load rfl rfl rfl (hrd _ _) ?_ | refine Nx.so ?_ | refine Nx.sb (fun bx => ?_) | refine Nx.sa (fun A2 c2 => ?_))
        | refine Nx.za ?_ | refine Nx.zr (fun hc => ?_) (fun hc => ?_)
        | refine Nx.zq ?_ | refine Nx.zu (fun hc => ?_) (fun hc => ?_)
        | refine Nx.zx ?_ | fail
      exact Nx.ret_fn rfl [] ⟨rfl, rfl⟩ (by (exact Ent.auto))
    · have hx8 : 8 < x := by omega
      repeat' first
        | ((with_reducible refine Nx.is_wp ?_); first | refine Nx.wo ?_ | refine Nx.zp (fun hc => ?_) (fun hc => ?_))
        | (refine Nx.zo ?_; first | refine Nx.opr rfl rfl ?_ | refine Nx.indexAddr_nat rfl rfl rfl rfl rfl hkl hAs ?_ | refine Nx.load rfl rfl rfl (hrd _ _) ?_ | refine Nx.so ?_ | refine Nx.sb (fun bx => ?_) | refine Nx.sa (fun A2 c2 => ?_))
        | refine Nx.za ?_ | refine Nx.zr (fun hc => ?_) (fun hc => ?_)
        | refine Nx.zq ?_ | refine Nx.zu (fun hc => ?_) (fun hc => ?_)
        | refine Nx.zx ?_ | fail
      exact Nx.ret_fn rfl [] ⟨rfl, rfl⟩ (by (exact Ent.auto))
  have hm := hmul hx
  repeat' first
    | ((with_reducible refine Nx.is_wp ?_); first | refine Nx.wo ?_ | refine Nx.zp (fun hc => ?_) (fun hc => ?_))
    | (refine Nx.zo ?_; first | refine Nx.opr rfl rfl ?_ | refine Nx.indexAddr_nat rfl rfl rfl rfl rfl hkl hAs ?_ | refine Nx.load rfl rfl rfl (hrd _ _) ?_ | refine Nx.so ?_ | refine Nx.sb (fun bx => ?_) | refine Nx.sa (fun A2 c2 => ?_))
    | refine Nx.za ?_ | refine Nx.zr (fun hc => ?_) (fun hc => ?_)
    | refine Nx.zq ?_ | refine Nx.zu (fun hc => ?_) (fun hc => ?_)
    | refine Nx.zx ?_ | fail
  exact Nx.again (k + 1) ⟨hkl, hup2 hx⟩ (by omega) ⟨rfl, rfl, rfl, by rw [hps]; rfl, trivial⟩ (by (exact Ent.auto))
set_option maxHeartbeats 2000000 in
set_option maxRecDepth 10000 in
theorem RCheckA_spec (A : Option Addr) (c : Nat) (l : List Int) (I : PH) (hl : Ints I A c l) :
    FnSpec Tryd.prog 21 [.agg #[.slice A l.length c]] I [] (fun v R' => v = .int .i64 (szE l) ∧ R' = []) := by
  have hlen := hl.len
  refine FnSpec.enterP Tryd.func21 rfl Tryd.ntmps21 rfl fun w F => ?_
  by_cases hd : 1 ≤ l.length ∧ l.length ≤ 4
  case neg =>
    have hno : szE l = 55 := szE_no fun h => hd h.dims
    rw [hno]
    by_cases h0 : l.length = 0
    · rw [h0] at *
      repeat' first
        | ((with_reducible refine Nx.is_wp ?_); first | refine Nx.wo ?_ | refine Nx.zp (fun hc => ?_) (fun hc => ?_))
        | (refine Nx.zo ?_; first | refine Nx.opr rfl rfl ?_ | refine Nx.so ?_ | refine Nx.sb (fun bx => ?_) | refine Nx.sa (fun A2 c2 => ?_))
        | refine Nx.za ?_ | refine Nx.zr (fun hc => ?_) (fun hc => ?_)
        | refine Nx.zq ?_ | refine Nx.zu (fun hc => ?_) (fun hc => ?_)
        | refine Nx.zx ?_ | fail
      exact Nx.ret_fn rfl [] ⟨rfl, rfl⟩ (by (exact Ent.auto))
    · have h5 : ¬ (l.length : Int) ≤ 4 := by omega
      repeat' first
        | ((with_reducible refine Nx.is_wp ?_); first | refine Nx.wo ?_ | refine Nx.zp (fun hc => ?_) (fun hc => ?_))
        | (refine Nx.zo ?_; first | refine Nx.opr rfl rfl ?_ | refine Nx.so ?_ | refine Nx.sb (fun bx => ?_) | refine Nx.sa (fun A2 c2 => ?_))
        | refine Nx.za ?_ | refine Nx.zr (fun hc => ?_) (fun hc => ?_)
        | refine Nx.zq ?_ | refine Nx.zu (fun hc => ?_) (fun hc => ?_)
        | refine Nx.zx ?_ | fail
      exact Nx.ret_fn rfl [] ⟨rfl, rfl⟩ (by (exact Ent.auto))
  repeat' first
    | ((with_reducible refine Nx.is_wp ?_); first | refine Nx.wo ?_ | refine Nx.zp (fun hc => ?_) (fun hc => ?_))
    | (refine Nx.zo ?_; first | refine Nx.opr rfl rfl ?_ | refine Nx.so ?_ | refine Nx.sb (fun bx => ?_) | refine Nx.sa (fun A2 c2 => ?_))
    | refine Nx.za ?_ | refine Nx.zr (fun hc => ?_) (fun hc => ?_)
    | refine Nx.zq ?_ | refine Nx.zu (fun hc => ?_) (fun hc => ?_)
    | refine Nx.zx ?_ | fail
  refine Nx.p_loop (σ := Nat) (fun k => [(17, .slice A l.length c), (18, .int .i64 l.length), (19, .int .i64 (k : Int)), (3, .int .i64 (prod (l.take k)))])
    (fun _ => [F]) (fun k => k ≤ l.length ∧ ∀ j, j < k → 1 ≤ l.getD j default ∧ l.getD j default ≤ 8) (fun k => l.length - k) 0 rfl ⟨Nat.zero_le _, fun j hj => absurd hj (Nat.not_lt_zero _)⟩ ⟨rfl, rfl, rfl, rfl, trivial⟩ (by (exact Ent.auto)) ?_
  rintro k ⟨hk, hup⟩
  have hb := pref_bd hd.2 k hk hup
  by_cases hkl : k < l.length
  case neg =>
    obtain rfl : k = l.length := by omega
    rw [List.take_length] at hb ⊢
    by_cases h3 : prod l ≤ 48
    · rw [szE_ok (Sizes.of hd hup h3)]
      repeat' first
        | ((with_reducible refine Nx.is_wp ?_); first | refine Nx.wo ?_ | refine Nx.zp (fun hc => ?_) (fun hc => ?_))
        | (refine Nx.zo ?_; first | refine Nx.opr rfl rfl ?_ | refine Nx.so ?_ | refine Nx.sb (fun bx => ?_) | refine Nx.sa (fun A2 c2 => ?_))
        | refine Nx.za ?_ | refine Nx.zr (fun hc => ?_) (fun hc => ?_)
        | refine Nx.zq ?_ | refine Nx.zu (fun hc => ?_) (fun hc => ?_)
        | refine Nx.zx ?_ | fail
      exact Nx.ret_fn rfl [] ⟨rfl, rfl⟩ (by (exact Ent.auto))
    · rw [szE_no fun h => h3 h.cells]
      repeat' first
        | ((with_reducible refine Nx.is_wp ?_); first | refine Nx.wo ?_ | refine Nx.zp (fun hc => ?_) (fun hc => ?_))
        | (refine Nx.zo ?_; first | refine Nx.opr rfl rfl ?_ | refine Nx.so ?_ | refine Nx.sb (fun bx => ?_) | refine Nx.sa (fun A2 c2 => ?_))
        | refine Nx.za ?_ | refine Nx.zr (fun hc => ?_) (fun hc => ?_)
        | refine Nx.zq ?_ | refine Nx.zu (fun hc => ?_) (fun hc => ?_)
        | refine Nx.zx ?_ | fail
      exact Nx.ret_fn rfl [] ⟨rfl, rfl⟩ (by (exact Ent.auto))
  have hrd : ∀ (W : World) (R : List Res), Rd W I R ((ad A).add (k * 1)) (.int .i64 (l.getD k default)) := fun W R => hl.rd hkl
  have hAs := hl.isSome (by omega)
  have hps := prod_succ l k hkl
  have hmem : l.getD k default ∈ l := by rw [List.getD_eq_getElem?_getD, List.getElem?_eq_getElem hkl]; exact List.getElem_mem _
  have hup2 : (1 ≤ l.getD k default ∧ l.getD k default ≤ 8) → ∀ j, j < k + 1 → 1 ≤ l.getD j default ∧ l.getD j default ≤ 8 := fun h j hj => by
    rcases Nat.lt_or_ge j k with hj2 | hj2
    · exact hup j hj2
    · obtain rfl : j = k := by omega
      exact h
  have hbad : ¬ (1 ≤ l.getD k default ∧ l.getD k default ≤ 8) → szE l = 55 := fun h => szE_no fun hs => h (hs.each _ hmem)
  have hmul : (1 ≤ l.getD k default ∧ l.getD k default ≤ 8) → 1 ≤ prod (l.take k) * l.getD k default ∧ prod (l.take k) * l.getD k default ≤ 4096 := fun h => by rw [← hps]; exact pref_bd hd.2 (k + 1) hkl (hup2 h)
  generalize l.getD k default = x at hrd hps hup2 hbad hmul
  by_cases hx : 1 ≤ x ∧ x ≤ 8
  case neg =>
    rw [hbad hx]
    by_cases hx1 : x < 1
    · repeat' first
        | ((with_reducible refine Nx.is_wp ?_); first | refine Nx.wo ?_ | refine Nx.zp (fun hc => ?_) (fun hc => ?_))
        | (refine Nx.zo ?_; first | refine Nx.opr rfl rfl ?_ | refine Nx.indexAddr_nat rfl rfl rfl rfl rfl hkl hAs ?_ | refine Nx.load rfl rfl rfl (hrd _ _) ?_ | refine Nx.so ?_ | refine Nx.sb (fun bx => ?_) | refine Nx.sa (fun A2 c2 => ?_))
        | refine Nx.za ?_ | refine Nx.zr (fun hc => ?_) (fun hc => ?_)
        | refine Nx.zq ?_ | refine Nx.zu (fun hc => ?_) (fun hc => ?_)
        | refine Nx.zx ?_ | fail
      exact Nx.ret_fn rfl [] ⟨rfl, rfl⟩ (by (exact Ent.auto))
    · have hx8 : 8 < x := by omega
      repeat' first
        | ((with_reducible refine Nx.is_wp ?_); first | refine Nx.wo ?_ | refine Nx.zp (fun hc => ?_) (fun hc => ?_))
        | (refine Nx.zo ?_; first | refine Nx.opr rfl rfl ?_ | refine Nx.indexAddr_nat rfl rfl rfl rfl rfl hkl hAs ?_ | refine Nx.load rfl rfl rfl (hrd _ _) ?_ | refine Nx.so ?_ | refine Nx.sb (fun bx => ?_) | refine Nx.sa (fun A2 c2 => ?_))
        | refine Nx.za ?_ | refine Nx.zr (fun hc => ?_) (fun hc => ?_)
        | refine Nx.zq ?_ | refine Nx.zu (fun hc => ?_) (fun hc => ?_)
        | refine Nx.zx ?_ | fail
      exact Nx.ret_fn rfl [] ⟨rfl, rfl⟩ (by (exact Ent.auto))
  have hm := hmul hx
  repeat' first
    | ((with_reducible refine Nx.is_wp ?_); first | refine Nx.wo ?_ | refine Nx.zp (fun hc => ?_) (fun hc => ?_))
    | (refine Nx.zo ?_; first | refine Nx.opr rfl rfl ?_ | refine Nx.indexAddr_nat rfl rfl rfl rfl rfl hkl hAs ?_ | refine Nx.load rfl rfl rfl (hrd _ _) ?_ | refine Nx.so ?_ | refine Nx.sb (fun bx => ?_) | refine Nx.sa (fun A2 c2 => ?_))
    | refine Nx.za ?_ | refine Nx.zr (fun hc => ?_) (fun hc => ?_)
    | refine Nx.zq ?_ | refine Nx.zu (fun hc => ?_) (fun hc => ?_)
    | refine Nx.zx ?_ | fail
  exact Nx.again (k + 1) ⟨hkl, hup2 hx⟩ (by omega) ⟨rfl, rfl, rfl, by rw [hps]; rfl, trivial⟩ (by (exact Ent.auto))
end Go.Proofs.YtpmlehplbobjmaaDoor
/- Contracts of functions of the given program, and lemmas about plain lists and numbers: what the laws of this seat lean on. -/
namespace Go.Proofs.YtpmlehplbobjmaaDoor
open Go.Eng
attribute [local irreducible] opK wpList Code.wp Exit.then Exit.inBlock fnPost bodyPost Nx Calls Oper.wp Rd Rds Wr Ent Stars Blk Again Vec FnSpec wpMix QRun Stop Upto wpAt
/-! Any views -/
def dimB (n : Int) (g : List Int) : Bool := decide ((g.length : Int) = n) && numbB g
def viewB (l : List Int) (v : List Row) : Bool := sizesB l && decide (v.length = l.length) && (List.range l.length).all fun k => dimB (l.getD k default) (v.getD k default).2.2
theorem view_iff {l : List Int} {v : List Row} : viewB l v = true ↔ Sizes l ∧ Viewed l v := by
  unfold viewB
  rw [Bool.and_eq_true, Bool.and_eq_true, decide_eq_true_eq, List.all_eq_true, sizes_iff]
  constructor
  · rintro ⟨⟨h1, h2⟩, h3⟩
    refine ⟨h1, h2, fun k hk => ?_⟩
    have := h3 k (List.mem_range.2 hk)
    unfold dimB at this
    rw [Bool.and_eq_true, decide_eq_true_eq] at this
    exact this
  · rintro ⟨h1, h2, h3⟩
    refine ⟨⟨h1, h2⟩, fun k hk => ?_⟩
    have := h3 k (List.mem_range.1 hk)
    unfold dimB
    rw [Bool.and_eq_true, decide_eq_true_eq]
    exact this
def viE (l : List Int) (v : List Row) : Int := if viewB l v = true then 0 else 55
theorem viE_ok {l : List Int} {v : List Row} (h1 : Sizes l) (h2 : Viewed l v) : viE l v = 0 := by unfold viE; rw [if_pos (view_iff.2 ⟨h1, h2⟩)]
theorem viE_no {l : List Int} {v : List Row} (h : ¬ (Sizes l ∧ Viewed l v)) : viE l v = 55 := by unfold viE; rw [if_neg fun h2 => h (view_iff.1 h2)]
theorem Viewed.of {l : List Int} {v : List Row} (h1 : v.length = l.length) (h2 : ∀ j, j < v.length → dimB (l.getD j default) (v.getD j default).2.2 = true) : Viewed l v := ⟨h1, fun k hk => by
  have := h2 k (by omega)
  unfold dimB at this
  rw [Bool.and_eq_true, decide_eq_true_eq] at this
  exact this⟩
theorem Viewed.dim {l : List Int} {v : List Row} (h : Viewed l v) {k : Nat} (hk : k < l.length) : dimB (l.getD k default) (v.getD k default).2.2 = true := by
  unfold dimB
  rw [Bool.and_eq_true, decide_eq_true_eq]
  exact h.each k hk
set_option maxRecDepth 10000 in
set_option maxHeartbeats 4000000 in
theorem ViewA_spec (A B : Option Addr) (c cv : Nat) (l : List Int) (v : List Row) (I : PH) (hl : Ints I A c l) (hv : RowsOf I B cv v) :
    FnSpec Tryd.prog 28 [.agg #[.slice A l.length c], .agg #[.slice B v.length cv]] I [] (fun u R' => u = .int .i64 (viE l v) ∧ R' = []) := by
  have hlen := hl.len
  have hvlen := hv.outer.len
  have hC := CheckA_spec A c l I hl
  refine FnSpec.enterP Tryd.func28 rfl Tryd.ntmps28 rfl fun w F => ?_
  by_cases hs : Sizes l
  case neg =>
    rw [szE_no hs] at hC
    rw [viE_no fun h => hs h.1]
    repeat' first
      | ((with_reducible refine Nx.is_wp ?_); first | refine Nx.wo ?_ | refine Nx.zp (fun hc => ?_) (fun hc => ?_))
      | (refine Nx.zo ?_; first | refine Nx.opr rfl rfl ?_ | refine Nx.callv rfl rfl rfl (by kernel_rfl) rfl hC ?_ | refine Nx.so ?_ | refine Nx.sb (fun bx => ?_) | refine Nx.sa (fun A2 c2 => ?_))
      | refine Nx.za ?_ | refine Nx.zr (fun hc => ?_) (fun hc => ?_)
      | refine Nx.zq ?_ | refine Nx.zu (fun hc => ?_) (fun hc => ?_)
      | refine Nx.zx ?_ | fail
    exact Nx.ret_fn rfl [] ⟨rfl, rfl⟩ (by (exact Ent.auto))
  rw [szE_ok hs] at hC
  by_cases hvl : v.length = l.length
  case neg =>
    rw [viE_no fun h => hvl h.2.len]
    have hne : ¬ (v.length : Int) = l.length := by omega
    repeat' first
      | ((with_reducible refine Nx.is_wp ?_); first | refine Nx.wo ?_ | refine Nx.zp (fun hc => ?_) (fun hc => ?_))
      | (refine Nx.zo ?_; first | refine Nx.opr rfl rfl ?_ | refine Nx.callv rfl rfl rfl (by kernel_rfl) rfl hC ?_ | refine Nx.so ?_ | refine Nx.sb (fun bx => ?_) | refine Nx.sa (fun A2 c2 => ?_))
      | refine Nx.za ?_ | refine Nx.zr (fun hc => ?_) (fun hc => ?_)
      | refine Nx.zq ?_ | refine Nx.zu (fun hc => ?_) (fun hc => ?_)
      | refine Nx.zx ?_ | fail
    exact Nx.ret_fn rfl [] ⟨rfl, rfl⟩ (by (exact Ent.auto))
  repeat' first
    | ((with_reducible refine Nx.is_wp ?_); first | refine Nx.wo ?_ | refine Nx.zp (fun hc => ?_) (fun hc => ?_))
    | (refine Nx.zo ?_; first | refine Nx.opr rfl rfl ?_ | refine Nx.callv rfl rfl rfl (by kernel_rfl) rfl hC ?_ | refine Nx.so ?_ | refine Nx.sb (fun bx => ?_) | refine Nx.sa (fun A2 c2 => ?_))
    | refine Nx.za ?_ | refine Nx.zr (fun hc => ?_) (fun hc => ?_)
    | refine Nx.zq ?_ | refine Nx.zu (fun hc => ?_) (fun hc => ?_)
    | refine Nx.zx ?_ | fail
  rename_i b2
  revert bx; intro b3
  refine Nx.p_loop (σ := Nat) (fun k => [(2, .pointer (some ⟨b2, 0, none⟩)), (21, .slice B v.length cv), (22, .int .i64 v.length), (23, .int .i64 (k : Int))])
    (fun _ => [Blk b2 27 [.slice A l.length c], F]) (fun k => k ≤ v.length ∧ ∀ j, j < k → dimB (l.getD j default) (v.getD j default).2.2 = true) (fun k => v.length - k) 0 rfl ⟨Nat.zero_le _, fun j hj => absurd hj (Nat.not_lt_zero _)⟩ ⟨rfl, rfl, rfl, rfl, trivial⟩ (by (exact Ent.auto)) ?_
  rintro k ⟨hk, hup⟩
  by_cases hkv : k < v.length
  case neg =>
    obtain rfl : k = v.length := by omega
    rw [viE_ok hs (Viewed.of hvl hup)]
    repeat' first
      | ((with_reducible refine Nx.is_wp ?_); first | refine Nx.wo ?_ | refine Nx.zp (fun hc => ?_) (fun hc => ?_))
      | (refine Nx.zo ?_; first | refine Nx.opr rfl rfl ?_ | refine Nx.so ?_ | refine Nx.sb (fun bx => ?_) | refine Nx.sa (fun A2 c2 => ?_))
      | refine Nx.za ?_ | refine Nx.zr (fun hc => ?_) (fun hc => ?_)
      | refine Nx.zq ?_ | refine Nx.zu (fun hc => ?_) (fun hc => ?_)
      | refine Nx.zx ?_ | fail
    exact Nx.ret_fn rfl [] ⟨rfl, rfl⟩ (by (exact Ent.auto))
  have hrow := hv.at hkv
  have hrd : ∀ (W : World) (R : List Res), Rd W I R ((ad B).add (k * 1)) (rowV (v.getD k default)) := fun W R => hv.outer.rd hkv
  have hsz : ∀ (W : World) (R : List Res), Rd W I R ((ad A).add (k * 1)) (.int .i64 (l.getD k default)) := fun W R => hl.rd (by omega)
  have hAl := hl.isSome (by omega)
  have hBv := hv.outer.isSome (by omega)
  have hup2 : dimB (l.getD k default) (v.getD k default).2.2 = true → ∀ j, j < k + 1 → dimB (l.getD j default) (v.getD j default).2.2 = true := fun h j hj => by
    rcases Nat.lt_or_ge j k with hj2 | hj2
    · exact hup j hj2
    · obtain rfl : j = k := by omega
      exact h
  have hbad : ¬ dimB (l.getD k default) (v.getD k default).2.2 = true → viE l v = 55 := fun h => viE_no fun hs => h (hs.2.dim (by omega))
  generalize v.getD k default = rw' at hrow hrd hup2 hbad
  generalize l.getD k default = n at hsz hup2 hbad
  obtain ⟨G, cg, g⟩ := rw'
  dsimp only at hrow hup2 hbad
  replace hrd : ∀ (W : World) (R : List Res), Rd W I R ((ad B).add (k * 1)) (.slice G g.length cg) := hrd
  have hglen := hrow.len
  have hN := numbered_spec G cg g I hrow
  by_cases hgl : (g.length : Int) = n
  case neg =>
    rw [hbad (by unfold dimB; rw [decide_eq_false hgl]; simp)]
    repeat' first
      | ((with_reducible refine Nx.is_wp ?_); first | refine Nx.wo ?_ | refine Nx.zp (fun hc => ?_) (fun hc => ?_))
      | (refine Nx.zo ?_; first | refine Nx.opr rfl rfl ?_ | refine Nx.indexAddr_nat (A := B) (i := k) (sz := 1) rfl rfl rfl rfl rfl hkv hBv ?_ | refine Nx.load rfl rfl rfl (hrd _ _) ?_ | refine Nx.indexAddr_nat (A := A) (i := k) (sz := 1) rfl rfl rfl rfl rfl (by omega) hAl ?_ | refine Nx.load rfl rfl rfl (hsz _ _) ?_ | refine Nx.so ?_ | refine Nx.sb (fun bx => ?_) | refine Nx.sa (fun A2 c2 => ?_))
      | refine Nx.za ?_ | refine Nx.zr (fun hc => ?_) (fun hc => ?_)
      | refine Nx.zq ?_ | refine Nx.zu (fun hc => ?_) (fun hc => ?_)
      | refine Nx.zx ?_ | fail
    exact Nx.ret_fn rfl [] ⟨rfl, rfl⟩ (by (exact Ent.auto))
  subst hgl
  have hdm : dimB (g.length : Int) g = numbB g := by unfold dimB; rw [decide_eq_true rfl]; rfl
  rw [hdm] at hup2 hbad
  generalize numbB g = nb at hN hup2 hbad
  cases nb with
  | false =>
    rw [hbad (by decide)]
    repeat' first
      | ((with_reducible refine Nx.is_wp ?_); first | refine Nx.wo ?_ | refine Nx.zp (fun hc => ?_) (fun hc => ?_))
      | (refine Nx.zo ?_; first | refine Nx.opr rfl rfl ?_ | refine Nx.indexAddr_nat (A := B) (i := k) (sz := 1) rfl rfl rfl rfl rfl hkv hBv ?_ | refine Nx.load rfl rfl rfl (hrd _ _) ?_ | refine Nx.indexAddr_nat (A := A) (i := k) (sz := 1) rfl rfl rfl rfl rfl (by omega) hAl ?_ | refine Nx.load rfl rfl rfl (hsz _ _) ?_ | refine Nx.callv rfl rfl rfl (by kernel_rfl) rfl hN ?_ | refine Nx.so ?_ | refine Nx.sb (fun bx => ?_) | refine Nx.sa (fun A2 c2 => ?_))
      | refine Nx.za ?_ | refine Nx.zr (fun hc => ?_) (fun hc => ?_)
      | refine Nx.zq ?_ | refine Nx.zu (fun hc => ?_) (fun hc => ?_)
      | refine Nx.zx ?_ | fail
    exact Nx.ret_fn rfl [] ⟨rfl, rfl⟩ (by (exact Ent.auto))
  | true =>
    repeat' first
      | ((with_reducible refine Nx.is_wp ?_); first | refine Nx.wo ?_ | refine Nx.zp (fun hc => ?_) (fun hc => ?_))
      | (refine Nx.zo ?_; first | refine Nx.opr rfl rfl ?_ | refine Nx.indexAddr_nat (A := B) (i := k) (sz := 1) rfl rfl rfl rfl rfl hkv hBv ?_ | refine Nx.load rfl rfl rfl (hrd _ _) ?_ | refine Nx.indexAddr_nat (A := A) (i := k) (sz := 1) rfl rfl rfl rfl rfl (by omega) hAl ?_ | refine Nx.load rfl rfl rfl (hsz _ _) ?_ | refine Nx.callv rfl rfl rfl (by kernel_rfl) rfl hN ?_ | refine Nx.so ?_ | refine Nx.sb (fun bx => ?_) | refine Nx.sa (fun A2 c2 => ?_))
      | refine Nx.za ?_ | refine Nx.zr (fun hc => ?_) (fun hc => ?_)
      | refine Nx.zq ?_ | refine Nx.zu (fun hc => ?_) (fun hc => ?_)
      | refine Nx.zx ?_ | fail
    exact Nx.again (k + 1) ⟨hkv, hup2 rfl⟩ (by omega) ⟨rfl, rfl, rfl, rfl, trivial⟩ (by (exact Ent.auto))
theorem numbB_some {g : List Int} {m : Int} (h : numb g 0 = some m) : numbB g = decide (0 < m) := by unfold numbB; rw [h]
theorem numbB_none {g : List Int} (h : numb g 0 = none) : numbB g = false := by unfold numbB; rw [h]
set_option maxRecDepth 10000 in
set_option maxHeartbeats 4000000 in
theorem RViewA_spec (A B : Option Addr) (c cv : Nat) (l : List Int) (v : List Row) (I : PH) (hl : Ints I A c l) (hv : RowsOf I B cv v) :
    FnSpec Tryd.prog 44 [.agg #[.slice A l.length c], .agg #[.slice B v.length cv]] I [] (fun u R' => u = .int .i64 (viE l v) ∧ R' = []) := by
  have hlen := hl.len
  have hvlen := hv.outer.len
  have hC := RCheckA_spec A c l I hl
  refine FnSpec.enterP Tryd.func44 rfl Tryd.ntmps44 rfl fun w F => ?_
  by_cases hs : Sizes l
  case neg =>
    rw [szE_no hs] at hC
    rw [viE_no fun h => hs h.1]
    repeat' first
      | ((with_reducible refine Nx.is_wp ?_); first | refine Nx.wo ?_ | refine Nx.zp (fun hc => ?_) (fun hc => ?_))
      | (refine Nx.zo ?_; first | refine Nx.opr rfl rfl ?_ | refine Nx.callv rfl rfl rfl (by kernel_rfl) rfl hC ?_ | refine Nx.so ?_ | refine Nx.sb (fun bx => ?_) | refine Nx.sa (fun A2 c2 => ?_))
      | refine Nx.za ?_ | refine Nx.zr (fun hc => ?_) (fun hc => ?_)
      | refine Nx.zq ?_ | refine Nx.zu (fun hc => ?_) (fun hc => ?_)
      | refine Nx.zx ?_ | fail
    exact Nx.ret_fn rfl [] ⟨rfl, rfl⟩ (by (exact Ent.auto))
  rw [szE_ok hs] at hC
  by_cases hvl : v.length = l.length
  case neg =>
    rw [viE_no fun h => hvl h.2.len]
    have hne : ¬ (v.length : Int) = l.length := by omega
    repeat' first
      | ((with_reducible refine Nx.is_wp ?_); first | refine Nx.wo ?_ | refine Nx.zp (fun hc => ?_) (fun hc => ?_))
      | (refine Nx.zo ?_; first | refine Nx.opr rfl rfl ?_ | refine Nx.callv rfl rfl rfl (by kernel_rfl) rfl hC ?_ | refine Nx.so ?_ | refine Nx.sb (fun bx => ?_) | refine Nx.sa (fun A2 c2 => ?_))
      | refine Nx.za ?_ | refine Nx.zr (fun hc => ?_) (fun hc => ?_)
      | refine Nx.zq ?_ | refine Nx.zu (fun hc => ?_) (fun hc => ?_)
      | refine Nx.zx ?_ | fail
    exact Nx.ret_fn rfl [] ⟨rfl, rfl⟩ (by (exact Ent.auto))
  repeat' first
    | ((with_reducible refine Nx.is_wp ?_); first | refine Nx.wo ?_ | refine Nx.zp (fun hc => ?_) (fun hc => ?_))
    | (refine Nx.zo ?_; first | refine Nx.opr rfl rfl ?_ | refine Nx.callv rfl rfl rfl (by kernel_rfl) rfl hC ?_ | refine Nx.so ?_ | refine Nx.sb (fun bx => ?_) | refine Nx.sa (fun A2 c2 => ?_))
    | refine Nx.za ?_ | refine Nx.zr (fun hc => ?_) (fun hc => ?_)
    | refine Nx.zq ?_ | refine Nx.zu (fun hc => ?_) (fun hc => ?_)
    | refine Nx.zx ?_ | fail
  rename_i b2
  revert bx; intro b3
  refine Nx.p_loop (σ := Nat) (fun i => [(2, .pointer (some ⟨b2, 0, none⟩)), (24, .slice B v.length cv), (25, .int .i64 v.length), (26, .int .i64 (i : Int))])
    (fun _ => [Blk b3 31 [.slice B v.length cv], Blk b2 27 [.slice A l.length c], F]) (fun k => k ≤ v.length ∧ ∀ j, j < k → dimB (l.getD j default) (v.getD j default).2.2 = true) (fun i => v.length - i) 0 rfl ⟨Nat.zero_le _, fun j hj => absurd hj (Nat.not_lt_zero _)⟩ ⟨rfl, rfl, rfl, rfl, trivial⟩ (by (exact Ent.auto)) ?_
  rintro i ⟨hi, hup⟩
  by_cases hiv : i < v.length
  case neg =>
    obtain rfl : i = v.length := by omega
    rw [viE_ok hs (Viewed.of hvl hup)]
    repeat' first
      | ((with_reducible refine Nx.is_wp ?_); first | refine Nx.wo ?_ | refine Nx.zp (fun hc => ?_) (fun hc => ?_))
      | (refine Nx.zo ?_; first | refine Nx.opr rfl rfl ?_ | refine Nx.so ?_ | refine Nx.sb (fun bx => ?_) | refine Nx.sa (fun A2 c2 => ?_))
      | refine Nx.za ?_ | refine Nx.zr (fun hc => ?_) (fun hc => ?_)
      | refine Nx.zq ?_ | refine Nx.zu (fun hc => ?_) (fun hc => ?_)
      | refine Nx.zx ?_ | fail
    exact Nx.ret_fn rfl [] ⟨rfl, rfl⟩ (by (exact Ent.auto))
  have hrow := hv.at hiv
  have hrd : ∀ (W : World) (R : List Res), Rd W I R ((ad B).add (i * 1)) (rowV (v.getD i default)) := fun W R => hv.outer.rd hiv
  have hsz : ∀ (W : World) (R : List Res), Rd W I R ((ad A).add (i * 1)) (.int .i64 (l.getD i default)) := fun W R => hl.rd (by omega)
  have hAl := hl.isSome (by omega)
  have hBv := hv.outer.isSome (by omega)
  have hup2 : dimB (l.getD i default) (v.getD i default).2.2 = true → ∀ j, j < i + 1 → dimB (l.getD j default) (v.getD j default).2.2 = true := fun h j hj => by
    rcases Nat.lt_or_ge j i with hj2 | hj2
    · exact hup j hj2
    · obtain rfl : j = i := by omega
      exact h
  have hbad : ¬ dimB (l.getD i default) (v.getD i default).2.2 = true → viE l v = 55 := fun h => viE_no fun hs => h (hs.2.dim (by omega))
  generalize v.getD i default = rw' at hrow hrd hup2 hbad
  generalize l.getD i default = n at hsz hup2 hbad
  obtain ⟨G, cg, g⟩ := rw'
  dsimp only at hrow hup2 hbad
  replace hrd : ∀ (W : World) (R : List Res), Rd W I R ((ad B).add (i * 1)) (.slice G g.length cg) := hrd
  have hglen := hrow.len
  by_cases hgl : (g.length : Int) = n
  case neg =>
    rw [hbad (by unfold dimB; rw [decide_eq_false hgl]; simp)]
    repeat' first
      | ((with_reducible refine Nx.is_wp ?_); first | refine Nx.wo ?_ | refine Nx.zp (fun hc => ?_) (fun hc => ?_))
      | (refine Nx.zo ?_; first | refine Nx.opr rfl rfl ?_ | refine Nx.indexAddr_nat (A := B) (i := i) (sz := 1) rfl rfl rfl rfl rfl hiv hBv ?_ | refine Nx.load rfl rfl rfl (hrd _ _) ?_ | refine Nx.indexAddr_nat (A := A) (i := i) (sz := 1) rfl rfl rfl rfl rfl (by omega) hAl ?_ | refine Nx.load rfl rfl rfl (hsz _ _) ?_ | refine Nx.so ?_ | refine Nx.sb (fun bx => ?_) | refine Nx.sa (fun A2 c2 => ?_))
      | refine Nx.za ?_ | refine Nx.zr (fun hc => ?_) (fun hc => ?_)
      | refine Nx.zq ?_ | refine Nx.zu (fun hc => ?_) (fun hc => ?_)
      | refine Nx.zx ?_ | fail
    exact Nx.ret_fn rfl [] ⟨rfl, rfl⟩ (by (exact Ent.auto))
  subst hgl
  have hdm : dimB (g.length : Int) g = numbB g := by unfold dimB; rw [decide_eq_true rfl]; rfl
  rw [hdm] at hup2 hbad
  repeat' first
    | ((with_reducible refine Nx.is_wp ?_); first | refine Nx.wo ?_ | refine Nx.zp (fun hc => ?_) (fun hc => ?_))
    | (refine Nx.zo ?_; first | refine Nx.opr rfl rfl ?_ | refine Nx.indexAddr_nat (A := B) (i := i) (sz := 1) rfl rfl rfl rfl rfl hiv hBv ?_ | refine Nx.load rfl rfl rfl (hrd _ _) ?_ | refine Nx.indexAddr_nat (A := A) (i := i) (sz := 1) rfl rfl rfl rfl rfl (by omega) hAl ?_ | refine Nx.load rfl rfl rfl (hsz _ _) ?_ | refine Nx.so ?_ | refine Nx.sb (fun bx => ?_) | refine Nx.sa (fun A2 c2 => ?_))
    | refine Nx.za ?_ | refine Nx.zr (fun hc => ?_) (fun hc => ?_)
    | refine Nx.zq ?_ | refine Nx.zu (fun hc => ?_) (fun hc => ?_)
    | refine Nx.zx ?_ | fail
  refine Nx.p_loop (σ := Nat × Int) (fun s => [(2, .pointer (some ⟨b2, 0, none⟩)), (24, .slice B v.length cv), (25, .int .i64 v.length), (26, .int .i64 (i : Int)), (39, .slice G g.length cg), (40, .int .i64 g.length), (41, .int .i64 (s.1 : Int)), (8, .int .i64 s.2)])
    (fun _ => [Blk b3 31 [.slice B v.length cv], Blk b2 27 [.slice A l.length c], F]) (fun s => s.1 ≤ g.length ∧ 0 ≤ s.2 ∧ s.2 ≤ s.1 ∧ numb g 0 = numb (g.drop s.1) s.2) (fun s => g.length - s.1) (0, 0) rfl ⟨Nat.zero_le _, by decide, by simp, rfl⟩ ⟨rfl, rfl, rfl, rfl, rfl, rfl, rfl, rfl, trivial⟩ (by (exact Ent.auto)) ?_
  rintro ⟨k, nx⟩ ⟨hk, h0, h1, he⟩
  dsimp only at hk h0 h1 he ⊢
  by_cases hkg : k < g.length
  case neg =>
    rw [List.drop_eq_nil_of_le (by omega)] at he
    have hnb := numbB_some (m := nx) he
    by_cases hn0 : nx = 0
    · subst hn0
      rw [hbad (by rw [hnb]; decide)]
      repeat' first
        | ((with_reducible refine Nx.is_wp ?_); first | refine Nx.wo ?_ | refine Nx.zp (fun hc => ?_) (fun hc => ?_))
        | (refine Nx.zo ?_; first | refine Nx.opr rfl rfl ?_ | refine Nx.so ?_ | refine Nx.sb (fun bx => ?_) | refine Nx.sa (fun A2 c2 => ?_))
        | refine Nx.za ?_ | refine Nx.zr (fun hc => ?_) (fun hc => ?_)
        | refine Nx.zq ?_ | refine Nx.zu (fun hc => ?_) (fun hc => ?_)
        | refine Nx.zx ?_ | fail
      exact Nx.ret_fn rfl [] ⟨rfl, rfl⟩ (by (exact Ent.auto))
    · repeat' first
        | ((with_reducible refine Nx.is_wp ?_); first | refine Nx.wo ?_ | refine Nx.zp (fun hc => ?_) (fun hc => ?_))
        | (refine Nx.zo ?_; first | refine Nx.opr rfl rfl ?_ | refine Nx.so ?_ | refine Nx.sb (fun bx => ?_) | refine Nx.sa (fun A2 c2 => ?_))
        | refine Nx.za ?_ | refine Nx.zr (fun hc => ?_) (fun hc => ?_)
        | refine Nx.zq ?_ | refine Nx.zu (fun hc => ?_) (fun hc => ?_)
        | refine Nx.zx ?_ | fail
      exact Nx.again (i + 1) ⟨hiv, hup2 (by rw [hnb]; exact decide_eq_true (by omega))⟩ (by omega) ⟨rfl, rfl, rfl, rfl, trivial⟩ (by (exact Ent.auto))
  have hd : numb g 0 = if g.getD k default < -1 ∨ nx < g.getD k default then none else numb (g.drop (k + 1)) (if g.getD k default = nx then nx + 1 else nx) := by rw [he, drop_at hkg]; rfl
  have hgr : ∀ (W : World) (R : List Res), Rd W I R ((ad G).add (k * 1)) (.int .i64 (g.getD k default)) := fun W R => hrow.rd hkg
  have hGs := hrow.isSome (by omega)
  generalize g.getD k default = y at hd hgr
  by_cases hok : y < -1 ∨ nx < y
  · rw [if_pos hok] at hd
    rw [hbad (by rw [numbB_none hd]; decide)]
    by_cases hy1 : y < -1
    · repeat' first
        | ((with_reducible refine Nx.is_wp ?_); first | refine Nx.wo ?_ | refine Nx.zp (fun hc => ?_) (fun hc => ?_))
        | (refine Nx.zo ?_; first | refine Nx.opr rfl rfl ?_ | refine Nx.indexAddr_nat (A := G) (i := k) (sz := 1) rfl rfl rfl rfl rfl hkg hGs ?_ | refine Nx.load rfl rfl rfl (hgr _ _) ?_ | refine Nx.so ?_ | refine Nx.sb (fun bx => ?_) | refine Nx.sa (fun A2 c2 => ?_))
        | refine Nx.za ?_ | refine Nx.zr (fun hc => ?_) (fun hc => ?_)
        | refine Nx.zq ?_ | refine Nx.zu (fun hc => ?_) (fun hc => ?_)
        | refine Nx.zx ?_ | fail
      exact Nx.ret_fn rfl [] ⟨rfl, rfl⟩ (by (exact Ent.auto))
    · have hy2 : nx < y := hok.resolve_left hy1
      repeat' first
        | ((with_reducible refine Nx.is_wp ?_); first | refine Nx.wo ?_ | refine Nx.zp (fun hc => ?_) (fun hc => ?_))
        | (refine Nx.zo ?_; first | refine Nx.opr rfl rfl ?_ | refine Nx.indexAddr_nat (A := G) (i := k) (sz := 1) rfl rfl rfl rfl rfl hkg hGs ?_ | refine Nx.load rfl rfl rfl (hgr _ _) ?_ | refine Nx.so ?_ | refine Nx.sb (fun bx => ?_) | refine Nx.sa (fun A2 c2 => ?_))
        | refine Nx.za ?_ | refine Nx.zr (fun hc => ?_) (fun hc => ?_)
        | refine Nx.zq ?_ | refine Nx.zu (fun hc => ?_) (fun hc => ?_)
        | refine Nx.zx ?_ | fail
      exact Nx.ret_fn rfl [] ⟨rfl, rfl⟩ (by (exact Ent.auto))
  rw [if_neg hok] at hd
  by_cases hyn : y = nx
  · rw [if_pos hyn] at hd
    repeat' first
      | ((with_reducible refine Nx.is_wp ?_); first | refine Nx.wo ?_ | refine Nx.zp (fun hc => ?_) (fun hc => ?_))
      | (refine Nx.zo ?_; first | refine Nx.opr rfl rfl ?_ | refine Nx.indexAddr_nat (A := G) (i := k) (sz := 1) rfl rfl rfl rfl rfl hkg hGs ?_ | refine Nx.load rfl rfl rfl (hgr _ _) ?_ | refine Nx.so ?_ | refine Nx.sb (fun bx => ?_) | refine Nx.sa (fun A2 c2 => ?_))
      | refine Nx.za ?_ | refine Nx.zr (fun hc => ?_) (fun hc => ?_)
      | refine Nx.zq ?_ | refine Nx.zu (fun hc => ?_) (fun hc => ?_)
      | refine Nx.zx ?_ | fail
    exact Nx.again (k + 1, nx + 1) ⟨hkg, by dsimp only; omega, by dsimp only; omega, hd⟩ (by dsimp only; omega) ⟨rfl, rfl, rfl, rfl, rfl, rfl, rfl, rfl, trivial⟩ (by (exact Ent.auto))
  · rw [if_neg hyn] at hd
    repeat' first
      | ((with_reducible refine Nx.is_wp ?_); first | refine Nx.wo ?_ | refine Nx.zp (fun hc => ?_) (fun hc => ?_))
      | (refine Nx.zo ?_; first | refine Nx.opr rfl rfl ?_ | refine Nx.indexAddr_nat (A := G) (i := k) (sz := 1) rfl rfl rfl rfl rfl hkg hGs ?_ | refine Nx.load rfl rfl rfl (hgr _ _) ?_ | refine Nx.so ?_ | refine Nx.sb (fun bx => ?_) | refine Nx.sa (fun A2 c2 => ?_))
      | refine Nx.za ?_ | refine Nx.zr (fun hc => ?_) (fun hc => ?_)
      | refine Nx.zq ?_ | refine Nx.zu (fun hc => ?_) (fun hc => ?_)
      | refine Nx.zx ?_ | fail
    exact Nx.again (k + 1, nx) ⟨hkg, by dsimp only; omega, by dsimp only; omega, hd⟩ (by dsimp only; omega) ⟨rfl, rfl, rfl, rfl, rfl, rfl, rfl, rfl, trivial⟩ (by (exact Ent.auto))
end Go.Proofs.YtpmlehplbobjmaaDoor
/- Contracts of functions of the given program, and lemmas about plain lists and numbers: what the laws of this seat lean on. -/
namespace Go.Proofs.YtpmlehplbobjmaaDoor
open Go.Eng
attribute [local irreducible] opK wpList Code.wp Exit.then Exit.inBlock fnPost bodyPost Nx Calls Oper.wp Rd Rds Wr Ent Stars Blk Again Vec FnSpec wpMix QRun Stop Upto wpAt
/-! Any spaces, views, numbers and tables: Count, Published, Members, Publish -/
abbrev isR (A : Option Addr) (c : Nat) (l : List Int) : Res := Vec 3 1 A l.length c (l.map (Value.int .i64))
def cntA (l : List Int) : Int := if sizesB l = true then prod l else 0
set_option maxHeartbeats 2000000 in
set_option maxRecDepth 10000 in
theorem CountA_spec (A : Option Addr) (c : Nat) (l : List Int) (I : PH) (hl : Ints I A c l) :
    FnSpec Tryd.prog 22 [.agg #[.slice A l.length c]] I [] (fun v R' => v = .int .i64 (cntA l) ∧ R' = []) := by
  unfold cntA
  by_cases hs : Sizes l
  · rw [if_pos (sizes_iff.2 hs)]; exact Count_spec A c l I hl hs
  · rw [if_neg fun h => hs (sizes_iff.1 h)]
    have hC := CheckA_spec A c l I hl
    rw [szE_no hs] at hC
    refine FnSpec.enterP Tryd.func22 rfl Tryd.ntmps22 rfl fun w F => ?_
    repeat' first
      | ((with_reducible refine Nx.is_wp ?_); first | refine Nx.wo ?_ | refine Nx.zp (fun hc => ?_) (fun hc => ?_))
      | (refine Nx.zo ?_; first | refine Nx.opr rfl rfl ?_ | refine Nx.callv rfl rfl rfl (by kernel_rfl) rfl hC ?_ | refine Nx.so ?_ | refine Nx.sb (fun bx => ?_) | refine Nx.sa (fun A2 c2 => ?_))
      | refine Nx.za ?_ | refine Nx.zr (fun hc => ?_) (fun hc => ?_)
      | refine Nx.zq ?_ | refine Nx.zu (fun hc => ?_) (fun hc => ?_)
      | refine Nx.zx ?_ | fail
    exact Nx.ret_fn rfl [] ⟨rfl, rfl⟩ (by (exact Ent.auto))
set_option maxHeartbeats 2000000 in
set_option maxRecDepth 10000 in
theorem RCountA_spec (A : Option Addr) (c : Nat) (l : List Int) (I : PH) (hl : Ints I A c l) :
    FnSpec Tryd.prog 23 [.agg #[.slice A l.length c]] I [] (fun v R' => v = .int .i64 (cntA l) ∧ R' = []) := by
  unfold cntA
  by_cases hs : Sizes l
  · rw [if_pos (sizes_iff.2 hs)]; exact RCount_spec A c l I hl hs
  · rw [if_neg fun h => hs (sizes_iff.1 h)]
    have hC := RCheckA_spec A c l I hl
    rw [szE_no hs] at hC
    refine FnSpec.enterP Tryd.func23 rfl Tryd.ntmps23 rfl fun w F => ?_
    repeat' first
      | ((with_reducible refine Nx.is_wp ?_); first | refine Nx.wo ?_ | refine Nx.zp (fun hc => ?_) (fun hc => ?_))
      | (refine Nx.zo ?_; first | refine Nx.opr rfl rfl ?_ | refine Nx.callv rfl rfl rfl (by kernel_rfl) rfl hC ?_ | refine Nx.so ?_ | refine Nx.sb (fun bx => ?_) | refine Nx.sa (fun A2 c2 => ?_))
      | refine Nx.za ?_ | refine Nx.zr (fun hc => ?_) (fun hc => ?_)
      | refine Nx.zq ?_ | refine Nx.zu (fun hc => ?_) (fun hc => ?_)
      | refine Nx.zx ?_ | fail
    exact Nx.ret_fn rfl [] ⟨rfl, rfl⟩ (by (exact Ent.auto))
def pbdA (l : List Int) (v : List Row) : Int := if viewB l v = true then prod (szs v) else 0
set_option maxHeartbeats 2000000 in
set_option maxRecDepth 10000 in
theorem PublishedA_spec (A B : Option Addr) (c cv : Nat) (l : List Int) (v : List Row) (I : PH) (hl : Ints I A c l) (hv : RowsOf I B cv v) :
    FnSpec Tryd.prog 12 [.agg #[.slice A l.length c], .agg #[.slice B v.length cv]] I [] (fun u R' => u = .int .i64 (pbdA l v) ∧ R' = []) := by
  unfold pbdA
  by_cases hs : Sizes l ∧ Viewed l v
  · rw [if_pos (view_iff.2 hs)]; exact Published_spec A B c cv l v I hl hs.1 hv hs.2
  · rw [if_neg fun h => hs (view_iff.1 h)]
    have hC := ViewA_spec A B c cv l v I hl hv
    rw [viE_no hs] at hC
    refine FnSpec.enterP Tryd.func12 rfl Tryd.ntmps12 rfl fun w F => ?_
    repeat' first
      | ((with_reducible refine Nx.is_wp ?_); first | refine Nx.wo ?_ | refine Nx.zp (fun hc => ?_) (fun hc => ?_))
      | (refine Nx.zo ?_; first | refine Nx.opr rfl rfl ?_ | refine Nx.callv rfl rfl rfl (by kernel_rfl) rfl hC ?_ | refine Nx.so ?_ | refine Nx.sb (fun bx => ?_) | refine Nx.sa (fun A2 c2 => ?_))
      | refine Nx.za ?_ | refine Nx.zr (fun hc => ?_) (fun hc => ?_)
      | refine Nx.zq ?_ | refine Nx.zu (fun hc => ?_) (fun hc => ?_)
      | refine Nx.zx ?_ | fail
    exact Nx.ret_fn rfl [] ⟨rfl, rfl⟩ (by (exact Ent.auto))
set_option maxHeartbeats 2000000 in
set_option maxRecDepth 10000 in
theorem RPublishedA_spec (A B : Option Addr) (c cv : Nat) (l : List Int) (v : List Row) (I : PH) (hl : Ints I A c l) (hv : RowsOf I B cv v) :
    FnSpec Tryd.prog 45 [.agg #[.slice A l.length c], .agg #[.slice B v.length cv]] I [] (fun u R' => u = .int .i64 (pbdA l v) ∧ R' = []) := by
  unfold pbdA
  by_cases hs : Sizes l ∧ Viewed l v
  · rw [if_pos (view_iff.2 hs)]; exact RPublished_spec A B c cv l v I hl hs.1 hv hs.2
  · rw [if_neg fun h => hs (view_iff.1 h)]
    have hC := RViewA_spec A B c cv l v I hl hv
    rw [viE_no hs] at hC
    refine FnSpec.enterP Tryd.func45 rfl Tryd.ntmps45 rfl fun w F => ?_
    repeat' first
      | ((with_reducible refine Nx.is_wp ?_); first | refine Nx.wo ?_ | refine Nx.zp (fun hc => ?_) (fun hc => ?_))
      | (refine Nx.zo ?_; first | refine Nx.opr rfl rfl ?_ | refine Nx.callv rfl rfl rfl (by kernel_rfl) rfl hC ?_ | refine Nx.so ?_ | refine Nx.sb (fun bx => ?_) | refine Nx.sa (fun A2 c2 => ?_))
      | refine Nx.za ?_ | refine Nx.zr (fun hc => ?_) (fun hc => ?_)
      | refine Nx.zq ?_ | refine Nx.zu (fun hc => ?_) (fun hc => ?_)
      | refine Nx.zx ?_ | fail
    exact Nx.ret_fn rfl [] ⟨rfl, rfl⟩ (by (exact Ent.auto))
def memA (l : List Int) (v : List Row) (k : Int) : List Int × Int := if viewB l v = true then (if 0 ≤ k ∧ k < prod (szs v) then (memK l v k (prod l).toNat, 0) else ([], 2)) else ([], 55)
set_option maxHeartbeats 2000000 in
set_option maxRecDepth 10000 in
theorem MembersA_spec (A B : Option Addr) (c cv : Nat) (l : List Int) (v : List Row) (k : Int) (I : PH) (hl : Ints I A c l) (hv : RowsOf I B cv v) :
    FnSpec Tryd.prog 37 [.agg #[.slice A l.length c], .agg #[.slice B v.length cv], .int .i64 k] I [] (fun u R' => ∃ A' c', u = .tuple #[.slice A' (memA l v k).1.length c', .int .i64 (memA l v k).2] ∧ R' = [isR A' c' (memA l v k).1]) := by
  unfold memA
  by_cases hs : Sizes l ∧ Viewed l v
  case neg =>
    rw [if_neg fun h => hs (view_iff.1 h)]
    have hC := ViewA_spec A B c cv l v I hl hv
    rw [viE_no hs] at hC
    refine FnSpec.enterP Tryd.func37 rfl Tryd.ntmps37 rfl fun w F => ?_
    repeat' first
      | ((with_reducible refine Nx.is_wp ?_); first | refine Nx.wo ?_ | refine Nx.zp (fun hc => ?_) (fun hc => ?_))
      | (refine Nx.zo ?_; first | refine Nx.opr rfl rfl ?_ | refine Nx.callv rfl rfl rfl (by kernel_rfl) rfl hC ?_ | refine Nx.so ?_ | refine Nx.sb (fun bx => ?_) | refine Nx.sa (fun A2 c2 => ?_))
      | refine Nx.za ?_ | refine Nx.zr (fun hc => ?_) (fun hc => ?_)
      | refine Nx.zq ?_ | refine Nx.zu (fun hc => ?_) (fun hc => ?_)
      | refine Nx.zx ?_ | fail
    exact Nx.ret_fn rfl [_] ⟨none, 0, rfl, rfl⟩ ((Ent.vec_nil _ _ _).trans (by (exact Ent.auto)))
  rw [if_pos (view_iff.2 hs)]
  obtain ⟨hs, hw⟩ := hs
  by_cases hk : 0 ≤ k ∧ k < prod (szs v)
  · rw [if_pos hk]; exact Members_spec A B c cv l v k I hl hs hv hw hk
  rw [if_neg hk]
  have hC := ViewA_spec A B c cv l v I hl hv
  rw [viE_ok hs hw] at hC
  refine FnSpec.enterP Tryd.func37 rfl Tryd.ntmps37 rfl fun w F => ?_
  by_cases hk0 : k < 0
  · repeat' first
      | ((with_reducible refine Nx.is_wp ?_); first | refine Nx.wo ?_ | refine Nx.zp (fun hc => ?_) (fun hc => ?_))
      | (refine Nx.zo ?_; first | refine Nx.opr rfl rfl ?_ | refine Nx.callv rfl rfl rfl (by kernel_rfl) rfl hC ?_ | refine Nx.so ?_ | refine Nx.sb (fun bx => ?_) | refine Nx.sa (fun A2 c2 => ?_))
      | refine Nx.za ?_ | refine Nx.zr (fun hc => ?_) (fun hc => ?_)
      | refine Nx.zq ?_ | refine Nx.zu (fun hc => ?_) (fun hc => ?_)
      | refine Nx.zx ?_ | fail
    exact Nx.ret_fn rfl [_] ⟨none, 0, rfl, rfl⟩ ((Ent.vec_nil _ _ _).trans (by (exact Ent.auto)))
  have hk1 : prod (szs v) ≤ k := by omega
  repeat' first
    | ((with_reducible refine Nx.is_wp ?_); first | refine Nx.wo ?_ | refine Nx.zp (fun hc => ?_) (fun hc => ?_))
    | (refine Nx.zo ?_; first | refine Nx.opr rfl rfl ?_ | refine Nx.callv rfl rfl rfl (by kernel_rfl) rfl hC ?_ | refine Nx.so ?_ | refine Nx.sb (fun bx => ?_) | refine Nx.sa (fun A2 c2 => ?_))
    | refine Nx.za ?_ | refine Nx.zr (fun hc => ?_) (fun hc => ?_)
    | refine Nx.zq ?_ | refine Nx.zu (fun hc => ?_) (fun hc => ?_)
    | refine Nx.zx ?_ | fail
  refine Nx.at_do rfl rfl rfl rfl ?_
  refine Nx.call rfl rfl rfl (by kernel_rfl) rfl (sizes_spec B cv v I hv (hw.szsOk hs).1 (hw.szsOk hs).2) (by (exact Ent.auto)) ?_
  rintro u R' ⟨As, cs, rfl, rfl⟩
  refine Nx.freezeAt 0 rfl fun I' m hle hm hvec => ?_
  have hz : Ints I' As cs (szs v) := Vec.sliceOf hm hvec
  repeat' first
    | ((with_reducible refine Nx.is_wp ?_); first | refine Nx.wo ?_ | refine Nx.zp (fun hc => ?_) (fun hc => ?_))
    | (refine Nx.zo ?_; first | refine Nx.opr rfl rfl ?_ | refine Nx.callv rfl rfl rfl (by kernel_rfl) rfl (product_spec _ _ _ _ hz (hw.sizes hs)) ?_ | refine Nx.so ?_ | refine Nx.sb (fun bx => ?_) | refine Nx.sa (fun A2 c2 => ?_))
    | refine Nx.za ?_ | refine Nx.zr (fun hc => ?_) (fun hc => ?_)
    | refine Nx.zq ?_ | refine Nx.zu (fun hc => ?_) (fun hc => ?_)
    | refine Nx.zx ?_ | fail
  exact Nx.imm_le hle (Nx.ret_fn rfl [_] ⟨none, 0, rfl, rfl⟩ ((Ent.vec_nil _ _ _).trans (by (exact Ent.auto))))
set_option maxHeartbeats 2000000 in
set_option maxRecDepth 10000 in
theorem RMembersA_spec (A B : Option Addr) (c cv : Nat) (l : List Int) (v : List Row) (k : Int) (I : PH) (hl : Ints I A c l) (hv : RowsOf I B cv v) :
    FnSpec Tryd.prog 41 [.agg #[.slice A l.length c], .agg #[.slice B v.length cv], .int .i64 k] I [] (fun u R' => ∃ A' c', u = .tuple #[.slice A' (memA l v k).1.length c', .int .i64 (memA l v k).2] ∧ R' = [isR A' c' (memA l v k).1]) := by
  unfold memA
  by_cases hs : Sizes l ∧ Viewed l v
  case neg =>
    rw [if_neg fun h => hs (view_iff.1 h)]
    have hC := RViewA_spec A B c cv l v I hl hv
    rw [viE_no hs] at hC
    refine FnSpec.enterP Tryd.func41 rfl Tryd.ntmps41 rfl fun w F => ?_
    repeat' first
      | ((with_reducible refine Nx.is_wp ?_); first | refine Nx.wo ?_ | refine Nx.zp (fun hc => ?_) (fun hc => ?_))
      | (refine Nx.zo ?_; first | refine Nx.opr rfl rfl ?_ | refine Nx.callv rfl rfl rfl (by kernel_rfl) rfl hC ?_ | refine Nx.so ?_ | refine Nx.sb (fun bx => ?_) | refine Nx.sa (fun A2 c2 => ?_))
      | refine Nx.za ?_ | refine Nx.zr (fun hc => ?_) (fun hc => ?_)
      | refine Nx.zq ?_ | refine Nx.zu (fun hc => ?_) (fun hc => ?_)
      | refine Nx.zx ?_ | fail
    exact Nx.ret_fn rfl [_] ⟨none, 0, rfl, rfl⟩ ((Ent.vec_nil _ _ _).trans (by (exact Ent.auto)))
  rw [if_pos (view_iff.2 hs)]
  obtain ⟨hs, hw⟩ := hs
  by_cases hk : 0 ≤ k ∧ k < prod (szs v)
  · rw [if_pos hk]; exact RMembers_spec A B c cv l v k I hl hs hv hw hk
  rw [if_neg hk]
  have hC := RViewA_spec A B c cv l v I hl hv
  rw [viE_ok hs hw] at hC
  have hP := RPublished_spec A B c cv l v I hl hs hv hw
  generalize prod (szs v) = P at hk hP
  refine FnSpec.enterP Tryd.func41 rfl Tryd.ntmps41 rfl fun w F => ?_
  by_cases hk0 : k < 0
  · repeat' first
      | ((with_reducible refine Nx.is_wp ?_); first | refine Nx.wo ?_ | refine Nx.zp (fun hc => ?_) (fun hc => ?_))
      | (refine Nx.zo ?_; first | refine Nx.opr rfl rfl ?_ | refine Nx.callv rfl rfl rfl (by kernel_rfl) rfl hC ?_ | refine Nx.so ?_ | refine Nx.sb (fun bx => ?_) | refine Nx.sa (fun A2 c2 => ?_))
      | refine Nx.za ?_ | refine Nx.zr (fun hc => ?_) (fun hc => ?_)
      | refine Nx.zq ?_ | refine Nx.zu (fun hc => ?_) (fun hc => ?_)
      | refine Nx.zx ?_ | fail
    exact Nx.ret_fn rfl [_] ⟨none, 0, rfl, rfl⟩ ((Ent.vec_nil _ _ _).trans (by (exact Ent.auto)))
  have hk1 : P ≤ k := by omega
  repeat' first
    | ((with_reducible refine Nx.is_wp ?_); first | refine Nx.wo ?_ | refine Nx.zp (fun hc => ?_) (fun hc => ?_))
    | (refine Nx.zo ?_; first | refine Nx.opr rfl rfl ?_ | refine Nx.callv rfl rfl rfl (by kernel_rfl) rfl hC ?_ | refine Nx.callv rfl rfl rfl (by kernel_rfl) rfl hP ?_ | refine Nx.so ?_ | refine Nx.sb (fun bx => ?_) | refine Nx.sa (fun A2 c2 => ?_))
    | refine Nx.za ?_ | refine Nx.zr (fun hc => ?_) (fun hc => ?_)
    | refine Nx.zq ?_ | refine Nx.zu (fun hc => ?_) (fun hc => ?_)
    | refine Nx.zx ?_ | fail
  exact Nx.ret_fn rfl [_] ⟨none, 0, rfl, rfl⟩ ((Ent.vec_nil _ _ _).trans (by (exact Ent.auto)))
def pubA (l : List Int) (v : List Row) (t : List Int) : List Int × Int :=
  if viewB l v = true then (if (t.length : Int) = prod l then (if t.any outB = true then ([], 2) else (sums (pubOf l v) t (prod (szs v)).toNat t.length, 0)) else ([], 17)) else ([], 55)
theorem table_of {l t : List Int} (hl : (t.length : Int) = prod l) (h : ¬ t.any outB = true) : Table l t := ⟨by omega, fun j hj => by
  have h2 : ¬ outB (t.getD j default) = true := fun hb => h (List.any_eq_true.2 ⟨_, by rw [List.getD_eq_getElem?_getD, List.getElem?_eq_getElem hj]; exact List.getElem_mem _, hb⟩)
  unfold outB at h2
  rw [decide_eq_true_eq] at h2
  omega⟩
set_option maxHeartbeats 2000000 in
set_option maxRecDepth 10000 in
theorem PublishA_spec (A B T : Option Addr) (c cv ct : Nat) (l t : List Int) (v : List Row) (I : PH) (hl : Ints I A c l) (hv : RowsOf I B cv v) (ht : Ints I T ct t) :
    FnSpec Tryd.prog 10 [.agg #[.slice A l.length c], .agg #[.slice B v.length cv], .slice T t.length ct] I [] (fun u R' => ∃ A' c', u = .tuple #[.slice A' (pubA l v t).1.length c', .int .i64 (pubA l v t).2] ∧ R' = [isR A' c' (pubA l v t).1]) := by
  have htl := ht.len
  unfold pubA
  by_cases hs : Sizes l ∧ Viewed l v
  case neg =>
    rw [if_neg fun h => hs (view_iff.1 h)]
    have hC := ViewA_spec A B c cv l v I hl hv
    rw [viE_no hs] at hC
    refine FnSpec.enterP Tryd.func10 rfl Tryd.ntmps10 rfl fun w F => ?_
    repeat' first
      | ((with_reducible refine Nx.is_wp ?_); first | refine Nx.wo ?_ | refine Nx.zp (fun hc => ?_) (fun hc => ?_))
      | (refine Nx.zo ?_; first | refine Nx.opr rfl rfl ?_ | refine Nx.callv rfl rfl rfl (by kernel_rfl) rfl hC ?_ | refine Nx.so ?_ | refine Nx.sb (fun bx => ?_) | refine Nx.sa (fun A2 c2 => ?_))
      | refine Nx.za ?_ | refine Nx.zr (fun hc => ?_) (fun hc => ?_)
      | refine Nx.zq ?_ | refine Nx.zu (fun hc => ?_) (fun hc => ?_)
      | refine Nx.zx ?_ | fail
    exact Nx.ret_fn rfl [_] ⟨none, 0, rfl, rfl⟩ ((Ent.vec_nil _ _ _).trans (by (exact Ent.auto)))
  rw [if_pos (view_iff.2 hs)]
  obtain ⟨hs, hw⟩ := hs
  have hC := ViewA_spec A B c cv l v I hl hv
  rw [viE_ok hs hw] at hC
  have hP := product_spec A c l I hl hs
  have hF := ContainsFunc_spec 31 outB T ct t I ht (by kernel_rfl) (fun x => outB_spec x I)
  by_cases hlen : (t.length : Int) = prod l
  case neg =>
    rw [if_neg hlen]
    generalize prod l = P at hlen hP
    refine FnSpec.enterP Tryd.func10 rfl Tryd.ntmps10 rfl fun w F => ?_
    repeat' first
      | ((with_reducible refine Nx.is_wp ?_); first | refine Nx.wo ?_ | refine Nx.zp (fun hc => ?_) (fun hc => ?_))
      | (refine Nx.zo ?_; first | refine Nx.opr rfl rfl ?_ | refine Nx.callv rfl rfl rfl (by kernel_rfl) rfl hC ?_ | refine Nx.callv rfl rfl rfl (by kernel_rfl) rfl hP ?_ | refine Nx.so ?_ | refine Nx.sb (fun bx => ?_) | refine Nx.sa (fun A2 c2 => ?_))
      | refine Nx.za ?_ | refine Nx.zr (fun hc => ?_) (fun hc => ?_)
      | refine Nx.zq ?_ | refine Nx.zu (fun hc => ?_) (fun hc => ?_)
      | refine Nx.zx ?_ | fail
    exact Nx.ret_fn rfl [_] ⟨none, 0, rfl, rfl⟩ ((Ent.vec_nil _ _ _).trans (by (exact Ent.auto)))
  rw [if_pos hlen]
  by_cases ho : t.any outB = true
  · rw [if_pos ho]
    rw [ho] at hF
    rw [← hlen] at hP
    refine FnSpec.enterP Tryd.func10 rfl Tryd.ntmps10 rfl fun w F => ?_
    repeat' first
      | ((with_reducible refine Nx.is_wp ?_); first | refine Nx.wo ?_ | refine Nx.zp (fun hc => ?_) (fun hc => ?_))
      | (refine Nx.zo ?_; first | refine Nx.opr rfl rfl ?_ | refine Nx.callv rfl rfl rfl (by kernel_rfl) rfl hC ?_ | refine Nx.callv rfl rfl rfl (by kernel_rfl) rfl hP ?_ | refine Nx.callv rfl rfl rfl (by kernel_rfl) rfl hF ?_ | refine Nx.so ?_ | refine Nx.sb (fun bx => ?_) | refine Nx.sa (fun A2 c2 => ?_))
      | refine Nx.za ?_ | refine Nx.zr (fun hc => ?_) (fun hc => ?_)
      | refine Nx.zq ?_ | refine Nx.zu (fun hc => ?_) (fun hc => ?_)
      | refine Nx.zx ?_ | fail
    exact Nx.ret_fn rfl [_] ⟨none, 0, rfl, rfl⟩ ((Ent.vec_nil _ _ _).trans (by (exact Ent.auto)))
  rw [if_neg ho]
  refine FnSpec.mono (Publish_spec A B T c cv ct l t v I hl hs hv hw ht (table_of hlen ho)) fun u R' h => ?_
  obtain ⟨A', h1, h2⟩ := h
  refine ⟨A', (prod (szs v)).toNat, ?_, ?_⟩
  · rw [h1, sums_len]
  · rw [h2, isR, sums_len]
set_option maxHeartbeats 2000000 in
set_option maxRecDepth 10000 in
theorem RPublishA_spec (A B T : Option Addr) (c cv ct : Nat) (l t : List Int) (v : List Row) (I : PH) (hl : Ints I A c l) (hv : RowsOf I B cv v) (ht : Ints I T ct t) :
    FnSpec Tryd.prog 42 [.agg #[.slice A l.length c], .agg #[.slice B v.length cv], .slice T t.length ct] I [] (fun u R' => ∃ A' c', u = .tuple #[.slice A' (pubA l v t).1.length c', .int .i64 (pubA l v t).2] ∧ R' = [isR A' c' (pubA l v t).1]) := by
  have htl := ht.len
  unfold pubA
  by_cases hs : Sizes l ∧ Viewed l v
  case neg =>
    rw [if_neg fun h => hs (view_iff.1 h)]
    have hC := RViewA_spec A B c cv l v I hl hv
    rw [viE_no hs] at hC
    refine FnSpec.enterP Tryd.func42 rfl Tryd.ntmps42 rfl fun w F => ?_
    repeat' first
      | ((with_reducible refine Nx.is_wp ?_); first | refine Nx.wo ?_ | refine Nx.zp (fun hc => ?_) (fun hc => ?_))
      | (refine Nx.zo ?_; first | refine Nx.opr rfl rfl ?_ | refine Nx.callv rfl rfl rfl (by kernel_rfl) rfl hC ?_ | refine Nx.so ?_ | refine Nx.sb (fun bx => ?_) | refine Nx.sa (fun A2 c2 => ?_))
      | refine Nx.za ?_ | refine Nx.zr (fun hc => ?_) (fun hc => ?_)
      | refine Nx.zq ?_ | refine Nx.zu (fun hc => ?_) (fun hc => ?_)
      | refine Nx.zx ?_ | fail
    exact Nx.ret_fn rfl [_] ⟨none, 0, rfl, rfl⟩ ((Ent.vec_nil _ _ _).trans (by (exact Ent.auto)))
  rw [if_pos (view_iff.2 hs)]
  obtain ⟨hs, hw⟩ := hs
  have hC := RViewA_spec A B c cv l v I hl hv
  rw [viE_ok hs hw] at hC
  have hP := RCount_spec A c l I hl hs
  by_cases hlen : (t.length : Int) = prod l
  case neg =>
    rw [if_neg hlen]
    generalize prod l = P at hlen hP
    refine FnSpec.enterP Tryd.func42 rfl Tryd.ntmps42 rfl fun w F => ?_
    repeat' first
      | ((with_reducible refine Nx.is_wp ?_); first | refine Nx.wo ?_ | refine Nx.zp (fun hc => ?_) (fun hc => ?_))
      | (refine Nx.zo ?_; first | refine Nx.opr rfl rfl ?_ | refine Nx.callv rfl rfl rfl (by kernel_rfl) rfl hC ?_ | refine Nx.callv rfl rfl rfl (by kernel_rfl) rfl hP ?_ | refine Nx.so ?_ | refine Nx.sb (fun bx => ?_) | refine Nx.sa (fun A2 c2 => ?_))
      | refine Nx.za ?_ | refine Nx.zr (fun hc => ?_) (fun hc => ?_)
      | refine Nx.zq ?_ | refine Nx.zu (fun hc => ?_) (fun hc => ?_)
      | refine Nx.zx ?_ | fail
    exact Nx.ret_fn rfl [_] ⟨none, 0, rfl, rfl⟩ ((Ent.vec_nil _ _ _).trans (by (exact Ent.auto)))
  rw [if_pos hlen]
  by_cases ho : t.any outB = true
  case neg =>
    rw [if_neg ho]
    refine FnSpec.mono (RPublish_spec A B T c cv ct l t v I hl hs hv hw ht (table_of hlen ho)) fun u R' h => ?_
    obtain ⟨A', h1, h2⟩ := h
    refine ⟨A', (prod (szs v)).toNat, ?_, ?_⟩
    · rw [h1, sums_len]
    · rw [h2, isR, sums_len]
  rw [if_pos ho]
  rw [← hlen] at hP
  refine FnSpec.enterP Tryd.func42 rfl Tryd.ntmps42 rfl fun w F => ?_
  repeat' first
    | ((with_reducible refine Nx.is_wp ?_); first | refine Nx.wo ?_ | refine Nx.zp (fun hc => ?_) (fun hc => ?_))
    | (refine Nx.zo ?_; first | refine Nx.opr rfl rfl ?_ | refine Nx.callv rfl rfl rfl (by kernel_rfl) rfl hC ?_ | refine Nx.callv rfl rfl rfl (by kernel_rfl) rfl hP ?_ | refine Nx.so ?_ | refine Nx.sb (fun bx => ?_) | refine Nx.sa (fun A2 c2 => ?_))
    | refine Nx.za ?_ | refine Nx.zr (fun hc => ?_) (fun hc => ?_)
    | refine Nx.zq ?_ | refine Nx.zu (fun hc => ?_) (fun hc => ?_)
    | refine Nx.zx ?_ | fail
  refine Nx.p_loop (σ := Nat) (fun s => [(25, .slice T t.length ct), (26, .int .i64 t.length), (27, .int .i64 (s : Int))])
    (fun _ => [F]) (fun s => s ≤ t.length ∧ ∀ j, j < s → outB (t.getD j default) = false) (fun s => t.length - s) 0 rfl ⟨Nat.zero_le _, fun j hj => absurd hj (Nat.not_lt_zero _)⟩ ⟨rfl, rfl, rfl, trivial⟩ (by (exact Ent.auto)) ?_
  rintro n ⟨hn, hup⟩
  by_cases hlt : n < t.length
  case neg =>
    exfalso
    obtain ⟨x, hx, hb⟩ := List.any_eq_true.1 ho
    obtain ⟨j, hj, rfl⟩ := List.mem_iff_getElem.1 hx
    have := hup j (by omega)
    rw [List.getD_eq_getElem?_getD, List.getElem?_eq_getElem hj] at this
    rw [show (some t[j]).getD default = t[j] from rfl, hb] at this
    cases this
  have htr : ∀ (W : World) (R : List Res), Rd W I R ((ad T).add (n * 1)) (.int .i64 (t.getD n default)) := fun W R => ht.rd hlt
  have hTs := ht.isSome (by omega)
  have hup2 : outB (t.getD n default) = false → ∀ j, j < n + 1 → outB (t.getD j default) = false := fun h j hj => by
    rcases Nat.lt_or_ge j n with hj2 | hj2
    · exact hup j hj2
    · obtain rfl : j = n := by omega
      exact h
  generalize t.getD n default = y at htr hup2
  by_cases hy : y < 0
  · repeat' first
      | ((with_reducible refine Nx.is_wp ?_); first | refine Nx.wo ?_ | refine Nx.zp (fun hc => ?_) (fun hc => ?_))
      | (refine Nx.zo ?_; first | refine Nx.opr rfl rfl ?_ | refine Nx.indexAddr_nat (A := T) (i := n) (sz := 1) rfl rfl rfl rfl rfl hlt hTs ?_ | refine Nx.load rfl rfl rfl (htr _ _) ?_ | refine Nx.so ?_ | refine Nx.sb (fun bx => ?_) | refine Nx.sa (fun A2 c2 => ?_))
      | refine Nx.za ?_ | refine Nx.zr (fun hc => ?_) (fun hc => ?_)
      | refine Nx.zq ?_ | refine Nx.zu (fun hc => ?_) (fun hc => ?_)
      | refine Nx.zx ?_ | fail
    exact Nx.ret_fn rfl [_] ⟨none, 0, rfl, rfl⟩ ((Ent.vec_nil _ _ _).trans (by (exact Ent.auto)))
  by_cases hy2 : 1000000 < y
  · repeat' first
      | ((with_reducible refine Nx.is_wp ?_); first | refine Nx.wo ?_ | refine Nx.zp (fun hc => ?_) (fun hc => ?_))
      | (refine Nx.zo ?_; first | refine Nx.opr rfl rfl ?_ | refine Nx.indexAddr_nat (A := T) (i := n) (sz := 1) rfl rfl rfl rfl rfl hlt hTs ?_ | refine Nx.load rfl rfl rfl (htr _ _) ?_ | refine Nx.so ?_ | refine Nx.sb (fun bx => ?_) | refine Nx.sa (fun A2 c2 => ?_))
      | refine Nx.za ?_ | refine Nx.zr (fun hc => ?_) (fun hc => ?_)
      | refine Nx.zq ?_ | refine Nx.zu (fun hc => ?_) (fun hc => ?_)
      | refine Nx.zx ?_ | fail
    exact Nx.ret_fn rfl [_] ⟨none, 0, rfl, rfl⟩ ((Ent.vec_nil _ _ _).trans (by (exact Ent.auto)))
  repeat' first
    | ((with_reducible refine Nx.is_wp ?_); first | refine Nx.wo ?_ | refine Nx.zp (fun hc => ?_) (fun hc => ?_))
    | (refine Nx.zo ?_; first | refine Nx.opr rfl rfl ?_ | refine Nx.indexAddr_nat (A := T) (i := n) (sz := 1) rfl rfl rfl rfl rfl hlt hTs ?_ | refine Nx.load rfl rfl rfl (htr _ _) ?_ | refine Nx.so ?_ | refine Nx.sb (fun bx => ?_) | refine Nx.sa (fun A2 c2 => ?_))
    | refine Nx.za ?_ | refine Nx.zr (fun hc => ?_) (fun hc => ?_)
    | refine Nx.zq ?_ | refine Nx.zu (fun hc => ?_) (fun hc => ?_)
    | refine Nx.zx ?_ | fail
  exact Nx.again (n + 1) ⟨hlt, hup2 (by unfold outB; rw [decide_eq_false (by omega)])⟩ (by omega) ⟨rfl, rfl, rfl, trivial⟩ (by (exact Ent.auto))
end Go.Proofs.YtpmlehplbobjmaaDoor
/- Contracts of functions of the given program, and lemmas about plain lists and numbers: what the laws of this seat lean on. -/
namespace Go.Proofs.YtpmlehplbobjmaaDoor
open Go.Eng
attribute [local irreducible] opK wpList Code.wp Exit.then Exit.inBlock fnPost bodyPost Nx Calls Oper.wp Rd Rds Wr Ent Stars Blk Again Vec FnSpec wpMix QRun Stop Upto wpAt
def exV (b1 b2 : Nat) : List Row := [(some ⟨b1, 0, none⟩, 2, [0, 1]), (some ⟨b2, 0, none⟩, 3, [0, 0, 1])]
theorem exS : Sizes [2, 3] := ⟨by decide, by decide, by decide⟩
theorem exW (b1 b2 : Nat) : Viewed [2, 3] (exV b1 b2) := ⟨rfl, fun k hk => by
  have : k = 0 ∨ k = 1 := by simp at hk; omega
  rcases this with rfl | rfl <;> exact ⟨rfl, rfl⟩⟩
theorem exM (b1 b2 : Nat) : memK [2, 3] (exV b1 b2) 0 (prod [2, 3]).toNat = [0, 1] := rfl
theorem exP (b1 b2 : Nat) : prod (szs (exV b1 b2)) = 4 := rfl
theorem exU (b1 b2 : Nat) : sums (pubOf [2, 3] (exV b1 b2)) [1, 2, 3, 4, 5, 6] 4 6 = [3, 3, 9, 6] := rfl
theorem exN : numK [2, 3] [1, 0] ([2, 3] : List Int).length = 3 := rfl
theorem exT : Table [2, 3] [1, 2, 3, 4, 5, 6] := ⟨rfl, fun k hk => by
  have : k = 0 ∨ k = 1 ∨ k = 2 ∨ k = 3 ∨ k = 4 ∨ k = 5 := by simp at hk; omega
  rcases this with rfl | rfl | rfl | rfl | rfl | rfl <;> decide⟩
theorem exR : InR [2, 3] [1, 0] := ⟨rfl, fun k hk => by
  have : k = 0 ∨ k = 1 := by simp at hk; omega
  rcases this with rfl | rfl <;> decide⟩
set_option maxHeartbeats 2000000 in
set_option maxRecDepth 10000 in
theorem awake_spec (I : PH) : FnSpec Tryd.prog 13 [] I [] (fun v R' => v = .bool true ∧ R' = []) := by
  refine FnSpec.enterP Tryd.func13 rfl Tryd.ntmps13 rfl fun w F => ?_
  repeat' first
    | ((with_reducible refine Nx.is_wp ?_); first | refine Nx.wo ?_ | refine Nx.zp (fun hc => ?_) (fun hc => ?_))
    | (refine Nx.zo ?_; first | refine Nx.opr rfl rfl ?_ | refine Nx.so ?_ | refine Nx.sb (fun bx => ?_) | refine Nx.sa (fun A2 c2 => ?_))
    | refine Nx.za ?_ | refine Nx.zr (fun hc => ?_) (fun hc => ?_)
    | refine Nx.zq ?_ | refine Nx.zu (fun hc => ?_) (fun hc => ?_)
    | refine Nx.zx ?_ | fail
  refine Nx.freezeAt 0 rfl fun I1 m1 hI1 hm1 h1 => ?_
  refine Nx.freezeAt 1 rfl fun I2 m2 hI2 hm2 h2 => ?_
  refine Nx.freezeAt 1 rfl fun I3 m3 hI3 hm3 h3 => ?_
  refine Nx.freezeAt 1 rfl fun I4 m4 hI4 hm4 h4 => ?_
  refine Nx.freezeAt 2 rfl fun I5 m5 hI5 hm5 h5 => ?_
  rename_i b9 bS b11 b12 bo bV
  have hxs : Ints I5 (some ⟨bx, 0, none⟩) 2 [1, 0] := Blk.sliceOf (t := 3) (l := [1, 0]) (((hm1.trans hI2).trans hI3).trans (hI4.trans hI5)) h1 (by decide)
  have hl : Ints I5 (some ⟨b9, 0, none⟩) 2 [2, 3] := Blk.sliceOf (t := 3) (l := [2, 3]) hm5 h5 (by decide)
  have hv : RowsOf I5 (some ⟨bo, 0, none⟩) 2 (exV b11 b12) := ⟨Blk.sliceOf (t := 25) (l := exV b11 b12) ((hm2.trans hI3).trans (hI4.trans hI5)) h2 (by unfold maxLen exV; simp), fun r hr => by
    simp only [exV, List.mem_cons, List.not_mem_nil, or_false] at hr
    rcases hr with rfl | rfl
    · exact Blk.sliceOf (t := 3) (l := [0, 1]) (hm4.trans hI5) h4 (by decide)
    · exact Blk.sliceOf (t := 3) (l := [0, 0, 1]) ((hm3.trans hI4).trans hI5) h3 (by decide)⟩
  repeat' first
    | ((with_reducible refine Nx.is_wp ?_); first | refine Nx.wo ?_ | refine Nx.zp (fun hc => ?_) (fun hc => ?_))
    | (refine Nx.zo ?_; first | refine Nx.opr rfl rfl ?_ | refine Nx.callv rfl rfl rfl (by kernel_rfl) rfl (Index_spec _ _ _ _ _ _ _ hl hxs exS exR) ?_ | refine Nx.so ?_ | refine Nx.sb (fun bx => ?_) | refine Nx.sa (fun A2 c2 => ?_))
    | refine Nx.za ?_ | refine Nx.zr (fun hc => ?_) (fun hc => ?_)
    | refine Nx.zq ?_ | refine Nx.zu (fun hc => ?_) (fun hc => ?_)
    | refine Nx.zx ?_ | fail
  refine Nx.at_op rfl rfl ?_
  refine Nx.call rfl rfl rfl (by kernel_rfl) rfl (Members_spec _ _ _ _ _ _ _ _ hl exS hv (exW b11 b12) (show (0 : Int) ≤ 0 ∧ 0 < prod (szs (exV b11 b12)) by rw [exP]; decide)) (by (exact Ent.auto)) ?_
  rintro u R' ⟨Am, cm, rfl, rfl⟩
  rw [exM]
  refine Nx.freezeAt 0 rfl fun I6 m6 hI6 hm6 h6 => ?_
  have hmem : Ints I6 Am cm [0, 1] := Vec.sliceOf (t := 3) hm6 h6
  repeat' first
    | ((with_reducible refine Nx.is_wp ?_); first | refine Nx.wo ?_ | refine Nx.zp (fun hc => ?_) (fun hc => ?_))
    | (refine Nx.zo ?_; first | refine Nx.opr rfl rfl ?_ | refine Nx.so ?_ | refine Nx.sb (fun bx => ?_) | refine Nx.sa (fun A2 c2 => ?_))
    | refine Nx.za ?_ | refine Nx.zr (fun hc => ?_) (fun hc => ?_)
    | refine Nx.zq ?_ | refine Nx.zu (fun hc => ?_) (fun hc => ?_)
    | refine Nx.zx ?_ | fail
  refine Nx.freezeAt 0 rfl fun I7 m7 hI7 hm7 h7 => ?_
  have le5 := hI6.trans hI7
  have htab : Ints I7 (some ⟨bx, 0, none⟩) 6 [1, 2, 3, 4, 5, 6] := Blk.sliceOf (t := 3) (l := [1, 2, 3, 4, 5, 6]) hm7 h7 (by decide)
  refine Nx.at_op rfl rfl ?_
  refine Nx.call rfl rfl rfl (by kernel_rfl) rfl (Publish_spec _ _ _ _ _ _ _ _ _ _ (hl.mono le5) exS (hv.mono le5) (exW b11 b12) htab exT) (by (exact Ent.auto)) ?_
  rintro u R' ⟨Ap, rfl, rfl⟩
  rw [exP]
  refine Nx.freezeAt 0 rfl fun I8 m8 hI8 hm8 h8 => ?_
  have hsum : Ints I8 Ap 4 [3, 3, 9, 6] := Vec.sliceOf (t := 3) hm8 (by rw [← exU b11 b12]; exact h8)
  have hmem := hmem.mono (hI7.trans hI8)
  rw [exN]
  repeat' first
    | ((with_reducible refine Nx.is_wp ?_); first | refine Nx.wo ?_ | refine Nx.zp (fun hc => ?_) (fun hc => ?_))
    | (refine Nx.zo ?_; first | refine Nx.opr rfl rfl ?_ | refine Nx.so ?_ | refine Nx.sb (fun bx => ?_) | refine Nx.sa (fun A2 c2 => ?_))
    | refine Nx.za ?_ | refine Nx.zr (fun hc => ?_) (fun hc => ?_)
    | refine Nx.zq ?_ | refine Nx.zu (fun hc => ?_) (fun hc => ?_)
    | refine Nx.zx ?_ | fail
  refine Nx.freezeAt 0 rfl fun I9 m9 hI9 hm9 h9 => ?_
  have hlit : Ints I9 (some ⟨bx, 0, none⟩) 2 [0, 1] := Blk.sliceOf (t := 3) (l := [0, 1]) hm9 h9 (by decide)
  repeat' first
    | ((with_reducible refine Nx.is_wp ?_); first | refine Nx.wo ?_ | refine Nx.zp (fun hc => ?_) (fun hc => ?_))
    | (refine Nx.zo ?_; first | refine Nx.opr rfl rfl ?_ | refine Nx.callv rfl rfl rfl (by kernel_rfl) rfl (Ints_spec _ _ _ _ [0, 1] [0, 1] _ (hmem.mono hI9) hlit) ?_ | refine Nx.so ?_ | refine Nx.sb (fun bx => ?_) | refine Nx.sa (fun A2 c2 => ?_))
    | refine Nx.za ?_ | refine Nx.zr (fun hc => ?_) (fun hc => ?_)
    | refine Nx.zq ?_ | refine Nx.zu (fun hc => ?_) (fun hc => ?_)
    | refine Nx.zx ?_ | fail
  refine Nx.freezeAt 0 rfl fun Ia ma hIa hma ha => ?_
  have hlit2 : Ints Ia (some ⟨bx, 0, none⟩) 4 [3, 3, 9, 6] := Blk.sliceOf (t := 3) (l := [3, 3, 9, 6]) hma ha (by decide)
  repeat' first
    | ((with_reducible refine Nx.is_wp ?_); first | refine Nx.wo ?_ | refine Nx.zp (fun hc => ?_) (fun hc => ?_))
    | (refine Nx.zo ?_; first | refine Nx.opr rfl rfl ?_ | refine Nx.callv rfl rfl rfl (by kernel_rfl) rfl (Ints_spec _ _ _ _ [3, 3, 9, 6] [3, 3, 9, 6] _ (hsum.mono (hI9.trans hIa)) hlit2) ?_ | refine Nx.so ?_ | refine Nx.sb (fun bx => ?_) | refine Nx.sa (fun A2 c2 => ?_))
    | refine Nx.za ?_ | refine Nx.zr (fun hc => ?_) (fun hc => ?_)
    | refine Nx.zq ?_ | refine Nx.zu (fun hc => ?_) (fun hc => ?_)
    | refine Nx.zx ?_ | fail
  exact Nx.imm_le ((((hI1.trans hI2).trans (hI3.trans hI4)).trans (hI5.trans le5)).trans (hI8.trans (hI9.trans hIa))) (Nx.ret_fn rfl [] ⟨rfl, rfl⟩ (by (exact Ent.auto)))
end Go.Proofs.YtpmlehplbobjmaaDoor
/- Contracts of functions of the given program, and lemmas about plain lists and numbers: what the laws of this seat lean on. -/
namespace Go.Proofs.YtpmlehplbobjmaaDoor
open Go.Eng
attribute [local irreducible] opK wpList Code.wp Exit.then Exit.inBlock fnPost bodyPost Nx Calls Oper.wp Rd Rds Wr Ent Stars Blk Again Vec FnSpec wpMix QRun Stop Upto wpAt
/-! Made tables and made views -/
abbrev Bytes := SliceOf (fun x : Int => Value.int .u8 x)
structure CodesOk (I : PH) (A : Option Addr) (c : Nat) (L : List Int) : Prop where
  sl : Bytes I A c L
  each : ∀ x ∈ L, 0 ≤ x ∧ x < 256
theorem CodesOk.mono {I I' : PH} {A : Option Addr} {c : Nat} {L : List Int} (hle : PH.le I I') (h : CodesOk I A c L) : CodesOk I' A c L := ⟨h.sl.mono hle, h.each⟩
def CodesR (b : Nat) (A : Option Addr) (c : Nat) (L : List Int) (k : Nat) : Res := Blk b 55 [.slice A L.length c, .int .i64 (k : Int)]
set_option maxHeartbeats 8000000 in
theorem Next_any (b : Nat) (A : Option Addr) (c : Nat) (L : List Int) (k : Nat) (n : Int) (I : PH) (hL : CodesOk I A c L) (hk : k ≤ L.length) (hn : 1 ≤ n ∧ n ≤ 1000000) :
    FnSpec Tryd.prog 27 [.pointer (some ⟨b, 0, none⟩), .int .i64 n] I [CodesR b A c L k]
      (fun v R' => ∃ (r : Int) (k' : Nat), v = .int .i64 r ∧ (0 ≤ r ∧ r < n) ∧ k' ≤ L.length ∧ R' = [CodesR b A c L k']) := Next_spec b A c L k n I hL.sl hL.each hk hn
set_option maxHeartbeats 2000000 in
set_option maxRecDepth 10000 in
theorem Cells_spec (b : Nat) (A B : Option Addr) (c cs : Nat) (L l : List Int) (k : Nat) (most : Int) (I : PH) (hL : CodesOk I A c L) (hk : k ≤ L.length) (hl : Ints I B cs l) (hs : Sizes l) (hm : 0 ≤ most ∧ most ≤ 1000) :
    FnSpec Tryd.prog 9 [.pointer (some ⟨b, 0, none⟩), .agg #[.slice B l.length cs], .int .i64 most] I [CodesR b A c L k]
      (fun v R' => ∃ (bt : Nat) (t : List Int) (k' : Nat), v = .slice (some ⟨bt, 0, none⟩) t.length t.length ∧ t.length = (prod l).toNat ∧ (∀ j, j < t.length → 0 ≤ t.getD j default ∧ t.getD j default ≤ most) ∧ k' ≤ L.length ∧
        R' = [Vec 3 1 (some ⟨bt, 0, none⟩) t.length t.length (t.map (Value.int .i64)), CodesR b A c L k']) := by
  have hpr := hs.bound (k := l.length) (Nat.le_refl _)
  rw [List.take_length] at hpr
  refine FnSpec.enterP Tryd.func9 rfl Tryd.ntmps9 rfl fun w F => ?_
  repeat' first
    | ((with_reducible refine Nx.is_wp ?_); first | refine Nx.wo ?_ | refine Nx.zp (fun hc => ?_) (fun hc => ?_))
    | (refine Nx.zo ?_; first | refine Nx.opr rfl rfl ?_ | refine Nx.callv rfl rfl rfl (by kernel_rfl) rfl (RCount_spec _ _ _ _ hl hs) ?_ | refine Nx.so ?_ | refine Nx.sb (fun bx => ?_) | refine Nx.sa (fun A2 c2 => ?_))
    | refine Nx.za ?_ | refine Nx.zr (fun hc => ?_) (fun hc => ?_)
    | refine Nx.zq ?_ | refine Nx.zu (fun hc => ?_) (fun hc => ?_)
    | refine Nx.zx ?_ | fail
  rw [show prod l = (((prod l).toNat : Nat) : Int) by omega]
  generalize hP : (prod l).toNat = P at hpr ⊢
  have hP48 : P ≤ 4096 := by omega
  repeat' first
    | ((with_reducible refine Nx.is_wp ?_); first | refine Nx.wo ?_ | refine Nx.zp (fun hc => ?_) (fun hc => ?_))
    | (refine Nx.zo ?_; first | refine Nx.opr rfl rfl ?_ | refine Nx.so ?_ | refine Nx.sb (fun bx => ?_) | refine Nx.sa (fun A2 c2 => ?_))
    | refine Nx.za ?_ | refine Nx.zr (fun hc => ?_) (fun hc => ?_)
    | refine Nx.zq ?_ | refine Nx.zu (fun hc => ?_) (fun hc => ?_)
    | refine Nx.zx ?_ | fail
  refine Nx.p_loop (σ := Nat × Nat × List Int) (fun s => [(0, .pointer (some ⟨b, 0, none⟩)), (2, .int .i64 most), (7, .slice (some ⟨bx, 0, none⟩) P P), (12, .slice (some ⟨bx, 0, none⟩) P P), (13, .int .i64 (P : Int)), (14, .int .i64 (s.1 : Int))])
    (fun s => [Vec 3 1 (some ⟨bx, 0, none⟩) P P (s.2.2.map (Value.int .i64)), CodesR b A c L s.2.1, F]) (fun s => s.1 ≤ P ∧ s.2.1 ≤ L.length ∧ s.2.2.length = P ∧ ∀ j, j < P → 0 ≤ s.2.2.getD j default ∧ s.2.2.getD j default ≤ most) (fun s => P - s.1) (0, k, List.replicate P 0) rfl
    ⟨Nat.zero_le _, hk, by simp, fun j hj => by rw [List.getD_eq_getElem?_getD, List.getElem?_replicate, if_pos hj]; exact ⟨Int.le_refl _, hm.1⟩⟩ ⟨rfl, rfl, rfl, rfl, rfl, rfl, trivial⟩ (by (exact Ent.auto)) ?_
  rintro ⟨i, kc, t⟩ ⟨hi, hkc, htl, hte⟩
  dsimp only at hi hkc htl hte ⊢
  repeat' first
    | ((with_reducible refine Nx.is_wp ?_); first | refine Nx.wo ?_ | refine Nx.zp (fun hc => ?_) (fun hc => ?_))
    | (refine Nx.zo ?_; first | refine Nx.opr rfl rfl ?_ | refine Nx.so ?_ | refine Nx.sb (fun bx => ?_) | refine Nx.sa (fun A2 c2 => ?_))
    | refine Nx.za ?_ | refine Nx.zr (fun hc => ?_) (fun hc => ?_)
    | refine Nx.zq ?_ | refine Nx.zu (fun hc => ?_) (fun hc => ?_)
    | refine Nx.zx ?_ | fail
  · refine Nx.at_op rfl rfl ?_
    refine Nx.call rfl rfl rfl (by kernel_rfl) rfl (Next_any b A c L kc (most + 1) I hL hkc (by omega)) (by (exact Ent.auto)) ?_
    rintro v R' ⟨r, kc2, rfl, hr, hkc2, rfl⟩
    repeat' first
      | ((with_reducible refine Nx.is_wp ?_); first | refine Nx.wo ?_ | refine Nx.zp (fun hc => ?_) (fun hc => ?_))
      | (refine Nx.zo ?_; first | refine Nx.opr rfl rfl ?_ | refine Nx.indexAddr_nat rfl rfl rfl rfl rfl (by omega) rfl ?_ | refine Nx.so ?_ | refine Nx.sb (fun bx => ?_) | refine Nx.sa (fun A2 c2 => ?_))
      | refine Nx.za ?_ | refine Nx.zr (fun hc => ?_) (fun hc => ?_)
      | refine Nx.zq ?_ | refine Nx.zu (fun hc => ?_) (fun hc => ?_)
      | refine Nx.zx ?_ | fail
    refine Nx.again (i + 1, kc2, t.set i r) ⟨by dsimp only; omega, hkc2, by dsimp only; rw [List.length_set]; exact htl, fun j hj => ?_⟩ (by dsimp only; omega) ⟨rfl, rfl, rfl, rfl, rfl, rfl, trivial⟩ (by (exact Ent.auto))
    dsimp only
    by_cases hij : i = j
    · subst hij; rw [getD_set_eq (by omega)]; omega
    · rw [getD_set_ne hij]; exact hte j hj
  · refine Nx.ret_fn rfl [_, _] ⟨bx, t, kc, by rw [htl], by rw [htl, Int.toNat_natCast], fun j hj => hte j (by omega), hkc, by rw [htl]⟩ (by (exact Ent.auto))
def rowR (r : Row) : Res := Vec 3 1 r.1 r.2.2.length r.2.1 (r.2.2.map (Value.int .i64))
def ViewR (B : Option Addr) (cv : Nat) (v : List Row) : Res := Stars [Vec 25 1 B v.length cv (v.map rowV), Stars (v.map rowR)]
theorem ViewR.rows {B : Option Addr} {cv : Nat} {v : List Row} {m I' : PH} (hm : PH.le m I') (h : ViewR B cv v m) : RowsOf I' B cv v := by
  obtain ⟨m1, h1le, h1⟩ := Stars.get 0 h rfl
  obtain ⟨m2, h2le, h2⟩ := Stars.get 1 h rfl
  refine ⟨Vec.sliceOf (h1le.trans hm) h1, fun r hr => ?_⟩
  obtain ⟨k, hk, he⟩ := List.mem_iff_getElem.1 hr
  obtain ⟨m3, h3le, h3⟩ := Stars.get k (r := rowR r) h2 (by rw [nthL_eq, List.getElem?_map, List.getElem?_eq_getElem hk, he]; rfl)
  exact Vec.sliceOf ((h3le.trans h2le).trans hm) h3
theorem numb_snoc : ∀ (l : List Int) (g nx n : Int), numb l nx = some n → ¬(g < -1 ∨ n < g) → numb (l ++ [g]) nx = some (if g = n then n + 1 else n)
  | [], g, nx, n, h, hg => by
    simp only [numb] at h
    obtain rfl := Option.some.inj h
    simp only [List.nil_append, numb]
    rw [if_neg hg]
  | x :: r, g, nx, n, h, hg => by
    simp only [numb, List.cons_append] at h ⊢
    split at h
    · cases h
    · rename_i hx
      rw [if_neg hx]
      exact numb_snoc r g _ n h hg
structure VOk (P : Nat) (i : Nat) (gs : List Int) (nx : Int) : Prop where
  le : i ≤ P
  len : gs.length = P
  num : numb (gs.take i) 0 = some nx
  bd : 0 ≤ nx ∧ nx ≤ i
  pos : 0 < i → 1 ≤ nx
theorem take_set_succ {gs : List Int} {i : Nat} {g : Int} (h : i < gs.length) : (gs.set i g).take (i + 1) = gs.take i ++ [g] := by
  rw [List.take_succ_eq_append_getElem (by rw [List.length_set]; exact h), List.take_set_of_le (Nat.le_refl _)]
  simp
theorem VOk.eq {P i : Nat} {gs : List Int} {nx g : Int} (h : VOk P i gs nx) (hi : i < P) (hg : g = nx) : VOk P (i + 1) (gs.set i g) (nx + 1) := by
  have h1 := h.bd
  refine ⟨hi, by rw [List.length_set]; exact h.len, ?_, by omega, by omega⟩
  rw [take_set_succ (by rw [h.len]; exact hi), numb_snoc _ g 0 nx h.num (by omega), if_pos hg]
theorem VOk.ne {P i : Nat} {gs : List Int} {nx g : Int} (h : VOk P i gs nx) (hi : i < P) (hg : -1 ≤ g ∧ g < nx) (h0 : 0 < i) : VOk P (i + 1) (gs.set i g) nx := by
  have h1 := h.bd
  have h2 := h.pos h0
  refine ⟨hi, by rw [List.length_set]; exact h.len, ?_, by omega, by omega⟩
  rw [take_set_succ (by rw [h.len]; exact hi), numb_snoc _ g 0 nx h.num (by omega), if_neg (by omega)]
theorem VOk.done {P : Nat} {gs : List Int} {nx : Int} (h : VOk P P gs nx) (hP : 0 < P) : numbB gs = true := by
  have h1 := h.num
  rw [List.take_of_length_le (by rw [h.len]; exact Nat.le_refl _)] at h1
  unfold numbB
  rw [h1]
  exact decide_eq_true (by have := h.pos hP; omega)
theorem getD_app_l {α : Type} {v : List α} {x d : α} {j : Nat} (h : j < v.length) : (v ++ [x]).getD j d = v.getD j d := by
  rw [List.getD_eq_getElem?_getD, List.getElem?_append_left h, List.getD_eq_getElem?_getD]
theorem getD_app_r {α : Type} {v : List α} {x d : α} : (v ++ [x]).getD v.length d = x := by
  rw [List.getD_eq_getElem?_getD, List.getElem?_append_right (Nat.le_refl _), Nat.sub_self]; rfl
set_option maxRecDepth 10000 in
set_option maxHeartbeats 1000000 in
theorem View_made (b : Nat) (A B : Option Addr) (c cs : Nat) (L l : List Int) (k : Nat) (I : PH) (hL : CodesOk I A c L) (hk : k ≤ L.length) (hl : Ints I B cs l) (hs : Sizes l) :
    FnSpec Tryd.prog 8 [.pointer (some ⟨b, 0, none⟩), .agg #[.slice B l.length cs]] I [CodesR b A c L k]
      (fun u R' => ∃ (Av : Option Addr) (cv : Nat) (v : List Row) (k' : Nat), u = .agg #[.slice Av v.length cv] ∧ Viewed l v ∧ k' ≤ L.length ∧ R' = [ViewR Av cv v, CodesR b A c L k']) := by
  have hlen := hl.len
  have hd := hs.dims
  refine FnSpec.enterP Tryd.func8 rfl Tryd.ntmps8 rfl fun w F => ?_
  repeat' first
    | ((with_reducible refine Nx.is_wp ?_); first | refine Nx.wo ?_ | refine Nx.zp (fun hc => ?_) (fun hc => ?_))
    | (refine Nx.zo ?_; first | refine Nx.opr rfl rfl ?_ | refine Nx.so ?_ | refine Nx.sb (fun bx => ?_) | refine Nx.sa (fun A2 c2 => ?_))
    | refine Nx.za ?_ | refine Nx.zr (fun hc => ?_) (fun hc => ?_)
    | refine Nx.zq ?_ | refine Nx.zu (fun hc => ?_) (fun hc => ?_)
    | refine Nx.zx ?_ | fail
  rename_i b3 b4
  revert bx; intro b5
  refine Nx.p_loop (σ := Nat × Nat × Option Addr × Nat × List Row) (fun s => [(0, .pointer (some ⟨b, 0, none⟩)), (4, .pointer (some ⟨b4, 0, none⟩)), (5, .pointer (some ⟨b5, 0, none⟩)), (13, .slice B l.length cs), (14, .int .i64 l.length), (15, .int .i64 (s.1 : Int))])
    (fun s => [Blk b5 31 [.slice s.2.2.1 s.1 s.2.2.2.1], Vec 25 1 s.2.2.1 s.1 s.2.2.2.1 (s.2.2.2.2.map rowV), Stars (s.2.2.2.2.map rowR), CodesR b A c L s.2.1, Blk b4 31 [.slice none 0 0], F])
    (fun s => s.1 ≤ l.length ∧ s.2.1 ≤ L.length ∧ s.2.2.2.2.length = s.1 ∧ ∀ j, j < s.1 → ((s.2.2.2.2.getD j default).2.2.length : Int) = l.getD j default ∧ numbB (s.2.2.2.2.getD j default).2.2 = true) (fun s => l.length - s.1) (0, k, none, 0, []) rfl
    ⟨Nat.zero_le _, hk, rfl, fun j hj => absurd hj (Nat.not_lt_zero _)⟩ ⟨rfl, rfl, rfl, rfl, rfl, rfl, trivial⟩ ?_ ?_
  · exact ((Ent.vec_nil _ _ _).trans (Ent.stars_nil _)).trans (by (exact Ent.auto))
  rintro ⟨i, kc, Av, cv, v⟩ ⟨hi, hkc, hvl, hve⟩
  dsimp only at hi hkc hvl hve ⊢
  have hat := fun h => hs.at (k := i) h
  by_cases hlt : i < l.length
  · have hat := hat hlt
    repeat' first
      | ((with_reducible refine Nx.is_wp ?_); first | refine Nx.wo ?_ | refine Nx.zp (fun hc => ?_) (fun hc => ?_))
      | (refine Nx.zo ?_; first | refine Nx.opr rfl rfl ?_ | refine Nx.indexAddr_nat rfl rfl rfl rfl rfl (by omega) (hl.isSome (by omega)) ?_ | refine Nx.load rfl rfl rfl (hl.rd (by omega)) ?_ | refine Nx.so ?_ | refine Nx.sb (fun bx => ?_) | refine Nx.sa (fun A2 c2 => ?_))
      | refine Nx.za ?_ | refine Nx.zr (fun hc => ?_) (fun hc => ?_)
      | refine Nx.zq ?_ | refine Nx.zu (fun hc => ?_) (fun hc => ?_)
      | refine Nx.zx ?_ | fail
    obtain ⟨n, hn⟩ : ∃ n : Nat, l.getD i default = n := ⟨(l.getD i default).toNat, by omega⟩
    rw [hn] at hat ⊢
    repeat' first
      | ((with_reducible refine Nx.is_wp ?_); first | refine Nx.wo ?_ | refine Nx.zp (fun hc => ?_) (fun hc => ?_))
      | (refine Nx.zo ?_; first | refine Nx.opr rfl rfl ?_ | refine Nx.so ?_ | refine Nx.sb (fun bx => ?_) | refine Nx.sa (fun A2 c2 => ?_))
      | refine Nx.za ?_ | refine Nx.zr (fun hc => ?_) (fun hc => ?_)
      | refine Nx.zq ?_ | refine Nx.zu (fun hc => ?_) (fun hc => ?_)
      | refine Nx.zx ?_ | fail
    refine Nx.p_loop (σ := Nat × Nat × List Int × Int) (fun s => [(0, .pointer (some ⟨b, 0, none⟩)), (4, .pointer (some ⟨b4, 0, none⟩)), (5, .pointer (some ⟨b5, 0, none⟩)), (13, .slice B l.length cs), (14, .int .i64 l.length), (15, .int .i64 (i : Int)), (8, .slice (some ⟨bx, 0, none⟩) n n), (9, .int .i64 s.2.2.2), (21, .slice (some ⟨bx, 0, none⟩) n n), (22, .int .i64 (n : Int)), (23, .int .i64 (s.1 : Int))])
      (fun s => [Vec 3 1 (some ⟨bx, 0, none⟩) n n (s.2.2.1.map (Value.int .i64)), Blk b5 31 [.slice Av i cv], Vec 25 1 Av i cv (v.map rowV), Stars (v.map rowR), CodesR b A c L s.2.1, Blk b4 31 [.slice none 0 0], F])
      (fun s => VOk n s.1 s.2.2.1 s.2.2.2 ∧ s.2.1 ≤ L.length) (fun s => n - s.1) (0, kc, List.replicate n 0, 0) rfl
      ⟨⟨Nat.zero_le _, by simp, rfl, by simp, fun h => absurd h (Nat.lt_irrefl _)⟩, hkc⟩ ⟨rfl, rfl, rfl, rfl, rfl, rfl, rfl, rfl, rfl, rfl, rfl, trivial⟩ (by (exact Ent.auto)) ?_
    rintro ⟨j, kj, gs, nx⟩ ⟨hok, hkj⟩
    dsimp only at hok hkj ⊢
    have hjn := hok.le
    have hnx := hok.bd
    have hgl := hok.len
    by_cases hjl : j < n
    · repeat' first
        | ((with_reducible refine Nx.is_wp ?_); first | refine Nx.wo ?_ | refine Nx.zp (fun hc => ?_) (fun hc => ?_))
        | (refine Nx.zo ?_; first | refine Nx.opr rfl rfl ?_ | refine Nx.so ?_ | refine Nx.sb (fun bx => ?_) | refine Nx.sa (fun A2 c2 => ?_))
        | refine Nx.za ?_ | refine Nx.zr (fun hc => ?_) (fun hc => ?_)
        | refine Nx.zq ?_ | refine Nx.zu (fun hc => ?_) (fun hc => ?_)
        | refine Nx.zx ?_ | fail
      refine Nx.at_op rfl rfl ?_
      refine Nx.call rfl rfl rfl (by kernel_rfl) rfl (Next_any b A c L kj (nx + 2) I hL hkj (by omega)) (by (exact Ent.auto)) ?_
      rintro u R' ⟨r, k1, rfl, hr, hk1, rfl⟩
      repeat' first
        | ((with_reducible refine Nx.is_wp ?_); first | refine Nx.wo ?_ | refine Nx.zp (fun hc => ?_) (fun hc => ?_))
        | (refine Nx.zo ?_; first | refine Nx.opr rfl rfl ?_ | refine Nx.so ?_ | refine Nx.sb (fun bx => ?_) | refine Nx.sa (fun A2 c2 => ?_))
        | refine Nx.za ?_ | refine Nx.zr (fun hc => ?_) (fun hc => ?_)
        | refine Nx.zq ?_ | refine Nx.zu (fun hc => ?_) (fun hc => ?_)
        | refine Nx.zx ?_ | fail
      all_goals
        refine Nx.at_op rfl rfl ?_
        refine Nx.call rfl rfl rfl (by kernel_rfl) rfl (Next_any b A c L k1 8 I hL hk1 (by omega)) (by (exact Ent.auto)) ?_
        rintro u R' ⟨q, k2, rfl, hq, hk2, rfl⟩
        repeat' first
          | ((with_reducible refine Nx.is_wp ?_); first | refine Nx.wo ?_ | refine Nx.zp (fun hc => ?_) (fun hc => ?_))
          | (refine Nx.zo ?_; first | refine Nx.opr rfl rfl ?_ | refine Nx.indexAddr_nat rfl rfl rfl rfl rfl (by omega) rfl ?_ | refine Nx.so ?_ | refine Nx.sb (fun bx => ?_) | refine Nx.sa (fun A2 c2 => ?_))
          | refine Nx.za ?_ | refine Nx.zr (fun hc => ?_) (fun hc => ?_)
          | refine Nx.zq ?_ | refine Nx.zu (fun hc => ?_) (fun hc => ?_)
          | refine Nx.zx ?_ | fail
      all_goals first
        | exact Nx.again (j + 1, k2, gs.set j r, nx) ⟨hok.ne hjl (by omega) (by omega), hk2⟩ (by dsimp only; omega) ⟨rfl, rfl, rfl, rfl, rfl, rfl, rfl, rfl, rfl, rfl, rfl, trivial⟩ (by (exact Ent.auto))
        | exact Nx.again (j + 1, k2, gs.set j r, nx + 1) ⟨hok.eq hjl (by omega), hk2⟩ (by dsimp only; omega) ⟨rfl, rfl, rfl, rfl, rfl, rfl, rfl, rfl, rfl, rfl, rfl, trivial⟩ (by (exact Ent.auto))
        | exact Nx.again (j + 1, k2, gs.set j nx, nx + 1) ⟨hok.eq hjl rfl, hk2⟩ (by dsimp only; omega) ⟨rfl, rfl, rfl, rfl, rfl, rfl, rfl, rfl, rfl, rfl, rfl, trivial⟩ (by (exact Ent.auto))
        | exact Nx.again (j + 1, k2, gs.set j (-1), nx) ⟨hok.ne hjl (by omega) (by omega), hk2⟩ (by dsimp only; omega) ⟨rfl, rfl, rfl, rfl, rfl, rfl, rfl, rfl, rfl, rfl, rfl, trivial⟩ (by (exact Ent.auto))
    · obtain rfl : j = n := by omega
      repeat' first
        | ((with_reducible refine Nx.is_wp ?_); first | refine Nx.wo ?_ | refine Nx.zp (fun hc => ?_) (fun hc => ?_))
        | (refine Nx.zo ?_; first | refine Nx.opr rfl rfl ?_ | refine Nx.so ?_ | refine Nx.sb (fun bx => ?_) | refine Nx.sa (fun A2 c2 => ?_))
        | refine Nx.za ?_ | refine Nx.zr (fun hc => ?_) (fun hc => ?_)
        | refine Nx.zq ?_ | refine Nx.zu (fun hc => ?_) (fun hc => ?_)
        | refine Nx.zx ?_ | fail
      rename_i bg
      subst hgl
      refine Nx.again (i + 1, kj, A2, c2, v ++ [(some ⟨bg, 0, none⟩, gs.length, gs)]) ⟨hlt, hkj, by simp [hvl], fun j hj => ?_⟩ (by dsimp only; omega) ⟨rfl, rfl, rfl, rfl, rfl, rfl, trivial⟩ ?_
      · dsimp only
        by_cases hji : j < i
        · rw [getD_app_l (by omega)]; exact hve j hji
        · obtain rfl : j = v.length := by dsimp only at hj; omega
          rw [getD_app_r]
          exact ⟨by rw [hvl, hn], hok.done (by omega)⟩
      · dsimp only
        refine Ent.trans (R' := [rowR (some ⟨bg, 0, none⟩, gs.length, gs), Stars (v.map rowR), Blk b5 31 [.slice A2 (i + 1) c2], Vec 25 1 A2 (i + 1) c2 (v.map rowV ++ [.slice (some ⟨bg, 0, none⟩) gs.length gs.length]), CodesR b A c L kj, Blk b4 31 [.slice none 0 0], F]) (by unfold rowR; (exact Ent.auto)) (Ent.bundle.trans ?_)
        rw [List.map_append, List.map_append]
        exact (by (exact Ent.auto))
  · repeat' first
      | ((with_reducible refine Nx.is_wp ?_); first | refine Nx.wo ?_ | refine Nx.zp (fun hc => ?_) (fun hc => ?_))
      | (refine Nx.zo ?_; first | refine Nx.opr rfl rfl ?_ | refine Nx.so ?_ | refine Nx.sb (fun bx => ?_) | refine Nx.sa (fun A2 c2 => ?_))
      | refine Nx.za ?_ | refine Nx.zr (fun hc => ?_) (fun hc => ?_)
      | refine Nx.zq ?_ | refine Nx.zu (fun hc => ?_) (fun hc => ?_)
      | refine Nx.zx ?_ | fail
    refine Nx.ret_cell 0 rfl rfl rfl rfl rfl rfl [ViewR Av cv v, CodesR b A c L kc] ⟨Av, cv, v, kc, by rw [hvl], ⟨by omega, fun j hj => hve j (by omega)⟩, hkc, rfl⟩ ?_
    refine Ent.trans (R' := [Vec 25 1 Av i cv (v.map rowV), Stars (v.map rowR), CodesR b A c L kc, F]) (by (exact Ent.auto)) ?_
    rw [← hvl]
    exact Ent.pack2
end Go.Proofs.YtpmlehplbobjmaaDoor
/- Contracts of functions of the given program, and lemmas about plain lists and numbers: what the laws of this seat lean on. -/
namespace Go.Proofs.YtpmlehplbobjmaaDoor
open Go.Eng
attribute [local irreducible] opK wpList Code.wp Exit.then Exit.inBlock fnPost bodyPost Nx Calls Oper.wp Rd Rds Wr Ent Stars Blk Again Vec FnSpec wpMix QRun Stop Upto wpAt
theorem bytes_take {I : PH} {A : Option Addr} {c : Nat} {l : List Int} (hl : Bytes I A c l) (hx : ∀ x ∈ l, 0 ≤ x ∧ x < 256) : CodesOk I A c (l.take 400) := ⟨hl.take 400, fun x h => hx x (List.mem_of_mem_take h)⟩
set_option maxHeartbeats 8000000 in
theorem New_codes (A : Option Addr) (c : Nat) (l : List Int) (I : PH) (hl : Bytes I A c l) :
    FnSpec Tryd.prog 6 [.slice A l.length c] I [] (fun v R' => ∃ b, v = .pointer (some ⟨b, 0, none⟩) ∧ R' = [CodesR b A c (l.take 400) 0]) := New_spec A c l I hl
set_option maxHeartbeats 8000000 in
theorem Space_made (b : Nat) (A : Option Addr) (c : Nat) (L : List Int) (k : Nat) (I : PH) (hL : CodesOk I A c L) (hk : k ≤ L.length) :
    FnSpec Tryd.prog 7 [.pointer (some ⟨b, 0, none⟩)] I [CodesR b A c L k]
      (fun v R' => ∃ (B : Option Addr) (c' : Nat) (s : List Int) (k' : Nat), v = .agg #[.slice B s.length c'] ∧ Sizes s ∧ k' ≤ L.length ∧ R' = [Vec 3 1 B s.length c' (s.map (Value.int .i64)), CodesR b A c L k']) := Space_spec b A c L k I hL.sl hL.each hk
end Go.Proofs.YtpmlehplbobjmaaDoor
/-
  The proof engine, part M: maps that are owned, as lists of keys and values.
-/
namespace Go.Eng
open Go.Instr
/-- How keys of one kind lie in a map. -/
structure KeyEnc (P : Program) (kt : TypeId) {κ : Type} [DecidableEq κ] (g : κ → Value) : Prop where
  same : ∃ kind, P.underlying kt = some kind ∧ ∀ a b, sameNow kind (g a) (g b) = some (decide (a = b))
  check : ∀ (em : Bool) (a : κ) (w : World), (checkKey em 10000 kt (g a)).run P w = .ok () w
  bits : ∀ a, sameBits 10000 (g a) (g a) = true
theorem KeyEnc.int {P : Program} {kt : TypeId} {k : IntKind} (h : P.underlying kt = some (.int k)) : KeyEnc P kt (fun x : Int => Value.int k x) := by
  refine ⟨⟨_, h, fun a b => ?_⟩, fun em a w => ?_, fun a => by simp [sameBits]⟩
  · simp only [sameNow, if_pos]
    by_cases hab : a = b <;> simp [hab]
  · unfold checkKey
    rw [Sem.run_bind, run_underlying h, Result.andThen_ok]
    rfl
section
variable {κ α : Type} [DecidableEq κ] {g : κ → Value} {f : α → Value}
def mfindI : List (κ × α) → κ → Nat → Option (Nat × α)
  | [], _, _ => none
  | (k', v) :: r, k, i => if k = k' then some (i, v) else mfindI r k (i + 1)
def mget : List (κ × α) → κ → Option α
  | [], _ => none
  | (k', v) :: r, k => if k = k' then some v else mget r k
def mset : List (κ × α) → κ → α → List (κ × α)
  | [], k, v => [(k, v)]
  | (k', v') :: r, k, v => if k = k' then (k', v) :: r else (k', v') :: mset r k v
theorem mfindI_get : ∀ (l : List (κ × α)) (k : κ) (i : Nat), (mfindI l k i).map (·.2) = mget l k
  | [], _, _ => rfl
  | (k', v) :: r, k, i => by
    unfold mfindI mget
    split
    · rfl
    · exact mfindI_get r k (i + 1)
theorem mget_set (l : List (κ × α)) (k k' : κ) (v : α) : mget (mset l k v) k' = if k' = k then some v else mget l k' := by
  induction l with
  | nil =>
    simp only [mset, mget]
  | cons p r ih =>
    obtain ⟨q, u⟩ := p
    simp only [mset]
    by_cases h : k = q
    · rw [if_pos h]
      simp only [mget]
      by_cases h2 : k' = q
      · rw [if_pos h2, if_pos (h2.trans h.symm)]
      · rw [if_neg h2, if_neg (by rw [h]; exact h2), if_neg h2]
    · rw [if_neg h]
      simp only [mget]
      by_cases h2 : k' = q
      · rw [if_pos h2, if_pos h2, if_neg (by rw [h2]; exact fun h3 => h h3.symm)]
      · rw [if_neg h2, if_neg h2, ih]
def entOk (g : κ → Value) (f : α → Value) (es : List MapEntry) (l : List (κ × α)) : Prop := es.map (fun e => (e.key, e.val)) = l.map fun p => (g p.1, f p.2)
theorem findNow_ent {kind : TypeDesc} (hs : ∀ a b, sameNow kind (g a) (g b) = some (decide (a = b))) {k : κ} : ∀ {es : List MapEntry} {l : List (κ × α)} (i : Nat), entOk g f es l → findNow kind (g k) es i = some ((mfindI l k i).map fun p => (p.1, f p.2))
  | [], [], i, _ => rfl
  | [], _ :: _, i, h => by simp [entOk] at h
  | _ :: _, [], i, h => by simp [entOk] at h
  | e :: es, (q, u) :: l, i, h => by
    simp only [entOk, List.map_cons, List.cons.injEq, Prod.mk.injEq] at h
    obtain ⟨⟨h1, h2⟩, h3⟩ := h
    unfold findNow
    rw [h1, hs]
    unfold mfindI
    by_cases hk : k = q
    · simp [hk, h2]
    · simp only [hk, decide_false]
      exact findNow_ent hs (i + 1) h3
theorem modify_ent {k : κ} {v v0 : α} : ∀ {es : List MapEntry} {l : List (κ × α)} {i j : Nat}, entOk g f es l → mfindI l k i = some (j, v0) → i ≤ j ∧ j - i < es.length ∧ entOk g f (es.modify (j - i) fun e => { e with key := g k, val := f v }) (mset l k v)
  | [], [], i, j, _, h => by simp [mfindI] at h
  | [], _ :: _, i, j, h, _ => by simp [entOk] at h
  | _ :: _, [], i, j, h, _ => by simp [entOk] at h
  | e :: es, (q, u) :: l, i, j, h, hf => by
    simp only [entOk, List.map_cons, List.cons.injEq, Prod.mk.injEq] at h
    obtain ⟨⟨h1, h2⟩, h3⟩ := h
    unfold mfindI at hf
    unfold mset
    by_cases hk : k = q
    · rw [if_pos hk] at hf ⊢
      simp only [Option.some.injEq, Prod.mk.injEq] at hf
      obtain ⟨rfl, rfl⟩ := hf
      refine ⟨Nat.le_refl _, by simp, ?_⟩
      rw [Nat.sub_self]
      simp only [entOk, List.modify_zero_cons, List.map_cons, List.cons.injEq, Prod.mk.injEq]
      exact ⟨⟨by rw [hk], trivial⟩, h3⟩
    · rw [if_neg hk] at hf ⊢
      obtain ⟨a1, a2, a3⟩ := modify_ent (v := v) h3 hf
      refine ⟨by omega, by simp; omega, ?_⟩
      rw [show j - i = (j - (i + 1)) + 1 by omega]
      simp only [entOk, List.modify_succ_cons, List.map_cons, List.cons.injEq, Prod.mk.injEq]
      exact ⟨⟨h1, h2⟩, a3⟩
theorem push_ent {k : κ} {v : α} : ∀ {es : List MapEntry} {l : List (κ × α)} {i : Nat} {e : MapEntry}, entOk g f es l → mfindI l k i = none → e.key = g k → e.val = f v → entOk g f (es ++ [e]) (mset l k v)
  | [], [], i, e, _, _, h1, h2 => by simp [entOk, mset, h1, h2]
  | [], _ :: _, i, e, h, _, _, _ => by simp [entOk] at h
  | _ :: _, [], i, e, h, _, _, _ => by simp [entOk] at h
  | x :: es, (q, u) :: l, i, e, h, hf, he1, he2 => by
    simp only [entOk, List.map_cons, List.cons.injEq, Prod.mk.injEq] at h
    obtain ⟨⟨h1, h2⟩, h3⟩ := h
    unfold mfindI at hf
    by_cases hk : k = q
    · rw [if_pos hk] at hf; cases hf
    · rw [if_neg hk] at hf
      unfold mset
      rw [if_neg hk]
      simp only [entOk, List.cons_append, List.map_cons, List.cons.injEq, Prod.mk.injEq]
      exact ⟨⟨h1, h2⟩, push_ent h3 hf he1 he2⟩
/-- A map that is owned. -/
def MapR (g : κ → Value) (f : α → Value) (b : Nat) (l : List (κ × α)) : Res := fun m => ∃ es clock, m b = some (.map es clock) ∧ entOk g f es.toList l
theorem run_findKey_ent {P : Program} {kt : TypeId} (K : KeyEnc P kt g) {es : List MapEntry} {l : List (κ × α)} (h : entOk g f es l) (k : κ) (w : World) : (findKey kt (g k) es).run P w = .ok ((mfindI l k 0).map fun p => (p.1, f p.2)) w := by
  obtain ⟨kind, hk, hs⟩ := K.same
  unfold findKey
  rw [Sem.run_bind, run_underlying hk, Result.andThen_ok, findNow_ent hs 0 h]
  rfl
theorem run_lookup_ent {P : Program} {t kt et : TypeId} {b clock : Nat} {es : Array MapEntry} {l : List (κ × α)} {w : World} {z : α} (K : KeyEnc P kt g) (ht : P.underlying t = some (.map kt et)) (hz : (zeroValue et).run P w = .ok (f z) w) (hb : w.heap[b]? = some (.map es clock)) (h : entOk g f es.toList l) (k : κ) (ok : Bool) :
    (Instr.lookup t (.map (some b)) (g k) ok).run P w = .ok (if ok then .tuple #[f ((mget l k).getD z), .bool (mget l k).isSome] else f ((mget l k).getD z)) w := by
  have hg := mfindI_get l k 0
  unfold Instr.lookup
  rw [Sem.run_bind, run_underlying ht, Result.andThen_ok]
  simp only [Sem.run_bind, MapKept.run_getObj_map hb, Result.andThen_ok, Sem.run_pure, K.check, run_findKey_ent K h]
  cases hm : mfindI l k 0 with
  | none =>
    rw [hm] at hg
    simp only [Option.map_none, Sem.run_bind, hz, Result.andThen_ok, Sem.run_pure]
    rw [← hg]
    cases ok <;> rfl
  | some p =>
    rw [hm] at hg
    simp only [Option.map_some, Sem.run_bind, Result.andThen_ok, Sem.run_pure]
    rw [← hg]
    cases ok <;> rfl
theorem run_update_ent {P : Program} {t kt et : TypeId} {b clock : Nat} {es : Array MapEntry} {l : List (κ × α)} {w : World} (K : KeyEnc P kt g) (ht : P.underlying t = some (.map kt et)) (hb : w.heap[b]? = some (.map es clock)) (h : entOk g f es.toList l) (k : κ) (v : α) :
    ∃ es' clock', (Instr.mapUpdate t (.map (some b)) (g k) (f v)).run P w = .ok () { w with heap := w.heap.setIfInBounds b (.map es' clock') } ∧ entOk g f es'.toList (mset l k v) := by
  unfold Instr.mapUpdate
  cases hm : mfindI l k 0 with
  | none =>
    refine ⟨es.push ⟨g k, f v, clock⟩, clock + 1, ?_, by rw [Array.toList_push]; exact push_ent h hm rfl rfl⟩
    rw [Sem.run_bind, run_underlying ht, Result.andThen_ok]
    simp only [Sem.run_bind, MapKept.run_getObj_map hb, Result.andThen_ok, K.check, run_findKey_ent K h, hm, Option.map_none, MapKept.run_setObj_map _ hb]
  | some p =>
    obtain ⟨j, v0⟩ := p
    obtain ⟨_, hlt, hmod⟩ := modify_ent (v := v) h hm
    rw [Nat.sub_zero] at hlt hmod
    have hkey : es[j]?.map (·.key) = some (g k) := by
      have key : ∀ {es : List MapEntry} {l : List (κ × α)} {i : Nat}, entOk g f es l → mfindI l k i = some (j, v0) → i ≤ j ∧ (es[j - i]?).map (·.key) = some (g k) := by
        intro es
        induction es with
        | nil => intro l i h1 h2; cases l with
          | nil => simp [mfindI] at h2
          | cons _ _ => simp [entOk] at h1
        | cons e es ih =>
          intro l i h1 h2
          cases l with
          | nil => simp [entOk] at h1
          | cons q l =>
            obtain ⟨q, u⟩ := q
            simp only [entOk, List.map_cons, List.cons.injEq, Prod.mk.injEq] at h1
            obtain ⟨⟨a1, a2⟩, a3⟩ := h1
            unfold mfindI at h2
            by_cases hk : k = q
            · rw [if_pos hk] at h2
              simp only [Option.some.injEq, Prod.mk.injEq] at h2
              obtain ⟨rfl, rfl⟩ := h2
              refine ⟨Nat.le_refl _, ?_⟩
              rw [Nat.sub_self]
              simp [a1, hk]
            · rw [if_neg hk] at h2
              obtain ⟨b1, b2⟩ := ih a3 h2
              refine ⟨by omega, ?_⟩
              rw [show j - i = (j - (i + 1)) + 1 by omega, List.getElem?_cons_succ]
              exact b2
      have := (key h hm).2
      rw [Nat.sub_zero] at this
      rw [← Array.getElem?_toList]
      exact this
    refine ⟨es.modify j fun e => { e with key := g k, val := f v }, clock, ?_, by rw [Array.toList_modify]; exact hmod⟩
    rw [Sem.run_bind, run_underlying ht, Result.andThen_ok]
    simp only [Sem.run_bind, MapKept.run_getObj_map hb, Result.andThen_ok, K.check, run_findKey_ent K h, hm, Option.map_some, hkey, Option.getD_some, keyThatStays, K.bits, if_true, Sem.run_pure, MapKept.run_setObj_map _ hb]
end
section
variable {C : Cx} {e e' : Env} {I : PH} {R R' R0 : List Res} {K K' : Act → World → Prop} {Q : Exit → Act → World → Prop} {W : World}
variable {d : Nat} {ty t : TypeId} {pos : String} {after : Array Edge} {gd : Option (Nat × Bool)} {x y z : Operand} {dst : Option Tmp}
variable {κ α : Type}
theorem Nx.makeMap (g : κ → Value) (f : α → Value) (hlt : Nat.blt d C.n = true)
    (h : ∀ b, Nx C ((d, .map (some b)) :: e) I (MapR g f b [] :: R) K) : Nx C e I R (opK C.P ⟨some d, .makeMap t none, ty, pos, after, gd⟩ K Q) :=
  Nx.op_new (v := fun b => .map (some b)) (ob := .map #[] 0) rfl hlt (fun a w ha hw => by
    simp only [execOp, Option.map_none]
    exact run_v rfl) (fun b => (h b).ent (Ent.head fun m hm => ⟨#[], 0, hm, rfl⟩))
theorem MapR.held {g : κ → Value} {f : α → Value} {b : Nat} {l : List (κ × α)} {w : World} (h : St W I (MapR g f b l :: R) w) : ∃ es clock, w.heap[b]? = some (.map es clock) ∧ entOk g f es.toList l := by
  obtain ⟨⟨m, ⟨m1, m2, _, rfl, ⟨es, clock, hb, he⟩, _⟩, hs⟩, _⟩ := h
  exact ⟨es, clock, hs.own _ _ (PH.le_or_left _ _ _ _ hb), he⟩
variable [DecidableEq κ]
/-- m[k] = v, the map resource number i. -/
theorem Nx.mapSet (i : Nat) (g : κ → Value) (f : α → Value) {kt et : TypeId} {b : Nat} {l : List (κ × α)} {k : κ} {v : α} {op : Op} (hop : op = .insert t x y z ∨ op = .mapUpdate t x y z) (hx : evo e x = some (.map (some b))) (hy : evo e y = some (g k)) (hz : evo e z = some (f v))
    (KE : KeyEnc C.P kt g) (ht : C.P.underlying t = some (.map kt et)) (hk : nthL R i = some (MapR g f b l)) (h : Nx C e I (MapR g f b (mset l k v) :: R.eraseIdx i) K) : Nx C e I R (opK C.P ⟨none, op, ty, pos, after, gd⟩ K Q) := by
  refine Nx.ent (Ent.pull i R _ (nthL_eq.symm.trans hk)) ?_
  intro a w ha hw
  obtain ⟨es, clock, hb, he⟩ := MapR.held hw
  obtain ⟨es', clock', hr, he'⟩ := run_update_ent KE ht hb he k v
  unfold opK Oper.wp
  have hrun : (execOp a.eval ⟨none, op, ty, pos, after, gd⟩).run C.P w = .ok .skip { w with heap := w.heap.setIfInBounds b (.map es' clock') } := by
    rcases hop with rfl | rfl <;>
    · simp only [execOp, ha.eval hx, ha.eval hy, ha.eval hz]
      rw [Sem.run_bind, hr]
      rfl
  rw [hrun]
  have hlt := (Array.getElem?_eq_some_iff.1 hb).1
  refine h _ _ ha (hw.upd (o := .map es' clock') (b := b) (fun m hm => ?_) (by simp [hlt]) (fun j hne o' ho => ?_) ⟨rfl, rfl, rfl, by simp, Nat.le_refl _⟩)
  · obtain ⟨es1, clock1, h1, _⟩ := hm
    exact ⟨by rw [h1]; rfl, es', clock', by simp, he'⟩
  · simp only
    rw [Array.getElem?_setIfInBounds_ne (fun h => hne h.symm)]
    exact ho
/-- 'v, ok := m[k]' or 'm[k]', the map resource number i. -/
theorem Nx.mapGet (i : Nat) (g : κ → Value) (f : α → Value) {kt et : TypeId} {b : Nat} {l : List (κ × α)} {k : κ} {z : α} {ok : Bool} {ti : TypeInfo} (hx : evo e x = some (.map (some b))) (hy : evo e y = some (g k))
    (KE : KeyEnc C.P kt g) (ht : C.P.underlying t = some (.map kt et)) (hi : C.P.info? et = some ti) (hz : ti.zero = some (f z)) (hlt : Nat.blt d C.n = true) (hk : nthL R i = some (MapR g f b l))
    (h : Nx C ((d, if ok then .tuple #[f ((mget l k).getD z), .bool (mget l k).isSome] else f ((mget l k).getD z)) :: e) I R K) : Nx C e I R (opK C.P ⟨some d, .lookup t x y ok, ty, pos, after, gd⟩ K Q) :=
  Nx.op_run rfl hlt (fun a w ha hw => by
    obtain ⟨es, clock, hb, he⟩ := MapR.held (hw.ent (Ent.pull i R _ (nthL_eq.symm.trans hk)))
    simp only [execOp, ha.eval hx, ha.eval hy]
    exact run_v (run_lookup_ent KE ht (by simp [zeroValue, typeInfo, hi, hz]) hb he k ok)) h
theorem QRun.mapGet (i : Nat) (g : κ → Value) (f : α → Value) {kt et : TypeId} {b : Nat} {l : List (κ × α)} {k : κ} {z : α} {ok : Bool} {ti : TypeInfo} (hx : evo e x = some (.map (some b))) (hy : evo e y = some (g k))
    (KE : KeyEnc C.P kt g) (ht : C.P.underlying t = some (.map kt et)) (hi : C.P.info? et = some ti) (hz : ti.zero = some (f z)) (hk : nthL R0 i = some (MapR g f b l)) :
    QRun C e (St C.W I R0) ⟨dst, .lookup t x y ok, ty, pos, after, gd⟩ (if ok then .tuple #[f ((mget l k).getD z), .bool (mget l k).isSome] else f ((mget l k).getD z)) := fun a w ha hw => by
  obtain ⟨es, clock, hb, he⟩ := MapR.held (hw.ent (Ent.pull i R0 _ (nthL_eq.symm.trans hk)))
  simp only [execOp, ha.eval hx, ha.eval hy]
  exact run_v (run_lookup_ent KE ht (by simp [zeroValue, typeInfo, hi, hz]) hb he k ok)
end
end Go.Eng
/- Contracts of functions of the given program, and lemmas about plain lists and numbers: what the laws of this seat lean on. -/
namespace Go.Proofs.YtpmlehplbobjmaaDoor
open Go.Eng
attribute [local irreducible] opK wpList Code.wp Exit.then Exit.inBlock fnPost bodyPost Nx Calls Oper.wp Rd Rds Wr Ent Stars Blk Again Vec FnSpec wpMix QRun Stop Upto wpAt
/-! Being finer -/
def WithinP (a b : List Int) : Prop := (∀ k, k < a.length → a.getD k default = -1 → b.getD k default = -1) ∧ ∀ k, k < a.length → ∀ j, j < a.length → a.getD j default = a.getD k default → b.getD j default = b.getD k default
instance (a b : List Int) : Decidable (WithinP a b) := by unfold WithinP; infer_instance
structure WInv (a b : List Int) (k : Nat) (l : List (Int × Int)) : Prop where
  out : mget l (-1) = some (-1)
  to : ∀ j, j < k → mget l (a.getD j default) = some (b.getD j default)
  from_ : ∀ g v, mget l g = some v → g = -1 ∨ ∃ j, j < k ∧ a.getD j default = g
theorem winv0 (a b : List Int) : WInv a b 0 [(-1, -1)] := ⟨rfl, fun j hj => absurd hj (Nat.not_lt_zero _), fun g v h => by
  simp only [mget] at h
  split at h
  · rename_i he; exact .inl he
  · cases h⟩
theorem WInv.new {a b : List Int} {k : Nat} {l : List (Int × Int)} (h : WInv a b k l) (hn : mget l (a.getD k default) = none) : WInv a b (k + 1) (mset l (a.getD k default) (b.getD k default)) := by
  have hne : ∀ g v, mget l g = some v → g ≠ a.getD k default := fun g v hg he => by rw [he, hn] at hg; cases hg
  refine ⟨?_, fun j hj => ?_, fun g v hg => ?_⟩
  · rw [mget_set, if_neg (hne _ _ h.out)]; exact h.out
  · rw [mget_set]
    by_cases hjk : j = k
    · subst hjk; rw [if_pos rfl]
    · have := h.to j (by omega)
      rw [if_neg (hne _ _ this)]; exact this
  · rw [mget_set] at hg
    split at hg
    · rename_i he; exact .inr ⟨k, by omega, he.symm⟩
    · rcases h.from_ g v hg with h1 | ⟨j, h1, h2⟩
      · exact .inl h1
      · exact .inr ⟨j, by omega, h2⟩
theorem WInv.old {a b : List Int} {k : Nat} {l : List (Int × Int)} (h : WInv a b k l) (hn : mget l (a.getD k default) = some (b.getD k default)) : WInv a b (k + 1) l := by
  refine ⟨h.out, fun j hj => ?_, fun g v hg => ?_⟩
  · by_cases hjk : j = k
    · subst hjk; exact hn
    · exact h.to j (by omega)
  · rcases h.from_ g v hg with h1 | ⟨j, h1, h2⟩
    · exact .inl h1
    · exact .inr ⟨j, by omega, h2⟩
theorem WInv.bad {a b : List Int} {k : Nat} {l : List (Int × Int)} {v : Int} (h : WInv a b k l) (hk : k < a.length) (hn : mget l (a.getD k default) = some v) (hv : v ≠ b.getD k default) : ¬WithinP a b := by
  rintro ⟨h1, h2⟩
  rcases h.from_ _ v hn with h3 | ⟨j, h3, h4⟩
  · have h5 := h1 k hk h3
    rw [h3, h.out] at hn
    have h6 := Option.some.inj hn
    rw [h5] at hv
    exact hv h6.symm
  · have h5 := h.to j h3
    rw [h4, hn] at h5
    have h6 := Option.some.inj h5
    exact hv (h6.trans (h2 k hk j (by omega) h4))
theorem WInv.done {a b : List Int} {l : List (Int × Int)} (h : WInv a b a.length l) : WithinP a b := by
  refine ⟨fun k hk he => ?_, fun k hk j hj he => ?_⟩
  · have h1 := h.to k hk
    rw [he, h.out] at h1
    exact (Option.some.inj h1).symm
  · have h1 := h.to k hk
    have h2 := h.to j hj
    rw [he, h1] at h2
    exact (Option.some.inj h2).symm
set_option maxHeartbeats 2000000 in
set_option maxRecDepth 10000 in
theorem within_spec (A B : Option Addr) (ca cb : Nat) (a b : List Int) (I : PH) (ha : Ints I A ca a) (hb : Ints I B cb b) (hl : a.length = b.length) :
    FnSpec Tryd.prog 38 [.slice A a.length ca, .slice B b.length cb] I [] (fun v R' => v = .bool (decide (WithinP a b)) ∧ R' = []) := by
  have hal := ha.len
  have KE : KeyEnc Tryd.prog 3 (Value.int .i64) := KeyEnc.int (by kernel_rfl)
  refine FnSpec.enterP Tryd.func38 rfl Tryd.ntmps38 rfl fun w F => ?_
  repeat' first
    | ((with_reducible refine Nx.is_wp ?_); first | refine Nx.wo ?_ | refine Nx.zp (fun hc => ?_) (fun hc => ?_))
    | (refine Nx.zo ?_; first | refine Nx.opr rfl rfl ?_ | refine Nx.so ?_ | refine Nx.sb (fun bx => ?_) | refine Nx.sa (fun A2 c2 => ?_))
    | refine Nx.za ?_ | refine Nx.zr (fun hc => ?_) (fun hc => ?_)
    | refine Nx.zq ?_ | refine Nx.zu (fun hc => ?_) (fun hc => ?_)
    | refine Nx.zx ?_ | fail
  refine Nx.at_op rfl rfl ?_
  refine Nx.makeMap (Value.int .i64) (Value.int .i64) rfl (fun bm => ?_)
  refine Nx.at_op rfl rfl ?_
  refine Nx.mapSet 0 (Value.int .i64) (Value.int .i64) (k := (-1 : Int)) (v := (-1 : Int)) (.inl rfl) rfl rfl rfl KE rfl rfl ?_
  repeat' first
    | ((with_reducible refine Nx.is_wp ?_); first | refine Nx.wo ?_ | refine Nx.zp (fun hc => ?_) (fun hc => ?_))
    | (refine Nx.zo ?_; first | refine Nx.opr rfl rfl ?_ | refine Nx.so ?_ | refine Nx.sb (fun bx => ?_) | refine Nx.sa (fun A2 c2 => ?_))
    | refine Nx.za ?_ | refine Nx.zr (fun hc => ?_) (fun hc => ?_)
    | refine Nx.zq ?_ | refine Nx.zu (fun hc => ?_) (fun hc => ?_)
    | refine Nx.zx ?_ | fail
  refine Nx.p_loop (σ := Nat × List (Int × Int)) (fun s => [(1, .slice B b.length cb), (5, .map (some bm)), (12, .slice A a.length ca), (13, .int .i64 a.length), (14, .int .i64 (s.1 : Int))])
    (fun s => [MapR (Value.int .i64) (Value.int .i64) bm s.2, F]) (fun s => s.1 ≤ a.length ∧ WInv a b s.1 s.2) (fun s => a.length - s.1) (0, [(-1, -1)]) rfl
    ⟨Nat.zero_le _, winv0 a b⟩ ⟨rfl, rfl, rfl, rfl, rfl, trivial⟩ (by (exact Ent.auto)) ?_
  rintro ⟨k, l⟩ ⟨hk, hinv⟩
  dsimp only at hk hinv ⊢
  by_cases hlt : k < a.length
  · repeat' first
      | ((with_reducible refine Nx.is_wp ?_); first | refine Nx.wo ?_ | refine Nx.zp (fun hc => ?_) (fun hc => ?_))
      | (refine Nx.zo ?_; first | refine Nx.opr rfl rfl ?_ | refine Nx.indexAddr_nat rfl rfl rfl rfl rfl (by omega) (ha.isSome (by omega)) ?_ | refine Nx.load rfl rfl rfl (ha.rd (by omega)) ?_ | refine Nx.mapGet 0 (Value.int .i64) (Value.int .i64) (z := 0) (ok := true) rfl rfl KE rfl rfl rfl rfl rfl ?_ | refine Nx.so ?_ | refine Nx.sb (fun bx => ?_) | refine Nx.sa (fun A2 c2 => ?_))
      | refine Nx.za ?_ | refine Nx.zr (fun hc => ?_) (fun hc => ?_)
      | refine Nx.zq ?_ | refine Nx.zu (fun hc => ?_) (fun hc => ?_)
      | refine Nx.zx ?_ | fail
    · have hm : mget l (a.getD k default) = none := by simpa using hc
      have hg : (mget (mset l (a.getD k default) (b.getD k default)) (a.getD k default)).getD 0 = b.getD k default := by rw [mget_set, if_pos rfl]; rfl
      repeat' first
        | ((with_reducible refine Nx.is_wp ?_); first | refine Nx.wo ?_ | refine Nx.zp (fun hc => ?_) (fun hc => ?_))
        | (refine Nx.zo ?_; first | refine Nx.opr rfl rfl ?_ | refine Nx.indexAddr_nat rfl rfl rfl rfl rfl (by omega) (hb.isSome (by omega)) ?_ | refine Nx.load rfl rfl rfl (hb.rd (by omega)) ?_ | refine Nx.so ?_ | refine Nx.sb (fun bx => ?_) | refine Nx.sa (fun A2 c2 => ?_))
        | refine Nx.za ?_ | refine Nx.zr (fun hc => ?_) (fun hc => ?_)
        | refine Nx.zq ?_ | refine Nx.zu (fun hc => ?_) (fun hc => ?_)
        | refine Nx.zx ?_ | fail
      refine Nx.at_op rfl rfl ?_
      refine Nx.mapSet 0 (Value.int .i64) (Value.int .i64) (.inr rfl) rfl rfl rfl KE rfl rfl ?_
      repeat' first
        | ((with_reducible refine Nx.is_wp ?_); first | refine Nx.wo ?_ | refine Nx.p_draw (id := 8) rfl [0, 1, 2, 3, 4, 5, 6, 7] [] _ rfl rfl (by kernel_rfl) (by kernel_rfl) rfl PanicOk.auto (Ent.refl _) ?_ | refine Nx.zp (fun hc => ?_) (fun hc => ?_))
        | (refine Nx.zo ?_; first | refine Nx.opr rfl rfl ?_ | refine Nx.so ?_ | refine Nx.sb (fun bx => ?_) | refine Nx.sa (fun A2 c2 => ?_))
        | refine Nx.za ?_ | refine Nx.zr (fun hc => ?_) (fun hc => ?_)
        | ((with_reducible refine Nx.is_mix ?_); first | refine Nx.m_quiet rfl rfl rfl rfl rfl (by first | exact QRun.opr rfl | exact QRun.mapGet 0 (Value.int .i64) (Value.int .i64) (z := 0) (ok := false) rfl rfl KE rfl rfl rfl rfl | exact QRun.idx rfl rfl rfl rfl (by omega) (hb.isSome (by omega)) | exact QRun.load rfl rfl (hb.rd (by omega))) ?_ | refine Nx.m_quiet_do rfl rfl rfl rfl rfl rfl rfl (by first | exact QRun.opr rfl | exact QRun.mapGet 0 (Value.int .i64) (Value.int .i64) (z := 0) (ok := false) rfl rfl KE rfl rfl rfl rfl | exact QRun.idx rfl rfl rfl rfl (by omega) (hb.isSome (by omega)) | exact QRun.load rfl rfl (hb.rd (by omega))) ?_ | refine Nx.m ?_ | refine Nx.zm ?_ | refine Nx.zt (fun hc => ?_) (fun hc => ?_))
        | refine Nx.zx ?_ | fail
      exact Nx.again (k + 1, mset l (a.getD k default) (b.getD k default)) ⟨hlt, hinv.new hm⟩ (by dsimp only; omega) ⟨rfl, rfl, rfl, rfl, rfl, trivial⟩ (by (exact Ent.auto))
    · obtain ⟨v, hm⟩ : ∃ v, mget l (a.getD k default) = some v := Option.isSome_iff_exists.1 (by simpa using hc)
      have hg : (mget l (a.getD k default)).getD 0 = v := by rw [hm]; rfl
      repeat' first
        | ((with_reducible refine Nx.is_wp ?_); first | refine Nx.wo ?_ | refine Nx.p_draw (id := 8) rfl [0, 1, 2, 3, 4, 5, 6, 7] [] _ rfl rfl (by kernel_rfl) (by kernel_rfl) rfl PanicOk.auto (Ent.refl _) ?_ | refine Nx.zp (fun hc => ?_) (fun hc => ?_))
        | (refine Nx.zo ?_; first | refine Nx.opr rfl rfl ?_ | refine Nx.so ?_ | refine Nx.sb (fun bx => ?_) | refine Nx.sa (fun A2 c2 => ?_))
        | refine Nx.za ?_ | refine Nx.zr (fun hc => ?_) (fun hc => ?_)
        | ((with_reducible refine Nx.is_mix ?_); first | refine Nx.m_quiet rfl rfl rfl rfl rfl (by first | exact QRun.opr rfl | exact QRun.mapGet 0 (Value.int .i64) (Value.int .i64) (z := 0) (ok := false) rfl rfl KE rfl rfl rfl rfl | exact QRun.idx rfl rfl rfl rfl (by omega) (hb.isSome (by omega)) | exact QRun.load rfl rfl (hb.rd (by omega))) ?_ | refine Nx.m_quiet_do rfl rfl rfl rfl rfl rfl rfl (by first | exact QRun.opr rfl | exact QRun.mapGet 0 (Value.int .i64) (Value.int .i64) (z := 0) (ok := false) rfl rfl KE rfl rfl rfl rfl | exact QRun.idx rfl rfl rfl rfl (by omega) (hb.isSome (by omega)) | exact QRun.load rfl rfl (hb.rd (by omega))) ?_ | refine Nx.m ?_ | refine Nx.zm ?_ | refine Nx.zt (fun hc => ?_) (fun hc => ?_))
        | refine Nx.zx ?_ | fail
      · rename_i hc2
        exact Nx.ret_fn rfl [] ⟨by rw [decide_eq_false (hinv.bad hlt hm (by omega))], rfl⟩ (by (exact Ent.auto))
      · exact Nx.again (k + 1, l) ⟨hlt, hinv.old (by rw [hm]; congr 1; omega)⟩ (by dsimp only; omega) ⟨rfl, rfl, rfl, rfl, rfl, trivial⟩ (by (exact Ent.auto))
  · obtain rfl : k = a.length := by omega
    repeat' first
      | ((with_reducible refine Nx.is_wp ?_); first | refine Nx.wo ?_ | refine Nx.zp (fun hc => ?_) (fun hc => ?_))
      | (refine Nx.zo ?_; first | refine Nx.opr rfl rfl ?_ | refine Nx.so ?_ | refine Nx.sb (fun bx => ?_) | refine Nx.sa (fun A2 c2 => ?_))
      | refine Nx.za ?_ | refine Nx.zr (fun hc => ?_) (fun hc => ?_)
      | refine Nx.zq ?_ | refine Nx.zu (fun hc => ?_) (fun hc => ?_)
      | refine Nx.zx ?_ | fail
    exact Nx.ret_fn rfl [] ⟨by rw [decide_eq_true hinv.done], rfl⟩ (by (exact Ent.auto))
end Go.Proofs.YtpmlehplbobjmaaDoor
/- Contracts of functions of the given program, and lemmas about plain lists and numbers: what the laws of this seat lean on. -/
namespace Go.Proofs.YtpmlehplbobjmaaDoor
open Go.Eng
attribute [local irreducible] opK wpList Code.wp Exit.then Exit.inBlock fnPost bodyPost Nx Calls Oper.wp Rd Rds Wr Ent Stars Blk Again Vec FnSpec wpMix QRun Stop Upto wpAt
theorem within_refl (a : List Int) : WithinP a a := ⟨fun _ _ h => h, fun _ _ _ _ h => h⟩
def FinerP (l : List Int) (u v : List Row) : Prop := ∀ i, i < l.length → WithinP (u.getD i default).2.2 (v.getD i default).2.2
instance (l : List Int) (u v : List Row) : Decidable (FinerP l u v) := by unfold FinerP; infer_instance
set_option maxHeartbeats 2000000 in
set_option maxRecDepth 10000 in
theorem Finer_spec (A B D : Option Addr) (c cu cv : Nat) (l : List Int) (u v : List Row) (I : PH) (hl : Ints I A c l) (hs : Sizes l) (hu : RowsOf I B cu u) (hv : RowsOf I D cv v) (hwu : Viewed l u) (hwv : Viewed l v) :
    FnSpec Tryd.prog 14 [.agg #[.slice A l.length c], .agg #[.slice B u.length cu], .agg #[.slice D v.length cv]] I [] (fun r R' => r = .bool (decide (FinerP l u v)) ∧ R' = []) := by
  have hd := hs.dims
  have hul := hwu.len
  have hvl := hwv.len
  refine FnSpec.enterP Tryd.func14 rfl Tryd.ntmps14 rfl fun w F => ?_
  repeat' first
    | ((with_reducible refine Nx.is_wp ?_); first | refine Nx.wo ?_ | refine Nx.zp (fun hc => ?_) (fun hc => ?_))
    | (refine Nx.zo ?_; first | refine Nx.opr rfl rfl ?_ | refine Nx.callv rfl rfl rfl (by kernel_rfl) rfl (View_spec _ _ _ _ _ _ _ hl hs hu hwu) ?_ | refine Nx.callv rfl rfl rfl (by kernel_rfl) rfl (View_spec _ _ _ _ _ _ _ hl hs hv hwv) ?_ | refine Nx.so ?_ | refine Nx.sb (fun bx => ?_) | refine Nx.sa (fun A2 c2 => ?_))
    | refine Nx.za ?_ | refine Nx.zr (fun hc => ?_) (fun hc => ?_)
    | refine Nx.zq ?_ | refine Nx.zu (fun hc => ?_) (fun hc => ?_)
    | refine Nx.zx ?_ | fail
  revert bx; intro b5
  refine Nx.p_loop (σ := Nat) (fun i => [(5, .pointer (some ⟨b5, 0, none⟩)), (20, .slice B u.length cu), (21, .int .i64 u.length), (22, .int .i64 (i : Int))])
    (fun _ => [Blk b5 31 [.slice D v.length cv], F]) (fun i => i ≤ u.length ∧ ∀ j, j < i → WithinP (u.getD j default).2.2 (v.getD j default).2.2) (fun i => u.length - i) 0 rfl ⟨Nat.zero_le _, fun j hj => absurd hj (Nat.not_lt_zero _)⟩ ⟨rfl, rfl, rfl, rfl, trivial⟩ (by (exact Ent.auto)) ?_
  rintro i ⟨hi, hall⟩
  by_cases hlt : i < u.length
  · have e1 := (hwu.each i (by omega)).1
    have e2 := (hwv.each i (by omega)).1
    repeat' first
      | ((with_reducible refine Nx.is_wp ?_); first | refine Nx.wo ?_ | refine Nx.zp (fun hc => ?_) (fun hc => ?_))
      | (refine Nx.zo ?_; first | refine Nx.opr rfl rfl ?_ | refine Nx.indexAddr_nat rfl rfl rfl rfl rfl (by omega) (hu.outer.isSome (by omega)) ?_ | refine Nx.load rfl rfl rfl (hu.outer.rd (by omega)) ?_ | refine Nx.indexAddr_nat rfl rfl rfl rfl rfl (by omega) (hv.outer.isSome (by omega)) ?_ | refine Nx.load rfl rfl rfl (hv.outer.rd (by omega)) ?_ | refine Nx.callv rfl rfl rfl (by kernel_rfl) rfl (within_spec _ _ _ _ _ _ _ (hu.at (by omega)) (hv.at (by omega)) (by omega)) ?_ | refine Nx.so ?_ | refine Nx.sb (fun bx => ?_) | refine Nx.sa (fun A2 c2 => ?_))
      | refine Nx.za ?_ | refine Nx.zr (fun hc => ?_) (fun hc => ?_)
      | refine Nx.zq ?_ | refine Nx.zu (fun hc => ?_) (fun hc => ?_)
      | refine Nx.zx ?_ | fail
    · exact Nx.ret_fn rfl [] ⟨by rw [decide_eq_false]; intro h; rw [decide_eq_true (h i (by omega))] at hc; exact absurd hc (by decide), rfl⟩ (by (exact Ent.auto))
    · refine Nx.again (i + 1) ⟨hlt, fun j hj => ?_⟩ (by omega) ⟨rfl, rfl, rfl, rfl, trivial⟩ (by (exact Ent.auto))
      by_cases hji : j = i
      · subst hji; exact of_decide_eq_true (by simpa using hc)
      · exact hall j (by omega)
  · repeat' first
      | ((with_reducible refine Nx.is_wp ?_); first | refine Nx.wo ?_ | refine Nx.zp (fun hc => ?_) (fun hc => ?_))
      | (refine Nx.zo ?_; first | refine Nx.opr rfl rfl ?_ | refine Nx.so ?_ | refine Nx.sb (fun bx => ?_) | refine Nx.sa (fun A2 c2 => ?_))
      | refine Nx.za ?_ | refine Nx.zr (fun hc => ?_) (fun hc => ?_)
      | refine Nx.zq ?_ | refine Nx.zu (fun hc => ?_) (fun hc => ?_)
      | refine Nx.zx ?_ | fail
    exact Nx.ret_fn rfl [] ⟨by rw [decide_eq_true]; exact fun j hj => hall j (by omega), rfl⟩ (by (exact Ent.auto))
set_option maxHeartbeats 2000000 in
set_option maxRecDepth 10000 in
theorem Same_spec (B D : Option Addr) (cu cv : Nat) (u v : List Row) (I : PH) (hu : RowsOf I B cu u) (hv : RowsOf I D cv v) (hl : u.length = v.length) (he : ∀ i, i < u.length → (u.getD i default).2.2 = (v.getD i default).2.2) :
    FnSpec Tryd.prog 46 [.agg #[.slice B u.length cu], .agg #[.slice D v.length cv]] I [] (fun r R' => r = .bool true ∧ R' = []) := by
  have hul := hu.outer.len
  refine FnSpec.enterP Tryd.func46 rfl Tryd.ntmps46 rfl fun w F => ?_
  repeat' first
    | ((with_reducible refine Nx.is_wp ?_); first | refine Nx.wo ?_ | refine Nx.zp (fun hc => ?_) (fun hc => ?_))
    | (refine Nx.zo ?_; first | refine Nx.opr rfl rfl ?_ | refine Nx.so ?_ | refine Nx.sb (fun bx => ?_) | refine Nx.sa (fun A2 c2 => ?_))
    | refine Nx.za ?_ | refine Nx.zr (fun hc => ?_) (fun hc => ?_)
    | refine Nx.zq ?_ | refine Nx.zu (fun hc => ?_) (fun hc => ?_)
    | refine Nx.zx ?_ | fail
  rename_i b2
  revert bx; intro b3
  refine Nx.p_loop (σ := Nat) (fun i => [(2, .pointer (some ⟨b2, 0, none⟩)), (3, .pointer (some ⟨b3, 0, none⟩)), (15, .int .i64 u.length), (16, .int .i64 (i : Int))])
    (fun _ => [Blk b2 31 [.slice B u.length cu], Blk b3 31 [.slice D v.length cv], F]) (fun i => i ≤ u.length) (fun i => u.length - i) 0 rfl (Nat.zero_le _) ⟨rfl, rfl, rfl, rfl, trivial⟩ (by (exact Ent.auto)) ?_
  intro i hi
  by_cases hlt : i < u.length
  · have he := he i hlt
    repeat' first
      | ((with_reducible refine Nx.is_wp ?_); first | refine Nx.wo ?_ | refine Nx.p_draw (id := 6) rfl [0, 1, 2, 3, 4, 5, 6, 7, 8, 9, 10, 11] [10] _ rfl rfl (by kernel_rfl) (by kernel_rfl) rfl PanicOk.auto (Ent.refl _) ?_ | refine Nx.zp (fun hc => ?_) (fun hc => ?_))
      | (refine Nx.zo ?_; first | refine Nx.opr rfl rfl ?_ | refine Nx.callv rfl rfl rfl (by kernel_rfl) rfl (Ints_spec _ _ _ _ _ _ _ (hu.at (by omega)) (hv.at (by omega))) ?_ | refine Nx.so ?_ | refine Nx.sb (fun bx => ?_) | refine Nx.sa (fun A2 c2 => ?_))
      | refine Nx.za ?_ | refine Nx.zr (fun hc => ?_) (fun hc => ?_)
      | ((with_reducible refine Nx.is_mix ?_); first | refine Nx.m_quiet rfl rfl rfl rfl rfl (by first | exact QRun.opr rfl | exact QRun.idx rfl rfl rfl rfl (by omega) (hu.outer.isSome (by omega)) | exact QRun.load rfl rfl (hu.outer.rd (by omega)) | exact QRun.idx rfl rfl rfl rfl (by omega) (hv.outer.isSome (by omega)) | exact QRun.load rfl rfl (hv.outer.rd (by omega))) ?_ | refine Nx.m_quiet_do rfl rfl rfl rfl rfl rfl rfl (by first | exact QRun.opr rfl | exact QRun.idx rfl rfl rfl rfl (by omega) (hu.outer.isSome (by omega)) | exact QRun.load rfl rfl (hu.outer.rd (by omega)) | exact QRun.idx rfl rfl rfl rfl (by omega) (hv.outer.isSome (by omega)) | exact QRun.load rfl rfl (hv.outer.rd (by omega))) ?_ | refine Nx.m ?_ | refine Nx.zm ?_ | refine Nx.zt (fun hc => ?_) (fun hc => ?_))
      | refine Nx.zx ?_ | fail
    · exact absurd hc (by rw [decide_eq_true he]; decide)
    · exact Nx.again (i + 1) hlt (by omega) ⟨rfl, rfl, rfl, rfl, trivial⟩ (by (exact Ent.auto))
  · repeat' first
      | ((with_reducible refine Nx.is_wp ?_); first | refine Nx.wo ?_ | refine Nx.zp (fun hc => ?_) (fun hc => ?_))
      | (refine Nx.zo ?_; first | refine Nx.opr rfl rfl ?_ | refine Nx.so ?_ | refine Nx.sb (fun bx => ?_) | refine Nx.sa (fun A2 c2 => ?_))
      | refine Nx.za ?_ | refine Nx.zr (fun hc => ?_) (fun hc => ?_)
      | refine Nx.zq ?_ | refine Nx.zu (fun hc => ?_) (fun hc => ?_)
      | refine Nx.zx ?_ | fail
    exact Nx.ret_fn rfl [] ⟨rfl, rfl⟩ (by (exact Ent.auto))
end Go.Proofs.YtpmlehplbobjmaaDoor
/- Contracts of functions of the given program, and lemmas about plain lists and numbers: what the laws of this seat lean on. -/
namespace Go.Proofs.YtpmlehplbobjmaaDoor
open Go.Eng
/-! Sums over coarser views, and margins of views: plain lists -/
/-! Published cells of a finer and a coarser view -/
theorem pub_neg {l : List Int} {v : List Row} (hs : Sizes l) (hw : Viewed l v) {c : Nat} : pubOf l v c < 0 ↔ (-1 : Int) ∈ gsOf v (pl l c) := by
  unfold pubOf
  split
  · rename_i h
    rw [List.contains_eq_mem, decide_eq_true_eq] at h
    exact ⟨fun _ => h, fun _ => by decide⟩
  · rename_i h
    have hc : (gsOf v (pl l c)).contains (-1) = false := by simpa using h
    have := numK_bound (gsOf_in hw (pl_in hs c) hc) (szs v).length (Nat.le_refl _)
    rw [szs_len] at this
    rw [List.contains_eq_mem, decide_eq_true_eq] at h
    exact ⟨fun h2 => by omega, fun h2 => absurd h2 h⟩
theorem gs_mem {v : List Row} {xs : List Int} {z : Int} : z ∈ gsOf v xs ↔ ∃ i, i < v.length ∧ (v.getD i default).2.2.getD (xs.getD i default).toNat default = z := by
  unfold gsOf
  simp only [List.mem_map, List.mem_range]
/-! Margins -/
def oneL (l : List Int) : List Int := l.map fun g => min g 0
theorem oneL_len (l : List Int) : (oneL l).length = l.length := by simp [oneL]
theorem oneL_at (l : List Int) (k : Nat) : (oneL l).getD k default = min (l.getD k default) 0 := by
  unfold oneL
  rw [List.getD_eq_getElem?_getD, List.getD_eq_getElem?_getD, List.getElem?_map]
  cases l[k]? <;> rfl
/-- One dimension of a margin: as it was, or in one. -/
def margL (set i : Nat) (l : List Int) : List Int := if (set / 2 ^ i) % 2 = 1 then oneL l else l
structure MargOf (v m : List Row) : Prop where
  len : m.length = v.length
  each : ∀ i, i < v.length → (m.getD i default).2.2 = (v.getD i default).2.2 ∨ (m.getD i default).2.2 = oneL (v.getD i default).2.2
theorem numb_one1 : ∀ r : List Int, (∀ x ∈ r, -1 ≤ x) → numb (oneL r) 1 = some 1
  | [], _ => rfl
  | x :: r, h => by
    have h1 := h x List.mem_cons_self
    have ih := numb_one1 r (fun y hy => h y (List.mem_cons_of_mem _ hy))
    show numb (min x 0 :: oneL r) 1 = _
    unfold numb
    rw [if_neg (by omega), if_neg (by omega)]; exact ih
theorem numb_one0 : ∀ (r : List Int) (n : Int), numb r 0 = some n → 0 < n → numb (oneL r) 0 = some 1
  | [], n, h, h0 => by simp [numb] at h; omega
  | x :: r, n, h, h0 => by
    have hall := (numb_facts _ _ _ h).2.2.1
    unfold numb at h
    split at h
    · cases h
    · rename_i hx
      show numb (min x 0 :: oneL r) 0 = _
      unfold numb
      rw [if_neg (by omega)]
      by_cases hx0 : x = 0
      · rw [if_pos (by omega)]
        exact numb_one1 r (fun y hy => (hall y (List.mem_cons_of_mem _ hy)).1)
      · rw [if_neg hx0] at h
        rw [if_neg (by omega)]
        exact numb_one0 r n h h0
theorem numbB_one {l : List Int} (h : numbB l = true) : numbB (oneL l) = true := by
  unfold numbB at h ⊢
  split at h
  · rename_i n hn
    rw [numb_one0 l n hn (of_decide_eq_true h)]; rfl
  · cases h
theorem MargOf.viewed {l : List Int} {v m : List Row} (h : MargOf v m) (hw : Viewed l v) : Viewed l m := ⟨h.len.trans hw.len, fun k hk => by
  have h1 := hw.each k hk
  rcases h.each k (by rw [hw.len]; exact hk) with he | he <;> rw [he]
  · exact h1
  · exact ⟨by rw [oneL_len]; exact h1.1, numbB_one h1.2⟩⟩
theorem within_one {a : List Int} : WithinP a (oneL a) :=
  ⟨fun k _ h => by rw [oneL_at, h]; decide, fun k _ j _ h => by rw [oneL_at, oneL_at, h]⟩
theorem MargOf.finer {l : List Int} {v m : List Row} (h : MargOf v m) (hw : Viewed l v) : FinerP l v m := fun i hi => by
  rcases h.each i (by rw [hw.len]; exact hi) with he | he <;> rw [he]
  · exact within_refl _
  · exact within_one
/-- The margin of everything. -/
theorem MargOf.whole {l : List Int} {v m : List Row} (hs : Sizes l) (h : MargOf v m) (hw : Viewed l v) (h1 : prod (szs m) = 1) (c : Nat) : 0 ≤ pubOf l v c ↔ pubOf l m c = 0 := by
  have hm := h.viewed hw
  have hb := pub_bd hs hm c
  rw [h1] at hb
  have key : pubOf l v c < 0 ↔ pubOf l m c < 0 := by
    rw [pub_neg hs hw, pub_neg hs hm, gs_mem, gs_mem, h.len]
    have hx : ∀ i, i < v.length → ((m.getD i default).2.2.getD ((pl l c).getD i default).toNat default = -1 ↔ (v.getD i default).2.2.getD ((pl l c).getD i default).toNat default = -1) := fun i hi => by
      rcases h.each i hi with he | he <;> rw [he]
      rw [oneL_at]; omega
    exact ⟨fun ⟨i, hi, he⟩ => ⟨i, hi, (hx i hi).2 he⟩, fun ⟨i, hi, he⟩ => ⟨i, hi, (hx i hi).1 he⟩⟩
  omega
end Go.Proofs.YtpmlehplbobjmaaDoor
