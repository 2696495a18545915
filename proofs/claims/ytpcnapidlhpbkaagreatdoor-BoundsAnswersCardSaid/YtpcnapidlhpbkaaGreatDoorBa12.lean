/- Contracts of functions of the given program, and lemmas. -/
import Derived.Deep.Slices
import Derived.ChangeSlices
import Derived.OpenShut
import Derived.Lib.SmallJoins
import Derived.Test.YtpcnapidlhpbkaaGreatDoorRows
import Derived.Test.YtpcnapidlhpbkaaGreatDoorChecked
import Derived.WalkKit
import Derived.ProofKit
import Derived.LaidHandle
import Derived.LaidLaws
import Derived.Lib.LaidTab
import Derived.Stop.LaidErr
import Derived.Test.YtpcnapidlhpbkaaGreatDoorBa11
set_option maxHeartbeats 32000000
namespace Go.Proofs.YtpcnapidlhpbkaaGreatDoor
open Go.Eng Go.Sol
attribute [local irreducible] opK wpList Code.wp Exit.then Exit.inBlock fnPost bodyPost Nx Calls Oper.wp Rd Rds Wr Ent Stars Blk Again Vec FnSpec wpMix QRun Stop Upto wpAt
theorem chkB_k {n : Int} {l : List EqR} (k : Int) : chkB n l k = if chkB n l 0 ≠ 0 then chkB n l 0 else if 0 ≤ k ∧ k < n then 0 else 2 := by
  by_cases h1 : ¬(1 ≤ n ∧ n ≤ 10) ∨ validB n l = false
  · have a : ∀ k, chkB n l k = 55 := fun k => by unfold chkB; rw [if_pos h1]
    rw [a k, a 0]; rfl
  have hn : 1 ≤ n ∧ n ≤ 10 := Decidable.byContradiction fun hh => h1 (.inl hh)
  by_cases h2 : 10 < l.length
  · have a : ∀ k, chkB n l k = 1 := fun k => by unfold chkB; rw [if_neg h1, if_pos h2]
    rw [a k, a 0]; rfl
  by_cases h3 : l.any bigQ = true
  · have a : ∀ k, chkB n l k = 2 := fun k => by unfold chkB; rw [if_neg h1, if_neg h2, if_pos (.inl h3)]
    rw [a k, a 0]; rfl
  have a : ∀ k, chkB n l k = if 0 ≤ k ∧ k < n then 0 else 2 := fun k => by
    unfold chkB
    rw [if_neg h1, if_neg h2]
    by_cases h4 : 0 ≤ k ∧ k < n
    · rw [if_neg (fun h => h.elim h3 fun h => h h4), if_pos h4]
    · rw [if_pos (.inr h4), if_neg h4]
  have a0 : chkB n l 0 = 0 := by rw [a 0, if_pos ⟨by omega, by omega⟩]
  rw [a0, if_neg (fun h => h rfl), a k]
theorem free_opt {q : Bl.Eqs} {cell : Nat} (hfe : ∃ x, Bl.Feas q x) (hn : ∀ j, j < q.m → q.cell j cell = false) (hcell : cell < q.cnt) : Bl.IsOpt q cell false 0 := by
  obtain ⟨x, hx⟩ := hfe
  refine ⟨⟨fun k => if k = cell then 0 else x k, ⟨fun k hk => ?_, fun i hi => ?_⟩, if_pos rfl⟩, fun y hy => hy.pos cell hcell⟩
  · split
    · exact Rat.le_refl
    · exact hx.pos k hk
  · rw [← hx.eqn i hi]
    refine Bl.sm_congr fun k _ => ?_
    by_cases hk : k = cell
    · rw [hk, hn i hi]; rfl
    · rw [if_neg hk]
set_option maxRecDepth 10000 in
theorem RPossible_spec (n : Int) (A : Option Addr) (c : Nat) (l : List EqR) (I : PH) (hl : Eqs I A c l) :
    FnSpec Tryz.prog 32 [.int .i64 n, .slice A l.length c] I []
      (fun v R' => ∃ bo : Bool, v = .tuple #[.bool bo, .int .i64 (chkB n l 0)] ∧ (chkB n l 0 = 0 → (bo = true ↔ ∃ x, Bl.Feas (toQ n.toNat l) x)) ∧ (chkB n l 0 ≠ 0 → bo = false) ∧ R' = []) := by
  have hlen := hl.len
  have hC := rcheck_spec n A c l I hl
  refine FnSpec.enterP Tryz.func32 rfl Tryz.ntmps32 rfl fun w F => ?_
  by_cases h0 : chkB n l 0 = 0
  case neg =>
    generalize chkB n l 0 = e at hC h0 ⊢
    repeat' first
      | ((with_reducible refine Nx.is_wp ?_); first | refine Nx.wo ?_ | refine Nx.zp (fun hc => ?_) (fun hc => ?_))
      | (refine Nx.zo ?_; first | refine Nx.opr rfl rfl ?_ | refine Nx.callv rfl rfl rfl (by kernel_rfl) rfl hC ?_ | refine Nx.so ?_ | refine Nx.sb (fun bx => ?_) | refine Nx.sa (fun A2 c2 => ?_))
      | refine Nx.za ?_ | refine Nx.zr (fun hc => ?_) (fun hc => ?_)
      | refine Nx.zq ?_ | refine Nx.zu (fun hc => ?_) (fun hc => ?_)
      | refine Nx.zx ?_ | fail
    exact Nx.ret_fn rfl [] ⟨false, rfl, fun h => absurd h h0, fun _ => rfl, rfl⟩ (by (exact Ent.auto))
  obtain ⟨hb, _, h1⟩ := chkB_ok h0
  rw [h0] at hC ⊢
  obtain ⟨N, rfl⟩ : ∃ N : Nat, n = (N : Int) := ⟨n.toNat, by omega⟩
  rw [Int.toNat_natCast] at hb ⊢
  have hS := ready_spec N A c l I hl hb
  repeat' first
    | ((with_reducible refine Nx.is_wp ?_); first | refine Nx.wo ?_ | refine Nx.zp (fun hc => ?_) (fun hc => ?_))
    | (refine Nx.zo ?_; first | refine Nx.opr rfl rfl ?_ | refine Nx.callv rfl rfl rfl (by kernel_rfl) rfl hC ?_ | (refine Nx.call rfl rfl rfl (by kernel_rfl) rfl hS (by (exact Ent.auto)) ?_; rintro _ _ ⟨ra, s, bo, rfl, hbo, _, _, _, _, _, rfl⟩) | refine Nx.so ?_ | refine Nx.sb (fun bx => ?_) | refine Nx.sa (fun A2 c2 => ?_))
    | refine Nx.za ?_ | refine Nx.zr (fun hc => ?_) (fun hc => ?_)
    | refine Nx.zq ?_ | refine Nx.zu (fun hc => ?_) (fun hc => ?_)
    | refine Nx.zx ?_ | fail
  exact Nx.ret_fn rfl [] ⟨bo, rfl, fun _ => hbo, fun h => absurd rfl h, rfl⟩ (by (exact Ent.auto))
theorem field_bound (cell a b : Int) (up : Bool) (p w : Value) : pureRun Tryz.prog (Instr.field 27 (.agg #[.int .i64 cell, .bool up, .int .i64 a, .int .i64 b, p, w]) 2) = some (.agg #[.int .i64 a, .int .i64 b]) := by kernel_rfl
set_option maxRecDepth 10000 in
theorem RBounds_spec (n : Int) (A : Option Addr) (c : Nat) (l : List EqR) (I : PH) (hl : Eqs I A c l) :
    FnSpec Tryz.prog 33 [.int .i64 n, .slice A l.length c] I []
      (fun v R' => (chkB n l 0 ≠ 0 → v = .tuple #[.slice none 0 0, .int .i64 (chkB n l 0)] ∧ R' = []) ∧ (chkB n l 0 = 0 →
        ((¬∃ x, Bl.Feas (toQ n.toNat l) x) ∧ v = .tuple #[.slice none 0 0, .int .i64 52] ∧ R' = []) ∨
        ((∃ x, Bl.Feas (toQ n.toNat l) x) ∧ ∃ (A' : Option Addr) (c' : Nat) (L : List IvR), L.length = n.toNat ∧ (∀ k, k < n.toNat → IvOk (toQ n.toNat l) k (L.getD k default)) ∧
          v = .tuple #[.slice A' L.length c', .int .i64 0] ∧ R' = [Vec 50 5 A' L.length c' (L.flatMap ivC)]))) := by
  have hlen := hl.len
  have hP := RPossible_spec n A c l I hl
  refine FnSpec.enterP Tryz.func33 rfl Tryz.ntmps33 rfl fun w F => ?_
  by_cases h0 : chkB n l 0 = 0
  case neg =>
    generalize chkB n l 0 = e at hP h0 ⊢
    repeat' first
      | ((with_reducible refine Nx.is_wp ?_); first | refine Nx.wo ?_ | refine Nx.zp (fun hc => ?_) (fun hc => ?_))
      | (refine Nx.zo ?_; first | refine Nx.opr rfl rfl ?_ | (refine Nx.call rfl rfl rfl (by kernel_rfl) rfl hP (by (exact Ent.auto)) ?_; rintro _ _ ⟨bo, rfl, _, hbo, rfl⟩) | refine Nx.so ?_ | refine Nx.sb (fun bx => ?_) | refine Nx.sa (fun A2 c2 => ?_))
      | refine Nx.za ?_ | refine Nx.zr (fun hc => ?_) (fun hc => ?_)
      | refine Nx.zq ?_ | refine Nx.zu (fun hc => ?_) (fun hc => ?_)
      | refine Nx.zx ?_ | fail
    exact Nx.ret_fn rfl [] ⟨fun _ => ⟨rfl, rfl⟩, fun h => absurd h h0⟩ (by (exact Ent.auto))
  obtain ⟨hb, _, h1⟩ := chkB_ok h0
  rw [h0] at hP ⊢
  obtain ⟨N, rfl⟩ : ∃ N : Nat, n = (N : Int) := ⟨n.toNat, by omega⟩
  rw [Int.toNat_natCast] at hb hP ⊢
  have hN := hb.cnt
  repeat' first
    | ((with_reducible refine Nx.is_wp ?_); first | refine Nx.wo ?_ | refine Nx.zp (fun hc => ?_) (fun hc => ?_))
    | (refine Nx.zo ?_; first | refine Nx.opr rfl rfl ?_ | (refine Nx.call rfl rfl rfl (by kernel_rfl) rfl hP (by (exact Ent.auto)) ?_; rintro _ _ ⟨bo, rfl, hbo, _, rfl⟩; replace hbo := hbo rfl; cases bo) | refine Nx.so ?_ | refine Nx.sb (fun bx => ?_) | refine Nx.sa (fun A2 c2 => ?_))
    | refine Nx.za ?_ | refine Nx.zr (fun hc => ?_) (fun hc => ?_)
    | refine Nx.zq ?_ | refine Nx.zu (fun hc => ?_) (fun hc => ?_)
    | refine Nx.zx ?_ | fail
  · exact Nx.ret_fn rfl [] ⟨fun h => absurd rfl h, fun _ => .inl ⟨fun h => Bool.noConfusion (hbo.2 h), rfl, rfl⟩⟩ (by (exact Ent.auto))
  have hfe := hbo.1 rfl
  refine Nx.p_loop (σ := Nat × (Option Addr × Nat) × List IvR) (fun z => [(0, .int .i64 (N : Int)), (1, .slice A l.length c), (8, .slice z.2.1.1 z.2.2.length z.2.1.2), (9, .int .i64 (z.1 : Int))])
    (fun z => [Vec 50 5 z.2.1.1 z.2.2.length z.2.1.2 (z.2.2.flatMap ivC), F]) (fun z => z.1 ≤ N ∧ z.2.2.length = z.1 ∧ (∀ k, k < z.1 → IvOk (toQ N l) k (z.2.2.getD k default))) (fun z => N - z.1) (0, (none, 0), []) rfl ⟨Nat.zero_le _, rfl, fun k hk => absurd hk (Nat.not_lt_zero _)⟩ ⟨rfl, rfl, rfl, rfl, trivial⟩ ((Ent.vec_nil 50 5 _).trans (by (exact Ent.auto))) ?_
  rintro ⟨k, ⟨Ao, co⟩, L⟩ ⟨hk, hL, hok⟩
  dsimp only at hk hL hok ⊢
  by_cases hkN : k < N
  case neg =>
    obtain rfl : k = N := by omega
    repeat' first
      | ((with_reducible refine Nx.is_wp ?_); first | refine Nx.wo ?_ | refine Nx.zp (fun hc => ?_) (fun hc => ?_))
      | (refine Nx.zo ?_; first | refine Nx.opr rfl rfl ?_ | refine Nx.so ?_ | refine Nx.sb (fun bx => ?_) | refine Nx.sa (fun A2 c2 => ?_))
      | refine Nx.za ?_ | refine Nx.zr (fun hc => ?_) (fun hc => ?_)
      | refine Nx.zq ?_ | refine Nx.zu (fun hc => ?_) (fun hc => ?_)
      | refine Nx.zx ?_ | fail
    exact Nx.ret_fn rfl [_] ⟨fun h => absurd rfl h, fun _ => .inr ⟨hfe, Ao, co, L, hL, hok, rfl, rfl⟩⟩ (by (exact Ent.auto))
  have hlast : ∀ y : IvR, IvOk (toQ N l) k y → ∀ j, j < k + 1 → IvOk (toQ N l) j ((L ++ [y]).getD j default) := fun y hy j hj => by
    rw [List.getD_eq_getElem?_getD]
    by_cases hjk : j < k
    · rw [List.getElem?_append_left (by omega), ← List.getD_eq_getElem?_getD]
      exact hok j hjk
    · obtain rfl : j = L.length := by omega
      rw [List.getElem?_append_right (Nat.le_refl _), Nat.sub_self, hL]
      exact hy
  have hfl : ∀ y : IvR, (L ++ [y]).flatMap ivC = L.flatMap ivC ++ [.int .i64 y.1.num, .int .i64 y.1.den, .int .i64 y.2.1.num, .int .i64 y.2.1.den, .bool y.2.2] := fun y => by rw [List.flatMap_append, List.flatMap_cons, List.flatMap_nil, List.append_nil]; rfl
  have hle2 : (L.length : Int) + 1 ≤ 100 := by omega
  have hkq : k < (toQ N l).cnt := hkN
  have hIn := rin_spec A c l (k : Int) I hl
  have hW := rwhole_spec 0 I
  have hunb := inB_unb (n := N) (l := l) (k := k)
  cases hin : inB l (k : Int) with
  | false =>
    rw [hin] at hIn
    have hu := hunb.1 hin
    repeat' first
      | ((with_reducible refine Nx.is_wp ?_); first | refine Nx.wo ?_ | refine Nx.zp (fun hc => ?_) (fun hc => ?_))
      | (refine Nx.zo ?_; first | refine Nx.opr rfl rfl ?_ | refine Nx.callv rfl rfl rfl (by kernel_rfl) rfl hIn ?_ | refine Nx.callv rfl rfl rfl (by kernel_rfl) rfl hW ?_ | refine Nx.so ?_ | refine Nx.sb (fun bx => ?_) | refine Nx.sa (fun A2 c2 => ?_))
      | refine Nx.za ?_ | refine Nx.zr (fun hc => ?_) (fun hc => ?_)
      | refine Nx.zq ?_ | refine Nx.zu (fun hc => ?_) (fun hc => ?_)
      | refine Nx.zx ?_ | fail
    exact Nx.again (k + 1, (A2, c2), L ++ [(0, 0, true)]) ⟨hkN, by rw [List.length_append, hL]; rfl, hlast _ ⟨⟨by decide, by decide⟩, ⟨by decide, by decide⟩, free_opt hfe hu hkq, ⟨fun _ => hu, fun _ => rfl⟩, fun _ => rfl, fun h => (by cases h)⟩⟩ (by dsimp only; omega) ⟨rfl, rfl, by dsimp only; rw [List.length_append]; rfl, rfl, trivial⟩ (by dsimp only; rw [hfl, List.length_append]; (exact Ent.auto))
  | true =>
    rw [hin] at hIn
    have hnu : ¬ Unb (toQ N l) k := fun h => by rw [hunb.2 h] at hin; cases hin
    have hB0 := bound_spec N A c l k false I hl hb hkN hfe (fun h => Bool.noConfusion h.1)
    have hB1 := bound_spec N A c l k true I hl hb hkN hfe (fun h => hnu h.2)
    repeat' first
      | ((with_reducible refine Nx.is_wp ?_); first | refine Nx.wo ?_ | refine Nx.zp (fun hc => ?_) (fun hc => ?_))
      | (refine Nx.zo ?_; first | refine Nx.opr rfl rfl ?_ | refine Nx.callv rfl rfl rfl (by kernel_rfl) rfl hIn ?_ | (refine Nx.call rfl rfl rfl (by kernel_rfl) rfl hB0 (by (exact Ent.auto)) ?_; rintro v R' ⟨x, w', D, b', A', c', g1, g2, g3, rfl, rfl⟩) | (refine Nx.call rfl rfl rfl (by kernel_rfl) rfl hB1 (by (exact Ent.auto)) ?_; rintro v R' ⟨x2, w2, D2, b2', A2', c2', k1, k2, k3, rfl, rfl⟩) | refine Nx.field rfl (field_bound _ _ _ _ _ _) rfl ?_ | refine Nx.append_lit 4 rfl rfl rfl rfl (by kernel_rfl) rfl rfl rfl rfl (by omega) (fun A2 c2 => ?_) | refine Nx.append_lit 5 rfl rfl rfl rfl (by kernel_rfl) rfl rfl rfl rfl (by omega) (fun A2 c2 => ?_) | refine Nx.so ?_ | refine Nx.sb (fun bx => ?_) | refine Nx.sa (fun A2 c2 => ?_))
      | refine Nx.za ?_ | refine Nx.zr (fun hc => ?_) (fun hc => ?_)
      | refine Nx.zq ?_ | refine Nx.zu (fun hc => ?_) (fun hc => ?_)
      | refine Nx.zx ?_ | fail
    have hR1 : RB (x k) := by
      obtain ⟨p, e1, e2⟩ := g2.pnt k hkq
      have := g2.le
      exact Bl.rb_of g2.ne e1 (by omega) (by omega)
    have hR2 : RB (x2 k) := by
      obtain ⟨p, e1, e2⟩ := k2.pnt k hkq
      have := k2.le
      exact Bl.rb_of k2.ne e1 (by omega) (by omega)
    exact Nx.again (k + 1, (A2, c2), L ++ [(x k, x2 k, false)]) ⟨hkN, by rw [List.length_append, hL]; rfl, hlast _ ⟨hR1, hR2, g3, ⟨fun h => (by cases h), fun h => absurd h hnu⟩, fun h => (by cases h), fun _ => k3⟩⟩ (by dsimp only; omega) ⟨rfl, rfl, by dsimp only; rw [List.length_append]; rfl, rfl, trivial⟩ (by dsimp only; rw [hfl, List.length_append]; (exact Ent.auto))
set_option maxRecDepth 10000 in
theorem RProve_spec (n : Int) (A : Option Addr) (c : Nat) (l : List EqR) (k : Int) (up : Bool) (I : PH) (hl : Eqs I A c l) :
    FnSpec Tryz.prog 12 [.int .i64 n, .slice A l.length c, .int .i64 k, .bool up] I []
      (fun v R' => (chkB n l k ≠ 0 → v = .tuple #[noProof, .int .i64 (chkB n l k)] ∧ R' = []) ∧ (chkB n l k = 0 → ProvePost (toQ n.toNat l) k.toNat up v R')) := by
  have hlen := hl.len
  have hC := rcheck_spec n A c l I hl
  have hck := chkB_k (n := n) (l := l) k
  refine FnSpec.enterP Tryz.func12 rfl Tryz.ntmps12 rfl fun w F => ?_
  by_cases h0 : chkB n l 0 = 0
  case neg =>
    rw [if_pos h0] at hck
    rw [hck]
    generalize chkB n l 0 = e at hC h0 ⊢
    repeat' first
      | ((with_reducible refine Nx.is_wp ?_); first | refine Nx.wo ?_ | refine Nx.zp (fun hc => ?_) (fun hc => ?_))
      | (refine Nx.zo ?_; first | refine Nx.opr rfl rfl ?_ | refine Nx.callv rfl rfl rfl (by kernel_rfl) rfl hC ?_ | refine Nx.so ?_ | refine Nx.sb (fun bx => ?_) | refine Nx.sa (fun A2 c2 => ?_))
      | refine Nx.za ?_ | refine Nx.zr (fun hc => ?_) (fun hc => ?_)
      | refine Nx.zq ?_ | refine Nx.zu (fun hc => ?_) (fun hc => ?_)
      | refine Nx.zx ?_ | fail
    exact Nx.ret2 rfl (ROne.cell 0 rfl rfl rfl rfl rfl) (ROne.tmp rfl) [] ⟨fun _ => ⟨rfl, rfl⟩, fun h => absurd h h0⟩ (by (exact Ent.auto))
  rw [if_neg (fun h => h h0)] at hck
  obtain ⟨hb, _, h1⟩ := chkB_ok h0
  rw [h0] at hC
  by_cases hk0 : 0 ≤ k
  case neg =>
    rw [if_neg (fun h => hk0 h.1)] at hck
    rw [hck]
    repeat' first
      | ((with_reducible refine Nx.is_wp ?_); first | refine Nx.wo ?_ | refine Nx.zp (fun hc => ?_) (fun hc => ?_))
      | (refine Nx.zo ?_; first | refine Nx.opr rfl rfl ?_ | refine Nx.callv rfl rfl rfl (by kernel_rfl) rfl hC ?_ | refine Nx.so ?_ | refine Nx.sb (fun bx => ?_) | refine Nx.sa (fun A2 c2 => ?_))
      | refine Nx.za ?_ | refine Nx.zr (fun hc => ?_) (fun hc => ?_)
      | refine Nx.zq ?_ | refine Nx.zu (fun hc => ?_) (fun hc => ?_)
      | refine Nx.zx ?_ | fail
    exact Nx.ret2 rfl (ROne.cell 0 rfl rfl rfl rfl rfl) (ROne.tmp rfl) [] ⟨fun _ => ⟨rfl, rfl⟩, fun h => absurd h (by decide)⟩ (by (exact Ent.auto))
  by_cases hkn : k < n
  case neg =>
    rw [if_neg (fun h => hkn h.2)] at hck
    rw [hck]
    repeat' first
      | ((with_reducible refine Nx.is_wp ?_); first | refine Nx.wo ?_ | refine Nx.zp (fun hc => ?_) (fun hc => ?_))
      | (refine Nx.zo ?_; first | refine Nx.opr rfl rfl ?_ | refine Nx.callv rfl rfl rfl (by kernel_rfl) rfl hC ?_ | refine Nx.so ?_ | refine Nx.sb (fun bx => ?_) | refine Nx.sa (fun A2 c2 => ?_))
      | refine Nx.za ?_ | refine Nx.zr (fun hc => ?_) (fun hc => ?_)
      | refine Nx.zq ?_ | refine Nx.zu (fun hc => ?_) (fun hc => ?_)
      | refine Nx.zx ?_ | fail
    exact Nx.ret2 rfl (ROne.cell 0 rfl rfl rfl rfl rfl) (ROne.tmp rfl) [] ⟨fun _ => ⟨rfl, rfl⟩, fun h => absurd h (by decide)⟩ (by (exact Ent.auto))
  rw [if_pos ⟨hk0, hkn⟩] at hck
  rw [hck]
  obtain ⟨N, rfl⟩ : ∃ N : Nat, n = (N : Int) := ⟨n.toNat, by omega⟩
  obtain ⟨K, rfl⟩ : ∃ K : Nat, k = (K : Int) := ⟨k.toNat, by omega⟩
  rw [Int.toNat_natCast] at hb ⊢
  rw [Int.toNat_natCast]
  have hKN : K < N := by omega
  have hS := ready_spec N A c l I hl hb
  have hIn := rin_spec A c l (K : Int) I hl
  have hunb := inB_unb (n := N) (l := l) (k := K)
  have hB := fun hfe hnu => bound_spec N A c l K up I hl hb hKN hfe hnu
  by_cases hfe : ∃ x, Bl.Feas (toQ N l) x
  case neg =>
    repeat' first
      | ((with_reducible refine Nx.is_wp ?_); first | refine Nx.wo ?_ | refine Nx.zp (fun hc => ?_) (fun hc => ?_))
      | (refine Nx.zo ?_; first | refine Nx.opr rfl rfl ?_ | refine Nx.callv rfl rfl rfl (by kernel_rfl) rfl hC ?_ | (refine Nx.call rfl rfl rfl (by kernel_rfl) rfl hS (by (exact Ent.auto)) ?_; rintro _ _ ⟨ra, s, bo, rfl, hbo, _, _, _, _, _, rfl⟩; cases bo; rotate_left; exact absurd (hbo.1 rfl) hfe) | refine Nx.so ?_ | refine Nx.sb (fun bx => ?_) | refine Nx.sa (fun A2 c2 => ?_))
      | refine Nx.za ?_ | refine Nx.zr (fun hc => ?_) (fun hc => ?_)
      | refine Nx.zq ?_ | refine Nx.zu (fun hc => ?_) (fun hc => ?_)
      | refine Nx.zx ?_ | fail
    exact Nx.ret2 rfl (ROne.cell 0 rfl rfl rfl rfl rfl) (ROne.tmp rfl) [] ⟨fun h => absurd rfl h, fun _ => .inl ⟨hfe, rfl, rfl⟩⟩ (by (exact Ent.auto))
  cases up with
  | false =>
    have hB0 := hB hfe (fun h => Bool.noConfusion h.1)
    repeat' first
      | ((with_reducible refine Nx.is_wp ?_); first | refine Nx.wo ?_ | refine Nx.zp (fun hc => ?_) (fun hc => ?_))
      | (refine Nx.zo ?_; first | refine Nx.opr rfl rfl ?_ | refine Nx.callv rfl rfl rfl (by kernel_rfl) rfl hC ?_ | (refine Nx.call rfl rfl rfl (by kernel_rfl) rfl hS (by (exact Ent.auto)) ?_; rintro _ _ ⟨ra, s, bo, rfl, hbo, _, _, _, _, _, rfl⟩; cases bo; exact Bool.noConfusion (hbo.2 hfe)) | (refine Nx.call rfl rfl rfl (by kernel_rfl) rfl hB0 (by (exact Ent.auto)) ?_; rintro v R' ⟨x, w', D, b', A', c', g1, g2, g3, rfl, rfl⟩) | refine Nx.so ?_ | refine Nx.sb (fun bx => ?_) | refine Nx.sa (fun A2 c2 => ?_))
      | refine Nx.za ?_ | refine Nx.zr (fun hc => ?_) (fun hc => ?_)
      | refine Nx.zq ?_ | refine Nx.zu (fun hc => ?_) (fun hc => ?_)
      | refine Nx.zx ?_ | fail
    exact Nx.ret2 rfl (ROne.cell 0 rfl rfl rfl rfl rfl) (ROne.tmp rfl) [_, _] ⟨fun h => absurd rfl h, fun _ => .inr (.inr ⟨hfe, fun h => Bool.noConfusion h.1, x, w', D, b', A', c', g1, g2, g3, rfl, rfl⟩)⟩ (by (exact Ent.auto))
  | true =>
  cases hin : inB l (K : Int) with
  | false =>
    rw [hin] at hIn
    repeat' first
      | ((with_reducible refine Nx.is_wp ?_); first | refine Nx.wo ?_ | refine Nx.zp (fun hc => ?_) (fun hc => ?_))
      | (refine Nx.zo ?_; first | refine Nx.opr rfl rfl ?_ | refine Nx.callv rfl rfl rfl (by kernel_rfl) rfl hC ?_ | (refine Nx.call rfl rfl rfl (by kernel_rfl) rfl hS (by (exact Ent.auto)) ?_; rintro _ _ ⟨ra, s, bo, rfl, hbo, _, _, _, _, _, rfl⟩; cases bo; exact Bool.noConfusion (hbo.2 hfe)) | refine Nx.callv rfl rfl rfl (by kernel_rfl) rfl hIn ?_ | refine Nx.so ?_ | refine Nx.sb (fun bx => ?_) | refine Nx.sa (fun A2 c2 => ?_))
      | refine Nx.za ?_ | refine Nx.zr (fun hc => ?_) (fun hc => ?_)
      | refine Nx.zq ?_ | refine Nx.zu (fun hc => ?_) (fun hc => ?_)
      | refine Nx.zx ?_ | fail
    exact Nx.ret2 rfl (ROne.cell 0 rfl rfl rfl rfl rfl) (ROne.tmp rfl) [] ⟨fun h => absurd rfl h, fun _ => .inr (.inl ⟨hfe, ⟨rfl, hunb.1 hin⟩, rfl, rfl⟩)⟩ (by (exact Ent.auto))
  | true =>
    rw [hin] at hIn
    have hnu : ¬ Unb (toQ N l) K := fun h => by rw [hunb.2 h] at hin; cases hin
    have hB1 := hB hfe (fun h => hnu h.2)
    repeat' first
      | ((with_reducible refine Nx.is_wp ?_); first | refine Nx.wo ?_ | refine Nx.zp (fun hc => ?_) (fun hc => ?_))
      | (refine Nx.zo ?_; first | refine Nx.opr rfl rfl ?_ | refine Nx.callv rfl rfl rfl (by kernel_rfl) rfl hC ?_ | (refine Nx.call rfl rfl rfl (by kernel_rfl) rfl hS (by (exact Ent.auto)) ?_; rintro _ _ ⟨ra, s, bo, rfl, hbo, _, _, _, _, _, rfl⟩; cases bo; exact Bool.noConfusion (hbo.2 hfe)) | refine Nx.callv rfl rfl rfl (by kernel_rfl) rfl hIn ?_ | (refine Nx.call rfl rfl rfl (by kernel_rfl) rfl hB1 (by (exact Ent.auto)) ?_; rintro v R' ⟨x, w', D, b', A', c', g1, g2, g3, rfl, rfl⟩) | refine Nx.so ?_ | refine Nx.sb (fun bx => ?_) | refine Nx.sa (fun A2 c2 => ?_))
      | refine Nx.za ?_ | refine Nx.zr (fun hc => ?_) (fun hc => ?_)
      | refine Nx.zq ?_ | refine Nx.zu (fun hc => ?_) (fun hc => ?_)
      | refine Nx.zx ?_ | fail
    exact Nx.ret2 rfl (ROne.cell 0 rfl rfl rfl rfl rfl) (ROne.tmp rfl) [_, _] ⟨fun h => absurd rfl h, fun _ => .inr (.inr ⟨hfe, fun h => hnu h.2, x, w', D, b', A', c', g1, g2, g3, rfl, rfl⟩)⟩ (by (exact Ent.auto))
end Go.Proofs.YtpcnapidlhpbkaaGreatDoor
namespace Go.Proofs.YtpcnapidlhpbkaaGreatDoor
open Go.Eng Go.Sol
section
open Go.ChangeShapes Go.WideShapes Go.RowKit Go.Deep
variable {H : Type} {enc : TypeId × Value → H} {W : World} {base : Nat} {v : Value} {d : DataW H} {ps : List MemPlace} {sp : Nat → Bool}
set_option maxRecDepth 100000 in
theorem erow_cells30 {fuel : Nat} {cs : List Value} {x : DataW H × List MemPlace} (h : DataW.trod enc Tryz.prog W base sp true fuel 31 cs = some x) : ∃ y : Row, cs = [rowV y] ∧ Ints (fun i => W.heap[i]?) y.1 y.2.1 y.2.2 := by
  rcases ChangeShapes.open_ints Tryz.underlying31 Tryz.underlying3 (by kernel_rfl) h with ⟨hcs, _⟩ | ⟨a, n, c, zs, hcs, _, hle, hm, hz, _, hcell, _⟩
  · exact ⟨(none, 0, []), hcs, SliceOf.nil⟩
  · have hzl : n ≤ zs.length := by rw [hz]; split <;> omega
    have hlen : (zs.take n).length = n := by rw [List.length_take]; omega
    refine ⟨(some a, c, zs.take n), by rw [hcs]; show [Value.slice (some a) n c] = [Value.slice (some a) (zs.take n).length c]; rw [hlen], ⟨fun j u hj => ⟨rfl, ?_⟩, by dsimp only; rw [hlen]; exact hle, hm⟩⟩
    dsimp only at hj
    rw [List.getElem?_map, List.getElem?_take] at hj
    split at hj
    · rename_i hjn
      have := hcell j (by omega)
      rw [List.getElem?_eq_getElem (by omega)] at hj
      simp at hj
      rw [List.getD_eq_getElem?_getD, List.getElem?_eq_getElem (by omega)] at this
      rw [← hj]
      exact this
    · simp at hj
set_option maxRecDepth 100000 in
theorem eq_cells30 {fuel : Nat} {cs : List Value} {x : DataW H × List MemPlace} (h : DataW.trod enc Tryz.prog W base sp true fuel 46 cs = some x) : ∃ y : EqR, cs = eqC y ∧ Ints (fun i => W.heap[i]?) y.1.1 y.1.2.1 y.1.2.2 := by
  obtain ⟨xs, n, _, _, hl, hlen, hf⟩ := DataW.trod_struct Tryz.underlying46 h
  have hl : cs.length = 2 := hl
  have hlen : xs.length = 2 := hlen
  match cs, hl with
  | [c0, c1], _ =>
    match xs, hlen with
    | [y0, y1], _ =>
      obtain ⟨r, e0, hr⟩ := erow_cells30 (show DataW.trod enc Tryz.prog W base sp true n 31 [c0] = some y0 from hf 0 _ rfl)
      obtain ⟨p1, e1, _, _⟩ := DataW.trod_int Tryz.underlying3 (show DataW.trod enc Tryz.prog W base sp true n 3 [c1] = some y1 from hf 1 _ rfl)
      simp only [List.cons.injEq, and_true] at e0 e1
      subst e0 e1
      exact ⟨(r, p1), rfl, hr⟩
theorem eq_get30 : ∀ {l : List EqR} {j : Nat} {u : Value}, (l.flatMap eqC)[j]? = some u → j / 2 < l.length ∧ (eqC (l.getD (j / 2) default))[j % 2]? = some u
  | [], j, u, h => by simp at h
  | x :: l, j, u, h => by
    rw [List.flatMap_cons] at h
    by_cases hj : j < 2
    · rw [List.getElem?_append_left (by rw [eqC_len]; exact hj)] at h
      rw [show j / 2 = 0 by omega, show j % 2 = j by omega]
      exact ⟨by simp, h⟩
    · rw [List.getElem?_append_right (by rw [eqC_len]; omega), eqC_len] at h
      obtain ⟨h1, h2⟩ := eq_get30 h
      rw [show j / 2 = (j - 2) / 2 + 1 by omega, show j % 2 = (j - 2) % 2 by omega, List.getD_cons_succ]
      exact ⟨by simp; omega, h2⟩
theorem choose_eq30 {n : Nat} {p : Nat → EqR → Prop} (h : ∀ i, i < n → ∃ y, p i y) : ∃ q : Nat → EqR, ∀ i, i < n → p i (q i) :=
  ⟨fun i => if hi : i < n then (h i hi).choose else default, fun i hi => by dsimp only; rw [dif_pos hi]; exact (h i hi).choose_spec⟩
set_option maxRecDepth 100000 in
theorem open_eqs30 (hval : Value.okWide Tryz.prog W .any base 32 v) (h : DataW.Trod enc Tryz.prog W 0 sp true 32 v d ps) :
    ∃ (A : Option Addr) (c : Nat) (l : List EqR), v = .slice A l.length c ∧ Eqs (fun i => W.heap[i]?) A c l := by
  obtain ⟨A, n, c, rfl⟩ := okWide_slice Tryz.underlying32 hval
  obtain ⟨fuel, hf⟩ := h
  have hc1 : Tryz.prog.cellsOf 46 = 2 := by kernel_rfl
  rcases open_slice Tryz.underlying32 hf with ⟨hcs, hx⟩ | ⟨a, len, cap, m, n', D, Pl, hcs, _, hle, hm, hmm, _, hcell⟩
  · simp [Value.cells] at hcs
    obtain ⟨rfl, rfl, rfl⟩ := hcs
    exact ⟨none, 0, [], rfl, ⟨Arr.nil, Nat.le_refl _, by unfold maxLen; omega, by simp⟩, by simp⟩
  · simp [Value.cells] at hcs
    obtain ⟨rfl, rfl, rfl⟩ := hcs
    have hnm : n ≤ m := by rw [hmm]; split <;> omega
    obtain ⟨q, hq⟩ := choose_eq30 (n := n) (p := fun i y => Ints (fun i => W.heap[i]?) y.1.1 y.1.2.1 y.1.2.2 ∧ ∀ j, j < 2 → W.cell? (a.add (i * 2 + j)) = (eqC y)[j]?) (fun i hi => by
      obtain ⟨cs', h1, h2⟩ := hcell i (by omega)
      obtain ⟨y, rfl, ho⟩ := eq_cells30 h2
      refine ⟨y, ho, fun j hj => ?_⟩
      obtain ⟨_, _, h3⟩ := World.cells?_some h1
      have := h3 j (by rw [hc1]; exact hj)
      rw [Addr.add_add, hc1] at this
      exact this)
    have hl : ((List.range n).map q).length = n := by simp
    have hg : ∀ i, i < n → ((List.range n).map q).getD i default = q i := fun i hi => by
      rw [List.getD_eq_getElem?_getD, List.getElem?_eq_getElem (by omega)]; simp
    refine ⟨some a, c, (List.range n).map q, by rw [hl], ⟨fun j u hj => ?_, by rw [hl]; exact hle, hm, fun x _ => eqC_len x⟩, fun x hx => ?_⟩
    · obtain ⟨h1, h2⟩ := eq_get30 hj
      rw [hl] at h1
      rw [hg _ h1] at h2
      refine ⟨rfl, ?_⟩
      have h3 := (hq _ h1).2 (j % 2) (by omega)
      rw [h2, show j / 2 * 2 + j % 2 = j by omega] at h3
      exact h3
    · obtain ⟨i, hi, rfl⟩ := List.mem_map.1 hx
      exact (hq i (List.mem_range.1 hi)).1
end
end Go.Proofs.YtpcnapidlhpbkaaGreatDoor
namespace Go.Proofs.YtpcnapidlhpbkaaGreatDoor
open Go.Eng Go.Sol
theorem FnSpec.ent30 {P : Program} {f : FuncId} {args : List Value} {I : PH} {Rpre : List Res} {Post Post' : Value → List Res → Prop} (h : FnSpec P f args I Rpre Post) (hp : ∀ v R' F, Post v R' → ∃ R'', Ent (R' ++ [F]) (R'' ++ [F]) ∧ Post' v R'') : FnSpec P f args I Rpre Post' :=
  fun w F hw => (h w F hw).mono fun _ _ ⟨v, R', he, hv, hs⟩ => by
    obtain ⟨R'', h1, h2⟩ := hp v R' F hv
    exact ⟨v, R'', he, h2, hs.ent h1⟩
attribute [local irreducible] opK wpList Code.wp Exit.then Exit.inBlock fnPost bodyPost Nx Calls Oper.wp Rd Rds Wr Ent Stars Blk Again Vec FnSpec wpMix QRun Stop Upto wpAt
theorem IvOk.uniq {q : Bl.Eqs} {k : Nat} {x y : IvR} (h : IvOk q k x) (h' : IvOk q k y) : x = y := by
  obtain ⟨a, b, o⟩ := x
  obtain ⟨a', b', o'⟩ := y
  obtain rfl : a = a' := h.low.uniq h'.low
  obtain rfl : o = o' := Bool.eq_iff_iff.2 (h.opn.trans h'.opn.symm)
  have h3 : b = b' := by
    cases o with
    | true => exact (h.top rfl).trans (h'.top rfl).symm
    | false => exact (h.high rfl).uniq (h'.high rfl)
  rw [h3]
def BoundsIs (n : Int) (l : List EqR) (L : List IvR) (e : Int) : Prop := (chkB n l 0 ≠ 0 ∧ L = [] ∧ e = chkB n l 0) ∨ (chkB n l 0 = 0 ∧ (¬∃ x, Bl.Feas (toQ n.toNat l) x) ∧ L = [] ∧ e = 52) ∨ (chkB n l 0 = 0 ∧ (∃ x, Bl.Feas (toQ n.toNat l) x) ∧ L.length = n.toNat ∧ (∀ k, k < n.toNat → IvOk (toQ n.toNat l) k (L.getD k default)) ∧ e = 0)
theorem BoundsIs.uniq {n : Int} {l : List EqR} {L L' : List IvR} {e e' : Int} (h : BoundsIs n l L e) (h' : BoundsIs n l L' e') : L' = L ∧ e' = e := by
  rcases h with ⟨h1, rfl, rfl⟩ | ⟨h1, h2, rfl, rfl⟩ | ⟨h1, h2, h3, h4, rfl⟩
  · rcases h' with ⟨_, rfl, rfl⟩ | ⟨g1, _⟩ | ⟨g1, _⟩
    · exact ⟨rfl, rfl⟩
    · exact absurd g1 h1
    · exact absurd g1 h1
  · rcases h' with ⟨g1, _⟩ | ⟨_, _, rfl, rfl⟩ | ⟨_, g2, _⟩
    · exact absurd h1 g1
    · exact ⟨rfl, rfl⟩
    · exact absurd g2 h2
  · rcases h' with ⟨g1, _⟩ | ⟨_, g2, _⟩ | ⟨_, _, g3, g4, rfl⟩
    · exact absurd h1 g1
    · exact absurd h2 g2
    · refine ⟨List.ext_getElem (g3.trans h3.symm) fun k k1 k2 => ?_, rfl⟩
      have a := (g4 k (by omega)).uniq (h4 k (by omega))
      rw [List.getD_eq_getElem?_getD, List.getElem?_eq_getElem k1, List.getD_eq_getElem?_getD, List.getElem?_eq_getElem k2] at a
      exact a
def BndPost (n : Int) (l : List EqR) (v : Value) (R' : List Res) : Prop := ∃ (A' : Option Addr) (c' : Nat) (L : List IvR) (e : Int), BoundsIs n l L e ∧ v = .tuple #[.slice A' L.length c', .int .i64 e] ∧ R' = [Vec 50 5 A' L.length c' (L.flatMap ivC)]
theorem bBounds_is (n : Int) (A : Option Addr) (c : Nat) (l : List EqR) (I : PH) (hl : Eqs I A c l) (hT : TabI I) : FnSpec Tryz.prog 17 [.int .i64 n, .slice A l.length c] I [] (BndPost n l) := by
  refine FnSpec.ent30 (bBounds_spec n A c l I hl hT) fun v R' F h => ?_
  by_cases h0 : chkB n l 0 = 0
  · rcases h.2 h0 with ⟨h1, rfl, rfl⟩ | ⟨h1, A', c', L, h2, h3, rfl, rfl⟩
    · exact ⟨_, Ent.vec_nil 50 5 _, none, 0, [], 52, .inr (.inl ⟨h0, h1, rfl, rfl⟩), rfl, rfl⟩
    · exact ⟨_, Ent.refl _, A', c', L, 0, .inr (.inr ⟨h0, h1, h2, h3, rfl⟩), rfl, rfl⟩
  · obtain ⟨rfl, rfl⟩ := h.1 h0
    exact ⟨_, Ent.vec_nil 50 5 _, none, 0, [], _, .inl ⟨h0, rfl, rfl⟩, rfl, rfl⟩
theorem RBounds_is (n : Int) (A : Option Addr) (c : Nat) (l : List EqR) (I : PH) (hl : Eqs I A c l) : FnSpec Tryz.prog 33 [.int .i64 n, .slice A l.length c] I [] (BndPost n l) := by
  refine FnSpec.ent30 (RBounds_spec n A c l I hl) fun v R' F h => ?_
  by_cases h0 : chkB n l 0 = 0
  · rcases h.2 h0 with ⟨h1, rfl, rfl⟩ | ⟨h1, A', c', L, h2, h3, rfl, rfl⟩
    · exact ⟨_, Ent.vec_nil 50 5 _, none, 0, [], 52, .inr (.inl ⟨h0, h1, rfl, rfl⟩), rfl, rfl⟩
    · exact ⟨_, Ent.refl _, A', c', L, 0, .inr (.inr ⟨h0, h1, h2, h3, rfl⟩), rfl, rfl⟩
  · obtain ⟨rfl, rfl⟩ := h.1 h0
    exact ⟨_, Ent.vec_nil 50 5 _, none, 0, [], _, .inl ⟨h0, rfl, rfl⟩, rfl, rfl⟩
open Classical in
noncomputable def posV (n : Int) (l : List EqR) : Bool := decide (chkB n l 0 = 0 ∧ ∃ x, Bl.Feas (toQ n.toNat l) x)
open Classical in
theorem posV_of {n : Int} {l : List EqR} {bo : Bool} (h1 : chkB n l 0 = 0 → (bo = true ↔ ∃ x, Bl.Feas (toQ n.toNat l) x)) (h2 : chkB n l 0 ≠ 0 → bo = false) : bo = posV n l := by
  unfold posV
  by_cases h0 : chkB n l 0 = 0
  · by_cases hf : ∃ x, Bl.Feas (toQ n.toNat l) x
    · rw [decide_eq_true ⟨h0, hf⟩]; exact (h1 h0).2 hf
    · rw [decide_eq_false fun h => hf h.2, Bool.eq_false_iff]; exact fun h => hf ((h1 h0).1 h)
  · rw [decide_eq_false fun h => h0 h.1]; exact h2 h0
theorem bPossible_is (n : Int) (A : Option Addr) (c : Nat) (l : List EqR) (I : PH) (hl : Eqs I A c l) (hT : TabI I) : FnSpec Tryz.prog 31 [.int .i64 n, .slice A l.length c] I [] (fun v R' => v = .tuple #[.bool (posV n l), .int .i64 (chkB n l 0)] ∧ R' = []) :=
  FnSpec.mono (bPossible_spec n A c l I hl hT) fun _ _ ⟨_, h, h1, h2, h3⟩ => ⟨by rw [h, posV_of h1 h2], h3⟩
theorem RPossible_is (n : Int) (A : Option Addr) (c : Nat) (l : List EqR) (I : PH) (hl : Eqs I A c l) : FnSpec Tryz.prog 32 [.int .i64 n, .slice A l.length c] I [] (fun v R' => v = .tuple #[.bool (posV n l), .int .i64 (chkB n l 0)] ∧ R' = []) :=
  FnSpec.mono (RPossible_spec n A c l I hl) fun _ _ ⟨_, h, h1, h2, h3⟩ => ⟨by rw [h, posV_of h1 h2], h3⟩
theorem RProve_yes {n : Nat} {l : List EqR} (hb : BEq n l) (hv : validB n l = true) {cell : Nat} (hc : cell < n) {up : Bool} (hfe : ∃ x, Bl.Feas (toQ n l) x) (hnu : ¬(up = true ∧ Unb (toQ n l) cell)) (A : Option Addr) (c : Nat) (I : PH) (hl : Eqs I A c l) :
    FnSpec Tryz.prog 12 [.int .i64 (n : Int), .slice A l.length c, .int .i64 (cell : Int), .bool up] I [] (ProofPost n l cell up) := by
  refine FnSpec.mono (RProve_spec (n : Int) A c l (cell : Int) up I hl) fun v R' h => ?_
  rcases h.2 (chkB_of hb hv ⟨by omega, by omega⟩) with ⟨hno, _⟩ | ⟨_, hu, _⟩ | ⟨_, _, x, w, D, b', A', c', g1, g2, g3, g4, g5⟩
  · exact absurd hfe hno
  · exact absurd hu hnu
  · exact ⟨x, w, D, b', A', c', g1, g2, g3, g4, g5⟩
theorem prove_two (n : Int) (A : Option Addr) (c : Nat) (l : List EqR) (k : Int) (up : Bool) :
    (∃ e : Int, e ≠ 0 ∧ (∀ I, Eqs I A c l → TabI I → FnSpec Tryz.prog 30 [.int .i64 n, .slice A l.length c, .int .i64 k, .bool up] I [] (fun v R' => v = .tuple #[noProof, .int .i64 e] ∧ R' = [])) ∧
      ∀ I, Eqs I A c l → FnSpec Tryz.prog 12 [.int .i64 n, .slice A l.length c, .int .i64 k, .bool up] I [] (fun v R' => v = .tuple #[noProof, .int .i64 e] ∧ R' = [])) ∨
    (∃ N cell : Nat, n = (N : Int) ∧ k = (cell : Int) ∧ cell < N ∧ BEq N l ∧ validB (N : Int) l = true ∧ (∃ x, Bl.Feas (toQ N l) x) ∧ ¬(up = true ∧ Unb (toQ N l) cell)) := by
  by_cases h0 : chkB n l k = 0
  case neg =>
    exact .inl ⟨_, h0, fun I hl hT => FnSpec.mono (bProve_spec n A c l k up I hl hT) fun v R' h => h.1 h0, fun I hl => FnSpec.mono (RProve_spec n A c l k up I hl) fun v R' h => h.1 h0⟩
  obtain ⟨hb, h1, h2⟩ := chkB_ok h0
  obtain ⟨N, rfl⟩ : ∃ N : Nat, n = (N : Int) := ⟨n.toNat, by omega⟩
  obtain ⟨cell, rfl⟩ : ∃ m : Nat, k = (m : Int) := ⟨k.toNat, by omega⟩
  rw [Int.toNat_natCast] at hb
  by_cases hf : ∃ x, Bl.Feas (toQ N l) x
  case neg =>
    refine .inl ⟨52, by decide, fun I hl hT => FnSpec.mono (bProve_spec _ A c l _ up I hl hT) fun v R' h => ?_, fun I hl => FnSpec.mono (RProve_spec _ A c l _ up I hl) fun v R' h => ?_⟩
    all_goals
      rcases h.2 h0 with ⟨_, h3⟩ | ⟨h3, _⟩ | ⟨h3, _⟩
      · exact h3
      · exact absurd h3 hf
      · exact absurd h3 hf
  by_cases hu : up = true ∧ Unb (toQ N l) cell
  case pos =>
    refine .inl ⟨21, by decide, fun I hl hT => FnSpec.mono (bProve_spec _ A c l _ up I hl hT) fun v R' h => ?_, fun I hl => FnSpec.mono (RProve_spec _ A c l _ up I hl) fun v R' h => ?_⟩
    all_goals
      rcases h.2 h0 with ⟨h3, _⟩ | ⟨_, _, h3⟩ | ⟨_, h3, _⟩
      · exact absurd hf h3
      · exact h3
      · exact absurd hu h3
  have hn := hb.cnt
  exact .inr ⟨N, cell, rfl, rfl, by omega, hb, valid30 (by omega) (by have := hb.len; omega) hb.good, hf, hu⟩
set_option maxRecDepth 10000 in
theorem same_spec (A B : Option Addr) (cp cq : Nat) (L : List IvR) (I : PH) (hl : SliceN ivC 5 I A cp L) (hr : SliceN ivC 5 I B cq L) :
    FnSpec Tryz.prog 34 [.slice A L.length cp, .slice B L.length cq] I [] (fun v R' => v = .bool true ∧ R' = []) := by
  refine FnSpec.enterP Tryz.func34 rfl Tryz.ntmps34 rfl fun w F => ?_
  have h1 := hl.len
  repeat' first
    | ((with_reducible refine Nx.is_wp ?_); first | refine Nx.wo ?_ | refine Nx.zp (fun hc => ?_) (fun hc => ?_))
    | (refine Nx.zo ?_; first | refine Nx.opr rfl rfl ?_ | refine Nx.so ?_ | refine Nx.sb (fun bx => ?_) | refine Nx.sa (fun A2 c2 => ?_))
    | refine Nx.za ?_ | refine Nx.zr (fun hc => ?_) (fun hc => ?_)
    | refine Nx.zq ?_ | refine Nx.zu (fun hc => ?_) (fun hc => ?_)
    | refine Nx.zx ?_ | fail
  refine Nx.p_loop (σ := Nat) (fun k => [(0, .slice A L.length cp), (1, .slice B L.length cq), (12, .int .i64 L.length), (13, .int .i64 (k : Int))])
    (fun _ => [F]) (fun k => k ≤ L.length) (fun k => L.length - k) 0 rfl (Nat.zero_le _) ⟨rfl, rfl, rfl, rfl, trivial⟩ (Ent.refl _) ?_
  intro k hk
  have hk : k ≤ L.length := hk
  by_cases hlt : k < L.length
  case neg =>
    repeat' first
      | ((with_reducible refine Nx.is_wp ?_); first | refine Nx.wo ?_ | refine Nx.zp (fun hc => ?_) (fun hc => ?_))
      | (refine Nx.zo ?_; first | refine Nx.opr rfl rfl ?_ | refine Nx.so ?_ | refine Nx.sb (fun bx => ?_) | refine Nx.sa (fun A2 c2 => ?_))
      | refine Nx.za ?_ | refine Nx.zr (fun hc => ?_) (fun hc => ?_)
      | refine Nx.zq ?_ | refine Nx.zu (fun hc => ?_) (fun hc => ?_)
      | refine Nx.zx ?_ | fail
    exact Nx.ret_fn rfl [] ⟨rfl, rfl⟩ (Ent.refl _)
  have hE := fun {x y : Operand} (w : World) => (neq_iv (L.getD k default) (L.getD k default) x y w).trans (show _ = Result.ok (Value.bool false) w by rw [decide_eq_false (fun h => h rfl)])
  repeat' first
    | ((with_reducible refine Nx.is_wp ?_); first | refine Nx.wo ?_ | refine Nx.p_draw (id := 6) rfl [0, 1, 2, 3, 4, 5, 6, 7, 8] [] _ rfl rfl (by kernel_rfl) (by kernel_rfl) rfl PanicOk.auto (Ent.refl _) ?_ | refine Nx.zp (fun hc => ?_) (fun hc => ?_))
    | (refine Nx.zo ?_; first | refine Nx.opr rfl rfl ?_ | refine Nx.so ?_ | refine Nx.sb (fun bx => ?_) | refine Nx.sa (fun A2 c2 => ?_))
    | refine Nx.za ?_ | refine Nx.zr (fun hc => ?_) (fun hc => ?_)
    | ((with_reducible refine Nx.is_mix ?_); first | refine Nx.m_quiet rfl rfl rfl rfl rfl (by first | exact QRun.opr rfl | exact QRun.idx rfl rfl rfl rfl hlt (hl.isSome (by omega) (by decide)) | exact QRun.idx rfl rfl rfl rfl hlt (hr.isSome (by omega) (by decide)) | exact QRun.loads rfl rfl rfl (hl.rds hlt) rfl | exact QRun.loads rfl rfl rfl (hr.rds hlt) rfl | exact QRun.binr rfl rfl hE) ?_ | refine Nx.m_quiet_do rfl rfl rfl rfl rfl rfl rfl (by first | exact QRun.opr rfl | exact QRun.idx rfl rfl rfl rfl hlt (hl.isSome (by omega) (by decide)) | exact QRun.idx rfl rfl rfl rfl hlt (hr.isSome (by omega) (by decide)) | exact QRun.loads rfl rfl rfl (hl.rds hlt) rfl | exact QRun.loads rfl rfl rfl (hr.rds hlt) rfl | exact QRun.binr rfl rfl hE) ?_ | refine Nx.m ?_ | refine Nx.zm ?_ | refine Nx.zt (fun hc => ?_) (fun hc => ?_))
    | refine Nx.zx ?_ | fail
  exact Nx.again (k + 1) hlt (by omega) ⟨rfl, rfl, rfl, rfl, trivial⟩ (Ent.refl _)
end Go.Proofs.YtpcnapidlhpbkaaGreatDoor
namespace Go.Proofs.YtpcnapidlhpbkaaGreatDoor
open Go.Eng Go.Sol
attribute [local irreducible] opK wpList Code.wp Exit.then Exit.inBlock fnPost bodyPost Nx Calls Oper.wp Rd Rds Wr Ent Stars Blk Again Vec FnSpec wpMix QRun Stop Upto wpAt
theorem tmod_mod30 (k : Int) {n : Int} (hn : 0 < n) : (k.tmod n < 0 → k.tmod n + n = k % n) ∧ (¬ k.tmod n < 0 → k.tmod n = k % n) := by
  have h1 := Int.mul_tdiv_add_tmod k n
  have h2 : (k.tmod n).natAbs < n.natAbs := by rw [Int.natAbs_tmod]; exact Nat.mod_lt _ (by omega)
  refine ⟨fun h => ?_, fun h => ?_⟩
  · refine ((Int.ediv_emod_unique hn).2 ⟨?_, ?_, ?_⟩ : k / n = k.tdiv n - 1 ∧ k % n = k.tmod n + n).2.symm
    · rw [Int.mul_sub]; omega
    · omega
    · omega
  · refine ((Int.ediv_emod_unique hn).2 ⟨?_, ?_, ?_⟩ : k / n = k.tdiv n ∧ k % n = k.tmod n).2.symm
    · omega
    · omega
    · omega
set_option maxRecDepth 10000 in
theorem Mod30_spec (k n : Int) (_hk : I64 k) (hn : 1 ≤ n ∧ n ≤ 1000000) (I : PH) : FnSpec Tryz.prog 16 [.int .i64 k, .int .i64 n] I [] (fun v R' => v = .int .i64 (k % n) ∧ R' = []) := by
  obtain ⟨e1, e2⟩ := tmod_mod30 k (by omega : 0 < n)
  have hb : (k.tmod n).natAbs < n.natAbs := by rw [Int.natAbs_tmod]; exact Nat.mod_lt _ (by omega)
  refine FnSpec.enterP Tryz.func16 rfl Tryz.ntmps16 rfl fun w F => ?_
  repeat' first
    | ((with_reducible refine Nx.is_wp ?_); first | refine Nx.wo ?_ | refine Nx.zp (fun hc => ?_) (fun hc => ?_))
    | (refine Nx.zo ?_; first | refine Nx.opr rfl rfl ?_ | refine Nx.bin rfl rfl (run_remT (by omega)) rfl ?_ | refine Nx.so ?_ | refine Nx.sb (fun bx => ?_) | refine Nx.sa (fun A2 c2 => ?_))
    | refine Nx.za ?_ | refine Nx.zr (fun hc => ?_) (fun hc => ?_)
    | refine Nx.zq ?_ | refine Nx.zu (fun hc => ?_) (fun hc => ?_)
    | refine Nx.zx ?_ | fail
  all_goals first
    | exact Nx.ret_fn rfl [] ⟨by rw [e1 (by assumption)], rfl⟩ (Ent.refl _)
    | exact Nx.ret_fn rfl [] ⟨by rw [e2 (by assumption)], rfl⟩ (Ent.refl _)
abbrev EqL30 := Option Addr × Nat × List EqR
def eqlV30 (x : EqL30) : Value := .slice x.1 x.2.2.length x.2.1
theorem memX30 {X : List EqL30} {k : Nat} (h : k < X.length) : X.getD k default ∈ X := by
  rw [List.getD_eq_getElem?_getD, List.getElem?_eq_getElem h]; exact List.getElem_mem _
theorem eq_one30 (l : List EqR) : ∀ u ∈ l.flatMap eqC, u.oneCell' = true := fun u hu => by
  obtain ⟨x, _, hx⟩ := List.mem_flatMap.1 hu
  simp only [eqC, List.mem_cons, List.not_mem_nil, or_false] at hx
  rcases hx with rfl | rfl <;> rfl
theorem eq_len30 (l : List EqR) : (l.flatMap eqC).length = l.length * 2 := flat_len eqC_len l
set_option maxRecDepth 10000 in
theorem BoundsAnswers_spec (n : Int) (A1 : Option Addr) (c1 : Nat) (raw : List EqR) (cell : Int) (up : Bool) (A : Option Addr) (c : Nat) (l : List Int) (I : PH) (hraw : Eqs I A1 c1 raw) (hcell : I64 cell) (hl : Bytes I A c l) (hx : ∀ x ∈ l, 0 ≤ x ∧ x < 256) (hT : TabI I) :
    FnSpec Tryz.prog 7 [.int .i64 n, .slice A1 raw.length c1, .int .i64 cell, .bool up, .slice A l.length c] I [] (fun v R' => v = .bool true ∧ R' = []) := by
  have hL := bytes_take hl hx
  have hrl := hraw.len
  refine FnSpec.enterP Tryz.func7 rfl Tryz.ntmps7 rfl fun w F => ?_
  by_cases h8 : raw.length ≤ 8
  case neg =>
    repeat' first
      | ((with_reducible refine Nx.is_wp ?_); first | refine Nx.wo ?_ | refine Nx.zp (fun hc => ?_) (fun hc => ?_))
      | (refine Nx.zo ?_; first | refine Nx.opr rfl rfl ?_ | refine Nx.callv rfl rfl rfl (by kernel_rfl) rfl (awakeB_spec _ hT) ?_ | refine Nx.so ?_ | refine Nx.sb (fun bx => ?_) | refine Nx.sa (fun A2 c2 => ?_))
      | refine Nx.za ?_ | refine Nx.zr (fun hc => ?_) (fun hc => ?_)
      | refine Nx.zq ?_ | refine Nx.zu (fun hc => ?_) (fun hc => ?_)
      | refine Nx.zx ?_ | fail
    exact Nx.ret_fn rfl [] ⟨rfl, rfl⟩ (by (exact Ent.auto))
  repeat' first
    | ((with_reducible refine Nx.is_wp ?_); first | refine Nx.wo ?_ | refine Nx.zp (fun hc => ?_) (fun hc => ?_))
    | (refine Nx.zo ?_; first | refine Nx.opr rfl rfl ?_ | refine Nx.so ?_ | refine Nx.sb (fun bx => ?_) | refine Nx.sa (fun A2 c2 => ?_))
    | refine Nx.za ?_ | refine Nx.zr (fun hc => ?_) (fun hc => ?_)
    | refine Nx.zq ?_ | refine Nx.zu (fun hc => ?_) (fun hc => ?_)
    | refine Nx.zx ?_ | fail
  refine Nx.p_loop (σ := Nat) (fun k => [(0, .int .i64 n), (1, .slice A1 raw.length c1), (2, .int .i64 cell), (3, .bool up), (4, .slice A l.length c), (37, .slice A1 raw.length c1), (38, .int .i64 raw.length), (39, .int .i64 (k : Int))])
    (fun _ => [F]) (fun k => k ≤ raw.length) (fun k => raw.length - k) 0 rfl (Nat.zero_le _) ⟨rfl, rfl, rfl, rfl, rfl, rfl, rfl, rfl, trivial⟩ (by (exact Ent.auto)) ?_
  intro k hk
  have hk : k ≤ raw.length := hk
  by_cases hlt : k < raw.length
  · have hin := hraw.inner _ (getD_memQ hlt)
    have hinl := hin.len
    have rf0 := fun (W : World) (R : List Res) => SliceN.fld (W := W) (R := R) (v := .slice (raw.getD k default).1.1 (raw.getD k default).1.2.2.length (raw.getD k default).1.2.1) hraw.outer hlt 0 rfl
    generalize raw.getD k default = q at hin rf0 hinl
    obtain ⟨⟨Ax, cx, xs⟩, z⟩ := q
    dsimp only at hin rf0 hinl
    by_cases h12 : xs.length ≤ 12
    · repeat' first
        | ((with_reducible refine Nx.is_wp ?_); first | refine Nx.wo ?_ | refine Nx.zp (fun hc => ?_) (fun hc => ?_))
        | (refine Nx.zo ?_; first | (refine Nx.quietly rfl rfl (QRun.fld (A := (ad A1).add (k * 2)) rfl rfl) ?_) | refine Nx.opr rfl rfl ?_ | refine Nx.indexAddr_nat rfl rfl rfl rfl rfl hlt (hraw.outer.isSome (by omega) (by omega)) ?_ | refine Nx.load rfl rfl rfl (rf0 _ _) ?_ | refine Nx.so ?_ | refine Nx.sb (fun bx => ?_) | refine Nx.sa (fun A2 c2 => ?_))
        | refine Nx.za ?_ | refine Nx.zr (fun hc => ?_) (fun hc => ?_)
        | refine Nx.zq ?_ | refine Nx.zu (fun hc => ?_) (fun hc => ?_)
        | refine Nx.zx ?_ | fail
      exact Nx.again (k + 1) hlt (by omega) ⟨rfl, rfl, rfl, rfl, rfl, rfl, rfl, rfl, trivial⟩ (by (exact Ent.auto))
    · repeat' first
        | ((with_reducible refine Nx.is_wp ?_); first | refine Nx.wo ?_ | refine Nx.zp (fun hc => ?_) (fun hc => ?_))
        | (refine Nx.zo ?_; first | (refine Nx.quietly rfl rfl (QRun.fld (A := (ad A1).add (k * 2)) rfl rfl) ?_) | refine Nx.opr rfl rfl ?_ | refine Nx.indexAddr_nat rfl rfl rfl rfl rfl hlt (hraw.outer.isSome (by omega) (by omega)) ?_ | refine Nx.load rfl rfl rfl (rf0 _ _) ?_ | refine Nx.callv rfl rfl rfl (by kernel_rfl) rfl (awakeB_spec _ hT) ?_ | refine Nx.so ?_ | refine Nx.sb (fun bx => ?_) | refine Nx.sa (fun A2 c2 => ?_))
        | refine Nx.za ?_ | refine Nx.zr (fun hc => ?_) (fun hc => ?_)
        | refine Nx.zq ?_ | refine Nx.zu (fun hc => ?_) (fun hc => ?_)
        | refine Nx.zx ?_ | fail
      exact Nx.ret_fn rfl [] ⟨rfl, rfl⟩ (by (exact Ent.auto))
  obtain rfl : k = raw.length := by omega
  repeat' first
    | ((with_reducible refine Nx.is_wp ?_); first | refine Nx.p_stopr 11 rfl ?_ | refine Nx.wo ?_ | refine Nx.zp (fun hc => ?_) (fun hc => ?_))
    | (refine Nx.zo ?_; first | refine Nx.opr rfl rfl ?_ | (refine Nx.call (Rpre := []) rfl rfl rfl (by kernel_rfl) rfl (New_codes A c l I hl) (Ent.refl _) ?_; rintro _ _ ⟨b, rfl, rfl⟩) | (refine Nx.call rfl rfl rfl (by kernel_rfl) rfl (Equations_made8 b A c _ 0 4 I hL (Nat.zero_le _) (by omega)) (by (exact Ent.auto)) ?_; rintro _ _ ⟨N, At, ct, t, Aq, cq, qs, k1, rfl, ⟨hE, hN8⟩, hk1, rfl⟩) | refine Nx.so ?_ | refine Nx.sb (fun bx => ?_) | refine Nx.sa (fun A2 c2 => ?_))
    | refine Nx.za ?_ | refine Nx.zr (fun hc => ?_) (fun hc => ?_)
    | refine Nx.zq ?_ | refine Nx.zu (fun hc => ?_) (fun hc => ?_)
    | refine Nx.zx ?_ | fail
  refine Nx.unstop ?_
  refine Nx.giveEq30 (At := At) (ct := ct) (t := t) (A := Aq) (c := cq) (qs := qs) (RR := [F]) (by refine Ent.trans ?_ Ent.stars; unfold eqsR; (exact Ent.auto)) fun I1 hI1 ht hq => ?_
  have hfew := hE.few
  replace hraw := hraw.mono hI1
  repeat' first
    | ((with_reducible refine Nx.is_wp ?_); first | refine Nx.wo ?_ | refine Nx.zp (fun hc => ?_) (fun hc => ?_))
    | (refine Nx.zo ?_; first | refine Nx.opr rfl rfl ?_ | refine Nx.so ?_ | refine Nx.sb (fun bx => ?_) | refine Nx.sa (fun A2 c2 => ?_))
    | refine Nx.za ?_ | refine Nx.zr (fun hc => ?_) (fun hc => ?_)
    | refine Nx.zq ?_ | refine Nx.zu (fun hc => ?_) (fun hc => ?_)
    | refine Nx.zx ?_ | fail
  revert bx; intro b59
  refine Nx.blk_vec 0 0 2 rfl rfl (by omega) ?_
  refine Nx.at_op rfl rfl ?_
  refine Nx.append rfl rfl rfl rfl (by kernel_rfl) rfl (Src.arr hq.outer.arr (eq_len30 qs) (by omega) (eq_one30 qs)) (by omega) fun A3 c3 => ?_
  rw [Nat.zero_add, List.nil_append]
  repeat' first
    | ((with_reducible refine Nx.is_wp ?_); first | refine Nx.wo ?_ | refine Nx.zp (fun hc => ?_) (fun hc => ?_))
    | (refine Nx.zo ?_; first | refine Nx.opr rfl rfl ?_ | refine Nx.so ?_ | refine Nx.sb (fun bx => ?_) | refine Nx.sa (fun A2 c2 => ?_))
    | refine Nx.za ?_ | refine Nx.zr (fun hc => ?_) (fun hc => ?_)
    | refine Nx.zq ?_ | refine Nx.zu (fun hc => ?_) (fun hc => ?_)
    | refine Nx.zx ?_ | fail
  refine Nx.at_op rfl rfl ?_
  refine Nx.append rfl rfl rfl rfl (by kernel_rfl) rfl (Src.arr hraw.outer.arr (eq_len30 raw) (by omega) (eq_one30 raw)) (by omega) fun A4 c4 => ?_
  refine Nx.freezeAt 0 rfl fun I2 m2 hI2 hm2 h2 => ?_
  rw [← List.flatMap_append, ← List.length_append] at h2
  have hbo : Eqs I2 A4 c4 (qs ++ raw) := ⟨Vec.sliceN hm2 h2 fun x _ => eqC_len x, fun q hq' => (List.mem_append.1 hq').elim (fun h => (hq.inner q h).mono hI2) fun h => (hraw.inner q h).mono hI2⟩
  replace hraw := hraw.mono hI2
  replace hq := hq.mono hI2
  rw [← List.length_append]
  repeat' first
    | ((with_reducible refine Nx.is_wp ?_); first | refine Nx.wo ?_ | refine Nx.zp (fun hc => ?_) (fun hc => ?_))
    | (refine Nx.zo ?_; first | refine Nx.opr rfl rfl ?_ | refine Nx.so ?_ | refine Nx.sb (fun bx => ?_) | refine Nx.sa (fun A2 c2 => ?_))
    | refine Nx.za ?_ | refine Nx.zr (fun hc => ?_) (fun hc => ?_)
    | refine Nx.zq ?_ | refine Nx.zu (fun hc => ?_) (fun hc => ?_)
    | refine Nx.zx ?_ | fail
  revert bx; intro b67
  refine Nx.freezeAt 0 rfl fun I3 m3 hI3 hm3 h3 => ?_
  have hXs : SliceOf eqlV30 I3 (some ⟨b67, 0, none⟩) 3 [(A1, c1, raw), (Aq, cq, qs), (A4, c4, qs ++ raw)] := Blk.sliceOf (t := 32) (l := [((A1, c1, raw) : EqL30), (Aq, cq, qs), (A4, c4, qs ++ raw)]) hm3 h3 (by unfold maxLen; simp)
  have hX : ∀ x ∈ ([(A1, c1, raw), (Aq, cq, qs), (A4, c4, qs ++ raw)] : List EqL30), Eqs I3 x.1 x.2.1 x.2.2 := fun x hx => by
    simp only [List.mem_cons, List.not_mem_nil, or_false] at hx
    rcases hx with rfl | rfl | rfl
    · exact hraw.mono hI3
    · exact hq.mono hI3
    · exact hbo.mono hI3
  have hle3 := (hI1.trans hI2).trans hI3
  have hT3 := tab_mono hle3 hT
  have hXl : ([(A1, c1, raw), (Aq, cq, qs), (A4, c4, qs ++ raw)] : List EqL30).length = 3 := rfl
  generalize ([(A1, c1, raw), (Aq, cq, qs), (A4, c4, qs ++ raw)] : List EqL30) = X at hXs hX hXl
  refine Nx.p_loop (σ := Nat) (fun j => [(0, .int .i64 n), (2, .int .i64 cell), (3, .bool up), (13, .int .i64 (N : Int)), (67, .slice (some ⟨b67, 0, none⟩) 3 3), (68, .int .i64 ((3 : Nat) : Int)), (69, .int .i64 (j : Int))])
    (fun _ => [F]) (fun j => j ≤ 3) (fun j => 3 - j) 0 rfl (Nat.zero_le _) ⟨rfl, rfl, rfl, rfl, rfl, rfl, rfl, trivial⟩ (by (exact Ent.auto)) ?_
  intro j hj
  have hj : j ≤ 3 := hj
  by_cases hj3 : j < 3
  case neg =>
    repeat' first
      | ((with_reducible refine Nx.is_wp ?_); first | refine Nx.wo ?_ | refine Nx.zp (fun hc => ?_) (fun hc => ?_))
      | (refine Nx.zo ?_; first | refine Nx.opr rfl rfl ?_ | refine Nx.callv rfl rfl rfl (by kernel_rfl) rfl (awakeB_spec _ hT3) ?_ | refine Nx.so ?_ | refine Nx.sb (fun bx => ?_) | refine Nx.sa (fun A2 c2 => ?_))
      | refine Nx.za ?_ | refine Nx.zr (fun hc => ?_) (fun hc => ?_)
      | refine Nx.zq ?_ | refine Nx.zu (fun hc => ?_) (fun hc => ?_)
      | refine Nx.zx ?_ | fail
    exact Nx.imm_le hle3 (Nx.ret_fn rfl [] ⟨rfl, rfl⟩ (by (exact Ent.auto)))
  have hxe := hX _ (memX30 (show j < X.length by omega))
  have hxr : ∀ (W : World) (R : List Res), Rd W I3 R ((ad (some (⟨b67, 0, none⟩ : Addr))).add (j * 1)) (eqlV30 (X.getD j default)) := fun W R => hXs.rd (by omega)
  generalize X.getD j default = xq at hxe hxr
  obtain ⟨Ae, ce, es⟩ := xq
  dsimp only at hxe
  replace hxr : ∀ (W : World) (R : List Res), Rd W I3 R ((ad (some (⟨b67, 0, none⟩ : Addr))).add (j * 1)) (.slice Ae es.length ce) := hxr
  repeat' first
    | ((with_reducible refine Nx.is_wp ?_); first | refine Nx.wo ?_ | refine Nx.zp (fun hc => ?_) (fun hc => ?_))
    | (refine Nx.zo ?_; first | refine Nx.opr rfl rfl ?_ | refine Nx.indexAddr_nat (A := some ⟨b67, 0, none⟩) (i := j) (sz := 1) rfl rfl rfl rfl rfl hj3 rfl ?_ | refine Nx.load rfl rfl rfl (hxr _ _) ?_ | refine Nx.so ?_ | refine Nx.sb (fun bx => ?_) | refine Nx.sa (fun A2 c2 => ?_))
    | refine Nx.za ?_ | refine Nx.zr (fun hc => ?_) (fun hc => ?_)
    | refine Nx.zq ?_ | refine Nx.zu (fun hc => ?_) (fun hc => ?_)
    | refine Nx.zx ?_ | fail
  revert bx; intro b75
  refine Nx.freezeAt 0 rfl fun I4 m4 hI4 hm4 h4 => ?_
  have hns : Ints I4 (some ⟨b75, 0, none⟩) 2 [n, (N : Int)] := Blk.sliceOf (t := 3) (l := [n, (N : Int)]) hm4 h4 (by unfold maxLen; simp)
  have hnl : ([n, (N : Int)] : List Int).length = 2 := rfl
  generalize ([n, (N : Int)] : List Int) = ns at hns hnl
  have hT4 := tab_mono hI4 hT3
  refine Nx.p_loop (σ := Nat) (fun i => [(0, .int .i64 n), (2, .int .i64 cell), (3, .bool up), (13, .int .i64 (N : Int)), (18, .slice Ae es.length ce), (67, .slice (some ⟨b67, 0, none⟩) 3 3), (68, .int .i64 ((3 : Nat) : Int)), (69, .int .i64 (j : Int)), (75, .slice (some ⟨b75, 0, none⟩) 2 2), (76, .int .i64 ((2 : Nat) : Int)), (77, .int .i64 (i : Int))])
    (fun _ => [F]) (fun i => i ≤ 2) (fun i => 2 - i) 0 rfl (Nat.zero_le _) ⟨rfl, rfl, rfl, rfl, rfl, rfl, rfl, rfl, rfl, rfl, rfl, trivial⟩ (by (exact Ent.auto)) ?_
  intro i hi
  have hi : i ≤ 2 := hi
  by_cases hi2 : i < 2
  case neg =>
    repeat' first
      | ((with_reducible refine Nx.is_wp ?_); first | refine Nx.wo ?_ | refine Nx.zp (fun hc => ?_) (fun hc => ?_))
      | (refine Nx.zo ?_; first | refine Nx.opr rfl rfl ?_ | refine Nx.so ?_ | refine Nx.sb (fun bx => ?_) | refine Nx.sa (fun A2 c2 => ?_))
      | refine Nx.za ?_ | refine Nx.zr (fun hc => ?_) (fun hc => ?_)
      | refine Nx.zq ?_ | refine Nx.zu (fun hc => ?_) (fun hc => ?_)
      | refine Nx.zx ?_ | fail
    exact Nx.imm_le hI4 (Nx.again (j + 1) hj3 (by omega) ⟨rfl, rfl, rfl, rfl, rfl, rfl, rfl, trivial⟩ (by (exact Ent.auto)))
  have hmr : ∀ (W : World) (R : List Res), Rd W I4 R ((ad (some (⟨b75, 0, none⟩ : Addr))).add (i * 1)) (.int .i64 (ns.getD i default)) := fun W R => hns.rd (by omega)
  generalize ns.getD i default = mm at hmr
  replace hxe := hxe.mono hI4
  have hP1 := bPossible_is mm Ae ce es I4 hxe hT4
  have hP2 := RPossible_is mm Ae ce es I4 hxe
  generalize posV mm es = pb at hP1 hP2
  generalize chkB mm es 0 = pe at hP1 hP2
  have hpb : (!(pb == pb)) = false := by cases pb <;> rfl
  have hub : (!(up == up)) = false := by cases up <;> rfl
  have hB1 := bBounds_is mm Ae ce es I4 hxe hT4
  have hB2 := RBounds_is mm Ae ce es I4 hxe
  have hMd := fun I5 => Mod30_spec cell 10 hcell (by omega) I5
  have hm10 : 0 ≤ cell % 10 ∧ cell % 10 < 10 := by omega
  have hcases := prove_two mm Ae ce es (cell % 10 - 1) up
  generalize cell % 10 = cm at hMd hm10 hcases
  rcases hcases with ⟨e, he, hV1, hV2⟩ | ⟨M, kc, rfl, hkc, hkM, hbe, hvd, hfe, hnu⟩
  · have hV1 := hV1 I4 hxe hT4
    have hV2 := hV2 I4 hxe
    repeat' first
      | ((with_reducible refine Nx.is_wp ?_); first | refine Nx.p_stop 24 rfl ?_ | refine Nx.wo ?_ | refine Nx.zp (fun hc => ?_) (fun hc => ?_))
      | (refine Nx.zo ?_; first | refine Nx.opr rfl rfl ?_ | refine Nx.indexAddr_nat (A := some ⟨b75, 0, none⟩) (i := i) (sz := 1) rfl rfl rfl rfl rfl hi2 rfl ?_ | refine Nx.load rfl rfl rfl (hmr _ _) ?_ | refine Nx.callv rfl rfl rfl (by kernel_rfl) rfl hP1 ?_ | refine Nx.callv rfl rfl rfl (by kernel_rfl) rfl hP2 ?_ | (refine Nx.call (Rpre := []) rfl rfl rfl (by kernel_rfl) rfl hB1 (Ent.refl _) ?_; rintro _ _ ⟨Ax, cx, La, ea, hLa, rfl, rfl⟩) | (refine Nx.call (Rpre := []) rfl rfl rfl (by kernel_rfl) rfl hB2 (Ent.refl _) ?_; rintro _ _ ⟨Ay, cy, Lb, eb, hLb, rfl, rfl⟩) | refine Nx.callv rfl rfl rfl (by kernel_rfl) rfl (hMd _) ?_ | refine Nx.callv rfl rfl rfl (by kernel_rfl) rfl hV1 ?_ | refine Nx.callv rfl rfl rfl (by kernel_rfl) rfl hV2 ?_ | refine Nx.so ?_ | refine Nx.sb (fun bx => ?_) | refine Nx.sa (fun A2 c2 => ?_))
      | refine Nx.za ?_ | refine Nx.zr (fun hc => ?_) (fun hc => ?_)
      | refine Nx.zq ?_ | refine Nx.zu (fun hc => ?_) (fun hc => ?_)
      | refine Nx.zx ?_ | fail
    refine Nx.unstop ?_
    obtain ⟨rfl, rfl⟩ := hLa.uniq hLb
    refine Nx.ent (R' := [Vec 50 5 Ax Lb.length cx (Lb.flatMap ivC), Vec 50 5 Ay Lb.length cy (Lb.flatMap ivC), F]) (by (exact Ent.auto)) ?_
    refine Nx.freezeAt 0 rfl fun I5 m5 hI5 hm5 h5 => ?_
    refine Nx.freezeAt 0 rfl fun I6 m6 hI6 hm6 h6 => ?_
    have hS := same_spec Ax Ay cx cy Lb I6 (Vec.sliceN (t := 50) (hm5.trans hI6) h5 fun _ _ => rfl) (Vec.sliceN (t := 50) hm6 h6 fun _ _ => rfl)
    repeat' first
      | ((with_reducible refine Nx.is_wp ?_); first | refine Nx.wo ?_ | refine Nx.p_drawF (id := 26) rfl [0, 1, 2, 3, 4, 5, 6, 7, 8, 9, 10, 11, 12, 13, 14, 15, 16, 17, 18, 19, 20, 21, 22, 23, 24, 25, 26, 27, 28, 29] [6, 19] [] _ rfl rfl (by kernel_rfl) (by kernel_rfl) rfl PanicOk.auto (Ent.refl _) ?_ | refine Nx.zp (fun hc => ?_) (fun hc => ?_))
      | (refine Nx.zo ?_; first | (refine Nx.binr rfl rfl (run_boolne Tryz.underlying4 pb pb) rfl ?_; rw [hpb]) | refine Nx.opr rfl rfl ?_ | refine Nx.callv rfl rfl rfl (by kernel_rfl) rfl hS ?_ | refine Nx.so ?_ | refine Nx.sb (fun bx => ?_) | refine Nx.sa (fun A2 c2 => ?_))
      | refine Nx.za ?_ | refine Nx.zr (fun hc => ?_) (fun hc => ?_)
      | refine Nx.zq ?_ | refine Nx.zu (fun hc => ?_) (fun hc => ?_)
      | refine Nx.zx ?_ | fail
    exact Nx.imm_le (hI5.trans hI6) (Nx.again (i + 1) hi2 (by omega) ⟨rfl, rfl, rfl, rfl, rfl, rfl, rfl, rfl, rfl, rfl, rfl, trivial⟩ (by (exact Ent.auto)))
  · have hV1 := bProve_yes hbe hvd hkM hfe hnu Ae ce I4 hxe hT4
    have hV2 := RProve_yes hbe hvd hkM hfe hnu Ae ce I4 hxe
    rw [← hkc] at hV1 hV2
    repeat' first
      | ((with_reducible refine Nx.is_wp ?_); first | refine Nx.p_stop 24 rfl ?_ | refine Nx.wo ?_ | refine Nx.zp (fun hc => ?_) (fun hc => ?_))
      | (refine Nx.zo ?_; first | refine Nx.opr rfl rfl ?_ | refine Nx.indexAddr_nat (A := some ⟨b75, 0, none⟩) (i := i) (sz := 1) rfl rfl rfl rfl rfl hi2 rfl ?_ | refine Nx.load rfl rfl rfl (hmr _ _) ?_ | refine Nx.callv rfl rfl rfl (by kernel_rfl) rfl hP1 ?_ | refine Nx.callv rfl rfl rfl (by kernel_rfl) rfl hP2 ?_ | (refine Nx.call (Rpre := []) rfl rfl rfl (by kernel_rfl) rfl hB1 (Ent.refl _) ?_; rintro _ _ ⟨Ax, cx, La, ea, hLa, rfl, rfl⟩) | (refine Nx.call (Rpre := []) rfl rfl rfl (by kernel_rfl) rfl hB2 (Ent.refl _) ?_; rintro _ _ ⟨Ay, cy, Lb, eb, hLb, rfl, rfl⟩) | refine Nx.callv rfl rfl rfl (by kernel_rfl) rfl (hMd _) ?_ | (refine Nx.call (Rpre := []) rfl rfl rfl (by kernel_rfl) rfl hV1 (Ent.refl _) ?_; rintro v R' ⟨x, wt, D, b', A', c', g1, g2, g3, rfl, rfl⟩) | (refine Nx.call (Rpre := []) rfl rfl rfl (by kernel_rfl) rfl hV2 (Ent.refl _) ?_; rintro v R' ⟨x2, wt2, D2, b2', A2', c2', k1', k2, k3, rfl, rfl⟩) | refine Nx.so ?_ | refine Nx.sb (fun bx => ?_) | refine Nx.sa (fun A2 c2 => ?_))
      | refine Nx.za ?_ | refine Nx.zr (fun hc => ?_) (fun hc => ?_)
      | refine Nx.zq ?_ | refine Nx.zu (fun hc => ?_) (fun hc => ?_)
      | refine Nx.zx ?_ | fail
    refine Nx.unstop ?_
    obtain ⟨rfl, rfl⟩ := hLa.uniq hLb
    rename_i b29
    revert bx; intro b31
    have hxx : x2 kc = x kc := k3.uniq g3
    rw [hxx]
    refine Nx.ent (R' := [Vec 50 5 Ax Lb.length cx (Lb.flatMap ivC), Vec 50 5 Ay Lb.length cy (Lb.flatMap ivC), ratsR (some ⟨b', 0, none⟩) M M (rl M x), ratsR A' es.length c' (rl es.length wt), Blk b29 27 [.int .i64 (kc : Int), .bool up, .int .i64 (x kc).num, .int .i64 (x kc).den, .slice (some ⟨b', 0, none⟩) M M, .slice A' es.length c'], Blk b31 27 [.int .i64 (kc : Int), .bool up, .int .i64 (x kc).num, .int .i64 (x kc).den, .slice (some ⟨b2', 0, none⟩) M M, .slice A2' es.length c2'], F]) (by (exact Ent.auto)) ?_
    refine Nx.freezeAt 0 rfl fun I5 m5 hI5 hm5 h5 => ?_
    refine Nx.freezeAt 0 rfl fun I6 m6 hI6 hm6 h6 => ?_
    refine Nx.freezeAt 0 rfl fun I7 m7 hI7 hm7 h7 => ?_
    refine Nx.freezeAt 0 rfl fun I8 m8 hI8 hm8 h8 => ?_
    have hI68 := hI7.trans hI8
    have hI48 := (hI5.trans hI6).trans hI68
    have hS := same_spec Ax Ay cx cy Lb I8 (Vec.sliceN (t := 50) ((hm5.trans hI6).trans hI68) h5 fun _ _ => rfl) (Vec.sliceN (t := 50) (hm6.trans hI68) h6 fun _ _ => rfl)
    have hC := rcheck_right hbe hvd hkM g1 g2 Ae ce I8 (hxe.mono hI48) b' A' c' (Vec.sliceN (t := 24) (hm7.trans hI8) (by rw [rl_len]; exact h7) fun _ _ => rfl) (Vec.sliceN (t := 24) hm8 (by rw [rl_len]; exact h8) fun _ _ => rfl)
    have hE := fun {p q : Operand} (w : World) => neq_fracK (x := p) (y := q) (x kc).num (x kc).den (x kc).num (x kc).den false (decide_eq_false fun hh => hh ⟨rfl, rfl⟩) w
    have hBn := fun {p q : Operand} (w : World) => (run_boolne (t := 4) (x := p) (y := q) Tryz.underlying4 up up w).trans (show _ = Result.ok (Value.bool false) w by rw [hub])
    repeat' first
      | ((with_reducible refine Nx.is_wp ?_); first | refine Nx.wo ?_ | refine Nx.p_drawF (id := 26) rfl [0, 1, 2, 3, 4, 5, 6, 7, 8, 9, 10, 11, 12, 13, 14, 15, 16, 17, 18, 19, 20, 21, 22, 23, 24, 25, 26, 27, 28, 29] [6, 19] [] _ rfl rfl (by kernel_rfl) (by kernel_rfl) rfl PanicOk.auto (Ent.refl _) ?_ | refine Nx.zp (fun hc => ?_) (fun hc => ?_))
      | (refine Nx.zo ?_; first | (refine Nx.binr rfl rfl (run_boolne Tryz.underlying4 pb pb) rfl ?_; rw [hpb]) | refine Nx.opr rfl rfl ?_ | refine Nx.callv rfl rfl rfl (by kernel_rfl) rfl hS ?_ | refine Nx.callv rfl rfl rfl (by kernel_rfl) rfl hC ?_ | refine Nx.callv rfl rfl rfl (by kernel_rfl) rfl (hMd _) ?_ | refine Nx.so ?_ | refine Nx.sb (fun bx => ?_) | refine Nx.sa (fun A2 c2 => ?_))
      | refine Nx.za ?_ | refine Nx.zr (fun hc => ?_) (fun hc => ?_)
      | ((with_reducible refine Nx.is_mix ?_); first | refine Nx.m_quiet rfl rfl rfl rfl rfl (by first | exact QRun.binr rfl rfl hBn | exact QRun.opr rfl | exact QRun.loads rfl rfl rfl (Rds.cut 0 2 rfl rfl) rfl | exact QRun.loads rfl rfl rfl (Rds.cut 1 2 rfl rfl) rfl | exact QRun.loads rfl rfl rfl (Rds.cut 0 6 rfl rfl) rfl | exact QRun.loads rfl rfl rfl (Rds.cut 1 6 rfl rfl) rfl | exact QRun.binr rfl rfl hE) ?_ | refine Nx.m_quiet_do rfl rfl rfl rfl rfl rfl rfl (by first | exact QRun.binr rfl rfl hBn | exact QRun.opr rfl | exact QRun.loads rfl rfl rfl (Rds.cut 0 2 rfl rfl) rfl | exact QRun.loads rfl rfl rfl (Rds.cut 1 2 rfl rfl) rfl | exact QRun.loads rfl rfl rfl (Rds.cut 0 6 rfl rfl) rfl | exact QRun.loads rfl rfl rfl (Rds.cut 1 6 rfl rfl) rfl | exact QRun.binr rfl rfl hE) ?_ | refine Nx.m ?_ | refine Nx.zm ?_ | refine Nx.zt (fun hc => ?_) (fun hc => ?_))
      | refine Nx.zx ?_ | fail
    exact Nx.imm_le hI48 (Nx.again (i + 1) hi2 (by omega) ⟨rfl, rfl, rfl, rfl, rfl, rfl, rfl, rfl, rfl, rfl, rfl, trivial⟩ (by (exact Ent.auto)))
end Go.Proofs.YtpcnapidlhpbkaaGreatDoor
namespace Go.Proofs.YtpcnapidlhpbkaaGreatDoor
open Go.Eng
theorem g64 : Tryz.prog.globalNamed  "math/bits.deBruijn64tab" = some 1 := by kernel_rfl
theorem g64T : (Tryz.prog.globals[1]?).map (·.type) = some 291 := by kernel_rfl
theorem c5 : Tryz.prog.cellsOf 5 = 1 := by kernel_rfl
theorem c79 : Tryz.prog.cellsOf 291 = 64 := by kernel_rfl
abbrev laid1 : List (String × DataW Unit) := [("math/bits.deBruijn64tab", Rows.laid_math_bits_deBruijn64tab)]
def setBlk (cs : List Value) : Obj → Obj
  | .cells _ t frozen => .cells cs.toArray t frozen
  | o => o
noncomputable def laidWorld (os : Os) : World :=
  { World.holding Tryz.prog os ⟨#[], #[], []⟩ with heap := (World.holding Tryz.prog os ⟨#[], #[], []⟩).heap.modify 1 (setBlk (Lib.deBruijn64tab.map fun z : Nat => Value.int .u8 z)) }
theorem laidWorld_met (os : Os) (args : Array Value) : laidMetH Tryz.prog laid1 ((laidWorld os).forCall (fun _ _ => 0) ⟨#[], args, []⟩).memory :=
  laidMetH_of_parts (laidMet_of_run' 8 (by kernel_rfl) (by kernel_rfl)) (by kernel_rfl)
theorem heap_keep {W w0 w : World} {R : List Res} (h : St w0 (fun i => W.heap[i]?) R w) {i : Nat} {o : Obj} (ho : W.heap[i]? = some o) : w.heap[i]? = some o := by
  obtain ⟨m, _, hs⟩ := h.mem
  exact hs.imm i o ho
theorem var_keep {W w0 w : World} {R : List Res} (h : St w0 (fun i => W.heap[i]?) R w) {P : Program} {name : String} {k : IntKind} {zs : List Int} (ht : Lib.TabIs P W name k zs) : Lib.TabIs P w name k zs := by
  unfold Lib.TabIs World.var? at *
  cases hg : P.globalNamed name with
  | none => simp [hg] at ht
  | some g =>
    simp only [hg, Option.bind_some] at ht ⊢
    cases ho : W.heap[g]? with
    | none => rw [ho] at ht; simp at ht
    | some o => rw [heap_keep h ho]; rw [ho] at ht; exact ht
theorem tab_of {W : World} (h : laidMetH Tryz.prog laid1 W) : TabI (fun i => W.heap[i]?) := fun _ _ _ hst j hj => by
  have h1 : Lib.TabIs Tryz.prog W  "math/bits.deBruijn64tab" .u8 (Lib.deBruijn64tab.map fun z : Nat => (z : Int)) := Lib.tabIs_of_head g64 g64T Tryz.underlying291 Tryz.underlying5 c5 c79 (h : laidMet Tryz.prog laid1 W)
  have h2 := (var_keep hst h1).cell g64 j (by rw [List.length_map]; exact hj)
  rw [show (Lib.deBruijn64tab.map fun z : Nat => (z : Int)).getD j 0 = ((Lib.deBruijn64tab.getD j 0 : Nat) : Int) by
    rw [List.getD_eq_getElem?_getD, List.getD_eq_getElem?_getD, List.getElem?_map]
    cases Lib.deBruijn64tab[j]? <;> rfl] at h2
  exact h2
end Go.Proofs.YtpcnapidlhpbkaaGreatDoor
namespace Go.Eng
open Go.ChangeShapes Go.WideShapes Go.RowKit
theorem St.start (W : World) : St W (fun i => W.heap[i]?) ([] ++ [fun _ => True]) W :=
  ⟨⟨fun _ => none, ⟨fun _ => none, fun _ => none, fun _ => .inl rfl, by funext i; rfl, trivial, trivial⟩, ⟨fun _ _ h => h, fun _ _ h => (by cases h), fun _ => .inr rfl⟩⟩, Still.refl W⟩
/-- A contract that wants no memory of its own, at a world: the old blocks stay. -/
theorem FnSpec.below {P : Program} {f : FuncId} {args : List Value} {W : World} {Post : Value → List Res → Prop} (h : FnSpec P f args (fun i => W.heap[i]?) [] Post) :
    Calls P f args.toArray W fun e w' => (∃ v R', e = .returned v ∧ Post v R') ∧ Below W.heap.size W w' := by
  refine (h W (fun _ => True) (St.start W)).mono fun e w' => ?_
  rintro ⟨v, R', he, hp, ⟨⟨m, hm, hs⟩, hst⟩⟩
  refine ⟨⟨v, R', he, hp⟩, ⟨hst.os, hst.tape, hst.output, hst.size, fun k hk => ?_⟩⟩
  have hk' : W.heap[k]? = some W.heap[k] := Array.getElem?_eq_getElem hk
  rw [hk']
  exact hs.imm k _ hk'
/-- The same for a law that answers true. -/
theorem FnSpec.isTrue {P : Program} {f : FuncId} {args : List Value} {W : World} (h : FnSpec P f args (fun i => W.heap[i]?) [] (fun v R' => v = .bool true ∧ R' = [])) :
    Calls P f args.toArray W fun e w' => e = .returned (.bool true) ∧ Below W.heap.size W w' := by
  refine h.below.mono fun e w' => ?_
  rintro ⟨⟨v, R', rfl, rfl, _⟩, hb⟩
  exact ⟨rfl, hb⟩
end Go.Eng
