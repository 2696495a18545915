/- Contracts of functions of the given program, and lemmas about plain lists and numbers: what the laws of this seat lean on. -/
import Derived.Test.YtpcnapidlhpbkaaGreatDoorRows
import Derived.Test.YtpcnapidlhpbkaaGreatDoorChecked
import Derived.WalkKit
import Derived.ProofKit
import Derived.OpenShut
import Derived.LaidHandle
import Derived.LaidLaws
import Derived.Lib.LaidTab
import Derived.Stop.LaidErr
import Derived.Test.YtpcnapidlhpbkaaGreatDoorBs9
namespace Go.Proofs.YtpcnapidlhpbkaaGreatDoor
open Go.Eng Go.Sol
attribute [local irreducible] opK wpList Code.wp Exit.then Exit.inBlock fnPost bodyPost Nx Calls Oper.wp Rd Rds Wr Ent Stars Blk Again Vec FnSpec wpMix QRun Stop Upto wpAt
/-! Made releases -/
abbrev spB (b5 : Nat) (B : Option Addr) (n cs : Nat) : Res := Blk b5 54 [.slice B n cs]
set_option maxRecDepth 10000 in
set_option maxHeartbeats 8000000 in
theorem Releases_made (b : Nat) (A B T : Option Addr) (c cs ct : Nat) (L l t : List Int) (k most : Nat) (I : PH) (hL : CodesOk I A c L) (hk : k ≤ L.length) (hl : Ints I B cs l) (hs : Sizes l) (ht : Ints I T ct t) (hT : Table l t) (hm9 : most ≤ 1000) :
    FnSpec Tryz.prog 64 [.pointer (some ⟨b, 0, none⟩), .agg #[.slice B l.length cs], .slice T t.length ct, .int .i64 (most : Int)] I [CodesR b A c L k]
      (fun u R' => ∃ (As : Option Addr) (c' : Nat) (rs : List Rel) (k' : Nat), u = .slice As rs.length c' ∧ rs.length ≤ most ∧ RelsOk l t rs ∧ k' ≤ L.length ∧ R' = [Vec 116 3 As rs.length c' (rs.flatMap relC), Stars (rs.map relR), CodesR b A c L k']) := by
  have hlen := hl.len
  have htl := ht.len
  refine FnSpec.enterP Tryz.func64 rfl Tryz.ntmps64 rfl fun w F => ?_
  repeat' first
    | ((with_reducible refine Nx.is_wp ?_); first | refine Nx.wo ?_ | refine Nx.zp (fun hc => ?_) (fun hc => ?_))
    | (refine Nx.zo ?_; first | refine Nx.opr rfl rfl ?_ | (refine Nx.call rfl rfl rfl (by kernel_rfl) rfl (Next_any b A c L k ((most : Int) + 1) I hL hk (by omega)) (by (exact Ent.auto)) ?_; rintro _ _ ⟨n, k1, rfl, hn, hk1, rfl⟩) | refine Nx.so ?_ | refine Nx.sb (fun bx => ?_) | refine Nx.sa (fun A2 c2 => ?_))
    | ((with_reducible refine Nx.is_at ?_); first | refine Nx.a ?_ | refine Nx.zd ?_ | refine Nx.zs (fun hc => ?_) (fun hc => ?_))
    | ((with_reducible refine Nx.is_mix ?_); first | refine Nx.m ?_ | refine Nx.zm ?_ | refine Nx.zt (fun hc => ?_) (fun hc => ?_))
    | refine Nx.zx ?_ | fail
  obtain ⟨m, rfl⟩ : ∃ m : Nat, n = m := ⟨n.toNat, by omega⟩
  revert bx; intro b5
  refine Nx.p_loop (σ := Nat × Nat × Option Addr × Nat × List Rel) (fun s => [(0, .pointer (some ⟨b, 0, none⟩)), (2, .slice T t.length ct), (5, .pointer (some ⟨b5, 0, none⟩)), (9, .slice s.2.2.1 s.2.2.2.2.length s.2.2.2.1), (10, .int .i64 (s.1 : Int))])
    (fun s => [Vec 116 3 s.2.2.1 s.2.2.2.2.length s.2.2.2.1 (s.2.2.2.2.flatMap relC), Stars (s.2.2.2.2.map relR), CodesR b A c L s.2.1, spB b5 B l.length cs, F]) (fun s => s.2.1 ≤ L.length ∧ s.2.2.2.2.length + s.1 ≤ most ∧ RelsOk l t s.2.2.2.2) (fun s => s.1) (m, k1, none, 0, []) rfl
    ⟨hk1, by dsimp only; simp; omega, ⟨fun i hi => absurd hi (Nat.not_lt_zero _)⟩⟩ ⟨rfl, rfl, rfl, rfl, rfl, trivial⟩ ((Ent.stars_nil _).trans ((Ent.vec_nil 116 3 _).trans (by (exact Ent.auto)))) ?_
  rintro ⟨n, kc, As, c', rs⟩ ⟨hkc, hrl, hrs⟩
  dsimp only at hkc hrl hrs ⊢
  cases n with
  | zero =>
    repeat' first
      | ((with_reducible refine Nx.is_wp ?_); first | refine Nx.wo ?_ | refine Nx.zp (fun hc => ?_) (fun hc => ?_))
      | (refine Nx.zo ?_; first | refine Nx.opr rfl rfl ?_ | refine Nx.so ?_ | refine Nx.sb (fun bx => ?_) | refine Nx.sa (fun A2 c2 => ?_))
      | ((with_reducible refine Nx.is_at ?_); first | refine Nx.a ?_ | refine Nx.zd ?_ | refine Nx.zs (fun hc => ?_) (fun hc => ?_))
      | ((with_reducible refine Nx.is_mix ?_); first | refine Nx.m ?_ | refine Nx.zm ?_ | refine Nx.zt (fun hc => ?_) (fun hc => ?_))
      | refine Nx.zx ?_ | fail
    exact Nx.ret_fn rfl [_, _, _] ⟨As, c', rs, kc, rfl, by omega, hrs, hkc, rfl⟩ (by (exact Ent.auto))
  | succ n =>
    repeat' first
      | ((with_reducible refine Nx.is_wp ?_); first | refine Nx.wo ?_ | refine Nx.zp (fun hc => ?_) (fun hc => ?_))
      | (refine Nx.zo ?_; first | refine Nx.opr rfl rfl ?_ | (refine Nx.call rfl rfl rfl (by kernel_rfl) rfl (View_made b A B c cs L l kc I hL hkc hl hs) (by (exact Ent.auto)) ?_; rintro _ _ ⟨Av, cv, v, k2, rfl, hw, hk2, rfl⟩) | refine Nx.so ?_ | refine Nx.sb (fun bx => ?_) | refine Nx.sa (fun A2 c2 => ?_))
      | ((with_reducible refine Nx.is_at ?_); first | refine Nx.a ?_ | refine Nx.zd ?_ | refine Nx.zs (fun hc => ?_) (fun hc => ?_))
      | ((with_reducible refine Nx.is_mix ?_); first | refine Nx.m ?_ | refine Nx.zm ?_ | refine Nx.zt (fun hc => ?_) (fun hc => ?_))
      | refine Nx.zx ?_ | fail
    revert bx; intro b11
    refine Nx.ent (R' := [ViewR Av cv v, Blk b11 114 [.slice Av v.length cv], CodesR b A c L k2, Vec 116 3 As rs.length c' (rs.flatMap relC), Stars (rs.map relR), spB b5 B l.length cs, F]) (by (exact Ent.auto)) ?_
    refine Nx.at_op rfl rfl ?_
    refine Nx.call_lendR 0 rfl rfl rfl (by kernel_rfl) rfl rfl (fun m I' hle hm hv => RPublish_spec B Av T cs cv ct l t v I' (hl.mono hle) hs (ViewR.rows hm hv) hw (ht.mono hle) hT) ?_
    rintro _ _ ⟨Ap, rfl, rfl⟩
    have hszs := hw.sizes hs
    have hpr := hszs.bound (k := (szs v).length) (Nat.le_refl _)
    rw [List.take_length] at hpr
    generalize hP : (prod (szs v)).toNat = P
    have hsl := sums_len (pubOf l v) t P t.length
    generalize hz0 : sums (pubOf l v) t P t.length = z0 at hsl
    have hz1 : ∀ j, j < P → z0.getD j default = sumAt (pubOf l v) t (j : Int) t.length := fun j hj => by rw [← hz0, sums_at _ _ _ _ _ hj]
    repeat' first
      | ((with_reducible refine Nx.is_wp ?_); first | refine Nx.wo ?_ | refine Nx.zp (fun hc => ?_) (fun hc => ?_))
      | (refine Nx.zo ?_; first | refine Nx.opr rfl rfl ?_ | refine Nx.so ?_ | refine Nx.sb (fun bx => ?_) | refine Nx.sa (fun A2 c2 => ?_))
      | ((with_reducible refine Nx.is_at ?_); first | refine Nx.a ?_ | refine Nx.zd ?_ | refine Nx.zs (fun hc => ?_) (fun hc => ?_))
      | ((with_reducible refine Nx.is_mix ?_); first | refine Nx.m ?_ | refine Nx.zm ?_ | refine Nx.zt (fun hc => ?_) (fun hc => ?_))
      | refine Nx.zx ?_ | fail
    refine Nx.p_loop (σ := Nat × Nat × List Int) (fun s => [(0, .pointer (some ⟨b, 0, none⟩)), (2, .slice T t.length ct), (5, .pointer (some ⟨b5, 0, none⟩)), (9, .slice As rs.length c'), (10, .int .i64 ((n + 1 : Nat) : Int)), (11, .pointer (some ⟨b11, 0, none⟩)), (12, .slice Ap P P), (33, .slice Ap P P), (34, .int .i64 (P : Int)), (35, .int .i64 (s.1 : Int))])
      (fun s => [Vec 3 1 Ap P P (s.2.2.map (Value.int .i64)), CodesR b A c L s.2.1, ViewR Av cv v, Blk b11 114 [.slice Av v.length cv], Vec 116 3 As rs.length c' (rs.flatMap relC), Stars (rs.map relR), spB b5 B l.length cs, F]) (fun s => s.1 ≤ P ∧ s.2.1 ≤ L.length ∧ s.2.2.length = P ∧ ∀ j, j < P → s.2.2.getD j default = -1 ∨ s.2.2.getD j default = sumAt (pubOf l v) t (j : Int) t.length) (fun s => P - s.1) (0, k2, z0) rfl
      ⟨Nat.zero_le _, hk2, hsl, fun j hj => .inr (hz1 j hj)⟩ ⟨rfl, rfl, rfl, rfl, rfl, rfl, rfl, rfl, rfl, rfl, trivial⟩ (by (exact Ent.auto)) ?_
    rintro ⟨i, ki, z⟩ ⟨hi, hki, hzl, hz⟩
    dsimp only at hi hki hzl hz ⊢
    by_cases hiP : i < P
    · refine Nx.vec_fact fun _ _ _ hAp => ?_
      repeat' first
        | ((with_reducible refine Nx.is_wp ?_); first | refine Nx.wo ?_ | refine Nx.zp (fun hc => ?_) (fun hc => ?_))
        | (refine Nx.zo ?_; first | refine Nx.opr rfl rfl ?_ | (refine Nx.call rfl rfl rfl (by kernel_rfl) rfl (Next_any b A c L ki 5 I hL hki (by omega)) (by (exact Ent.auto)) ?_; rintro _ _ ⟨r, k3, rfl, hr, hk3, rfl⟩) | refine Nx.indexAddr_nat rfl rfl rfl rfl rfl hiP (hAp (by omega)) ?_ | refine Nx.store_of 1 (Value.int .i64) (l := z) (i := i) (z := -1) rfl rfl rfl rfl rfl rfl hiP ?_ | refine Nx.so ?_ | refine Nx.sb (fun bx => ?_) | refine Nx.sa (fun A2 c2 => ?_))
        | ((with_reducible refine Nx.is_at ?_); first | refine Nx.a ?_ | refine Nx.zd ?_ | refine Nx.zs (fun hc => ?_) (fun hc => ?_))
        | ((with_reducible refine Nx.is_mix ?_); first | refine Nx.m ?_ | refine Nx.zm ?_ | refine Nx.zt (fun hc => ?_) (fun hc => ?_))
        | refine Nx.zx ?_ | fail
      · exact Nx.again (i + 1, k3, z.set i (-1)) ⟨hiP, hk3, by dsimp only; rw [List.length_set]; exact hzl, fun j hj => by
            dsimp only
            by_cases hij : i = j
            · subst hij; exact .inl (getD_set_eq (by omega))
            · rw [getD_set_ne hij]; exact hz j hj⟩ (by dsimp only; omega) ⟨rfl, rfl, rfl, rfl, rfl, rfl, rfl, rfl, rfl, rfl, trivial⟩ (by (exact Ent.auto))
      · exact Nx.again (i + 1, k3, z) ⟨hiP, hk3, hzl, hz⟩ (by dsimp only; omega) ⟨rfl, rfl, rfl, rfl, rfl, rfl, rfl, rfl, rfl, rfl, trivial⟩ (by (exact Ent.auto))
    obtain rfl : i = P := by omega
    subst hzl
    repeat' first
      | ((with_reducible refine Nx.is_wp ?_); first | refine Nx.wo ?_ | refine Nx.zp (fun hc => ?_) (fun hc => ?_))
      | (refine Nx.zo ?_; first | refine Nx.opr rfl rfl ?_ | refine Nx.so ?_ | refine Nx.sb (fun bx => ?_) | refine Nx.sa (fun A2 c2 => ?_))
      | ((with_reducible refine Nx.is_at ?_); first | refine Nx.a ?_ | refine Nx.zd ?_ | refine Nx.zs (fun hc => ?_) (fun hc => ?_))
      | ((with_reducible refine Nx.is_mix ?_); first | refine Nx.m ?_ | refine Nx.zm ?_ | refine Nx.zt (fun hc => ?_) (fun hc => ?_))
      | refine Nx.zx ?_ | fail
    refine Nx.again (n, ki, A2, c2, rs ++ [⟨(rs.length : Int), Av, cv, v, (Ap, z.length, z)⟩]) ⟨hki, by dsimp only; rw [List.length_append]; show rs.length + 1 + n ≤ most; omega, ⟨fun i hi => ?_⟩⟩ (by dsimp only; omega) ⟨rfl, rfl, rfl, by dsimp only; rw [List.length_append]; rfl, by dsimp only; rw [show ((n + 1 : Nat) : Int) - 1 = (n : Int) by omega]; rfl, trivial⟩ ?_
    · dsimp only
      by_cases hir : i < rs.length
      · rw [List.getD_eq_getElem?_getD, List.getElem?_append_left hir, ← List.getD_eq_getElem?_getD]
        exact hrs.each i hir
      · obtain rfl : i = rs.length := by rw [List.length_append, List.length_singleton] at hi; omega
        rw [List.getD_eq_getElem?_getD, List.getElem?_append_right (Nat.le_refl _), Nat.sub_self]
        exact ⟨⟨hw, show z.length = (prod (szs v)).toNat from hP.symm, hz⟩, rfl⟩
    · dsimp only
      refine Ent.trans (R' := [ViewR Av cv v, rowR (Ap, z.length, z), Stars (rs.map relR), Vec 116 3 A2 (rs.length + 1) c2 (rs.flatMap relC ++ relC ⟨(rs.length : Int), Av, cv, v, (Ap, z.length, z)⟩), CodesR b A c L ki, spB b5 B l.length cs, F]) (by unfold rowR relC rowV; (exact Ent.auto)) ?_
      refine Ent.pack2.trans ?_
      refine Ent.trans (R' := Stars (rs.map relR ++ [relR ⟨(rs.length : Int), Av, cv, v, (Ap, z.length, z)⟩]) :: [Vec 116 3 A2 (rs.length + 1) c2 (rs.flatMap relC ++ relC ⟨(rs.length : Int), Av, cv, v, (Ap, z.length, z)⟩), CodesR b A c L ki, spB b5 B l.length cs, F]) Ent.bundle ?_
      rw [List.length_append, List.flatMap_append, List.map_append, List.flatMap_cons, List.flatMap_nil, List.append_nil]
      (exact Ent.auto)
end Go.Proofs.YtpcnapidlhpbkaaGreatDoor
/- Contracts of functions of the given program, and lemmas about plain lists and numbers: what the laws of this seat lean on. -/
namespace Go.Proofs.YtpcnapidlhpbkaaGreatDoor
open Go.Eng Go.Sol
attribute [local irreducible] opK wpList Code.wp Exit.then Exit.inBlock fnPost bodyPost Nx Calls Oper.wp Rd Rds Wr Ent Stars Blk Again Vec FnSpec wpMix QRun Stop Upto wpAt
/-! The reference's equations: what right releases tell -/
/-- A right release of a space. -/
structure RelV (l : List Int) (r : Rel) : Prop where
  view : Viewed l r.v
  len : r.val.2.2.length = (prod (szs r.v)).toNat
  each : ∀ j, j < r.val.2.2.length → r.val.2.2.getD j default = -1 ∨ (0 ≤ r.val.2.2.getD j default ∧ r.val.2.2.getD j default ≤ 1000000)
set_option maxRecDepth 10000 in
set_option maxHeartbeats 8000000 in
theorem release_spec (A B D : Option Addr) (c cv cd : Nat) (l vs : List Int) (v : List Row) (num before : Int) (I : PH) (hl : Ints I A c l) (hs : Sizes l) (hv : RowsOf I B cv v) (hd : Ints I D cd vs) (hr : RelV l ⟨num, B, cv, v, (D, cd, vs)⟩) (hb : before < num) (h0 : 0 ≤ num) (h24 : num < 24) :
    FnSpec Tryz.prog 157 [.agg #[.slice A l.length c], .agg #[.int .i64 num, .slice B v.length cv, .slice D vs.length cd], .int .i64 before] I [] (fun u R' => u = .int .i64 0 ∧ R' = []) := by
  obtain ⟨hw, hlen, heach⟩ := hr
  dsimp only at hw hlen heach
  have hvl := hd.len
  have hszs := hw.sizes hs
  have hpr := hszs.bound (k := (szs v).length) (Nat.le_refl _)
  rw [List.take_length] at hpr
  have hP := RPublished_spec A B c cv l v I hl hs hv hw
  rw [show prod (szs v) = (vs.length : Int) by omega] at hP
  refine FnSpec.enterP Tryz.func157 rfl Tryz.ntmps157 rfl fun w F => ?_
  repeat' first
    | ((with_reducible refine Nx.is_wp ?_); first | refine Nx.wo ?_ | refine Nx.p_draw (id := 6) rfl [0, 1, 2, 3, 4, 5, 6, 7] [6] _ rfl rfl (by kernel_rfl) (by kernel_rfl) rfl (by repeat first | exact PanicOk.fn | refine PanicOk.then_ ?_ | refine PanicOk.inB ?_) (Ent.refl _) ?_ | refine Nx.zp (fun hc => ?_) (fun hc => ?_))
    | (refine Nx.zo ?_; first | refine Nx.opr rfl rfl ?_ | refine Nx.loads rfl rfl rfl rfl (Rds.cut 0 1 rfl rfl) rfl ?_ | refine Nx.callv rfl rfl rfl (by kernel_rfl) rfl (RView_spec _ _ _ _ _ _ _ hl hs hv hw) ?_ | refine Nx.callv rfl rfl rfl (by kernel_rfl) rfl hP ?_ | refine Nx.so ?_ | refine Nx.sb (fun bx => ?_) | refine Nx.sa (fun A2 c2 => ?_))
    | ((with_reducible refine Nx.is_at ?_); first | refine Nx.a ?_ | refine Nx.zd ?_ | refine Nx.zs (fun hc => ?_) (fun hc => ?_))
    | ((with_reducible refine Nx.is_mix ?_); first | refine Nx.m_quiet rfl rfl rfl rfl rfl (by first | exact QRun.opr rfl | exact QRun.loads rfl rfl rfl (Rds.cut 0 1 rfl rfl) rfl) ?_ | refine Nx.m_quiet_do rfl rfl rfl rfl rfl rfl rfl (by first | exact QRun.opr rfl | exact QRun.loads rfl rfl rfl (Rds.cut 0 1 rfl rfl) rfl) ?_ | refine Nx.m ?_ | refine Nx.zm ?_ | refine Nx.zt (fun hc => ?_) (fun hc => ?_))
    | refine Nx.zx ?_ | fail
  refine Nx.p_loop (σ := Nat) (fun i => [(40, .slice D vs.length cd), (41, .int .i64 vs.length), (42, .int .i64 (i : Int))])
    (fun _ => [F]) (fun i => i ≤ vs.length) (fun i => vs.length - i) 0 rfl (Nat.zero_le _) ⟨rfl, rfl, rfl, trivial⟩ (by (exact Ent.auto)) ?_
  intro i hi
  have hi : i ≤ vs.length := hi
  by_cases hiv : i < vs.length
  case neg =>
    repeat' first
      | ((with_reducible refine Nx.is_wp ?_); first | refine Nx.wo ?_ | refine Nx.zp (fun hc => ?_) (fun hc => ?_))
      | (refine Nx.zo ?_; first | refine Nx.opr rfl rfl ?_ | refine Nx.so ?_ | refine Nx.sb (fun bx => ?_) | refine Nx.sa (fun A2 c2 => ?_))
      | ((with_reducible refine Nx.is_at ?_); first | refine Nx.a ?_ | refine Nx.zd ?_ | refine Nx.zs (fun hc => ?_) (fun hc => ?_))
      | ((with_reducible refine Nx.is_mix ?_); first | refine Nx.m ?_ | refine Nx.zm ?_ | refine Nx.zt (fun hc => ?_) (fun hc => ?_))
      | refine Nx.zx ?_ | fail
    exact Nx.ret_fn rfl [] ⟨rfl, rfl⟩ (by (exact Ent.auto))
  have hei := heach i hiv
  have hrd : ∀ (W : World) (R : List Res), Rd W I R ((ad D).add (i * 1)) (.int .i64 (vs.getD i default)) := fun W R => hd.rd hiv
  generalize vs.getD i default = z at hei hrd
  rcases hei with rfl | ⟨hz0, hz1⟩
  · repeat' first
      | ((with_reducible refine Nx.is_wp ?_); first | refine Nx.wo ?_ | refine Nx.zp (fun hc => ?_) (fun hc => ?_))
      | (refine Nx.zo ?_; first | refine Nx.opr rfl rfl ?_ | refine Nx.indexAddr_nat (A := D) (i := i) (sz := 1) rfl rfl rfl rfl rfl (by omega) (hd.isSome (by omega)) ?_ | refine Nx.load rfl rfl rfl (hrd _ _) ?_ | refine Nx.so ?_ | refine Nx.sb (fun bx => ?_) | refine Nx.sa (fun A2 c2 => ?_))
      | ((with_reducible refine Nx.is_at ?_); first | refine Nx.a ?_ | refine Nx.zd ?_ | refine Nx.zs (fun hc => ?_) (fun hc => ?_))
      | ((with_reducible refine Nx.is_mix ?_); first | refine Nx.m ?_ | refine Nx.zm ?_ | refine Nx.zt (fun hc => ?_) (fun hc => ?_))
      | refine Nx.zx ?_ | fail
    exact Nx.again (i + 1) hiv (by omega) ⟨rfl, rfl, rfl, trivial⟩ (by (exact Ent.auto))
  · repeat' first
      | ((with_reducible refine Nx.is_wp ?_); first | refine Nx.wo ?_ | refine Nx.zp (fun hc => ?_) (fun hc => ?_))
      | (refine Nx.zo ?_; first | refine Nx.opr rfl rfl ?_ | refine Nx.indexAddr_nat (A := D) (i := i) (sz := 1) rfl rfl rfl rfl rfl (by omega) (hd.isSome (by omega)) ?_ | refine Nx.load rfl rfl rfl (hrd _ _) ?_ | refine Nx.so ?_ | refine Nx.sb (fun bx => ?_) | refine Nx.sa (fun A2 c2 => ?_))
      | ((with_reducible refine Nx.is_at ?_); first | refine Nx.a ?_ | refine Nx.zd ?_ | refine Nx.zs (fun hc => ?_) (fun hc => ?_))
      | ((with_reducible refine Nx.is_mix ?_); first | refine Nx.m ?_ | refine Nx.zm ?_ | refine Nx.zt (fun hc => ?_) (fun hc => ?_))
      | refine Nx.zx ?_ | fail
    exact Nx.again (i + 1) hiv (by omega) ⟨rfl, rfl, rfl, trivial⟩ (by (exact Ent.auto))
/-- Right releases of a space, by ascending numbers. -/
structure RelsV (l : List Int) (rs : List Rel) : Prop where
  len : rs.length ≤ 24
  each : ∀ i, i < rs.length → RelV l (rs.getD i default) ∧ 0 ≤ (rs.getD i default).num ∧ (rs.getD i default).num < 24
  asc : ∀ i, i + 1 < rs.length → (rs.getD i default).num < (rs.getD (i + 1) default).num
def prevN (rs : List Rel) : Nat → Int
  | 0 => -1
  | i + 1 => (rs.getD i default).num
theorem RelsV.prev {l : List Int} {rs : List Rel} (h : RelsV l rs) : ∀ {i : Nat}, i < rs.length → prevN rs i < (rs.getD i default).num
  | 0, hi => by have := (h.each 0 hi).2.1; show -1 < _; omega
  | i + 1, hi => h.asc i hi
theorem getD_memR {l : List Rel} {k : Nat} (h : k < l.length) : l.getD k default ∈ l := by
  rw [List.getD_eq_getElem?_getD, List.getElem?_eq_getElem h]; exact List.getElem_mem _
set_option maxRecDepth 10000 in
set_option maxHeartbeats 8000000 in
theorem RECheck_spec (A As : Option Addr) (c cs : Nat) (l : List Int) (rs : List Rel) (I : PH) (hl : Ints I A c l) (hs : Sizes l) (hr : Rels I As cs rs) (hV : RelsV l rs) :
    FnSpec Tryz.prog 90 [.agg #[.slice A l.length c], .slice As rs.length cs] I [] (fun u R' => u = .int .i64 0 ∧ R' = []) := by
  have h24 := hV.len
  refine FnSpec.enterP Tryz.func90 rfl Tryz.ntmps90 rfl fun w F => ?_
  repeat' first
    | ((with_reducible refine Nx.is_wp ?_); first | refine Nx.wo ?_ | refine Nx.zp (fun hc => ?_) (fun hc => ?_))
    | (refine Nx.zo ?_; first | refine Nx.opr rfl rfl ?_ | refine Nx.callv rfl rfl rfl (by kernel_rfl) rfl (RCheck_spec _ _ _ _ hl hs) ?_ | refine Nx.so ?_ | refine Nx.sb (fun bx => ?_) | refine Nx.sa (fun A2 c2 => ?_))
    | ((with_reducible refine Nx.is_at ?_); first | refine Nx.a ?_ | refine Nx.zd ?_ | refine Nx.zs (fun hc => ?_) (fun hc => ?_))
    | ((with_reducible refine Nx.is_mix ?_); first | refine Nx.m ?_ | refine Nx.zm ?_ | refine Nx.zt (fun hc => ?_) (fun hc => ?_))
    | refine Nx.zx ?_ | fail
  revert bx; intro b2
  refine Nx.p_loop (σ := Nat) (fun i => [(2, .pointer (some ⟨b2, 0, none⟩)), (6, .int .i64 (prevN rs i)), (18, .slice As rs.length cs), (19, .int .i64 rs.length), (20, .int .i64 (i : Int))])
    (fun _ => [Blk b2 54 [.slice A l.length c], F]) (fun i => i ≤ rs.length) (fun i => rs.length - i) 0 rfl (Nat.zero_le _) ⟨rfl, rfl, rfl, rfl, rfl, trivial⟩ (by (exact Ent.auto)) ?_
  intro i hi
  have hi : i ≤ rs.length := hi
  by_cases hiv : i < rs.length
  case neg =>
    repeat' first
      | ((with_reducible refine Nx.is_wp ?_); first | refine Nx.wo ?_ | refine Nx.zp (fun hc => ?_) (fun hc => ?_))
      | (refine Nx.zo ?_; first | refine Nx.opr rfl rfl ?_ | refine Nx.so ?_ | refine Nx.sb (fun bx => ?_) | refine Nx.sa (fun A2 c2 => ?_))
      | ((with_reducible refine Nx.is_at ?_); first | refine Nx.a ?_ | refine Nx.zd ?_ | refine Nx.zs (fun hc => ?_) (fun hc => ?_))
      | ((with_reducible refine Nx.is_mix ?_); first | refine Nx.m ?_ | refine Nx.zm ?_ | refine Nx.zt (fun hc => ?_) (fun hc => ?_))
      | refine Nx.zx ?_ | fail
    exact Nx.ret_fn rfl [] ⟨rfl, rfl⟩ (by (exact Ent.auto))
  obtain ⟨hei, h0, h24'⟩ := hV.each i hiv
  have hpv := hV.prev hiv
  have hnx : (.int .i64 (rs.getD i default).num : Value) = .int .i64 (prevN rs (i + 1)) := rfl
  have hv := hr.view _ (getD_memR hiv)
  have hd := hr.val _ (getD_memR hiv)
  have hrds : ∀ (W : World) (R : List Res), Rds W I R ((ad As).add (i * 3)) (relC (rs.getD i default)) := fun W R => hr.outer.rds hiv
  generalize rs.getD i default = r at hei h0 h24' hpv hnx hv hd hrds
  obtain ⟨num, va, vc, v, D, cd, vs⟩ := r
  dsimp only at h0 h24' hpv hnx hv hd
  replace hrds : ∀ (W : World) (R : List Res), Rds W I R ((ad As).add (i * 3)) [.int .i64 num, .slice va v.length vc, .slice D vs.length cd] := hrds
  have hS := release_spec A va D c vc cd l vs v num (prevN rs i) I hl hs hv hd hei hpv h0 h24'
  generalize prevN rs i = pv at hS
  repeat' first
    | ((with_reducible refine Nx.is_wp ?_); first | refine Nx.wo ?_ | refine Nx.zp (fun hc => ?_) (fun hc => ?_))
    | (refine Nx.zo ?_; first | refine Nx.opr rfl rfl ?_ | refine Nx.indexAddr_nat rfl rfl rfl rfl rfl hiv (hr.outer.isSome (by omega) (by omega)) ?_ | refine Nx.loads rfl rfl rfl rfl (hrds _ _) rfl ?_ | refine Nx.callv rfl rfl rfl (by kernel_rfl) rfl hS ?_ | refine Nx.so ?_ | refine Nx.sb (fun bx => ?_) | refine Nx.sa (fun A2 c2 => ?_))
    | ((with_reducible refine Nx.is_at ?_); first | refine Nx.a ?_ | refine Nx.zd ?_ | refine Nx.zs (fun hc => ?_) (fun hc => ?_))
    | ((with_reducible refine Nx.is_mix ?_); first | refine Nx.m ?_ | refine Nx.zm ?_ | refine Nx.zt (fun hc => ?_) (fun hc => ?_))
    | refine Nx.zx ?_ | fail
  exact Nx.again (i + 1) hiv (by omega) ⟨rfl, hnx ▸ rfl, rfl, rfl, rfl, trivial⟩ (by (exact Ent.auto))
/-! What releases tell -/
def cont (q : EqR) : List Int × Int := (q.1.2.2, q.2)
def toldK (l : List Int) (v : List Row) (vs : List Int) : Nat → List (List Int × Int)
  | 0 => []
  | j + 1 => toldK l v vs j ++ if vs.getD j default = -1 then [] else [(memK l v (j : Int) (prod l).toNat, vs.getD j default)]
def told (l : List Int) (r : Rel) : List (List Int × Int) := toldK l r.v r.val.2.2 r.val.2.2.length
abbrev eqsR (A : Option Addr) (c : Nat) (qs : List EqR) : List Res := [Vec 46 2 A qs.length c (qs.flatMap eqC), Stars (qs.map fun q => rowR q.1)]
theorem take_snocR {l : List Rel} {k : Nat} (h : k < l.length) : l.take (k + 1) = l.take k ++ [l.getD k default] := by
  rw [List.take_add_one, List.getElem?_eq_getElem h, List.getD_eq_getElem?_getD, List.getElem?_eq_getElem h]; rfl
set_option maxRecDepth 10000 in
set_option maxHeartbeats 8000000 in
theorem REAll_spec (A As : Option Addr) (c cs : Nat) (l : List Int) (rs : List Rel) (I : PH) (hl : Ints I A c l) (hs : Sizes l) (hr : Rels I As cs rs) (hV : RelsV l rs) :
    FnSpec Tryz.prog 37 [.agg #[.slice A l.length c], .slice As rs.length cs] I []
      (fun u R' => ∃ (A' : Option Addr) (c' : Nat) (qs : List EqR), u = .tuple #[.slice A' qs.length c', .int .i64 0] ∧ qs.map cont = rs.flatMap (told l) ∧ qs.length ≤ 24 * 48 ∧ R' = eqsR A' c' qs) := by
  have h24 := hV.len
  refine FnSpec.enterP Tryz.func37 rfl Tryz.ntmps37 rfl fun w F => ?_
  repeat' first
    | ((with_reducible refine Nx.is_wp ?_); first | refine Nx.wo ?_ | refine Nx.zp (fun hc => ?_) (fun hc => ?_))
    | (refine Nx.zo ?_; first | refine Nx.opr rfl rfl ?_ | refine Nx.callv rfl rfl rfl (by kernel_rfl) rfl (RECheck_spec _ _ _ _ _ _ _ hl hs hr hV) ?_ | refine Nx.so ?_ | refine Nx.sb (fun bx => ?_) | refine Nx.sa (fun A2 c2 => ?_))
    | ((with_reducible refine Nx.is_at ?_); first | refine Nx.a ?_ | refine Nx.zd ?_ | refine Nx.zs (fun hc => ?_) (fun hc => ?_))
    | ((with_reducible refine Nx.is_mix ?_); first | refine Nx.m ?_ | refine Nx.zm ?_ | refine Nx.zt (fun hc => ?_) (fun hc => ?_))
    | refine Nx.zx ?_ | fail
  revert bx; intro b2
  refine Nx.p_loop (σ := Nat × Option Addr × Nat × List EqR) (fun s => [(2, .pointer (some ⟨b2, 0, none⟩)), (7, .slice s.2.1 s.2.2.2.length s.2.2.1), (20, .slice As rs.length cs), (21, .int .i64 rs.length), (22, .int .i64 (s.1 : Int))])
    (fun s => Blk b2 54 [.slice A l.length c] :: (eqsR s.2.1 s.2.2.1 s.2.2.2 ++ [F])) (fun s => s.1 ≤ rs.length ∧ s.2.2.2.map cont = (rs.take s.1).flatMap (told l) ∧ s.2.2.2.length ≤ s.1 * 48) (fun s => rs.length - s.1) (0, none, 0, []) rfl ⟨Nat.zero_le _, rfl, Nat.le_refl _⟩ ⟨rfl, rfl, rfl, rfl, rfl, trivial⟩ ((Ent.stars_nil _).trans ((Ent.vec_nil 46 2 _).trans (by unfold eqsR; (exact Ent.auto)))) ?_
  rintro ⟨i, Ao, co, qs⟩ ⟨hi, hqs, hql⟩
  dsimp only at hi hqs hql ⊢
  by_cases hiv : i < rs.length
  case neg =>
    obtain rfl : i = rs.length := by omega
    rw [List.take_length] at hqs
    repeat' first
      | ((with_reducible refine Nx.is_wp ?_); first | refine Nx.wo ?_ | refine Nx.zp (fun hc => ?_) (fun hc => ?_))
      | (refine Nx.zo ?_; first | refine Nx.opr rfl rfl ?_ | refine Nx.so ?_ | refine Nx.sb (fun bx => ?_) | refine Nx.sa (fun A2 c2 => ?_))
      | ((with_reducible refine Nx.is_at ?_); first | refine Nx.a ?_ | refine Nx.zd ?_ | refine Nx.zs (fun hc => ?_) (fun hc => ?_))
      | ((with_reducible refine Nx.is_mix ?_); first | refine Nx.m ?_ | refine Nx.zm ?_ | refine Nx.zt (fun hc => ?_) (fun hc => ?_))
      | refine Nx.zx ?_ | fail
    exact Nx.ret_fn rfl [_, _] ⟨Ao, co, qs, rfl, hqs, by omega, rfl⟩ (by (exact Ent.auto))
  obtain ⟨hei, _, _⟩ := hV.each i hiv
  have htk := take_snocR hiv
  have hv := hr.view _ (getD_memR hiv)
  have hd := hr.val _ (getD_memR hiv)
  have hrds : ∀ (W : World) (R : List Res), Rds W I R ((ad As).add (i * 3)) (relC (rs.getD i default)) := fun W R => hr.outer.rds hiv
  generalize rs.getD i default = r at hei htk hv hd hrds
  obtain ⟨num, va, vc, v, D, cd, vs⟩ := r
  dsimp only at hv hd
  obtain ⟨hw, hlen, heach⟩ := hei
  dsimp only at hw hlen heach
  have hszs := hw.sizes hs
  have hvl := hd.len
  have hpc := hszs.cells
  have hpr := hszs.bound (k := (szs v).length) (Nat.le_refl _)
  rw [List.take_length] at hpr
  replace hrds : ∀ (W : World) (R : List Res), Rds W I R ((ad As).add (i * 3)) [.int .i64 num, .slice va v.length vc, .slice D vs.length cd] := hrds
  repeat' first
    | ((with_reducible refine Nx.is_wp ?_); first | refine Nx.wo ?_ | refine Nx.zp (fun hc => ?_) (fun hc => ?_))
    | (refine Nx.zo ?_; first | refine Nx.opr rfl rfl ?_ | refine Nx.indexAddr_nat rfl rfl rfl rfl rfl hiv (hr.outer.isSome (by omega) (by omega)) ?_ | refine Nx.loads rfl rfl rfl rfl (hrds _ _) rfl ?_ | refine Nx.so ?_ | refine Nx.sb (fun bx => ?_) | refine Nx.sa (fun A2 c2 => ?_))
    | ((with_reducible refine Nx.is_at ?_); first | refine Nx.a ?_ | refine Nx.zd ?_ | refine Nx.zs (fun hc => ?_) (fun hc => ?_))
    | ((with_reducible refine Nx.is_mix ?_); first | refine Nx.m ?_ | refine Nx.zm ?_ | refine Nx.zt (fun hc => ?_) (fun hc => ?_))
    | refine Nx.zx ?_ | fail
  revert bx; intro b9
  refine Nx.p_loop (σ := Nat × Option Addr × Nat × List EqR) (fun s => [(2, .pointer (some ⟨b2, 0, none⟩)), (7, .slice s.2.1 s.2.2.2.length s.2.2.1), (9, .pointer (some ⟨b9, 0, none⟩)), (20, .slice As rs.length cs), (21, .int .i64 rs.length), (22, .int .i64 (i : Int)), (27, .slice D vs.length cd), (28, .int .i64 vs.length), (29, .int .i64 (s.1 : Int))])
    (fun s => Blk b9 116 [.int .i64 num, .slice va v.length vc, .slice D vs.length cd] :: Blk b2 54 [.slice A l.length c] :: (eqsR s.2.1 s.2.2.1 s.2.2.2 ++ [F])) (fun s => s.1 ≤ vs.length ∧ s.2.2.2.map cont = (rs.take i).flatMap (told l) ++ toldK l v vs s.1 ∧ s.2.2.2.length ≤ i * 48 + s.1) (fun s => vs.length - s.1) (0, Ao, co, qs) rfl ⟨Nat.zero_le _, by rw [toldK, List.append_nil]; exact hqs, hql⟩ ⟨rfl, rfl, rfl, rfl, rfl, rfl, rfl, rfl, rfl, trivial⟩ (by (exact Ent.auto)) ?_
  rintro ⟨j, Ap, cp, ps⟩ ⟨hj, hps, hpl⟩
  dsimp only at hj hps hpl ⊢
  by_cases hjv : j < vs.length
  case neg =>
    obtain rfl : j = vs.length := by omega
    repeat' first
      | ((with_reducible refine Nx.is_wp ?_); first | refine Nx.wo ?_ | refine Nx.zp (fun hc => ?_) (fun hc => ?_))
      | (refine Nx.zo ?_; first | refine Nx.opr rfl rfl ?_ | refine Nx.so ?_ | refine Nx.sb (fun bx => ?_) | refine Nx.sa (fun A2 c2 => ?_))
      | ((with_reducible refine Nx.is_at ?_); first | refine Nx.a ?_ | refine Nx.zd ?_ | refine Nx.zs (fun hc => ?_) (fun hc => ?_))
      | ((with_reducible refine Nx.is_mix ?_); first | refine Nx.m ?_ | refine Nx.zm ?_ | refine Nx.zt (fun hc => ?_) (fun hc => ?_))
      | refine Nx.zx ?_ | fail
    exact Nx.again (i + 1, Ap, cp, ps) ⟨hiv, by dsimp only; rw [htk, List.flatMap_append, List.flatMap_cons, List.flatMap_nil, List.append_nil]; exact hps, by dsimp only; omega⟩ (by dsimp only; omega) ⟨rfl, rfl, rfl, rfl, rfl, trivial⟩ (by (exact Ent.auto))
  have hrd : ∀ (W : World) (R : List Res), Rd W I R ((ad D).add (j * 1)) (.int .i64 (vs.getD j default)) := fun W R => hd.rd hjv
  have hts : toldK l v vs (j + 1) = toldK l v vs j ++ if vs.getD j default = -1 then [] else [(memK l v (j : Int) (prod l).toNat, vs.getD j default)] := rfl
  have hM := RMembers_spec A va c vc l v (j : Int) I hl hs hv hw ⟨by omega, by omega⟩
  generalize memK l v (j : Int) (prod l).toNat = mm at hM hts
  generalize vs.getD j default = z at hrd hts
  by_cases hz : z = -1
  · subst hz
    rw [if_pos rfl, List.append_nil] at hts
    repeat' first
      | ((with_reducible refine Nx.is_wp ?_); first | refine Nx.wo ?_ | refine Nx.zp (fun hc => ?_) (fun hc => ?_))
      | (refine Nx.zo ?_; first | refine Nx.opr rfl rfl ?_ | refine Nx.indexAddr_nat (A := D) rfl rfl rfl rfl rfl hjv (hd.isSome (by omega)) ?_ | refine Nx.load rfl rfl rfl (hrd _ _) ?_ | refine Nx.so ?_ | refine Nx.sb (fun bx => ?_) | refine Nx.sa (fun A2 c2 => ?_))
      | ((with_reducible refine Nx.is_at ?_); first | refine Nx.a ?_ | refine Nx.zd ?_ | refine Nx.zs (fun hc => ?_) (fun hc => ?_))
      | ((with_reducible refine Nx.is_mix ?_); first | refine Nx.m ?_ | refine Nx.zm ?_ | refine Nx.zt (fun hc => ?_) (fun hc => ?_))
      | refine Nx.zx ?_ | fail
    exact Nx.again (j + 1, Ap, cp, ps) ⟨hjv, by rw [hts]; exact hps, by dsimp only; omega⟩ (by dsimp only; omega) ⟨rfl, rfl, rfl, rfl, rfl, rfl, rfl, rfl, rfl, trivial⟩ (by (exact Ent.auto))
  · rw [if_neg hz] at hts
    repeat' first
      | ((with_reducible refine Nx.is_wp ?_); first | refine Nx.wo ?_ | refine Nx.zp (fun hc => ?_) (fun hc => ?_))
      | (refine Nx.zo ?_; first | refine Nx.opr rfl rfl ?_ | refine Nx.indexAddr_nat (A := D) rfl rfl rfl rfl rfl hjv (hd.isSome (by omega)) ?_ | refine Nx.load rfl rfl rfl (hrd _ _) ?_ | refine Nx.loads rfl rfl rfl rfl (Rds.cut 0 1 rfl rfl) rfl ?_ | (refine Nx.call (Rpre := []) rfl rfl rfl (by kernel_rfl) rfl hM (Ent.refl _) ?_; rintro _ _ ⟨Am, cm, rfl, rfl⟩) | refine Nx.so ?_ | refine Nx.sb (fun bx => ?_) | refine Nx.sa (fun A2 c2 => ?_))
      | ((with_reducible refine Nx.is_at ?_); first | refine Nx.a ?_ | refine Nx.zd ?_ | refine Nx.zs (fun hc => ?_) (fun hc => ?_))
      | ((with_reducible refine Nx.is_mix ?_); first | refine Nx.m ?_ | refine Nx.zm ?_ | refine Nx.zt (fun hc => ?_) (fun hc => ?_))
      | refine Nx.zx ?_ | fail
    refine Nx.again (j + 1, A2, c2, ps ++ [((Am, cm, mm), z)]) ⟨hjv, by dsimp only; rw [hts, List.map_append, hps, List.append_assoc]; rfl, by dsimp only; rw [List.length_append]; show ps.length + 1 ≤ _; omega⟩ (by dsimp only; omega) ⟨rfl, by dsimp only; rw [List.length_append]; rfl, rfl, rfl, rfl, rfl, rfl, rfl, rfl, trivial⟩ ?_
    dsimp only
    refine Ent.trans (R' := rowR (Am, cm, mm) :: Stars (ps.map fun q => rowR q.1) :: [Vec 46 2 A2 (ps.length + 1) c2 (ps.flatMap eqC ++ eqC ((Am, cm, mm), z)), Blk b9 116 [.int .i64 num, .slice va v.length vc, .slice D vs.length cd], Blk b2 54 [.slice A l.length c], F]) (by unfold rowR eqC eqsR; (exact Ent.auto)) ?_
    refine Ent.trans (R' := Stars ((ps.map fun q => rowR q.1) ++ [rowR (Am, cm, mm)]) :: [Vec 46 2 A2 (ps.length + 1) c2 (ps.flatMap eqC ++ eqC ((Am, cm, mm), z)), Blk b9 116 [.int .i64 num, .slice va v.length vc, .slice D vs.length cd], Blk b2 54 [.slice A l.length c], F]) Ent.bundle ?_
    unfold eqsR
    rw [List.length_append, List.flatMap_append, List.map_append, List.flatMap_cons, List.flatMap_nil, List.append_nil]
    (exact Ent.auto)
end Go.Proofs.YtpcnapidlhpbkaaGreatDoor
/- Contracts of functions of the given program, and lemmas about plain lists and numbers: what the laws of this seat lean on. -/
namespace Go.Proofs.YtpcnapidlhpbkaaGreatDoor
open Go.Eng Go.Sol
attribute [local irreducible] opK wpList Code.wp Exit.then Exit.inBlock fnPost bodyPost Nx Calls Oper.wp Rd Rds Wr Ent Stars Blk Again Vec FnSpec wpMix QRun Stop Upto wpAt
/-! Made equations -/
theorem rels_of {As : Option Addr} {cs : Nat} {rs : List Rel} {m I' : PH} {m1 m2 : PH} (hm : PH.le m I') (h1 : Vec 116 3 As rs.length cs (rs.flatMap relC) m1) (hm1 : PH.le m1 m) (h2 : Stars (rs.map relR) m2) (hm2 : PH.le m2 m) : Rels I' As cs rs := by
  have hat : ∀ r ∈ rs, ∃ m3, PH.le m3 I' ∧ relR r m3 := fun r hr => by
    obtain ⟨k, hk, he⟩ := List.mem_iff_getElem.1 hr
    obtain ⟨m3, h3le, h3⟩ := Stars.get k (r := relR r) h2 (by rw [nthL_eq, List.getElem?_map, List.getElem?_eq_getElem hk, he]; rfl)
    exact ⟨m3, (h3le.trans hm2).trans hm, h3⟩
  refine ⟨Vec.sliceN (hm1.trans hm) h1 fun x _ => relC_len x, fun r hr => ?_, fun r hr => ?_⟩
  · obtain ⟨m3, h3, hr3⟩ := hat r hr
    obtain ⟨m4, h4le, h4⟩ := Stars.get 0 hr3 rfl
    exact ViewR.rows (h4le.trans h3) h4
  · obtain ⟨m3, h3, hr3⟩ := hat r hr
    obtain ⟨m4, h4le, h4⟩ := Stars.get 1 hr3 rfl
    exact Vec.sliceOf (h4le.trans h3) h4
abbrev tabOk (s t : List Int) (most : Int) : Prop := t.length = (prod s).toNat ∧ ∀ j, j < t.length → 0 ≤ t.getD j default ∧ t.getD j default ≤ most
abbrev toldR (B : Option Addr) (c' : Nat) (s : List Int) (At : Option Addr) (ct : Nat) (t : List Int) (As : Option Addr) (ca : Nat) (rs : List Rel) : List Res := [iR B c' s, iR At ct t, Vec 116 3 As rs.length ca (rs.flatMap relC), Stars (rs.map relR)]
theorem sumAt_bd2 {p : Nat → Int} {t : List Int} {k M : Int} (ht : ∀ j, j < t.length → 0 ≤ t.getD j default ∧ t.getD j default ≤ M) (hM : 0 ≤ M) : ∀ n, n ≤ t.length → 0 ≤ sumAt p t k n ∧ sumAt p t k n ≤ n * M
  | 0, _ => by simp [sumAt]
  | n + 1, h => by
    have ih := sumAt_bd2 (p := p) (k := k) ht hM n (by omega)
    have h1 := ht n (by omega)
    rw [sumAt]
    have e : ((n + 1 : Nat) : Int) * M = n * M + M := by rw [Int.natCast_succ, Int.add_mul, Int.one_mul]
    split <;> omega
theorem relsV_of {l t : List Int} {rs : List Rel} {most : Int} (hs : Sizes l) (hT : tabOk l t most) (h0 : 0 ≤ most) (hm : most ≤ 1000) (h : RelsOk l t rs) (hn : rs.length ≤ 24) : RelsV l rs := by
  have hc := hs.cells
  refine ⟨hn, fun i hi => ?_, fun i hi => ?_⟩
  · obtain ⟨⟨h1, h2, h3⟩, h4⟩ := h.each i hi
    refine ⟨⟨h1, h2, fun j hj => ?_⟩, by omega, by omega⟩
    rcases h3 j hj with h5 | h5
    · exact .inl h5
    · have hb := sumAt_bd2 (p := pubOf l (rs.getD i default).v) (k := (j : Int)) hT.2 h0 t.length (Nat.le_refl _)
      have hlt : (t.length : Int) ≤ 48 := by have := hT.1; omega
      have h6 : (t.length : Int) * most ≤ 48 * 1000 := Int.mul_le_mul hlt hm h0 (by omega)
      rw [h5]
      right; omega
  · have h1 := (h.each i (by omega)).2
    have h2 := (h.each (i + 1) hi).2
    omega
theorem mem_toldK {l : List Int} {v : List Row} {vs : List Int} {x : List Int × Int} : ∀ {n : Nat}, x ∈ toldK l v vs n ↔ ∃ j, j < n ∧ vs.getD j default ≠ -1 ∧ x = (memK l v (j : Int) (prod l).toNat, vs.getD j default)
  | 0 => by simp [toldK]
  | n + 1 => by
    rw [toldK, List.mem_append, mem_toldK]
    constructor
    · rintro (⟨j, h1, h2, h3⟩ | h)
      · exact ⟨j, by omega, h2, h3⟩
      · by_cases hz : vs.getD n default = -1
        · rw [if_pos hz] at h; cases h
        · rw [if_neg hz, List.mem_singleton] at h
          exact ⟨n, by omega, hz, h⟩
    · rintro ⟨j, h1, h2, h3⟩
      rcases Nat.lt_or_ge j n with hj | hj
      · exact .inl ⟨j, hj, h2, h3⟩
      · obtain rfl : j = n := by omega
        right
        rw [if_neg h2, List.mem_singleton]
        exact h3
/-- What releases of a table tell is valid, and the table agrees with it. -/
theorem told_eq {l t : List Int} {rs : List Rel} {most : Int} (hs : Sizes l) (hT : tabOk l t most) (h0 : 0 ≤ most) (hm : most ≤ 1000) (h : RelsOk l t rs) (hn : rs.length ≤ 24) {q : EqR} (hq : cont q ∈ rs.flatMap (told l)) : GoodE (prod l).toNat q ∧ sumC t (eqn q).1 = q.2 := by
  rw [List.mem_flatMap] at hq
  obtain ⟨r, hr, hq⟩ := hq
  obtain ⟨i, hi, he⟩ := List.mem_iff_getElem.1 hr
  have hri : rs.getD i default = r := by rw [List.getD_eq_getElem?_getD, List.getElem?_eq_getElem hi, he]; rfl
  have hV := ((relsV_of hs hT h0 hm h hn).each i hi).1
  have hO := (h.each i hi).1
  rw [hri] at hV hO
  unfold told at hq
  obtain ⟨j, hj, hne, hc⟩ := mem_toldK.1 hq
  obtain ⟨⟨a, c, m⟩, z⟩ := q
  unfold cont at hc
  obtain ⟨rfl, rfl⟩ := Prod.mk.inj hc
  have hP := hV.len
  have hvj := hV.each j hj
  have hoj := hO.each j hj
  have hszs := hV.view.sizes hs
  have hk : 0 ≤ (j : Int) ∧ (j : Int) < prod (szs r.v) := ⟨by omega, by omega⟩
  refine ⟨memK_good hs hV.view hk (by omega), ?_⟩
  show sumC t ((memK l r.v (j : Int) (prod l).toNat).map Int.toNat) = r.val.2.2.getD j default
  rw [memK_sum, ← hT.1]
  rcases hoj with h5 | h5
  · exact absurd h5 hne
  · exact h5.symm
theorem min_take {l : List EqR} {k : Nat} (h : k < l.length) : l.take (min (k + 1) 8) = if k < 8 then l.take (min k 8) ++ [l.getD k default] else l.take (min k 8) := by
  split
  · rename_i hk
    rw [show min (k + 1) 8 = k + 1 by omega, show min k 8 = k by omega, take_snocQ h]
  · rename_i hk
    rw [show min (k + 1) 8 = min k 8 by omega]
/-- Equations with which a table agrees. -/
structure EqsOk (N : Nat) (t : List Int) (most : Int) (qs : List EqR) : Prop where
  n : 1 ≤ N ∧ N ≤ 48
  len : t.length = N
  tab : ∀ j, j < t.length → 0 ≤ t.getD j default ∧ t.getD j default ≤ most
  few : qs.length ≤ 8
  good : ∀ q ∈ qs, GoodE N q
  sum : ∀ q ∈ qs, sumC t (eqn q).1 = q.2
end Go.Proofs.YtpcnapidlhpbkaaGreatDoor
/- Contracts of functions of the given program, and lemmas about plain lists and numbers: what the laws of this seat lean on. -/
namespace Go.Proofs.YtpcnapidlhpbkaaGreatDoor
open Go.Eng Go.Sol
attribute [local irreducible] opK wpList Code.wp Exit.then Exit.inBlock fnPost bodyPost Nx Calls Oper.wp Rd Rds Wr Ent Stars Blk Again Vec FnSpec wpMix QRun Stop Upto wpAt
/-! Made spaces have at most eight cells (written by mkB8.py) -/
set_option maxRecDepth 10000 in
set_option maxHeartbeats 8000000 in
theorem Space_spec8 (b : Nat) (A : Option Addr) (c : Nat) (l : List Int) (k : Nat) (I : PH) (hl : SliceOf (fun x : Int => Value.int .u8 x) I A c l) (hx : ∀ x ∈ l, 0 ≤ x ∧ x < 256) (hk : k ≤ l.length) :
    FnSpec Tryz.prog 62 [.pointer (some ⟨b, 0, none⟩)] I [Blk b 83 [.slice A l.length c, .int .i64 (k : Int)]]
      (fun v R' => ∃ (B : Option Addr) (c' : Nat) (s : List Int) (k' : Nat), v = .agg #[.slice B s.length c'] ∧ (Sizes s ∧ prod s ≤ 8) ∧ k' ≤ l.length ∧ R' = [Vec 3 1 B s.length c' (s.map (Value.int .i64)), Blk b 83 [.slice A l.length c, .int .i64 (k' : Int)]]) := by
  refine FnSpec.enterP Tryz.func62 rfl Tryz.ntmps62 rfl fun w F => ?_
  repeat' first
    | ((with_reducible refine Nx.is_wp ?_); first | refine Nx.wo ?_ | refine Nx.zp (fun hc => ?_) (fun hc => ?_))
    | (refine Nx.zo ?_; first | refine Nx.opr rfl rfl ?_ | refine Nx.so ?_ | refine Nx.sb (fun bx => ?_) | refine Nx.sa (fun A2 c2 => ?_))
    | ((with_reducible refine Nx.is_at ?_); first | refine Nx.a ?_ | refine Nx.zd ?_ | refine Nx.zs (fun hc => ?_) (fun hc => ?_))
    | ((with_reducible refine Nx.is_mix ?_); first | refine Nx.m ?_ | refine Nx.zm ?_ | refine Nx.zt (fun hc => ?_) (fun hc => ?_))
    | refine Nx.zx ?_ | fail
  refine Nx.pull 11 rfl ?_
  refine Nx.at_op rfl rfl ?_
  refine Nx.call rfl rfl rfl (by kernel_rfl) rfl (Next_spec b A c l k 9 I hl hx hk (by omega)) (Ent.refl _) ?_
  rintro v R' ⟨r, k', rfl, hr, hk', rfl⟩
  have hr9 : r = 0 ∨ r = 1 ∨ r = 2 ∨ r = 3 ∨ r = 4 ∨ r = 5 ∨ r = 6 ∨ r = 7 ∨ r = 8 := by omega
  rcases hr9 with rfl | rfl | rfl | rfl | rfl | rfl | rfl | rfl | rfl
  all_goals repeat' first
              | ((with_reducible refine Nx.is_wp ?_); first | refine Nx.wo ?_ | refine Nx.zp (fun hc => ?_) (fun hc => ?_))
              | (refine Nx.zo ?_; first | refine Nx.opr rfl rfl ?_ | refine Nx.indexAddr rfl rfl rfl rfl rfl (by decide) (by decide) rfl ?_ | refine Nx.so ?_ | refine Nx.sb (fun bx => ?_) | refine Nx.sa (fun A2 c2 => ?_))
              | ((with_reducible refine Nx.is_at ?_); first | refine Nx.a ?_ | refine Nx.zd ?_ | refine Nx.zs (fun hc => ?_) (fun hc => ?_))
              | ((with_reducible refine Nx.is_mix ?_); first | refine Nx.m ?_ | refine Nx.zm ?_ | refine Nx.zt (fun hc => ?_) (fun hc => ?_))
              | refine Nx.zx ?_ | fail
  all_goals refine Nx.blk_vec 0 0 1 rfl rfl (by omega) ?_
  all_goals first
    | (refine Nx.pull 11 rfl ?_; refine Nx.at_op rfl rfl ?_; refine Nx.append_lit 0 rfl rfl rfl rfl (by kernel_rfl) rfl rfl rfl rfl (by omega) (fun A2 c2 => ?_))
    | (refine Nx.pull 10 rfl ?_; refine Nx.at_op rfl rfl ?_; refine Nx.append_lit 0 rfl rfl rfl rfl (by kernel_rfl) rfl rfl rfl rfl (by omega) (fun A2 c2 => ?_))
    | (refine Nx.pull 9 rfl ?_; refine Nx.at_op rfl rfl ?_; refine Nx.append_lit 0 rfl rfl rfl rfl (by kernel_rfl) rfl rfl rfl rfl (by omega) (fun A2 c2 => ?_))
    | (refine Nx.pull 8 rfl ?_; refine Nx.at_op rfl rfl ?_; refine Nx.append_lit 0 rfl rfl rfl rfl (by kernel_rfl) rfl rfl rfl rfl (by omega) (fun A2 c2 => ?_))
    | (refine Nx.pull 7 rfl ?_; refine Nx.at_op rfl rfl ?_; refine Nx.append_lit 0 rfl rfl rfl rfl (by kernel_rfl) rfl rfl rfl rfl (by omega) (fun A2 c2 => ?_))
    | (refine Nx.pull 6 rfl ?_; refine Nx.at_op rfl rfl ?_; refine Nx.append_lit 0 rfl rfl rfl rfl (by kernel_rfl) rfl rfl rfl rfl (by omega) (fun A2 c2 => ?_))
    | (refine Nx.pull 5 rfl ?_; refine Nx.at_op rfl rfl ?_; refine Nx.append_lit 0 rfl rfl rfl rfl (by kernel_rfl) rfl rfl rfl rfl (by omega) (fun A2 c2 => ?_))
    | (refine Nx.pull 4 rfl ?_; refine Nx.at_op rfl rfl ?_; refine Nx.append_lit 0 rfl rfl rfl rfl (by kernel_rfl) rfl rfl rfl rfl (by omega) (fun A2 c2 => ?_))
    | (refine Nx.pull 3 rfl ?_; refine Nx.at_op rfl rfl ?_; refine Nx.append_lit 0 rfl rfl rfl rfl (by kernel_rfl) rfl rfl rfl rfl (by omega) (fun A2 c2 => ?_))
  all_goals refine Nx.pull 11 rfl ?_
  all_goals repeat' first
              | ((with_reducible refine Nx.is_wp ?_); first | refine Nx.wo ?_ | refine Nx.zp (fun hc => ?_) (fun hc => ?_))
              | (refine Nx.zo ?_; first | refine Nx.opr rfl rfl ?_ | refine Nx.so ?_ | refine Nx.sb (fun bx => ?_) | refine Nx.sa (fun A2 c2 => ?_))
              | ((with_reducible refine Nx.is_at ?_); first | refine Nx.a ?_ | refine Nx.zd ?_ | refine Nx.zs (fun hc => ?_) (fun hc => ?_))
              | ((with_reducible refine Nx.is_mix ?_); first | refine Nx.m ?_ | refine Nx.zm ?_ | refine Nx.zt (fun hc => ?_) (fun hc => ?_))
              | refine Nx.zx ?_ | fail
  all_goals first
    | (refine Nx.ret_cell 0 rfl rfl rfl rfl rfl rfl [Vec 3 1 _ (0 + 1) _ ([] ++ [.int .i64 2]), _] ⟨_, _, [2], k', rfl, ⟨⟨by decide, by decide, by decide⟩, by decide⟩, hk', rfl⟩ ?_; refine Ent.pick 1 rfl ?_)
    | (refine Nx.ret_cell 0 rfl rfl rfl rfl rfl rfl [Vec 3 1 _ (0 + 1) _ ([] ++ [.int .i64 3]), _] ⟨_, _, [3], k', rfl, ⟨⟨by decide, by decide, by decide⟩, by decide⟩, hk', rfl⟩ ?_; refine Ent.pick 1 rfl ?_)
    | (refine Nx.ret_cell 0 rfl rfl rfl rfl rfl rfl [Vec 3 1 _ (0 + 2) _ ([] ++ [.int .i64 2, .int .i64 2]), _] ⟨_, _, [2, 2], k', rfl, ⟨⟨by decide, by decide, by decide⟩, by decide⟩, hk', rfl⟩ ?_; refine Ent.pick 1 rfl ?_)
    | (refine Nx.ret_cell 0 rfl rfl rfl rfl rfl rfl [Vec 3 1 _ (0 + 2) _ ([] ++ [.int .i64 2, .int .i64 3]), _] ⟨_, _, [2, 3], k', rfl, ⟨⟨by decide, by decide, by decide⟩, by decide⟩, hk', rfl⟩ ?_; refine Ent.pick 1 rfl ?_)
    | (refine Nx.ret_cell 0 rfl rfl rfl rfl rfl rfl [Vec 3 1 _ (0 + 1) _ ([] ++ [.int .i64 4]), _] ⟨_, _, [4], k', rfl, ⟨⟨by decide, by decide, by decide⟩, by decide⟩, hk', rfl⟩ ?_; refine Ent.pick 1 rfl ?_)
    | (refine Nx.ret_cell 0 rfl rfl rfl rfl rfl rfl [Vec 3 1 _ (0 + 3) _ ([] ++ [.int .i64 2, .int .i64 2, .int .i64 2]), _] ⟨_, _, [2, 2, 2], k', rfl, ⟨⟨by decide, by decide, by decide⟩, by decide⟩, hk', rfl⟩ ?_; refine Ent.pick 1 rfl ?_)
    | (refine Nx.ret_cell 0 rfl rfl rfl rfl rfl rfl [Vec 3 1 _ (0 + 2) _ ([] ++ [.int .i64 3, .int .i64 2]), _] ⟨_, _, [3, 2], k', rfl, ⟨⟨by decide, by decide, by decide⟩, by decide⟩, hk', rfl⟩ ?_; refine Ent.pick 1 rfl ?_)
    | (refine Nx.ret_cell 0 rfl rfl rfl rfl rfl rfl [Vec 3 1 _ (0 + 1) _ ([] ++ [.int .i64 6]), _] ⟨_, _, [6], k', rfl, ⟨⟨by decide, by decide, by decide⟩, by decide⟩, hk', rfl⟩ ?_; refine Ent.pick 1 rfl ?_)
    | (refine Nx.ret_cell 0 rfl rfl rfl rfl rfl rfl [Vec 3 1 _ (0 + 2) _ ([] ++ [.int .i64 1, .int .i64 3]), _] ⟨_, _, [1, 3], k', rfl, ⟨⟨by decide, by decide, by decide⟩, by decide⟩, hk', rfl⟩ ?_; refine Ent.pick 1 rfl ?_)
  all_goals (exact Ent.auto)
set_option maxHeartbeats 8000000 in
theorem Space_made8 (b : Nat) (A : Option Addr) (c : Nat) (L : List Int) (k : Nat) (I : PH) (hL : CodesOk I A c L) (hk : k ≤ L.length) :
    FnSpec Tryz.prog 62 [.pointer (some ⟨b, 0, none⟩)] I [CodesR b A c L k]
      (fun v R' => ∃ (B : Option Addr) (c' : Nat) (s : List Int) (k' : Nat), v = .agg #[.slice B s.length c'] ∧ (Sizes s ∧ prod s ≤ 8) ∧ k' ≤ L.length ∧ R' = [Vec 3 1 B s.length c' (s.map (Value.int .i64)), CodesR b A c L k']) := Space_spec8 b A c L k I hL.sl hL.each hk
set_option maxRecDepth 10000 in
set_option maxHeartbeats 8000000 in
theorem Told_made8 (b : Nat) (A : Option Addr) (c : Nat) (L : List Int) (k most n : Nat) (I : PH) (hL : CodesOk I A c L) (hk : k ≤ L.length) (hm : most ≤ 1000) (hn : n ≤ 1000) :
    FnSpec Tryz.prog 20 [.pointer (some ⟨b, 0, none⟩), .int .i64 (most : Int), .int .i64 (n : Int)] I [CodesR b A c L k]
      (fun u R' => ∃ (B : Option Addr) (c' : Nat) (s : List Int) (At : Option Addr) (ct : Nat) (t : List Int) (As : Option Addr) (ca : Nat) (rs : List Rel) (k' : Nat), u = .tuple #[.agg #[.slice B s.length c'], .slice At t.length ct, .slice As rs.length ca] ∧ (Sizes s ∧ prod s ≤ 8) ∧ tabOk s t most ∧ rs.length ≤ n ∧ RelsOk s t rs ∧ k' ≤ L.length ∧ R' = toldR B c' s At ct t As ca rs ++ [CodesR b A c L k']) := by
  refine FnSpec.enterP Tryz.func20 rfl Tryz.ntmps20 rfl fun w F => ?_
  repeat' first
    | ((with_reducible refine Nx.is_wp ?_); first | refine Nx.wo ?_ | refine Nx.zp (fun hc => ?_) (fun hc => ?_))
    | (refine Nx.zo ?_; first | refine Nx.opr rfl rfl ?_ | refine Nx.so ?_ | refine Nx.sb (fun bx => ?_) | refine Nx.sa (fun A2 c2 => ?_))
    | ((with_reducible refine Nx.is_at ?_); first | refine Nx.a ?_ | refine Nx.zd ?_ | refine Nx.zs (fun hc => ?_) (fun hc => ?_))
    | ((with_reducible refine Nx.is_mix ?_); first | refine Nx.m ?_ | refine Nx.zm ?_ | refine Nx.zt (fun hc => ?_) (fun hc => ?_))
    | refine Nx.zx ?_ | fail
  revert bx; intro b6
  refine Nx.at_op rfl rfl ?_
  refine Nx.call rfl rfl rfl (by kernel_rfl) rfl (Space_made8 b A c L k I hL hk) (by (exact Ent.auto)) ?_
  rintro _ _ ⟨B, c', s, k1, rfl, ⟨hs, hs8⟩, hk1, rfl⟩
  repeat' first
    | ((with_reducible refine Nx.is_wp ?_); first | refine Nx.wo ?_ | refine Nx.zp (fun hc => ?_) (fun hc => ?_))
    | (refine Nx.zo ?_; first | refine Nx.opr rfl rfl ?_ | refine Nx.so ?_ | refine Nx.sb (fun bx => ?_) | refine Nx.sa (fun A2 c2 => ?_))
    | ((with_reducible refine Nx.is_at ?_); first | refine Nx.a ?_ | refine Nx.zd ?_ | refine Nx.zs (fun hc => ?_) (fun hc => ?_))
    | ((with_reducible refine Nx.is_mix ?_); first | refine Nx.m ?_ | refine Nx.zm ?_ | refine Nx.zt (fun hc => ?_) (fun hc => ?_))
    | refine Nx.zx ?_ | fail
  revert bx; intro b9
  refine Nx.at_op rfl rfl ?_
  refine Nx.call rfl rfl rfl (by kernel_rfl) rfl (FnSpec.keep [iR B c' s] fun m I' hle hm' hv => Cells_spec b A B c c' L s k1 most I' (hL.mono hle) hk1 (by obtain ⟨m1, hm1, h1⟩ := Stars.get 0 hv rfl; exact Vec.sliceOf (hm1.trans hm') h1) hs (by omega)) (by (exact Ent.auto)) ?_
  rintro _ _ ⟨_, ⟨bt, t, k2, rfl, htl, hte, hk2, rfl⟩, rfl⟩
  have hT : Table s t := ⟨htl, fun j hj => by have := hte j hj; omega⟩
  repeat' first
    | ((with_reducible refine Nx.is_wp ?_); first | refine Nx.wo ?_ | refine Nx.p_drawF (id := 3) rfl [0, 1, 2, 3, 4, 5, 6, 7, 8, 9] [6, 7] [] _ rfl rfl (by kernel_rfl) (by kernel_rfl) rfl (by repeat first | exact PanicOk.fn | refine PanicOk.then_ ?_ | refine PanicOk.inB ?_) ((Ent.eraseK 4 _).trans (Ent.eraseK 2 _)) ?_ | refine Nx.zp (fun hc => ?_) (fun hc => ?_))
    | (refine Nx.zo ?_; first | refine Nx.opr rfl rfl ?_ | (refine Nx.call rfl rfl rfl (by kernel_rfl) rfl (FnSpec.keep [iR B c' s, iR (some ⟨bt, 0, none⟩) t.length t] fun m I' hle hm' hv => Releases_made b A B (some ⟨bt, 0, none⟩) c c' t.length L s t k2 n I' (hL.mono hle) hk2 (by obtain ⟨m1, hm1, h1⟩ := Stars.get 0 hv rfl; exact Vec.sliceOf (hm1.trans hm') h1) hs (by obtain ⟨m1, hm1, h1⟩ := Stars.get 1 hv rfl; exact Vec.sliceOf (hm1.trans hm') h1) hT hn) (by (exact Ent.auto)) ?_; rintro _ _ ⟨_, ⟨As, ca, rs, k3, rfl, hrn, hro, hk3, rfl⟩, rfl⟩) | refine Nx.so ?_ | refine Nx.sb (fun bx => ?_) | refine Nx.sa (fun A2 c2 => ?_))
    | ((with_reducible refine Nx.is_at ?_); first | refine Nx.a ?_ | refine Nx.zd ?_ | refine Nx.zs (fun hc => ?_) (fun hc => ?_))
    | ((with_reducible refine Nx.is_mix ?_); first | refine Nx.m ?_ | refine Nx.zm ?_ | refine Nx.zt (fun hc => ?_) (fun hc => ?_))
    | refine Nx.zx ?_ | fail
  exact Nx.ret3 rfl (ROne.cell 0 rfl rfl rfl rfl rfl) (ROne.tmp rfl) (ROne.tmp rfl) [_, _, _, _, _] ⟨B, c', s, _, _, t, As, ca, rs, k3, rfl, ⟨hs, hs8⟩, ⟨htl, hte⟩, hrn, hro, hk3, rfl⟩ (by (exact Ent.auto))
set_option maxRecDepth 10000 in
set_option maxHeartbeats 8000000 in
theorem Equations_made8 (b : Nat) (A : Option Addr) (c : Nat) (L : List Int) (k most : Nat) (I : PH) (hL : CodesOk I A c L) (hk : k ≤ L.length) (hm : most ≤ 1000) :
    FnSpec Tryz.prog 11 [.pointer (some ⟨b, 0, none⟩), .int .i64 (most : Int)] I [CodesR b A c L k]
      (fun u R' => ∃ (N : Nat) (At : Option Addr) (ct : Nat) (t : List Int) (A' : Option Addr) (c' : Nat) (qs : List EqR) (k' : Nat), u = .tuple #[.int .i64 (N : Int), .slice At t.length ct, .slice A' qs.length c'] ∧ (EqsOk N t most qs ∧ N ≤ 8) ∧ k' ≤ L.length ∧ R' = iR At ct t :: (eqsR A' c' qs ++ [CodesR b A c L k'])) := by
  refine FnSpec.enterP Tryz.func11 rfl Tryz.ntmps11 rfl fun w F => ?_
  repeat' first
    | ((with_reducible refine Nx.is_wp ?_); first | refine Nx.wo ?_ | refine Nx.zp (fun hc => ?_) (fun hc => ?_))
    | (refine Nx.zo ?_; first | refine Nx.opr rfl rfl ?_ | (refine Nx.call rfl rfl rfl (by kernel_rfl) rfl (Told_made8 b A c L k most 3 I hL hk hm (by omega)) (by (exact Ent.auto)) ?_; rintro _ _ ⟨B, c', s, At, ct, t, As, ca, rs, k3, rfl, ⟨hs, hs8⟩, hT, hrn, hro, hk3, rfl⟩) | (refine Nx.call rfl rfl rfl (by kernel_rfl) rfl (FnSpec.keep [iR B c' s, Vec 116 3 As rs.length ca (rs.flatMap relC), Stars (rs.map relR)] fun m I' hle hm' hv => REAll_spec B As c' ca s rs I' (by obtain ⟨m1, hm1, h1⟩ := Stars.get 0 hv rfl; exact Vec.sliceOf (hm1.trans hm') h1) hs (by obtain ⟨m1, hm1, h1⟩ := Stars.get 1 hv rfl; obtain ⟨m2, hm2, h2⟩ := Stars.get 2 hv rfl; exact rels_of hm' h1 hm1 h2 hm2) (relsV_of hs hT (by omega) (by omega) hro (by omega))) (by (exact Ent.auto)) ?_; rintro _ _ ⟨_, ⟨Ao, co, ps, rfl, hps, hpl, rfl⟩, rfl⟩) | (refine Nx.call rfl rfl rfl (by kernel_rfl) rfl (FnSpec.keep [iR B c' s] fun m I' hle hm' hv => RCount_spec B c' s I' (by obtain ⟨m1, hm1, h1⟩ := Stars.get 0 hv rfl; exact Vec.sliceOf (hm1.trans hm') h1) hs) (by (exact Ent.auto)) ?_; rintro _ _ ⟨_, ⟨rfl, rfl⟩, rfl⟩) | refine Nx.so ?_ | refine Nx.sb (fun bx => ?_) | refine Nx.sa (fun A2 c2 => ?_))
    | ((with_reducible refine Nx.is_at ?_); first | refine Nx.a ?_ | refine Nx.zd ?_ | refine Nx.zs (fun hc => ?_) (fun hc => ?_))
    | ((with_reducible refine Nx.is_mix ?_); first | refine Nx.m ?_ | refine Nx.zm ?_ | refine Nx.zt (fun hc => ?_) (fun hc => ?_))
    | refine Nx.zx ?_ | fail
  have hall : ∀ q ∈ ps, GoodE (prod s).toNat q ∧ sumC t (eqn q).1 = q.2 := fun q hq => told_eq hs hT (by omega) (by omega) hro (by omega) (hps ▸ List.mem_map.2 ⟨q, hq, rfl⟩)
  have hpr := hs.bound (k := s.length) (Nat.le_refl _)
  rw [List.take_length] at hpr
  have hpc := hs.cells
  refine Nx.p_loop (σ := Nat × Option Addr × Nat) (fun z => [(8, .slice At t.length ct), (10, .slice Ao ps.length co), (12, .int .i64 (prod s)), (13, .slice z.2.1 (ps.take (min z.1 8)).length z.2.2), (30, .slice Ao ps.length co), (31, .int .i64 ps.length), (32, .int .i64 (z.1 : Int))])
    (fun z => Vec 46 2 Ao ps.length co (ps.flatMap eqC) :: Vec 46 2 z.2.1 (ps.take (min z.1 8)).length z.2.2 ((ps.take (min z.1 8)).flatMap eqC) :: Stars (ps.map fun q => rowR q.1) :: iR At ct t :: [CodesR b A c L k3, F]) (fun z => z.1 ≤ ps.length) (fun z => ps.length - z.1) (0, none, 0) rfl (Nat.zero_le _) ⟨rfl, rfl, rfl, rfl, rfl, rfl, rfl, trivial⟩ ((Ent.vec_nil 46 2 _).trans (by unfold eqsR toldR; (exact Ent.auto))) ?_
  rintro ⟨i, Ap, cp⟩ hi
  dsimp only at hi ⊢
  by_cases hiv : i < ps.length
  case neg =>
    obtain rfl : i = ps.length := by omega
    repeat' first
      | ((with_reducible refine Nx.is_wp ?_); first | refine Nx.wo ?_ | refine Nx.zp (fun hc => ?_) (fun hc => ?_))
      | (refine Nx.zo ?_; first | refine Nx.opr rfl rfl ?_ | refine Nx.so ?_ | refine Nx.sb (fun bx => ?_) | refine Nx.sa (fun A2 c2 => ?_))
      | ((with_reducible refine Nx.is_at ?_); first | refine Nx.a ?_ | refine Nx.zd ?_ | refine Nx.zs (fun hc => ?_) (fun hc => ?_))
      | ((with_reducible refine Nx.is_mix ?_); first | refine Nx.m ?_ | refine Nx.zm ?_ | refine Nx.zt (fun hc => ?_) (fun hc => ?_))
      | refine Nx.zx ?_ | fail
    refine Nx.ret_fn rfl [iR At ct t, Vec 46 2 Ap (ps.take (min ps.length 8)).length cp ((ps.take (min ps.length 8)).flatMap eqC), Stars ((ps.take (min ps.length 8)).map fun q => rowR q.1), CodesR b A c L k3] ⟨(prod s).toNat, At, ct, t, Ap, cp, ps.take (min ps.length 8), k3, by rw [show (((prod s).toNat : Nat) : Int) = prod s by omega], ⟨⟨by omega, hT.1, hT.2, by rw [List.length_take]; omega, fun q hq => (hall q (List.mem_of_mem_take hq)).1, fun q hq => (hall q (List.mem_of_mem_take hq)).2⟩, by omega⟩, hk3, rfl⟩ ?_
    refine Ent.trans (R' := Stars (ps.map fun q => rowR q.1) :: [Vec 46 2 Ap (ps.take (min ps.length 8)).length cp ((ps.take (min ps.length 8)).flatMap eqC), iR At ct t, CodesR b A c L k3, F]) (by (exact Ent.auto)) ?_
    have hsp : (ps.map fun q => rowR q.1) = ((ps.take (min ps.length 8)).map fun q => rowR q.1) ++ ((ps.drop (min ps.length 8)).map fun q => rowR q.1) := by rw [← List.map_append, List.take_append_drop]
    rw [hsp]
    exact Ent.stars_pre.trans (by (exact Ent.auto))
  have hmt := min_take hiv
  by_cases h8 : i < 8
  · rw [if_pos h8] at hmt
    have hln : (ps.take (min i 8)).length = i := by rw [List.length_take]; omega
    generalize ps.take (min i 8) = out at hmt hln
    subst hln
    have hcl : eqC (ps.getD out.length default) = [.slice (ps.getD out.length default).1.1 (ps.getD out.length default).1.2.2.length (ps.getD out.length default).1.2.1, .int .i64 (ps.getD out.length default).2] := rfl
    refine Nx.vec_fact fun _ _ _ hAo => ?_
    repeat' first
      | ((with_reducible refine Nx.is_wp ?_); first | refine Nx.wo ?_ | refine Nx.zp (fun hc => ?_) (fun hc => ?_))
      | (refine Nx.zo ?_; first | refine Nx.opr rfl rfl ?_ | refine Nx.indexAddr_nat (A := Ao) (sz := 2) rfl rfl rfl rfl rfl hiv (hAo (by omega)) ?_ | refine Nx.loads rfl rfl rfl rfl (Rds.vecN 0 eqC_len rfl hiv) rfl ?_ | refine Nx.so ?_ | refine Nx.sb (fun bx => ?_) | refine Nx.sa (fun A2 c2 => ?_))
      | ((with_reducible refine Nx.is_at ?_); first | refine Nx.a ?_ | refine Nx.zd ?_ | refine Nx.zs (fun hc => ?_) (fun hc => ?_))
      | ((with_reducible refine Nx.is_mix ?_); first | refine Nx.m ?_ | refine Nx.zm ?_ | refine Nx.zt (fun hc => ?_) (fun hc => ?_))
      | refine Nx.zx ?_ | fail
    refine Nx.again (out.length + 1, A2, c2) hiv (by dsimp only; omega) ⟨rfl, rfl, rfl, by dsimp only; rw [hmt, List.length_append]; rfl, rfl, rfl, rfl, trivial⟩ ?_
    dsimp only
    rw [hmt, List.length_append, List.flatMap_append, List.flatMap_cons, List.flatMap_nil, List.append_nil]
    (exact Ent.auto)
  · rw [if_neg h8] at hmt
    have hln : (ps.take (min i 8)).length = 8 := by rw [List.length_take]; omega
    rw [← hmt] at hln
    rw [← hmt]
    generalize hout : ps.take (min (i + 1) 8) = out at hln
    repeat' first
      | ((with_reducible refine Nx.is_wp ?_); first | refine Nx.wo ?_ | refine Nx.zp (fun hc => ?_) (fun hc => ?_))
      | (refine Nx.zo ?_; first | refine Nx.opr rfl rfl ?_ | refine Nx.so ?_ | refine Nx.sb (fun bx => ?_) | refine Nx.sa (fun A2 c2 => ?_))
      | ((with_reducible refine Nx.is_at ?_); first | refine Nx.a ?_ | refine Nx.zd ?_ | refine Nx.zs (fun hc => ?_) (fun hc => ?_))
      | ((with_reducible refine Nx.is_mix ?_); first | refine Nx.m ?_ | refine Nx.zm ?_ | refine Nx.zt (fun hc => ?_) (fun hc => ?_))
      | refine Nx.zx ?_ | fail
    exact Nx.again (i + 1, Ap, cp) hiv (by dsimp only; omega) ⟨rfl, rfl, rfl, by dsimp only; rw [hout]; rfl, rfl, rfl, rfl, trivial⟩ (by dsimp only; rw [hout]; (exact Ent.auto))
end Go.Proofs.YtpcnapidlhpbkaaGreatDoor
/- Contracts of functions of the given program, and lemmas about plain lists and numbers: what the laws of this seat lean on. -/
namespace Go.Proofs.YtpcnapidlhpbkaaGreatDoor
open Go.Eng Go.Sol
attribute [local irreducible] opK wpList Code.wp Exit.then Exit.inBlock fnPost bodyPost Nx Calls Oper.wp Rd Rds Wr Ent Stars Blk Again Vec FnSpec wpMix QRun Stop Upto wpAt
/-! Plain: equations with which a table agrees -/
theorem valid30 {N : Nat} {qs : List EqR} (hN : 1 ≤ N ∧ N ≤ 48) (hl : qs.length ≤ 1152) (hg : ∀ q ∈ qs, GoodE N q) : validB (N : Int) qs = true := by
  unfold validB
  rw [decide_eq_true (show 1 ≤ (N : Int) ∧ (N : Int) ≤ 48 by omega), decide_eq_true hl]
  exact List.all_eq_true.2 fun q hq => rightB_iff.2 (hg q hq)
theorem sumC_bd {t : List Int} {most : Int} (h0 : 0 ≤ most) (ht : ∀ j, j < t.length → 0 ≤ t.getD j default ∧ t.getD j default ≤ most) : ∀ cs : List Nat, sumC t cs ≤ most * (cs.length : Int)
  | [] => by show (0 : Int) ≤ most * ((0 : Nat) : Int); omega
  | c :: cs => by
    have ih := sumC_bd h0 ht cs
    have hc : t.getD c 0 ≤ most := by
      by_cases h : c < t.length
      · exact (ht c h).2
      · rw [List.getD_eq_getElem?_getD, List.getElem?_eq_none (by omega)]; exact h0
    rw [sumC, List.length_cons]
    have : most * ((cs.length + 1 : Nat) : Int) = most * (cs.length : Int) + most := by rw [Int.natCast_add, Int.mul_add]; simp
    omega
theorem EqsOk.small {N : Nat} {t : List Int} {most : Int} {qs : List EqR} (h : EqsOk N t most qs) (hN : N ≤ 8) (h0 : 0 ≤ most) (hm : most ≤ 100) {q : EqR} (hq : q ∈ qs) : q.2 ≤ 1000 := by
  have hg := h.good q hq
  have h1 := sumC_bd h0 h.tab (eqn q).1
  rw [h.sum q hq] at h1
  have h2 : (eqn q).1.length ≤ 8 := by
    unfold eqn
    rw [List.length_map]
    have := asc_len (a := 0) (n := N) hg.asc fun y hy => by have := hg.lt y hy; omega
    omega
  have : most * ((eqn q).1.length : Int) ≤ 100 * 8 := Int.mul_le_mul hm (by omega) (by omega) (by omega)
  omega
theorem EqsOk.beq {N : Nat} {t : List Int} {most : Int} {qs : List EqR} (h : EqsOk N t most qs) (hN : N ≤ 8) (h0 : 0 ≤ most) (hm : most ≤ 100) : BEq N qs := ⟨by have := h.n; omega, by have := h.few; omega, h.good, fun _ hq => h.small hN h0 hm hq⟩
theorem chkB_of {N : Nat} {qs : List EqR} (h : BEq N qs) (hv : validB (N : Int) qs = true) {k : Int} (hk : 0 ≤ k ∧ k < N) : chkB (N : Int) qs k = 0 := by
  have hn := h.cnt
  have hl := h.len
  unfold chkB
  rw [if_neg, if_neg (by omega), if_neg]
  · rintro (h1 | h1)
    · obtain ⟨q, hq, hb⟩ := List.any_eq_true.1 h1
      have := h.val q hq
      have hb' : 1000 < q.2 := of_decide_eq_true hb
      omega
    · exact h1 hk
  · rintro (h1 | h1)
    · exact h1 (by omega)
    · rw [hv] at h1; cases h1
def tabF (t : List Int) : Nat → Rat := fun k => ((t.getD k 0 : Int) : Rat)
theorem ls_tab (t : List Int) : ∀ cs : List Nat, Bl.ls (cs.map (tabF t)) = ((sumC t cs : Int) : Rat)
  | [] => rfl
  | c :: cs => by
    rw [List.map_cons, Bl.ls, ls_tab t cs, sumC, Rat.intCast_add]; rfl
/-- The table is a point. -/
theorem EqsOk.feas {N : Nat} {t : List Int} {most : Int} {qs : List EqR} (h : EqsOk N t most qs) : Bl.Feas (toQ N qs) (tabF t) := by
  have hlen := h.len
  refine ⟨fun k hk => ?_, fun i hi => ?_⟩
  · have hk : k < N := hk
    have := (h.tab k (by omega)).1
    have e : (0 : Rat) = ((0 : Int) : Rat) := rfl
    rw [e]
    exact Rat.intCast_le_intCast.2 this
  · have hm : qs.getD i default ∈ qs := getD_memQ hi
    have hg := h.good _ hm
    have h1 := h.sum _ hm
    have h2 := ls_tab t (eqn (qs.getD i default)).1
    rw [h1] at h2
    have h3 := Bl.ls_asc (tabF t) N (qs.getD i default).1.2.2 hg.asc (fun x hx => hg.lt x hx)
    rw [show (toQ N qs).val i = (qs.getD i default).2 from rfl, ← h2]
    unfold eqn
    rw [List.map_map]
    exact h3.symm
theorem eqs30 {A : Option Addr} {c : Nat} {qs : List EqR} {m m1 m2 I' : PH} (hm : PH.le m I') (h1 : Vec 46 2 A qs.length c (qs.flatMap eqC) m1) (hm1 : PH.le m1 m) (h2 : Stars (qs.map fun q => rowR q.1) m2) (hm2 : PH.le m2 m) : Eqs I' A c qs := by
  refine ⟨Vec.sliceN (t := 46) (hm1.trans hm) h1 fun x _ => eqC_len x, fun q hq => ?_⟩
  obtain ⟨i, hi, rfl⟩ := List.mem_iff_getElem.1 hq
  obtain ⟨m3, d3, h3⟩ := Stars.nth (i := i) (r := rowR qs[i].1) h2 (by rw [List.getElem?_map, List.getElem?_eq_getElem hi]; rfl)
  exact Vec.sliceOf (t := 3) ((d3.trans hm2).trans hm) h3
theorem Nx.giveEq30 {C : Cx} {e : Env} {I : PH} {R : List Res} {K : Act → World → Prop} {At A : Option Addr} {ct c : Nat} {t : List Int} {qs : List EqR} {RR : List Res}
    (hR : Ent R (Stars (iR At ct t :: eqsR A c qs) :: RR)) (h : ∀ I', PH.le I I' → Ints I' At ct t → Eqs I' A c qs → Nx C e I' RR K) : Nx C e I R K := by
  refine Nx.ent hR ?_
  refine Nx.freezeAt 0 rfl fun I1 m1 hI1 hm1 h1 => ?_
  obtain ⟨a1, ha1, b1⟩ := Stars.get 0 h1 rfl
  obtain ⟨a2, ha2, b2⟩ := Stars.get 1 h1 rfl
  obtain ⟨a3, ha3, b3⟩ := Stars.get 2 h1 rfl
  exact h I1 hI1 (Vec.sliceOf (ha1.trans hm1) b1) (eqs30 hm1 b2 ha2 b3 ha3)
set_option maxHeartbeats 8000000 in
/-- What Bounds answers for made equations. -/
theorem bBounds_made {N : Nat} {t : List Int} {most : Int} {qs : List EqR} (h : EqsOk N t most qs) (hN : N ≤ 8) (h0 : 0 ≤ most) (hm : most ≤ 100) (A : Option Addr) (c : Nat) (I : PH) (hl : Eqs I A c qs) (hT : TabI I) :
    FnSpec Tryz.prog 17 [.int .i64 (N : Int), .slice A qs.length c] I []
      (fun v R' => ∃ (A' : Option Addr) (c' : Nat) (L : List IvR), L.length = N ∧ (∀ k, k < N → IvOk (toQ N qs) k (L.getD k default)) ∧ v = .tuple #[.slice A' L.length c', .int .i64 0] ∧ R' = [Vec 50 5 A' L.length c' (L.flatMap ivC)]) := by
  have hn := h.n
  have hc := chkB_of (h.beq hN h0 hm) (valid30 h.n (by have := h.few; omega) h.good) (k := 0) (by omega)
  refine FnSpec.mono (bBounds_spec (N : Int) A c qs I hl hT) fun v R' hv => ?_
  rcases hv.2 hc with ⟨hno, _⟩ | ⟨_, A', c', L, hL, hok, h1, h2⟩
  · exact absurd ⟨_, h.feas⟩ hno
  · rw [Int.toNat_natCast] at hL hok
    exact ⟨A', c', L, hL, hok, h1, h2⟩
end Go.Proofs.YtpcnapidlhpbkaaGreatDoor
/- Contracts of functions of the given program, and lemmas about plain lists and numbers: what the laws of this seat lean on. -/
namespace Go.Proofs.YtpcnapidlhpbkaaGreatDoor
open Go.Eng Go.Sol
theorem Rds.sub {W : World} {I : PH} {R : List Res} {A : Addr} {vs us : List Value} (h : Rds W I R A vs) (o : Nat) (hs : ∀ j u, us[j]? = some u → vs[o + j]? = some u) : Rds W I R (A.add o) us := fun j u hj => by
  have := h (o + j) u (hs j u hj)
  rwa [← Addr.add_add] at this
theorem iv_low {W : World} {I : PH} {R : List Res} {A : Option Addr} {c : Nat} {L : List IvR} {k : Nat} (h : SliceN ivC 5 I A c L) (hk : k < L.length) : Rds W I R (((ad A).add (k * 5)).add 0) (ratC (L.getD k default).1) := Rds.sub (h.rds hk) 0 fun j u hj => by
  match j, hj with
  | 0, hj => exact hj
  | 1, hj => exact hj
  | j + 2, hj => cases hj
theorem iv_high {W : World} {I : PH} {R : List Res} {A : Option Addr} {c : Nat} {L : List IvR} {k : Nat} (h : SliceN ivC 5 I A c L) (hk : k < L.length) : Rds W I R (((ad A).add (k * 5)).add 2) (ratC (L.getD k default).2.1) := Rds.sub (h.rds hk) 2 fun j u hj => by
  match j, hj with
  | 0, hj => exact hj
  | 1, hj => exact hj
  | j + 2, hj => cases hj
attribute [local irreducible] opK wpList Code.wp Exit.then Exit.inBlock fnPost bodyPost Nx Calls Oper.wp Rd Rds Wr Ent Stars Blk Again Vec FnSpec wpMix QRun Stop Upto wpAt
/-! Sums of bounds -/
set_option maxHeartbeats 8000000 in
theorem addRaw_spec (a : RawF) (p q : Rat) (ha : a = (0, 0) ∨ (RB p ∧ a = rawOf p)) (hq : RB q) (I : PH) :
    FnSpec Tryz.prog 18 [.agg #[.int .i64 a.1, .int .i64 a.2], ratV q] I [] (fun v R' => (∃ (a' : RawF) (e : Int), v = .tuple #[.agg #[.int .i64 a'.1, .int .i64 a'.2], .int .i64 e] ∧ (a' = (0, 0) ∨ (RB (p + q) ∧ a' = rawOf (p + q)))) ∧ R' = []) := by
  rcases ha with rfl | ⟨hp, rfl⟩
  · refine FnSpec.mono (rAdd_spec 0 0 q.num q.den (by unfold I64; omega) (by unfold I64; omega) (rat_i64 hq).1 (rat_i64 hq).2 I) fun v R' h => ?_
    obtain ⟨rfl, h2⟩ := h
    refine ⟨⟨(0, 0), 11, ?_, .inl rfl⟩, h2⟩
    unfold opV
    rw [if_neg (fun h => by have := h.1.1; omega)]; rfl
  · refine FnSpec.mono (rAdd_rat p q hp hq I) fun v R' h => ?_
    obtain ⟨rfl, h2⟩ := h
    by_cases hb : RB (p + q)
    · exact ⟨⟨rawOf (p + q), 0, redV_pos hb, .inr ⟨hb, rfl⟩⟩, h2⟩
    · exact ⟨⟨(0, 0), 14, redV_neg hb, .inl rfl⟩, h2⟩
set_option maxHeartbeats 8000000 in
theorem lessRaw1 (a : RawF) (p v : Rat) (ha : a = (0, 0) ∨ (RB p ∧ a = rawOf p)) (hv : RB v) (hn : p ≤ v) (I : PH) :
    FnSpec Tryz.prog 19 [ratV v, .agg #[.int .i64 a.1, .int .i64 a.2]] I [] (fun u R' => u = .bool false ∧ R' = []) := by
  rcases ha with rfl | ⟨hp, rfl⟩
  · have := rLess_spec v.num v.den 0 0 (rat_i64 hv).1 (rat_i64 hv).2 (by unfold I64; omega) (by unfold I64; omega) I
    rw [decide_eq_false (fun h => by have := h.2.1.1; omega)] at this
    exact this
  · have := rLess_rat v p hv hp I
    rw [decide_eq_false (Rat.not_lt.2 hn)] at this
    exact this
set_option maxHeartbeats 8000000 in
theorem lessRaw2 (a : RawF) (p v : Rat) (ha : a = (0, 0) ∨ (RB p ∧ a = rawOf p)) (hv : RB v) (hn : v ≤ p) (I : PH) :
    FnSpec Tryz.prog 19 [.agg #[.int .i64 a.1, .int .i64 a.2], ratV v] I [] (fun u R' => u = .bool false ∧ R' = []) := by
  rcases ha with rfl | ⟨hp, rfl⟩
  · have := rLess_spec 0 0 v.num v.den (by unfold I64; omega) (by unfold I64; omega) (rat_i64 hv).1 (rat_i64 hv).2 I
    rw [decide_eq_false (fun h => by have := h.1.1; omega)] at this
    exact this
  · have := rLess_rat p v hp hv I
    rw [decide_eq_false (Rat.not_lt.2 hn)] at this
    exact this
def sumT (f : Nat → Rat) (L : List Int) (j : Nat) : Rat := Bl.ls ((L.take j).map fun c => f c.toNat)
theorem sumT_succ {f : Nat → Rat} {L : List Int} {j cN : Nat} (h : j < L.length) (hc : L.getD j default = (cN : Int)) : sumT f L (j + 1) = sumT f L j + f cN := by
  unfold sumT
  rw [take_snocJ h, List.map_append, Bl.ls_app, List.map_cons, List.map_nil, Bl.ls, Bl.ls, hc, Int.toNat_natCast, Rat.add_zero]
set_option maxRecDepth 10000 in
set_option maxHeartbeats 32000000 in
theorem BoundsSums_spec (A : Option Addr) (c : Nat) (l : List Int) (I : PH) (hl : Bytes I A c l) (hx : ∀ x ∈ l, 0 ≤ x ∧ x < 256) (hT : TabI I) :
    FnSpec Tryz.prog 4 [.slice A l.length c] I [] (fun v R' => v = .bool true ∧ R' = []) := by
  have hL := bytes_take hl hx
  refine FnSpec.enterP Tryz.func4 rfl Tryz.ntmps4 rfl fun w F => ?_
  repeat' first
    | ((with_reducible refine Nx.is_wp ?_); first | refine Nx.p_stopr 3 rfl ?_ | refine Nx.wo ?_ | refine Nx.zp (fun hc => ?_) (fun hc => ?_))
    | (refine Nx.zo ?_; first | refine Nx.opr rfl rfl ?_ | (refine Nx.call (Rpre := []) rfl rfl rfl (by kernel_rfl) rfl (New_codes A c l I hl) (Ent.refl _) ?_; rintro _ _ ⟨b, rfl, rfl⟩) | (refine Nx.call rfl rfl rfl (by kernel_rfl) rfl (Equations_made8 b A c _ 0 4 I hL (Nat.zero_le _) (by omega)) (by (exact Ent.auto)) ?_; rintro _ _ ⟨N, At, ct, t, Aq, cq, qs, k1, rfl, ⟨hE, hN8⟩, hk1, rfl⟩) | refine Nx.so ?_ | refine Nx.sb (fun bx => ?_) | refine Nx.sa (fun A2 c2 => ?_))
    | ((with_reducible refine Nx.is_at ?_); first | refine Nx.a ?_ | refine Nx.zd ?_ | refine Nx.zs (fun hc => ?_) (fun hc => ?_))
    | ((with_reducible refine Nx.is_mix ?_); first | refine Nx.m ?_ | refine Nx.zm ?_ | refine Nx.zt (fun hc => ?_) (fun hc => ?_))
    | refine Nx.zx ?_ | fail
  refine Nx.unstop ?_
  refine Nx.giveEq30 (At := At) (ct := ct) (t := t) (A := Aq) (c := cq) (qs := qs) (RR := [F]) (by refine Ent.trans ?_ Ent.stars; unfold eqsR; (exact Ent.auto)) fun I1 hI1 ht hq => ?_
  have hN := hE.n
  have hfew := hE.few
  have hfeas := hE.feas
  have hB := bBounds_made hE hN8 (by omega) (by omega) Aq cq I1 hq (tab_mono hI1 hT)
  repeat' first
    | ((with_reducible refine Nx.is_wp ?_); first | refine Nx.p_stop 4 rfl ?_ | refine Nx.wo ?_ | refine Nx.zp (fun hc => ?_) (fun hc => ?_))
    | (refine Nx.zo ?_; first | refine Nx.opr rfl rfl ?_ | (refine Nx.call (Rpre := []) rfl rfl rfl (by kernel_rfl) rfl hB (Ent.refl _) ?_; rintro v R' ⟨A1, c1, L, hLl, hok, rfl, rfl⟩) | refine Nx.so ?_ | refine Nx.sb (fun bx => ?_) | refine Nx.sa (fun A2 c2 => ?_))
    | ((with_reducible refine Nx.is_at ?_); first | refine Nx.a ?_ | refine Nx.zd ?_ | refine Nx.zs (fun hc => ?_) (fun hc => ?_))
    | ((with_reducible refine Nx.is_mix ?_); first | refine Nx.m ?_ | refine Nx.zm ?_ | refine Nx.zt (fun hc => ?_) (fun hc => ?_))
    | refine Nx.zx ?_ | fail
  refine Nx.unstop ?_
  refine Nx.freezeAt 0 rfl fun I2 m2 hI2 hm2 hf2 => ?_
  have hIv : SliceN ivC 5 I2 A1 c1 L := Vec.sliceN (t := 50) hm2 hf2 fun _ _ => rfl
  replace hq := hq.mono hI2
  have hI12 := hI1.trans hI2
  have hLN : (L.length : Int) = (N : Int) := by omega
  repeat' first
    | ((with_reducible refine Nx.is_wp ?_); first | refine Nx.wo ?_ | refine Nx.zp (fun hc => ?_) (fun hc => ?_))
    | (refine Nx.zo ?_; first | refine Nx.opr rfl rfl ?_ | refine Nx.so ?_ | refine Nx.sb (fun bx => ?_) | refine Nx.sa (fun A2 c2 => ?_))
    | ((with_reducible refine Nx.is_at ?_); first | refine Nx.a ?_ | refine Nx.zd ?_ | refine Nx.zs (fun hc => ?_) (fun hc => ?_))
    | ((with_reducible refine Nx.is_mix ?_); first | refine Nx.m ?_ | refine Nx.zm ?_ | refine Nx.zt (fun hc => ?_) (fun hc => ?_))
    | refine Nx.zx ?_ | fail
  refine Nx.p_loop (σ := Nat) (fun i => [(4, .int .i64 (N : Int)), (7, .slice A1 L.length c1), (38, .slice Aq qs.length cq), (39, .int .i64 qs.length), (40, .int .i64 (i : Int))])
    (fun _ => [F]) (fun i => i ≤ qs.length) (fun i => qs.length - i) 0 rfl (Nat.zero_le _) ⟨rfl, rfl, rfl, rfl, rfl, trivial⟩ (by (exact Ent.auto)) ?_
  intro i hi
  have hi : i ≤ qs.length := hi
  by_cases him : i < qs.length
  case neg =>
    repeat' first
      | ((with_reducible refine Nx.is_wp ?_); first | refine Nx.wo ?_ | refine Nx.zp (fun hc => ?_) (fun hc => ?_))
      | (refine Nx.zo ?_; first | refine Nx.opr rfl rfl ?_ | refine Nx.callv rfl rfl rfl (by kernel_rfl) rfl (awakeB_spec _ (tab_mono hI12 hT)) ?_ | refine Nx.so ?_ | refine Nx.sb (fun bx => ?_) | refine Nx.sa (fun A2 c2 => ?_))
      | ((with_reducible refine Nx.is_at ?_); first | refine Nx.a ?_ | refine Nx.zd ?_ | refine Nx.zs (fun hc => ?_) (fun hc => ?_))
      | ((with_reducible refine Nx.is_mix ?_); first | refine Nx.m ?_ | refine Nx.zm ?_ | refine Nx.zt (fun hc => ?_) (fun hc => ?_))
      | refine Nx.zx ?_ | fail
    exact Nx.imm_le hI12 (Nx.ret_fn rfl [] ⟨rfl, rfl⟩ (by (exact Ent.auto)))
  have hm := getD_memQ him
  have hgood := hE.good _ hm
  have hval := hE.small hN8 (by omega) (by omega) hm
  have hin := hq.inner _ hm
  have hrds : ∀ (W : World) (R : List Res), Rds W I2 R ((ad Aq).add (i * 2)) (eqC (qs.getD i default)) := fun W R => hq.outer.rds him
  have hA := hq.outer.isSome (by omega) (by omega)
  have hcell : ∀ k, (toQ N qs).cell i k = decide ((k : Int) ∈ (qs.getD i default).1.2.2) := fun k => rfl
  have hqv : (toQ N qs).val i = (qs.getD i default).2 := rfl
  generalize qs.getD i default = q at hm hgood hval hin hrds hcell hqv
  have hlt := hgood.lt
  have hasc := hgood.asc
  have hne := hgood.ne
  have hpos := hgood.val
  have hLn := asc_len (a := 0) (n := N) hgood.asc fun y hy => by have := hlt y hy; omega
  clear hgood
  obtain ⟨⟨Ax, cx, C⟩, vx⟩ := q
  dsimp only at hval hin hlt hasc hne hpos hLn hcell hqv
  have hCl := hin.len
  have himq : i < (toQ N qs).m := him
  have hsum := hfeas.sum himq (L := C) hasc (fun y hy => hlt y hy) hcell
  rw [hqv] at hsum
  have hlow : sumT (fun k => (L.getD k default).1) C C.length ≤ (vx : Rat) := by
    rw [← hsum]
    unfold sumT
    rw [List.take_length]
    refine Bl.ls_le C fun y hy => ?_
    have := hlt y hy
    exact (hok y.toNat (by omega)).low.low hfeas
  have hin2 : ∀ y ∈ C, (L.getD y.toNat default).2.2 = false := fun y hy => by
    have hy2 := hlt y hy
    have ho := (hok y.toNat (by omega)).opn
    cases hc : (L.getD y.toNat default).2.2 with
    | false => rfl
    | true =>
      have := ho.1 hc i himq
      rw [hcell, show ((y.toNat : Nat) : Int) = y by omega, decide_eq_true hy] at this
      cases this
  have hhigh : (vx : Rat) ≤ sumT (fun k => (L.getD k default).2.1) C C.length := by
    rw [← hsum]
    unfold sumT
    rw [List.take_length]
    refine Bl.ls_le C fun y hy => ?_
    have := hlt y hy
    exact ((hok y.toNat (by omega)).high (hin2 y hy)).high hfeas
  have hRv : RB (vx : Rat) := RB_int (by omega)
  repeat' first
    | ((with_reducible refine Nx.is_wp ?_); first | refine Nx.wo ?_ | refine Nx.zp (fun hc => ?_) (fun hc => ?_))
    | (refine Nx.zo ?_; first | refine Nx.opr rfl rfl ?_ | refine Nx.indexAddr_nat (A := Aq) (i := i) (sz := 2) rfl rfl rfl rfl rfl him hA ?_ | refine Nx.loads rfl rfl rfl rfl (hrds _ _) rfl ?_ | refine Nx.so ?_ | refine Nx.sb (fun bx => ?_) | refine Nx.sa (fun A2 c2 => ?_))
    | ((with_reducible refine Nx.is_at ?_); first | refine Nx.a ?_ | refine Nx.zd ?_ | refine Nx.zs (fun hc => ?_) (fun hc => ?_))
    | ((with_reducible refine Nx.is_mix ?_); first | refine Nx.m ?_ | refine Nx.zm ?_ | refine Nx.zt (fun hc => ?_) (fun hc => ?_))
    | refine Nx.zx ?_ | fail
  rename_i b10 b11
  revert bx; intro b12
  refine Nx.p_loop (σ := Nat × RawF × RawF) (fun z => [(4, .int .i64 (N : Int)), (7, .slice A1 L.length c1), (10, .pointer (some ⟨b10, 0, none⟩)), (11, .pointer (some ⟨b11, 0, none⟩)), (12, .pointer (some ⟨b12, 0, none⟩)), (38, .slice Aq qs.length cq), (39, .int .i64 qs.length), (40, .int .i64 (i : Int)), (47, .slice Ax C.length cx), (48, .int .i64 C.length), (49, .int .i64 (z.1 : Int))])
    (fun z => [Blk b11 24 [.int .i64 z.2.1.1, .int .i64 z.2.1.2], Blk b12 24 [.int .i64 z.2.2.1, .int .i64 z.2.2.2], Blk b10 46 [.slice Ax C.length cx, .int .i64 vx], F])
    (fun z => z.1 ≤ C.length ∧ (z.2.1 = (0, 0) ∨ (RB (sumT (fun k => (L.getD k default).1) C z.1) ∧ z.2.1 = rawOf (sumT (fun k => (L.getD k default).1) C z.1))) ∧ (z.2.2 = (0, 0) ∨ (RB (sumT (fun k => (L.getD k default).2.1) C z.1) ∧ z.2.2 = rawOf (sumT (fun k => (L.getD k default).2.1) C z.1)))) (fun z => C.length - z.1) (0, (0, 1), (0, 1)) rfl ⟨Nat.zero_le _, .inr ⟨(show RB (0 : Rat) from ⟨by decide, by decide⟩), rfl⟩, .inr ⟨(show RB (0 : Rat) from ⟨by decide, by decide⟩), rfl⟩⟩ ⟨rfl, rfl, rfl, rfl, rfl, rfl, rfl, rfl, rfl, rfl, rfl, trivial⟩ (by (exact Ent.auto)) ?_
  rintro ⟨j, lo, hi'⟩ ⟨hj, hlo, hhi⟩
  dsimp only at hj hlo hhi ⊢
  by_cases hjC : j < C.length
  · have hrd : ∀ (W : World) (R : List Res), Rd W I2 R ((ad Ax).add (j * 1)) (.int .i64 (C.getD j default)) := fun W R => hin.rd hjC
    have hcb := hlt (C.getD j default) (by rw [List.getD_eq_getElem?_getD, List.getElem?_eq_getElem hjC]; exact List.getElem_mem _)
    obtain ⟨cN, hcN⟩ : ∃ cN : Nat, C.getD j default = (cN : Int) := ⟨(C.getD j default).toNat, by omega⟩
    have hs1 := sumT_succ (f := fun k => (L.getD k default).1) hjC hcN
    have hs2 := sumT_succ (f := fun k => (L.getD k default).2.1) hjC hcN
    rw [hcN] at hrd hcb
    have hcNN : cN < N := by omega
    have hcL : cN < L.length := by omega
    have hokc := hok cN hcNN
    have hAx := hin.isSome (by omega)
    have hA1 := hIv.isSome (by omega) (by omega)
    have hl0 := fun (W : World) (R : List Res) => iv_low (W := W) (R := R) hIv hcL
    have hl2 := fun (W : World) (R : List Res) => iv_high (W := W) (R := R) hIv hcL
    have hM1 := addRaw_spec lo _ (L.getD cN default).1 hlo hokc.rlow I2
    have hM2 := addRaw_spec hi' _ (L.getD cN default).2.1 hhi hokc.rhigh I2
    rw [← hs1] at hM1
    rw [← hs2] at hM2
    clear hs1 hs2
    generalize (L.getD cN default).1 = y1 at hl0 hM1
    generalize (L.getD cN default).2.1 = y2 at hl2 hM2
    repeat' first
      | ((with_reducible refine Nx.is_wp ?_); first | refine Nx.wo ?_ | refine Nx.zp (fun hc => ?_) (fun hc => ?_))
      | (refine Nx.zo ?_; first | refine Nx.opr rfl rfl ?_ | refine Nx.indexAddr_nat (A := Ax) (i := j) (sz := 1) rfl rfl rfl rfl rfl hjC hAx ?_ | refine Nx.load rfl rfl rfl (hrd _ _) ?_ | refine Nx.so ?_ | refine Nx.sb (fun bx => ?_) | refine Nx.sa (fun A2 c2 => ?_))
      | ((with_reducible refine Nx.is_at ?_); first | refine Nx.a ?_ | refine Nx.zd ?_ | refine Nx.zs (fun hc => ?_) (fun hc => ?_))
      | ((with_reducible refine Nx.is_mix ?_); first | refine Nx.m ?_ | refine Nx.zm ?_ | refine Nx.zt (fun hc => ?_) (fun hc => ?_))
      | refine Nx.zx ?_ | fail
    refine Nx.p_forkF (id := 13) rfl [9, 10] [10] [10] [Blk b11 24 [.int .i64 lo.1, .int .i64 lo.2], Blk b12 24 [.int .i64 hi'.1, .int .i64 hi'.2], Blk b10 46 [.slice Ax C.length cx, .int .i64 vx], F] rfl rfl (by kernel_rfl) (by kernel_rfl) (by repeat first | exact PanicOk.fn | refine PanicOk.then_ ?_ | refine PanicOk.inB ?_) (by (exact Ent.auto)) ?_
    refine Nx.forkF_qs [0, 1, 2, 3, 4, 5] 5 rfl (by kernel_rfl) ?_
    repeat' first
      | ((with_reducible refine Nx.is_wp ?_); first | refine Nx.wo ?_ | refine Nx.zp (fun hc => ?_) (fun hc => ?_))
      | (refine Nx.zo ?_; first | refine Nx.opr rfl rfl ?_ | refine Nx.so ?_ | refine Nx.sb (fun bx => ?_) | refine Nx.sa (fun A2 c2 => ?_))
      | ((with_reducible refine Nx.is_at ?_); first | refine Nx.a ?_ | refine Nx.zd ?_ | refine Nx.zs (fun hc => ?_) (fun hc => ?_))
      | ((with_reducible refine Nx.is_mix ?_); first | refine Nx.m_quiet rfl rfl rfl rfl rfl (by first | exact QRun.fld (A := (ad A1).add (cN * 5)) rfl rfl | exact QRun.opr rfl | exact QRun.idx (A := A1) (i := cN) (sz := 5) rfl rfl rfl rfl hcL hA1 | exact QRun.loads rfl rfl rfl (hl0 _ _) rfl | exact QRun.loads rfl rfl rfl (Rds.cut 0 2 rfl rfl) rfl) ?_ | refine Nx.m_quiet_do rfl rfl rfl rfl rfl rfl rfl (by first | exact QRun.fld (A := (ad A1).add (cN * 5)) rfl rfl | exact QRun.opr rfl | exact QRun.idx (A := A1) (i := cN) (sz := 5) rfl rfl rfl rfl hcL hA1 | exact QRun.loads rfl rfl rfl (hl0 _ _) rfl | exact QRun.loads rfl rfl rfl (Rds.cut 0 2 rfl rfl) rfl) ?_ | refine Nx.m ?_ | refine Nx.zm ?_ | refine Nx.zt (fun hc => ?_) (fun hc => ?_))
      | refine Nx.zx ?_ | fail
    refine Nx.forkF1 (i := 6) (by kernel_rfl) rfl rfl ?_
    refine Nx.call rfl rfl rfl (by kernel_rfl) rfl hM1 (by (exact Ent.auto)) ?_
    rintro _ _ ⟨⟨lo', e1, rfl, hlo'⟩, rfl⟩
    refine Nx.mix_S (by (exact Ent.auto)) ?_
    refine Nx.forkF_qs [7] 3 rfl (by kernel_rfl) ?_
    repeat' first
      | ((with_reducible refine Nx.is_wp ?_); first | refine Nx.wo ?_ | refine Nx.zp (fun hc => ?_) (fun hc => ?_))
      | (refine Nx.zo ?_; first | refine Nx.opr rfl rfl ?_ | refine Nx.so ?_ | refine Nx.sb (fun bx => ?_) | refine Nx.sa (fun A2 c2 => ?_))
      | ((with_reducible refine Nx.is_at ?_); first | refine Nx.a ?_ | refine Nx.zd ?_ | refine Nx.zs (fun hc => ?_) (fun hc => ?_))
      | ((with_reducible refine Nx.is_mix ?_); first | refine Nx.m ?_ | refine Nx.zm ?_ | refine Nx.zt (fun hc => ?_) (fun hc => ?_))
      | refine Nx.zx ?_ | fail
    refine Nx.forkF_m 9 (by kernel_rfl) ?_
    repeat' first
      | ((with_reducible refine Nx.is_wp ?_); first | refine Nx.wo ?_ | refine Nx.zp (fun hc => ?_) (fun hc => ?_))
      | (refine Nx.zo ?_; first | refine Nx.opr rfl rfl ?_ | refine Nx.so ?_ | refine Nx.sb (fun bx => ?_) | refine Nx.sa (fun A2 c2 => ?_))
      | ((with_reducible refine Nx.is_at ?_); first | refine Nx.a ?_ | refine Nx.zd ?_ | refine Nx.zs (fun hc => ?_) (fun hc => ?_))
      | ((with_reducible refine Nx.is_mix ?_); first | refine Nx.m ?_ | refine Nx.zm ?_ | refine Nx.zt (fun hc => ?_) (fun hc => ?_))
      | refine Nx.zx ?_ | fail
    refine Nx.forkF_qs [8] 1 rfl (by kernel_rfl) ?_
    repeat' first
      | ((with_reducible refine Nx.is_wp ?_); first | refine Nx.wo ?_ | refine Nx.zp (fun hc => ?_) (fun hc => ?_))
      | (refine Nx.zo ?_; first | refine Nx.opr rfl rfl ?_ | refine Nx.so ?_ | refine Nx.sb (fun bx => ?_) | refine Nx.sa (fun A2 c2 => ?_))
      | ((with_reducible refine Nx.is_at ?_); first | refine Nx.a ?_ | refine Nx.zd ?_ | refine Nx.zs (fun hc => ?_) (fun hc => ?_))
      | ((with_reducible refine Nx.is_mix ?_); first | refine Nx.m ?_ | refine Nx.zm ?_ | refine Nx.zt (fun hc => ?_) (fun hc => ?_))
      | refine Nx.zx ?_ | fail
    refine Nx.forkF_fin (by kernel_rfl) (by kernel_rfl) rfl ?_
    repeat' first
      | ((with_reducible refine Nx.is_wp ?_); first | refine Nx.wo ?_ | refine Nx.zp (fun hc => ?_) (fun hc => ?_))
      | (refine Nx.zo ?_; first | refine Nx.opr rfl rfl ?_ | refine Nx.so ?_ | refine Nx.sb (fun bx => ?_) | refine Nx.sa (fun A2 c2 => ?_))
      | ((with_reducible refine Nx.is_at ?_); first | refine Nx.a ?_ | refine Nx.zd ?_ | refine Nx.zs (fun hc => ?_) (fun hc => ?_))
      | ((with_reducible refine Nx.is_mix ?_); first | refine Nx.m ?_ | refine Nx.zm ?_ | refine Nx.zt (fun hc => ?_) (fun hc => ?_))
      | refine Nx.zx ?_ | fail
    refine Nx.p_forkF (id := 14) rfl [9, 10] [10] [10] [Blk b11 24 [.int .i64 lo'.1, .int .i64 lo'.2], Blk b12 24 [.int .i64 hi'.1, .int .i64 hi'.2], Blk b10 46 [.slice Ax C.length cx, .int .i64 vx], F] rfl rfl (by kernel_rfl) (by kernel_rfl) (by repeat first | exact PanicOk.fn | refine PanicOk.then_ ?_ | refine PanicOk.inB ?_) (by (exact Ent.auto)) ?_
    refine Nx.ent (R' := [Blk b11 24 [.int .i64 lo'.1, .int .i64 lo'.2], Blk b12 24 [.int .i64 hi'.1, .int .i64 hi'.2], Blk b10 46 [.slice Ax C.length cx, .int .i64 vx], F]) (by (exact Ent.auto)) ?_
    refine Nx.forkF_qs [0, 1, 2, 3, 4, 5] 5 rfl (by kernel_rfl) ?_
    repeat' first
      | ((with_reducible refine Nx.is_wp ?_); first | refine Nx.wo ?_ | refine Nx.zp (fun hc => ?_) (fun hc => ?_))
      | (refine Nx.zo ?_; first | refine Nx.opr rfl rfl ?_ | refine Nx.so ?_ | refine Nx.sb (fun bx => ?_) | refine Nx.sa (fun A2 c2 => ?_))
      | ((with_reducible refine Nx.is_at ?_); first | refine Nx.a ?_ | refine Nx.zd ?_ | refine Nx.zs (fun hc => ?_) (fun hc => ?_))
      | ((with_reducible refine Nx.is_mix ?_); first | refine Nx.m_quiet rfl rfl rfl rfl rfl (by first | exact QRun.fld (A := (ad A1).add (cN * 5)) rfl rfl | exact QRun.opr rfl | exact QRun.idx (A := A1) (i := cN) (sz := 5) rfl rfl rfl rfl hcL hA1 | exact QRun.loads rfl rfl rfl (hl2 _ _) rfl | exact QRun.loads rfl rfl rfl (Rds.cut 1 2 rfl rfl) rfl) ?_ | refine Nx.m_quiet_do rfl rfl rfl rfl rfl rfl rfl (by first | exact QRun.fld (A := (ad A1).add (cN * 5)) rfl rfl | exact QRun.opr rfl | exact QRun.idx (A := A1) (i := cN) (sz := 5) rfl rfl rfl rfl hcL hA1 | exact QRun.loads rfl rfl rfl (hl2 _ _) rfl | exact QRun.loads rfl rfl rfl (Rds.cut 1 2 rfl rfl) rfl) ?_ | refine Nx.m ?_ | refine Nx.zm ?_ | refine Nx.zt (fun hc => ?_) (fun hc => ?_))
      | refine Nx.zx ?_ | fail
    refine Nx.forkF1 (i := 6) (by kernel_rfl) rfl rfl ?_
    refine Nx.call rfl rfl rfl (by kernel_rfl) rfl hM2 (by (exact Ent.auto)) ?_
    rintro _ _ ⟨⟨hi2, e2, rfl, hhi'⟩, rfl⟩
    refine Nx.mix_S (by (exact Ent.auto)) ?_
    refine Nx.forkF_qs [7] 3 rfl (by kernel_rfl) ?_
    repeat' first
      | ((with_reducible refine Nx.is_wp ?_); first | refine Nx.wo ?_ | refine Nx.zp (fun hc => ?_) (fun hc => ?_))
      | (refine Nx.zo ?_; first | refine Nx.opr rfl rfl ?_ | refine Nx.so ?_ | refine Nx.sb (fun bx => ?_) | refine Nx.sa (fun A2 c2 => ?_))
      | ((with_reducible refine Nx.is_at ?_); first | refine Nx.a ?_ | refine Nx.zd ?_ | refine Nx.zs (fun hc => ?_) (fun hc => ?_))
      | ((with_reducible refine Nx.is_mix ?_); first | refine Nx.m ?_ | refine Nx.zm ?_ | refine Nx.zt (fun hc => ?_) (fun hc => ?_))
      | refine Nx.zx ?_ | fail
    refine Nx.forkF_m 9 (by kernel_rfl) ?_
    repeat' first
      | ((with_reducible refine Nx.is_wp ?_); first | refine Nx.wo ?_ | refine Nx.zp (fun hc => ?_) (fun hc => ?_))
      | (refine Nx.zo ?_; first | refine Nx.opr rfl rfl ?_ | refine Nx.so ?_ | refine Nx.sb (fun bx => ?_) | refine Nx.sa (fun A2 c2 => ?_))
      | ((with_reducible refine Nx.is_at ?_); first | refine Nx.a ?_ | refine Nx.zd ?_ | refine Nx.zs (fun hc => ?_) (fun hc => ?_))
      | ((with_reducible refine Nx.is_mix ?_); first | refine Nx.m ?_ | refine Nx.zm ?_ | refine Nx.zt (fun hc => ?_) (fun hc => ?_))
      | refine Nx.zx ?_ | fail
    refine Nx.forkF_qs [8] 1 rfl (by kernel_rfl) ?_
    repeat' first
      | ((with_reducible refine Nx.is_wp ?_); first | refine Nx.wo ?_ | refine Nx.zp (fun hc => ?_) (fun hc => ?_))
      | (refine Nx.zo ?_; first | refine Nx.opr rfl rfl ?_ | refine Nx.so ?_ | refine Nx.sb (fun bx => ?_) | refine Nx.sa (fun A2 c2 => ?_))
      | ((with_reducible refine Nx.is_at ?_); first | refine Nx.a ?_ | refine Nx.zd ?_ | refine Nx.zs (fun hc => ?_) (fun hc => ?_))
      | ((with_reducible refine Nx.is_mix ?_); first | refine Nx.m ?_ | refine Nx.zm ?_ | refine Nx.zt (fun hc => ?_) (fun hc => ?_))
      | refine Nx.zx ?_ | fail
    refine Nx.forkF_fin (by kernel_rfl) (by kernel_rfl) rfl ?_
    repeat' first
      | ((with_reducible refine Nx.is_wp ?_); first | refine Nx.wo ?_ | refine Nx.zp (fun hc => ?_) (fun hc => ?_))
      | (refine Nx.zo ?_; first | refine Nx.opr rfl rfl ?_ | refine Nx.so ?_ | refine Nx.sb (fun bx => ?_) | refine Nx.sa (fun A2 c2 => ?_))
      | ((with_reducible refine Nx.is_at ?_); first | refine Nx.a ?_ | refine Nx.zd ?_ | refine Nx.zs (fun hc => ?_) (fun hc => ?_))
      | ((with_reducible refine Nx.is_mix ?_); first | refine Nx.m ?_ | refine Nx.zm ?_ | refine Nx.zt (fun hc => ?_) (fun hc => ?_))
      | refine Nx.zx ?_ | fail
    exact Nx.again (j + 1, lo', hi2) ⟨hjC, hlo', hhi'⟩ (by dsimp only; omega) ⟨rfl, rfl, rfl, rfl, rfl, rfl, rfl, rfl, rfl, rfl, rfl, trivial⟩ (by (exact Ent.auto))
  obtain rfl : j = C.length := by omega
  have hL1 := lessRaw1 lo _ _ hlo hRv hlow I2
  have hL2 := lessRaw2 hi' _ _ hhi hRv hhigh I2
  by_cases hC1 : (C.length : Int) = 1
  case neg =>
    repeat' first
      | ((with_reducible refine Nx.is_wp ?_); first | refine Nx.wo ?_ | refine Nx.p_drawF (id := 13) rfl [0, 1, 2, 3, 4, 5, 6, 7, 8, 9, 10] [6, 10] [] _ rfl rfl (by kernel_rfl) (by kernel_rfl) rfl (by repeat first | exact PanicOk.fn | refine PanicOk.then_ ?_ | refine PanicOk.inB ?_) (Ent.refl _) ?_ | refine Nx.p_drawF (id := 14) rfl [0, 1, 2, 3, 4, 5, 6, 7, 8, 9, 10] [6, 10] [] _ rfl rfl (by kernel_rfl) (by kernel_rfl) rfl (by repeat first | exact PanicOk.fn | refine PanicOk.then_ ?_ | refine PanicOk.inB ?_) (Ent.refl _) ?_ | refine Nx.p_drawF (id := 17) rfl [0, 1, 2, 3, 4, 5, 6, 7, 8, 9, 10, 11, 12, 13, 14, 15, 16, 17, 18, 19, 20, 21, 22, 23, 24, 25, 26, 27, 28, 29, 30, 31, 32, 33, 34, 35, 36, 37] [2, 6] [] _ rfl rfl (by kernel_rfl) (by kernel_rfl) rfl (by repeat first | exact PanicOk.fn | refine PanicOk.then_ ?_ | refine PanicOk.inB ?_) (Ent.refl _) ?_ | refine Nx.zp (fun hc => ?_) (fun hc => ?_))
      | (refine Nx.zo ?_; first | refine Nx.opr rfl rfl ?_ | refine Nx.callv rfl rfl rfl (by kernel_rfl) rfl hL1 ?_ | refine Nx.callv rfl rfl rfl (by kernel_rfl) rfl hL2 ?_ | refine Nx.so ?_ | refine Nx.sb (fun bx => ?_) | refine Nx.sa (fun A2 c2 => ?_))
      | ((with_reducible refine Nx.is_at ?_); first | refine Nx.a ?_ | refine Nx.zd ?_ | refine Nx.zs (fun hc => ?_) (fun hc => ?_))
      | ((with_reducible refine Nx.is_mix ?_); first | refine Nx.m_quiet rfl rfl rfl rfl rfl (by first | exact QRun.opr rfl | exact QRun.loads rfl rfl rfl (Rds.cut 0 2 rfl rfl) rfl | exact QRun.loads rfl rfl rfl (Rds.cut 1 2 rfl rfl) rfl | exact QRun.loads rfl rfl rfl (Rds.cut 2 2 rfl rfl) rfl) ?_ | refine Nx.m_quiet_do rfl rfl rfl rfl rfl rfl rfl (by first | exact QRun.opr rfl | exact QRun.loads rfl rfl rfl (Rds.cut 0 2 rfl rfl) rfl | exact QRun.loads rfl rfl rfl (Rds.cut 1 2 rfl rfl) rfl | exact QRun.loads rfl rfl rfl (Rds.cut 2 2 rfl rfl) rfl) ?_ | refine Nx.m ?_ | refine Nx.zm ?_ | refine Nx.zt (fun hc => ?_) (fun hc => ?_))
      | refine Nx.zx ?_ | fail
    exact Nx.again (i + 1) him (by omega) ⟨rfl, rfl, rfl, rfl, rfl, trivial⟩ (by (exact Ent.auto))
  obtain ⟨y, rfl⟩ : ∃ y, C = [y] := List.length_eq_one_iff.1 (by omega)
  have hyb := hlt y List.mem_cons_self
  obtain ⟨cN, rfl⟩ : ∃ cN : Nat, y = (cN : Int) := ⟨y.toNat, by omega⟩
  have hcNN : cN < N := by omega
  have hcL : cN < L.length := by omega
  have hokc := hok cN hcNN
  have hopn := hin2 (cN : Int) List.mem_cons_self
  rw [Int.toNat_natCast] at hopn
  have hv1 : (L.getD cN default).1 = (vx : Rat) := by rw [← hqv]; exact hokc.low.alone himq hcNN hcell
  have hv2 : (L.getD cN default).2.1 = (vx : Rat) := by rw [← hqv]; exact (hokc.high hopn).alone himq hcNN hcell
  have hl0 := fun (W : World) (R : List Res) => iv_low (W := W) (R := R) hIv hcL
  have hl2 := fun (W : World) (R : List Res) => iv_high (W := W) (R := R) hIv hcL
  rw [hv1] at hl0
  rw [hv2] at hl2
  have hrd : ∀ (W : World) (R : List Res), Rd W I2 R ((ad Ax).add (0 * 1)) (.int .i64 (cN : Int)) := fun W R => hin.rd (k := 0) (by show 0 < 1; omega)
  have hAx := hin.isSome (by show 0 < 1; omega)
  have hA1 := hIv.isSome (by omega) (by omega)
  have hE := fun {x y : Operand} (w : World) => neq_fracK (x := x) (y := y) (vx : Rat).num (vx : Rat).den (vx : Rat).num (vx : Rat).den false (decide_eq_false fun hh => hh ⟨rfl, rfl⟩) w
  repeat' first
    | ((with_reducible refine Nx.is_wp ?_); first | refine Nx.wo ?_ | refine Nx.p_drawF (id := 13) rfl [0, 1, 2, 3, 4, 5, 6, 7, 8, 9, 10] [6, 10] [] _ rfl rfl (by kernel_rfl) (by kernel_rfl) rfl (by repeat first | exact PanicOk.fn | refine PanicOk.then_ ?_ | refine PanicOk.inB ?_) (Ent.refl _) ?_ | refine Nx.p_drawF (id := 14) rfl [0, 1, 2, 3, 4, 5, 6, 7, 8, 9, 10] [6, 10] [] _ rfl rfl (by kernel_rfl) (by kernel_rfl) rfl (by repeat first | exact PanicOk.fn | refine PanicOk.then_ ?_ | refine PanicOk.inB ?_) (Ent.refl _) ?_ | refine Nx.p_drawF (id := 17) rfl [0, 1, 2, 3, 4, 5, 6, 7, 8, 9, 10, 11, 12, 13, 14, 15, 16, 17, 18, 19, 20, 21, 22, 23, 24, 25, 26, 27, 28, 29, 30, 31, 32, 33, 34, 35, 36, 37] [2, 6] [] _ rfl rfl (by kernel_rfl) (by kernel_rfl) rfl (by repeat first | exact PanicOk.fn | refine PanicOk.then_ ?_ | refine PanicOk.inB ?_) (Ent.refl _) ?_ | refine Nx.zp (fun hc => ?_) (fun hc => ?_))
    | (refine Nx.zo ?_; first | refine Nx.opr rfl rfl ?_ | refine Nx.callv rfl rfl rfl (by kernel_rfl) rfl hL1 ?_ | refine Nx.callv rfl rfl rfl (by kernel_rfl) rfl hL2 ?_ | refine Nx.so ?_ | refine Nx.sb (fun bx => ?_) | refine Nx.sa (fun A2 c2 => ?_))
    | ((with_reducible refine Nx.is_at ?_); first | refine Nx.a ?_ | refine Nx.zd ?_ | refine Nx.zs (fun hc => ?_) (fun hc => ?_))
    | ((with_reducible refine Nx.is_mix ?_); first | refine Nx.m_quiet rfl rfl rfl rfl rfl (by first | exact QRun.fld (A := (ad A1).add (cN * 5)) rfl rfl | exact QRun.opr rfl | exact QRun.loads rfl rfl rfl (Rds.cut 0 2 rfl rfl) rfl | exact QRun.loads rfl rfl rfl (Rds.cut 1 2 rfl rfl) rfl | exact QRun.loads rfl rfl rfl (Rds.cut 2 2 rfl rfl) rfl | exact QRun.idx (A := Ax) (i := 0) (sz := 1) rfl rfl rfl rfl (by show 0 < 1; omega) hAx | exact QRun.load rfl rfl (hrd _ _) | exact QRun.idx (A := A1) (i := cN) (sz := 5) rfl rfl rfl rfl hcL hA1 | exact QRun.loads rfl rfl rfl (hl0 _ _) rfl | exact QRun.loads rfl rfl rfl (hl2 _ _) rfl | exact QRun.binr rfl rfl hE) ?_ | refine Nx.m_quiet_do rfl rfl rfl rfl rfl rfl rfl (by first | exact QRun.fld (A := (ad A1).add (cN * 5)) rfl rfl | exact QRun.opr rfl | exact QRun.loads rfl rfl rfl (Rds.cut 0 2 rfl rfl) rfl | exact QRun.loads rfl rfl rfl (Rds.cut 1 2 rfl rfl) rfl | exact QRun.loads rfl rfl rfl (Rds.cut 2 2 rfl rfl) rfl | exact QRun.idx (A := Ax) (i := 0) (sz := 1) rfl rfl rfl rfl (by show 0 < 1; omega) hAx | exact QRun.load rfl rfl (hrd _ _) | exact QRun.idx (A := A1) (i := cN) (sz := 5) rfl rfl rfl rfl hcL hA1 | exact QRun.loads rfl rfl rfl (hl0 _ _) rfl | exact QRun.loads rfl rfl rfl (hl2 _ _) rfl | exact QRun.binr rfl rfl hE) ?_ | refine Nx.m ?_ | refine Nx.zm ?_ | refine Nx.zt (fun hc => ?_) (fun hc => ?_))
    | refine Nx.zx ?_ | fail
  exact Nx.again (i + 1) him (by omega) ⟨rfl, rfl, rfl, rfl, rfl, trivial⟩ (by (exact Ent.auto))
end Go.Proofs.YtpcnapidlhpbkaaGreatDoor
/- Contracts of functions of the given program, and lemmas about plain lists and numbers: what the laws of this seat lean on. -/
namespace Go.Proofs.YtpcnapidlhpbkaaGreatDoor
open Go.Eng
/-! The table that the program reads -/
theorem g64 : Tryz.prog.globalNamed  "math/bits.deBruijn64tab" = some 1 := by kernel_rfl
theorem g64T : (Tryz.prog.globals[1]?).map (·.type) = some 291 := by kernel_rfl
theorem c5 : Tryz.prog.cellsOf 5 = 1 := by kernel_rfl
theorem c79 : Tryz.prog.cellsOf 291 = 64 := by kernel_rfl
abbrev laid1 : List (String × DataW Unit) := [("math/bits.deBruijn64tab", Rows.laid_math_bits_deBruijn64tab)]
def setBlk (cs : List Value) : Obj → Obj
  | .cells _ t frozen => .cells cs.toArray t frozen
  | o => o
/-- The settled world, the table holding what its initialiser lays: the witness. -/
noncomputable def laidWorld (os : Os) : World :=
  { World.holding Tryz.prog os ⟨#[], #[], []⟩ with heap := (World.holding Tryz.prog os ⟨#[], #[], []⟩).heap.modify 1 (setBlk (Lib.deBruijn64tab.map fun z : Nat => Value.int .u8 z)) }
theorem laidWorld_met (os : Os) (args : Array Value) : laidMetH Tryz.prog laid1 ((laidWorld os).forCall (fun _ _ => 0) ⟨#[], args, []⟩).memory :=
  laidMetH_of_parts (laidMet_of_run' 8 (by kernel_rfl) (by kernel_rfl)) (by kernel_rfl)
theorem heap_keep {W w0 w : World} {R : List Res} (h : St w0 (fun i => W.heap[i]?) R w) {i : Nat} {o : Obj} (ho : W.heap[i]? = some o) : w.heap[i]? = some o := by
  obtain ⟨m, _, hs⟩ := h.mem
  exact hs.imm i o ho
theorem var_keep {W w0 w : World} {R : List Res} (h : St w0 (fun i => W.heap[i]?) R w) {P : Program} {name : String} {k : IntKind} {zs : List Int} (ht : Lib.TabIs P W name k zs) : Lib.TabIs P w name k zs := by
  unfold Lib.TabIs World.var? at *
  cases hg : P.globalNamed name with
  | none => simp [hg] at ht
  | some g =>
    simp only [hg, Option.bind_some] at ht ⊢
    cases ho : W.heap[g]? with
    | none => rw [ho] at ht; simp at ht
    | some o => rw [heap_keep h ho]; rw [ho] at ht; exact ht
theorem tab_of {W : World} (h : laidMetH Tryz.prog laid1 W) : TabI (fun i => W.heap[i]?) := fun _ _ _ hst j hj => by
  have h1 : Lib.TabIs Tryz.prog W  "math/bits.deBruijn64tab" .u8 (Lib.deBruijn64tab.map fun z : Nat => (z : Int)) := Lib.tabIs_of_head g64 g64T Tryz.underlying291 Tryz.underlying5 c5 c79 (h : laidMet Tryz.prog laid1 W)
  have h2 := (var_keep hst h1).cell g64 j (by rw [List.length_map]; exact hj)
  rw [show (Lib.deBruijn64tab.map fun z : Nat => (z : Int)).getD j 0 = ((Lib.deBruijn64tab.getD j 0 : Nat) : Int) by
    rw [List.getD_eq_getElem?_getD, List.getD_eq_getElem?_getD, List.getElem?_map]
    cases Lib.deBruijn64tab[j]? <;> rfl] at h2
  exact h2
end Go.Proofs.YtpcnapidlhpbkaaGreatDoor
