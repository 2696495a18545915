/- Contracts of functions of the given program, and lemmas about plain lists and numbers: what the laws of this seat lean on. -/
import Derived.Test.YtcmdemfhbekabaaGreatSa6
namespace Go.Proofs.YtcmdemfhbekabaaGreat
open Go.Eng Go.Sol
attribute [local irreducible] opK wpList Code.wp Exit.then Exit.inBlock fnPost bodyPost Nx Calls Oper.wp Rd Rds Wr Ent Stars Blk Again Vec FnSpec wpMix QRun Stop Upto wpAt
/-! Made releases -/
abbrev spB (b5 : Nat) (B : Option Addr) (n cs : Nat) : Res := Blk b5 27 [.slice B n cs]
set_option maxRecDepth 10000 in
set_option maxHeartbeats 8000000 in
theorem Releases_made (b : Nat) (A B T : Option Addr) (c cs ct : Nat) (L l t : List Int) (k most : Nat) (I : PH) (hL : CodesOk I A c L) (hk : k ≤ L.length) (hl : Ints I B cs l) (hs : Sizes l) (ht : Ints I T ct t) (hT : Table l t) (hm9 : most ≤ 1000) :
    FnSpec Tryz.prog 57 [.pointer (some ⟨b, 0, none⟩), .agg #[.slice B l.length cs], .slice T t.length ct, .int .i64 (most : Int)] I [CodesR b A c L k]
      (fun u R' => ∃ (As : Option Addr) (c' : Nat) (rs : List Rel) (k' : Nat), u = .slice As rs.length c' ∧ rs.length ≤ most ∧ RelsOk l t rs ∧ k' ≤ L.length ∧ R' = [Vec 62 3 As rs.length c' (rs.flatMap relC), Stars (rs.map relR), CodesR b A c L k']) := by
  have hlen := hl.len
  have htl := ht.len
  refine FnSpec.enterP Tryz.func57 rfl Tryz.ntmps57 rfl fun w F => ?_
  repeat' first
    | ((with_reducible refine Nx.is_wp ?_); first | refine Nx.wo ?_ | refine Nx.zp (fun hc => ?_) (fun hc => ?_))
    | (refine Nx.zo ?_; first | refine Nx.opr rfl rfl ?_ | (refine Nx.call rfl rfl rfl (by kernel_rfl) rfl (Next_any b A c L k ((most : Int) + 1) I hL hk (by omega)) (by (exact Ent.auto)) ?_; rintro _ _ ⟨n, k1, rfl, hn, hk1, rfl⟩) | refine Nx.so ?_ | refine Nx.sb (fun bx => ?_) | refine Nx.sa (fun A2 c2 => ?_))
    | ((with_reducible refine Nx.is_at ?_); first | refine Nx.a ?_ | refine Nx.zd ?_ | refine Nx.zs (fun hc => ?_) (fun hc => ?_))
    | ((with_reducible refine Nx.is_mix ?_); first | refine Nx.m ?_ | refine Nx.zm ?_ | refine Nx.zt (fun hc => ?_) (fun hc => ?_))
    | refine Nx.zx ?_ | fail
  obtain ⟨m, rfl⟩ : ∃ m : Nat, n = m := ⟨n.toNat, by omega⟩
  revert bx; intro b5
  refine Nx.p_loop (σ := Nat × Nat × Option Addr × Nat × List Rel) (fun s => [(0, .pointer (some ⟨b, 0, none⟩)), (2, .slice T t.length ct), (5, .pointer (some ⟨b5, 0, none⟩)), (9, .slice s.2.2.1 s.2.2.2.2.length s.2.2.2.1), (10, .int .i64 (s.1 : Int))])
    (fun s => [Vec 62 3 s.2.2.1 s.2.2.2.2.length s.2.2.2.1 (s.2.2.2.2.flatMap relC), Stars (s.2.2.2.2.map relR), CodesR b A c L s.2.1, spB b5 B l.length cs, F]) (fun s => s.2.1 ≤ L.length ∧ s.2.2.2.2.length + s.1 ≤ most ∧ RelsOk l t s.2.2.2.2) (fun s => s.1) (m, k1, none, 0, []) rfl
    ⟨hk1, by dsimp only; simp; omega, ⟨fun i hi => absurd hi (Nat.not_lt_zero _)⟩⟩ ⟨rfl, rfl, rfl, rfl, rfl, trivial⟩ ((Ent.stars_nil _).trans ((Ent.vec_nil 62 3 _).trans (by (exact Ent.auto)))) ?_
  rintro ⟨n, kc, As, c', rs⟩ ⟨hkc, hrl, hrs⟩
  dsimp only at hkc hrl hrs ⊢
  cases n with
  | zero =>
    repeat' first
      | ((with_reducible refine Nx.is_wp ?_); first | refine Nx.wo ?_ | refine Nx.zp (fun hc => ?_) (fun hc => ?_))
      | (refine Nx.zo ?_; first | refine Nx.opr rfl rfl ?_ | refine Nx.so ?_ | refine Nx.sb (fun bx => ?_) | refine Nx.sa (fun A2 c2 => ?_))
      | ((with_reducible refine Nx.is_at ?_); first | refine Nx.a ?_ | refine Nx.zd ?_ | refine Nx.zs (fun hc => ?_) (fun hc => ?_))
      | ((with_reducible refine Nx.is_mix ?_); first | refine Nx.m ?_ | refine Nx.zm ?_ | refine Nx.zt (fun hc => ?_) (fun hc => ?_))
      | refine Nx.zx ?_ | fail
    exact Nx.ret_fn rfl [_, _, _] ⟨As, c', rs, kc, rfl, by omega, hrs, hkc, rfl⟩ (by (exact Ent.auto))
  | succ n =>
    repeat' first
      | ((with_reducible refine Nx.is_wp ?_); first | refine Nx.wo ?_ | refine Nx.zp (fun hc => ?_) (fun hc => ?_))
      | (refine Nx.zo ?_; first | refine Nx.opr rfl rfl ?_ | (refine Nx.call rfl rfl rfl (by kernel_rfl) rfl (View_made b A B c cs L l kc I hL hkc hl hs) (by (exact Ent.auto)) ?_; rintro _ _ ⟨Av, cv, v, k2, rfl, hw, hk2, rfl⟩) | refine Nx.so ?_ | refine Nx.sb (fun bx => ?_) | refine Nx.sa (fun A2 c2 => ?_))
      | ((with_reducible refine Nx.is_at ?_); first | refine Nx.a ?_ | refine Nx.zd ?_ | refine Nx.zs (fun hc => ?_) (fun hc => ?_))
      | ((with_reducible refine Nx.is_mix ?_); first | refine Nx.m ?_ | refine Nx.zm ?_ | refine Nx.zt (fun hc => ?_) (fun hc => ?_))
      | refine Nx.zx ?_ | fail
    revert bx; intro b11
    refine Nx.ent (R' := [ViewR Av cv v, Blk b11 60 [.slice Av v.length cv], CodesR b A c L k2, Vec 62 3 As rs.length c' (rs.flatMap relC), Stars (rs.map relR), spB b5 B l.length cs, F]) (by (exact Ent.auto)) ?_
    refine Nx.at_op rfl rfl ?_
    refine Nx.call_lendR 0 rfl rfl rfl (by kernel_rfl) rfl rfl (fun m I' hle hm hv => RPublish_spec B Av T cs cv ct l t v I' (hl.mono hle) hs (ViewR.rows hm hv) hw (ht.mono hle) hT) ?_
    rintro _ _ ⟨Ap, rfl, rfl⟩
    have hszs := hw.sizes hs
    have hpr := hszs.bound (k := (szs v).length) (Nat.le_refl _)
    rw [List.take_length] at hpr
    generalize hP : (prod (szs v)).toNat = P
    have hsl := sums_len (pubOf l v) t P t.length
    generalize hz0 : sums (pubOf l v) t P t.length = z0 at hsl
    have hz1 : ∀ j, j < P → z0.getD j default = sumAt (pubOf l v) t (j : Int) t.length := fun j hj => by rw [← hz0, sums_at _ _ _ _ _ hj]
    repeat' first
      | ((with_reducible refine Nx.is_wp ?_); first | refine Nx.wo ?_ | refine Nx.zp (fun hc => ?_) (fun hc => ?_))
      | (refine Nx.zo ?_; first | refine Nx.opr rfl rfl ?_ | refine Nx.so ?_ | refine Nx.sb (fun bx => ?_) | refine Nx.sa (fun A2 c2 => ?_))
      | ((with_reducible refine Nx.is_at ?_); first | refine Nx.a ?_ | refine Nx.zd ?_ | refine Nx.zs (fun hc => ?_) (fun hc => ?_))
      | ((with_reducible refine Nx.is_mix ?_); first | refine Nx.m ?_ | refine Nx.zm ?_ | refine Nx.zt (fun hc => ?_) (fun hc => ?_))
      | refine Nx.zx ?_ | fail
    refine Nx.p_loop (σ := Nat × Nat × List Int) (fun s => [(0, .pointer (some ⟨b, 0, none⟩)), (2, .slice T t.length ct), (5, .pointer (some ⟨b5, 0, none⟩)), (9, .slice As rs.length c'), (10, .int .i64 ((n + 1 : Nat) : Int)), (11, .pointer (some ⟨b11, 0, none⟩)), (12, .slice Ap P P), (33, .slice Ap P P), (34, .int .i64 (P : Int)), (35, .int .i64 (s.1 : Int))])
      (fun s => [Vec 3 1 Ap P P (s.2.2.map (Value.int .i64)), CodesR b A c L s.2.1, ViewR Av cv v, Blk b11 60 [.slice Av v.length cv], Vec 62 3 As rs.length c' (rs.flatMap relC), Stars (rs.map relR), spB b5 B l.length cs, F]) (fun s => s.1 ≤ P ∧ s.2.1 ≤ L.length ∧ s.2.2.length = P ∧ ∀ j, j < P → s.2.2.getD j default = -1 ∨ s.2.2.getD j default = sumAt (pubOf l v) t (j : Int) t.length) (fun s => P - s.1) (0, k2, z0) rfl
      ⟨Nat.zero_le _, hk2, hsl, fun j hj => .inr (hz1 j hj)⟩ ⟨rfl, rfl, rfl, rfl, rfl, rfl, rfl, rfl, rfl, rfl, trivial⟩ (by (exact Ent.auto)) ?_
    rintro ⟨i, ki, z⟩ ⟨hi, hki, hzl, hz⟩
    dsimp only at hi hki hzl hz ⊢
    by_cases hiP : i < P
    · refine Nx.vec_fact fun _ _ _ hAp => ?_
      repeat' first
        | ((with_reducible refine Nx.is_wp ?_); first | refine Nx.wo ?_ | refine Nx.zp (fun hc => ?_) (fun hc => ?_))
        | (refine Nx.zo ?_; first | refine Nx.opr rfl rfl ?_ | (refine Nx.call rfl rfl rfl (by kernel_rfl) rfl (Next_any b A c L ki 5 I hL hki (by omega)) (by (exact Ent.auto)) ?_; rintro _ _ ⟨r, k3, rfl, hr, hk3, rfl⟩) | refine Nx.indexAddr_nat rfl rfl rfl rfl rfl hiP (hAp (by omega)) ?_ | refine Nx.store_of 1 (Value.int .i64) (l := z) (i := i) (z := -1) rfl rfl rfl rfl rfl rfl hiP ?_ | refine Nx.so ?_ | refine Nx.sb (fun bx => ?_) | refine Nx.sa (fun A2 c2 => ?_))
        | ((with_reducible refine Nx.is_at ?_); first | refine Nx.a ?_ | refine Nx.zd ?_ | refine Nx.zs (fun hc => ?_) (fun hc => ?_))
        | ((with_reducible refine Nx.is_mix ?_); first | refine Nx.m ?_ | refine Nx.zm ?_ | refine Nx.zt (fun hc => ?_) (fun hc => ?_))
        | refine Nx.zx ?_ | fail
      · exact Nx.again (i + 1, k3, z.set i (-1)) ⟨hiP, hk3, by dsimp only; rw [List.length_set]; exact hzl, fun j hj => by
            dsimp only
            by_cases hij : i = j
            · subst hij; exact .inl (getD_set_eq (by omega))
            · rw [getD_set_ne hij]; exact hz j hj⟩ (by dsimp only; omega) ⟨rfl, rfl, rfl, rfl, rfl, rfl, rfl, rfl, rfl, rfl, trivial⟩ (by (exact Ent.auto))
      · exact Nx.again (i + 1, k3, z) ⟨hiP, hk3, hzl, hz⟩ (by dsimp only; omega) ⟨rfl, rfl, rfl, rfl, rfl, rfl, rfl, rfl, rfl, rfl, trivial⟩ (by (exact Ent.auto))
    obtain rfl : i = P := by omega
    subst hzl
    repeat' first
      | ((with_reducible refine Nx.is_wp ?_); first | refine Nx.wo ?_ | refine Nx.zp (fun hc => ?_) (fun hc => ?_))
      | (refine Nx.zo ?_; first | refine Nx.opr rfl rfl ?_ | refine Nx.so ?_ | refine Nx.sb (fun bx => ?_) | refine Nx.sa (fun A2 c2 => ?_))
      | ((with_reducible refine Nx.is_at ?_); first | refine Nx.a ?_ | refine Nx.zd ?_ | refine Nx.zs (fun hc => ?_) (fun hc => ?_))
      | ((with_reducible refine Nx.is_mix ?_); first | refine Nx.m ?_ | refine Nx.zm ?_ | refine Nx.zt (fun hc => ?_) (fun hc => ?_))
      | refine Nx.zx ?_ | fail
    refine Nx.again (n, ki, A2, c2, rs ++ [⟨(rs.length : Int), Av, cv, v, (Ap, z.length, z)⟩]) ⟨hki, by dsimp only; rw [List.length_append]; show rs.length + 1 + n ≤ most; omega, ⟨fun i hi => ?_⟩⟩ (by dsimp only; omega) ⟨rfl, rfl, rfl, by dsimp only; rw [List.length_append]; rfl, by dsimp only; rw [show ((n + 1 : Nat) : Int) - 1 = (n : Int) by omega]; rfl, trivial⟩ ?_
    · dsimp only
      by_cases hir : i < rs.length
      · rw [List.getD_eq_getElem?_getD, List.getElem?_append_left hir, ← List.getD_eq_getElem?_getD]
        exact hrs.each i hir
      · obtain rfl : i = rs.length := by rw [List.length_append, List.length_singleton] at hi; omega
        rw [List.getD_eq_getElem?_getD, List.getElem?_append_right (Nat.le_refl _), Nat.sub_self]
        exact ⟨⟨hw, show z.length = (prod (szs v)).toNat from hP.symm, hz⟩, rfl⟩
    · dsimp only
      refine Ent.trans (R' := [ViewR Av cv v, rowR (Ap, z.length, z), Stars (rs.map relR), Vec 62 3 A2 (rs.length + 1) c2 (rs.flatMap relC ++ relC ⟨(rs.length : Int), Av, cv, v, (Ap, z.length, z)⟩), CodesR b A c L ki, spB b5 B l.length cs, F]) (by unfold rowR relC rowV; (exact Ent.auto)) ?_
      refine Ent.pack2.trans ?_
      refine Ent.trans (R' := Stars (rs.map relR ++ [relR ⟨(rs.length : Int), Av, cv, v, (Ap, z.length, z)⟩]) :: [Vec 62 3 A2 (rs.length + 1) c2 (rs.flatMap relC ++ relC ⟨(rs.length : Int), Av, cv, v, (Ap, z.length, z)⟩), CodesR b A c L ki, spB b5 B l.length cs, F]) Ent.bundle ?_
      rw [List.length_append, List.flatMap_append, List.map_append, List.flatMap_cons, List.flatMap_nil, List.append_nil]
      (exact Ent.auto)
end Go.Proofs.YtcmdemfhbekabaaGreat
/- Contracts of functions of the given program, and lemmas about plain lists and numbers: what the laws of this seat lean on. -/
namespace Go.Proofs.YtcmdemfhbekabaaGreat
open Go.Eng Go.Sol
attribute [local irreducible] opK wpList Code.wp Exit.then Exit.inBlock fnPost bodyPost Nx Calls Oper.wp Rd Rds Wr Ent Stars Blk Again Vec FnSpec wpMix QRun Stop Upto wpAt
/-! The reference's equations: what right releases tell -/
/-- A right release of a space. -/
structure RelV (l : List Int) (r : Rel) : Prop where
  view : Viewed l r.v
  len : r.val.2.2.length = (prod (szs r.v)).toNat
  each : ∀ j, j < r.val.2.2.length → r.val.2.2.getD j default = -1 ∨ (0 ≤ r.val.2.2.getD j default ∧ r.val.2.2.getD j default ≤ 1000000)
set_option maxRecDepth 10000 in
set_option maxHeartbeats 8000000 in
theorem release_spec (A B D : Option Addr) (c cv cd : Nat) (l vs : List Int) (v : List Row) (num before : Int) (I : PH) (hl : Ints I A c l) (hs : Sizes l) (hv : RowsOf I B cv v) (hd : Ints I D cd vs) (hr : RelV l ⟨num, B, cv, v, (D, cd, vs)⟩) (hb : before < num) (h0 : 0 ≤ num) (h24 : num < 24) :
    FnSpec Tryz.prog 104 [.agg #[.slice A l.length c], .agg #[.int .i64 num, .slice B v.length cv, .slice D vs.length cd], .int .i64 before] I [] (fun u R' => u = .int .i64 0 ∧ R' = []) := by
  obtain ⟨hw, hlen, heach⟩ := hr
  dsimp only at hw hlen heach
  have hvl := hd.len
  have hszs := hw.sizes hs
  have hpr := hszs.bound (k := (szs v).length) (Nat.le_refl _)
  rw [List.take_length] at hpr
  have hP := RPublished_spec A B c cv l v I hl hs hv hw
  rw [show prod (szs v) = (vs.length : Int) by omega] at hP
  refine FnSpec.enterP Tryz.func104 rfl Tryz.ntmps104 rfl fun w F => ?_
  repeat' first
    | ((with_reducible refine Nx.is_wp ?_); first | refine Nx.wo ?_ | refine Nx.p_draw (id := 6) rfl [0, 1, 2, 3, 4, 5, 6, 7] [6] _ rfl rfl (by kernel_rfl) (by kernel_rfl) rfl (by repeat first | exact PanicOk.fn | refine PanicOk.then_ ?_ | refine PanicOk.inB ?_) (Ent.refl _) ?_ | refine Nx.zp (fun hc => ?_) (fun hc => ?_))
    | (refine Nx.zo ?_; first | refine Nx.opr rfl rfl ?_ | refine Nx.loads rfl rfl rfl rfl (Rds.cut 0 1 rfl rfl) rfl ?_ | refine Nx.callv rfl rfl rfl (by kernel_rfl) rfl (RView_spec _ _ _ _ _ _ _ hl hs hv hw) ?_ | refine Nx.callv rfl rfl rfl (by kernel_rfl) rfl hP ?_ | refine Nx.so ?_ | refine Nx.sb (fun bx => ?_) | refine Nx.sa (fun A2 c2 => ?_))
    | ((with_reducible refine Nx.is_at ?_); first | refine Nx.a ?_ | refine Nx.zd ?_ | refine Nx.zs (fun hc => ?_) (fun hc => ?_))
    | ((with_reducible refine Nx.is_mix ?_); first | refine Nx.m_quiet rfl rfl rfl rfl rfl (by first | exact QRun.opr rfl | exact QRun.loads rfl rfl rfl (Rds.cut 0 1 rfl rfl) rfl) ?_ | refine Nx.m_quiet_do rfl rfl rfl rfl rfl rfl rfl (by first | exact QRun.opr rfl | exact QRun.loads rfl rfl rfl (Rds.cut 0 1 rfl rfl) rfl) ?_ | refine Nx.m ?_ | refine Nx.zm ?_ | refine Nx.zt (fun hc => ?_) (fun hc => ?_))
    | refine Nx.zx ?_ | fail
  refine Nx.p_loop (σ := Nat) (fun i => [(40, .slice D vs.length cd), (41, .int .i64 vs.length), (42, .int .i64 (i : Int))])
    (fun _ => [F]) (fun i => i ≤ vs.length) (fun i => vs.length - i) 0 rfl (Nat.zero_le _) ⟨rfl, rfl, rfl, trivial⟩ (by (exact Ent.auto)) ?_
  intro i hi
  have hi : i ≤ vs.length := hi
  by_cases hiv : i < vs.length
  case neg =>
    repeat' first
      | ((with_reducible refine Nx.is_wp ?_); first | refine Nx.wo ?_ | refine Nx.zp (fun hc => ?_) (fun hc => ?_))
      | (refine Nx.zo ?_; first | refine Nx.opr rfl rfl ?_ | refine Nx.so ?_ | refine Nx.sb (fun bx => ?_) | refine Nx.sa (fun A2 c2 => ?_))
      | ((with_reducible refine Nx.is_at ?_); first | refine Nx.a ?_ | refine Nx.zd ?_ | refine Nx.zs (fun hc => ?_) (fun hc => ?_))
      | ((with_reducible refine Nx.is_mix ?_); first | refine Nx.m ?_ | refine Nx.zm ?_ | refine Nx.zt (fun hc => ?_) (fun hc => ?_))
      | refine Nx.zx ?_ | fail
    exact Nx.ret_fn rfl [] ⟨rfl, rfl⟩ (by (exact Ent.auto))
  have hei := heach i hiv
  have hrd : ∀ (W : World) (R : List Res), Rd W I R ((ad D).add (i * 1)) (.int .i64 (vs.getD i default)) := fun W R => hd.rd hiv
  generalize vs.getD i default = z at hei hrd
  rcases hei with rfl | ⟨hz0, hz1⟩
  · repeat' first
      | ((with_reducible refine Nx.is_wp ?_); first | refine Nx.wo ?_ | refine Nx.zp (fun hc => ?_) (fun hc => ?_))
      | (refine Nx.zo ?_; first | refine Nx.opr rfl rfl ?_ | refine Nx.indexAddr_nat (A := D) (i := i) (sz := 1) rfl rfl rfl rfl rfl (by omega) (hd.isSome (by omega)) ?_ | refine Nx.load rfl rfl rfl (hrd _ _) ?_ | refine Nx.so ?_ | refine Nx.sb (fun bx => ?_) | refine Nx.sa (fun A2 c2 => ?_))
      | ((with_reducible refine Nx.is_at ?_); first | refine Nx.a ?_ | refine Nx.zd ?_ | refine Nx.zs (fun hc => ?_) (fun hc => ?_))
      | ((with_reducible refine Nx.is_mix ?_); first | refine Nx.m ?_ | refine Nx.zm ?_ | refine Nx.zt (fun hc => ?_) (fun hc => ?_))
      | refine Nx.zx ?_ | fail
    exact Nx.again (i + 1) hiv (by omega) ⟨rfl, rfl, rfl, trivial⟩ (by (exact Ent.auto))
  · repeat' first
      | ((with_reducible refine Nx.is_wp ?_); first | refine Nx.wo ?_ | refine Nx.zp (fun hc => ?_) (fun hc => ?_))
      | (refine Nx.zo ?_; first | refine Nx.opr rfl rfl ?_ | refine Nx.indexAddr_nat (A := D) (i := i) (sz := 1) rfl rfl rfl rfl rfl (by omega) (hd.isSome (by omega)) ?_ | refine Nx.load rfl rfl rfl (hrd _ _) ?_ | refine Nx.so ?_ | refine Nx.sb (fun bx => ?_) | refine Nx.sa (fun A2 c2 => ?_))
      | ((with_reducible refine Nx.is_at ?_); first | refine Nx.a ?_ | refine Nx.zd ?_ | refine Nx.zs (fun hc => ?_) (fun hc => ?_))
      | ((with_reducible refine Nx.is_mix ?_); first | refine Nx.m ?_ | refine Nx.zm ?_ | refine Nx.zt (fun hc => ?_) (fun hc => ?_))
      | refine Nx.zx ?_ | fail
    exact Nx.again (i + 1) hiv (by omega) ⟨rfl, rfl, rfl, trivial⟩ (by (exact Ent.auto))
/-- Right releases of a space, by ascending numbers. -/
structure RelsV (l : List Int) (rs : List Rel) : Prop where
  len : rs.length ≤ 24
  each : ∀ i, i < rs.length → RelV l (rs.getD i default) ∧ 0 ≤ (rs.getD i default).num ∧ (rs.getD i default).num < 24
  asc : ∀ i, i + 1 < rs.length → (rs.getD i default).num < (rs.getD (i + 1) default).num
def prevN (rs : List Rel) : Nat → Int
  | 0 => -1
  | i + 1 => (rs.getD i default).num
theorem RelsV.prev {l : List Int} {rs : List Rel} (h : RelsV l rs) : ∀ {i : Nat}, i < rs.length → prevN rs i < (rs.getD i default).num
  | 0, hi => by have := (h.each 0 hi).2.1; show -1 < _; omega
  | i + 1, hi => h.asc i hi
theorem getD_memR {l : List Rel} {k : Nat} (h : k < l.length) : l.getD k default ∈ l := by
  rw [List.getD_eq_getElem?_getD, List.getElem?_eq_getElem h]; exact List.getElem_mem _
set_option maxRecDepth 10000 in
set_option maxHeartbeats 8000000 in
theorem RECheck_spec (A As : Option Addr) (c cs : Nat) (l : List Int) (rs : List Rel) (I : PH) (hl : Ints I A c l) (hs : Sizes l) (hr : Rels I As cs rs) (hV : RelsV l rs) :
    FnSpec Tryz.prog 58 [.agg #[.slice A l.length c], .slice As rs.length cs] I [] (fun u R' => u = .int .i64 0 ∧ R' = []) := by
  have h24 := hV.len
  refine FnSpec.enterP Tryz.func58 rfl Tryz.ntmps58 rfl fun w F => ?_
  repeat' first
    | ((with_reducible refine Nx.is_wp ?_); first | refine Nx.wo ?_ | refine Nx.zp (fun hc => ?_) (fun hc => ?_))
    | (refine Nx.zo ?_; first | refine Nx.opr rfl rfl ?_ | refine Nx.callv rfl rfl rfl (by kernel_rfl) rfl (RCheck_spec _ _ _ _ hl hs) ?_ | refine Nx.so ?_ | refine Nx.sb (fun bx => ?_) | refine Nx.sa (fun A2 c2 => ?_))
    | ((with_reducible refine Nx.is_at ?_); first | refine Nx.a ?_ | refine Nx.zd ?_ | refine Nx.zs (fun hc => ?_) (fun hc => ?_))
    | ((with_reducible refine Nx.is_mix ?_); first | refine Nx.m ?_ | refine Nx.zm ?_ | refine Nx.zt (fun hc => ?_) (fun hc => ?_))
    | refine Nx.zx ?_ | fail
  revert bx; intro b2
  refine Nx.p_loop (σ := Nat) (fun i => [(2, .pointer (some ⟨b2, 0, none⟩)), (6, .int .i64 (prevN rs i)), (18, .slice As rs.length cs), (19, .int .i64 rs.length), (20, .int .i64 (i : Int))])
    (fun _ => [Blk b2 27 [.slice A l.length c], F]) (fun i => i ≤ rs.length) (fun i => rs.length - i) 0 rfl (Nat.zero_le _) ⟨rfl, rfl, rfl, rfl, rfl, trivial⟩ (by (exact Ent.auto)) ?_
  intro i hi
  have hi : i ≤ rs.length := hi
  by_cases hiv : i < rs.length
  case neg =>
    repeat' first
      | ((with_reducible refine Nx.is_wp ?_); first | refine Nx.wo ?_ | refine Nx.zp (fun hc => ?_) (fun hc => ?_))
      | (refine Nx.zo ?_; first | refine Nx.opr rfl rfl ?_ | refine Nx.so ?_ | refine Nx.sb (fun bx => ?_) | refine Nx.sa (fun A2 c2 => ?_))
      | ((with_reducible refine Nx.is_at ?_); first | refine Nx.a ?_ | refine Nx.zd ?_ | refine Nx.zs (fun hc => ?_) (fun hc => ?_))
      | ((with_reducible refine Nx.is_mix ?_); first | refine Nx.m ?_ | refine Nx.zm ?_ | refine Nx.zt (fun hc => ?_) (fun hc => ?_))
      | refine Nx.zx ?_ | fail
    exact Nx.ret_fn rfl [] ⟨rfl, rfl⟩ (by (exact Ent.auto))
  obtain ⟨hei, h0, h24'⟩ := hV.each i hiv
  have hpv := hV.prev hiv
  have hnx : (.int .i64 (rs.getD i default).num : Value) = .int .i64 (prevN rs (i + 1)) := rfl
  have hv := hr.view _ (getD_memR hiv)
  have hd := hr.val _ (getD_memR hiv)
  have hrds : ∀ (W : World) (R : List Res), Rds W I R ((ad As).add (i * 3)) (relC (rs.getD i default)) := fun W R => hr.outer.rds hiv
  generalize rs.getD i default = r at hei h0 h24' hpv hnx hv hd hrds
  obtain ⟨num, va, vc, v, D, cd, vs⟩ := r
  dsimp only at h0 h24' hpv hnx hv hd
  replace hrds : ∀ (W : World) (R : List Res), Rds W I R ((ad As).add (i * 3)) [.int .i64 num, .slice va v.length vc, .slice D vs.length cd] := hrds
  have hS := release_spec A va D c vc cd l vs v num (prevN rs i) I hl hs hv hd hei hpv h0 h24'
  generalize prevN rs i = pv at hS
  repeat' first
    | ((with_reducible refine Nx.is_wp ?_); first | refine Nx.wo ?_ | refine Nx.zp (fun hc => ?_) (fun hc => ?_))
    | (refine Nx.zo ?_; first | refine Nx.opr rfl rfl ?_ | refine Nx.indexAddr_nat rfl rfl rfl rfl rfl hiv (hr.outer.isSome (by omega) (by omega)) ?_ | refine Nx.loads rfl rfl rfl rfl (hrds _ _) rfl ?_ | refine Nx.callv rfl rfl rfl (by kernel_rfl) rfl hS ?_ | refine Nx.so ?_ | refine Nx.sb (fun bx => ?_) | refine Nx.sa (fun A2 c2 => ?_))
    | ((with_reducible refine Nx.is_at ?_); first | refine Nx.a ?_ | refine Nx.zd ?_ | refine Nx.zs (fun hc => ?_) (fun hc => ?_))
    | ((with_reducible refine Nx.is_mix ?_); first | refine Nx.m ?_ | refine Nx.zm ?_ | refine Nx.zt (fun hc => ?_) (fun hc => ?_))
    | refine Nx.zx ?_ | fail
  exact Nx.again (i + 1) hiv (by omega) ⟨rfl, hnx ▸ rfl, rfl, rfl, rfl, trivial⟩ (by (exact Ent.auto))
/-! What releases tell -/
def cont (q : EqR) : List Int × Int := (q.1.2.2, q.2)
def toldK (l : List Int) (v : List Row) (vs : List Int) : Nat → List (List Int × Int)
  | 0 => []
  | j + 1 => toldK l v vs j ++ if vs.getD j default = -1 then [] else [(memK l v (j : Int) (prod l).toNat, vs.getD j default)]
def told (l : List Int) (r : Rel) : List (List Int × Int) := toldK l r.v r.val.2.2 r.val.2.2.length
abbrev eqsR (A : Option Addr) (c : Nat) (qs : List EqR) : List Res := [Vec 93 2 A qs.length c (qs.flatMap eqC), Stars (qs.map fun q => rowR q.1)]
theorem take_snocR {l : List Rel} {k : Nat} (h : k < l.length) : l.take (k + 1) = l.take k ++ [l.getD k default] := by
  rw [List.take_add_one, List.getElem?_eq_getElem h, List.getD_eq_getElem?_getD, List.getElem?_eq_getElem h]; rfl
set_option maxRecDepth 10000 in
set_option maxHeartbeats 8000000 in
theorem REAll_spec (A As : Option Addr) (c cs : Nat) (l : List Int) (rs : List Rel) (I : PH) (hl : Ints I A c l) (hs : Sizes l) (hr : Rels I As cs rs) (hV : RelsV l rs) :
    FnSpec Tryz.prog 14 [.agg #[.slice A l.length c], .slice As rs.length cs] I []
      (fun u R' => ∃ (A' : Option Addr) (c' : Nat) (qs : List EqR), u = .tuple #[.slice A' qs.length c', .int .i64 0] ∧ qs.map cont = rs.flatMap (told l) ∧ qs.length ≤ 24 * 48 ∧ R' = eqsR A' c' qs) := by
  have h24 := hV.len
  refine FnSpec.enterP Tryz.func14 rfl Tryz.ntmps14 rfl fun w F => ?_
  repeat' first
    | ((with_reducible refine Nx.is_wp ?_); first | refine Nx.wo ?_ | refine Nx.zp (fun hc => ?_) (fun hc => ?_))
    | (refine Nx.zo ?_; first | refine Nx.opr rfl rfl ?_ | refine Nx.callv rfl rfl rfl (by kernel_rfl) rfl (RECheck_spec _ _ _ _ _ _ _ hl hs hr hV) ?_ | refine Nx.so ?_ | refine Nx.sb (fun bx => ?_) | refine Nx.sa (fun A2 c2 => ?_))
    | ((with_reducible refine Nx.is_at ?_); first | refine Nx.a ?_ | refine Nx.zd ?_ | refine Nx.zs (fun hc => ?_) (fun hc => ?_))
    | ((with_reducible refine Nx.is_mix ?_); first | refine Nx.m ?_ | refine Nx.zm ?_ | refine Nx.zt (fun hc => ?_) (fun hc => ?_))
    | refine Nx.zx ?_ | fail
  revert bx; intro b2
  refine Nx.p_loop (σ := Nat × Option Addr × Nat × List EqR) (fun s => [(2, .pointer (some ⟨b2, 0, none⟩)), (7, .slice s.2.1 s.2.2.2.length s.2.2.1), (20, .slice As rs.length cs), (21, .int .i64 rs.length), (22, .int .i64 (s.1 : Int))])
    (fun s => Blk b2 27 [.slice A l.length c] :: (eqsR s.2.1 s.2.2.1 s.2.2.2 ++ [F])) (fun s => s.1 ≤ rs.length ∧ s.2.2.2.map cont = (rs.take s.1).flatMap (told l) ∧ s.2.2.2.length ≤ s.1 * 48) (fun s => rs.length - s.1) (0, none, 0, []) rfl ⟨Nat.zero_le _, rfl, Nat.le_refl _⟩ ⟨rfl, rfl, rfl, rfl, rfl, trivial⟩ ((Ent.stars_nil _).trans ((Ent.vec_nil 93 2 _).trans (by unfold eqsR; (exact Ent.auto)))) ?_
  rintro ⟨i, Ao, co, qs⟩ ⟨hi, hqs, hql⟩
  dsimp only at hi hqs hql ⊢
  by_cases hiv : i < rs.length
  case neg =>
    obtain rfl : i = rs.length := by omega
    rw [List.take_length] at hqs
    repeat' first
      | ((with_reducible refine Nx.is_wp ?_); first | refine Nx.wo ?_ | refine Nx.zp (fun hc => ?_) (fun hc => ?_))
      | (refine Nx.zo ?_; first | refine Nx.opr rfl rfl ?_ | refine Nx.so ?_ | refine Nx.sb (fun bx => ?_) | refine Nx.sa (fun A2 c2 => ?_))
      | ((with_reducible refine Nx.is_at ?_); first | refine Nx.a ?_ | refine Nx.zd ?_ | refine Nx.zs (fun hc => ?_) (fun hc => ?_))
      | ((with_reducible refine Nx.is_mix ?_); first | refine Nx.m ?_ | refine Nx.zm ?_ | refine Nx.zt (fun hc => ?_) (fun hc => ?_))
      | refine Nx.zx ?_ | fail
    exact Nx.ret_fn rfl [_, _] ⟨Ao, co, qs, rfl, hqs, by omega, rfl⟩ (by (exact Ent.auto))
  obtain ⟨hei, _, _⟩ := hV.each i hiv
  have htk := take_snocR hiv
  have hv := hr.view _ (getD_memR hiv)
  have hd := hr.val _ (getD_memR hiv)
  have hrds : ∀ (W : World) (R : List Res), Rds W I R ((ad As).add (i * 3)) (relC (rs.getD i default)) := fun W R => hr.outer.rds hiv
  generalize rs.getD i default = r at hei htk hv hd hrds
  obtain ⟨num, va, vc, v, D, cd, vs⟩ := r
  dsimp only at hv hd
  obtain ⟨hw, hlen, heach⟩ := hei
  dsimp only at hw hlen heach
  have hszs := hw.sizes hs
  have hvl := hd.len
  have hpc := hszs.cells
  have hpr := hszs.bound (k := (szs v).length) (Nat.le_refl _)
  rw [List.take_length] at hpr
  replace hrds : ∀ (W : World) (R : List Res), Rds W I R ((ad As).add (i * 3)) [.int .i64 num, .slice va v.length vc, .slice D vs.length cd] := hrds
  repeat' first
    | ((with_reducible refine Nx.is_wp ?_); first | refine Nx.wo ?_ | refine Nx.zp (fun hc => ?_) (fun hc => ?_))
    | (refine Nx.zo ?_; first | refine Nx.opr rfl rfl ?_ | refine Nx.indexAddr_nat rfl rfl rfl rfl rfl hiv (hr.outer.isSome (by omega) (by omega)) ?_ | refine Nx.loads rfl rfl rfl rfl (hrds _ _) rfl ?_ | refine Nx.so ?_ | refine Nx.sb (fun bx => ?_) | refine Nx.sa (fun A2 c2 => ?_))
    | ((with_reducible refine Nx.is_at ?_); first | refine Nx.a ?_ | refine Nx.zd ?_ | refine Nx.zs (fun hc => ?_) (fun hc => ?_))
    | ((with_reducible refine Nx.is_mix ?_); first | refine Nx.m ?_ | refine Nx.zm ?_ | refine Nx.zt (fun hc => ?_) (fun hc => ?_))
    | refine Nx.zx ?_ | fail
  revert bx; intro b9
  refine Nx.p_loop (σ := Nat × Option Addr × Nat × List EqR) (fun s => [(2, .pointer (some ⟨b2, 0, none⟩)), (7, .slice s.2.1 s.2.2.2.length s.2.2.1), (9, .pointer (some ⟨b9, 0, none⟩)), (20, .slice As rs.length cs), (21, .int .i64 rs.length), (22, .int .i64 (i : Int)), (27, .slice D vs.length cd), (28, .int .i64 vs.length), (29, .int .i64 (s.1 : Int))])
    (fun s => Blk b9 62 [.int .i64 num, .slice va v.length vc, .slice D vs.length cd] :: Blk b2 27 [.slice A l.length c] :: (eqsR s.2.1 s.2.2.1 s.2.2.2 ++ [F])) (fun s => s.1 ≤ vs.length ∧ s.2.2.2.map cont = (rs.take i).flatMap (told l) ++ toldK l v vs s.1 ∧ s.2.2.2.length ≤ i * 48 + s.1) (fun s => vs.length - s.1) (0, Ao, co, qs) rfl ⟨Nat.zero_le _, by rw [toldK, List.append_nil]; exact hqs, hql⟩ ⟨rfl, rfl, rfl, rfl, rfl, rfl, rfl, rfl, rfl, trivial⟩ (by (exact Ent.auto)) ?_
  rintro ⟨j, Ap, cp, ps⟩ ⟨hj, hps, hpl⟩
  dsimp only at hj hps hpl ⊢
  by_cases hjv : j < vs.length
  case neg =>
    obtain rfl : j = vs.length := by omega
    repeat' first
      | ((with_reducible refine Nx.is_wp ?_); first | refine Nx.wo ?_ | refine Nx.zp (fun hc => ?_) (fun hc => ?_))
      | (refine Nx.zo ?_; first | refine Nx.opr rfl rfl ?_ | refine Nx.so ?_ | refine Nx.sb (fun bx => ?_) | refine Nx.sa (fun A2 c2 => ?_))
      | ((with_reducible refine Nx.is_at ?_); first | refine Nx.a ?_ | refine Nx.zd ?_ | refine Nx.zs (fun hc => ?_) (fun hc => ?_))
      | ((with_reducible refine Nx.is_mix ?_); first | refine Nx.m ?_ | refine Nx.zm ?_ | refine Nx.zt (fun hc => ?_) (fun hc => ?_))
      | refine Nx.zx ?_ | fail
    exact Nx.again (i + 1, Ap, cp, ps) ⟨hiv, by dsimp only; rw [htk, List.flatMap_append, List.flatMap_cons, List.flatMap_nil, List.append_nil]; exact hps, by dsimp only; omega⟩ (by dsimp only; omega) ⟨rfl, rfl, rfl, rfl, rfl, trivial⟩ (by (exact Ent.auto))
  have hrd : ∀ (W : World) (R : List Res), Rd W I R ((ad D).add (j * 1)) (.int .i64 (vs.getD j default)) := fun W R => hd.rd hjv
  have hts : toldK l v vs (j + 1) = toldK l v vs j ++ if vs.getD j default = -1 then [] else [(memK l v (j : Int) (prod l).toNat, vs.getD j default)] := rfl
  have hM := RMembers_spec A va c vc l v (j : Int) I hl hs hv hw ⟨by omega, by omega⟩
  generalize memK l v (j : Int) (prod l).toNat = mm at hM hts
  generalize vs.getD j default = z at hrd hts
  by_cases hz : z = -1
  · subst hz
    rw [if_pos rfl, List.append_nil] at hts
    repeat' first
      | ((with_reducible refine Nx.is_wp ?_); first | refine Nx.wo ?_ | refine Nx.zp (fun hc => ?_) (fun hc => ?_))
      | (refine Nx.zo ?_; first | refine Nx.opr rfl rfl ?_ | refine Nx.indexAddr_nat (A := D) rfl rfl rfl rfl rfl hjv (hd.isSome (by omega)) ?_ | refine Nx.load rfl rfl rfl (hrd _ _) ?_ | refine Nx.so ?_ | refine Nx.sb (fun bx => ?_) | refine Nx.sa (fun A2 c2 => ?_))
      | ((with_reducible refine Nx.is_at ?_); first | refine Nx.a ?_ | refine Nx.zd ?_ | refine Nx.zs (fun hc => ?_) (fun hc => ?_))
      | ((with_reducible refine Nx.is_mix ?_); first | refine Nx.m ?_ | refine Nx.zm ?_ | refine Nx.zt (fun hc => ?_) (fun hc => ?_))
      | refine Nx.zx ?_ | fail
    exact Nx.again (j + 1, Ap, cp, ps) ⟨hjv, by rw [hts]; exact hps, by dsimp only; omega⟩ (by dsimp only; omega) ⟨rfl, rfl, rfl, rfl, rfl, rfl, rfl, rfl, rfl, trivial⟩ (by (exact Ent.auto))
  · rw [if_neg hz] at hts
    repeat' first
      | ((with_reducible refine Nx.is_wp ?_); first | refine Nx.wo ?_ | refine Nx.zp (fun hc => ?_) (fun hc => ?_))
      | (refine Nx.zo ?_; first | refine Nx.opr rfl rfl ?_ | refine Nx.indexAddr_nat (A := D) rfl rfl rfl rfl rfl hjv (hd.isSome (by omega)) ?_ | refine Nx.load rfl rfl rfl (hrd _ _) ?_ | refine Nx.loads rfl rfl rfl rfl (Rds.cut 0 1 rfl rfl) rfl ?_ | (refine Nx.call (Rpre := []) rfl rfl rfl (by kernel_rfl) rfl hM (Ent.refl _) ?_; rintro _ _ ⟨Am, cm, rfl, rfl⟩) | refine Nx.so ?_ | refine Nx.sb (fun bx => ?_) | refine Nx.sa (fun A2 c2 => ?_))
      | ((with_reducible refine Nx.is_at ?_); first | refine Nx.a ?_ | refine Nx.zd ?_ | refine Nx.zs (fun hc => ?_) (fun hc => ?_))
      | ((with_reducible refine Nx.is_mix ?_); first | refine Nx.m ?_ | refine Nx.zm ?_ | refine Nx.zt (fun hc => ?_) (fun hc => ?_))
      | refine Nx.zx ?_ | fail
    refine Nx.again (j + 1, A2, c2, ps ++ [((Am, cm, mm), z)]) ⟨hjv, by dsimp only; rw [hts, List.map_append, hps, List.append_assoc]; rfl, by dsimp only; rw [List.length_append]; show ps.length + 1 ≤ _; omega⟩ (by dsimp only; omega) ⟨rfl, by dsimp only; rw [List.length_append]; rfl, rfl, rfl, rfl, rfl, rfl, rfl, rfl, trivial⟩ ?_
    dsimp only
    refine Ent.trans (R' := rowR (Am, cm, mm) :: Stars (ps.map fun q => rowR q.1) :: [Vec 93 2 A2 (ps.length + 1) c2 (ps.flatMap eqC ++ eqC ((Am, cm, mm), z)), Blk b9 62 [.int .i64 num, .slice va v.length vc, .slice D vs.length cd], Blk b2 27 [.slice A l.length c], F]) (by unfold rowR eqC eqsR; (exact Ent.auto)) ?_
    refine Ent.trans (R' := Stars ((ps.map fun q => rowR q.1) ++ [rowR (Am, cm, mm)]) :: [Vec 93 2 A2 (ps.length + 1) c2 (ps.flatMap eqC ++ eqC ((Am, cm, mm), z)), Blk b9 62 [.int .i64 num, .slice va v.length vc, .slice D vs.length cd], Blk b2 27 [.slice A l.length c], F]) Ent.bundle ?_
    unfold eqsR
    rw [List.length_append, List.flatMap_append, List.map_append, List.flatMap_cons, List.flatMap_nil, List.append_nil]
    (exact Ent.auto)
end Go.Proofs.YtcmdemfhbekabaaGreat
/-
  The proof engine, part AP: a contract of a function that reads what its caller owns: it is lent and given back.
-/
namespace Go.Eng
set_option maxHeartbeats 8000000 in
theorem FnSpec.keep {P : Program} {f : FuncId} {al : List Value} {I : PH} {Rpre : List Res} {Post : Value → List Res → Prop} (B : List Res)
    (hs : ∀ m I', PH.le I I' → PH.le m I' → Stars B m → FnSpec P f al I' Rpre Post) : FnSpec P f al I (B ++ Rpre) (fun v R' => ∃ R0, Post v R0 ∧ R' = B ++ R0) := by
  intro w F hw
  rw [List.append_assoc] at hw
  obtain ⟨m, hd, hB, hl, hback⟩ := hw.lend
  refine Calls.mono (hs m _ (PH.le_or_left _ _) (PH.le_or_right hd) hB w F hl) ?_
  rintro en w' ⟨v, R', rfl, hv, hst⟩
  exact ⟨v, B ++ R', rfl, ⟨R', hv, rfl⟩, by rw [List.append_assoc]; exact hback hst⟩
theorem Ent.pre : ∀ (A B R : List Res), Ent (A ++ (B ++ R)) (A ++ R)
  | [], [], R => Ent.refl R
  | [], b :: B, R => Ent.drop (Ent.pre [] B R)
  | a :: A, B, R => Ent.cons (Ent.pre A B R)
end Go.Eng
/- Contracts of functions of the given program, and lemmas about plain lists and numbers: what the laws of this seat lean on. -/
namespace Go.Proofs.YtcmdemfhbekabaaGreat
open Go.Eng Go.Sol
attribute [local irreducible] opK wpList Code.wp Exit.then Exit.inBlock fnPost bodyPost Nx Calls Oper.wp Rd Rds Wr Ent Stars Blk Again Vec FnSpec wpMix QRun Stop Upto wpAt
/-! Made equations -/
theorem rels_of {As : Option Addr} {cs : Nat} {rs : List Rel} {m I' : PH} {m1 m2 : PH} (hm : PH.le m I') (h1 : Vec 62 3 As rs.length cs (rs.flatMap relC) m1) (hm1 : PH.le m1 m) (h2 : Stars (rs.map relR) m2) (hm2 : PH.le m2 m) : Rels I' As cs rs := by
  have hat : ∀ r ∈ rs, ∃ m3, PH.le m3 I' ∧ relR r m3 := fun r hr => by
    obtain ⟨k, hk, he⟩ := List.mem_iff_getElem.1 hr
    obtain ⟨m3, h3le, h3⟩ := Stars.get k (r := relR r) h2 (by rw [nthL_eq, List.getElem?_map, List.getElem?_eq_getElem hk, he]; rfl)
    exact ⟨m3, (h3le.trans hm2).trans hm, h3⟩
  refine ⟨Vec.sliceN (hm1.trans hm) h1 fun x _ => relC_len x, fun r hr => ?_, fun r hr => ?_⟩
  · obtain ⟨m3, h3, hr3⟩ := hat r hr
    obtain ⟨m4, h4le, h4⟩ := Stars.get 0 hr3 rfl
    exact ViewR.rows (h4le.trans h3) h4
  · obtain ⟨m3, h3, hr3⟩ := hat r hr
    obtain ⟨m4, h4le, h4⟩ := Stars.get 1 hr3 rfl
    exact Vec.sliceOf (h4le.trans h3) h4
abbrev tabOk (s t : List Int) (most : Int) : Prop := t.length = (prod s).toNat ∧ ∀ j, j < t.length → 0 ≤ t.getD j default ∧ t.getD j default ≤ most
abbrev toldR (B : Option Addr) (c' : Nat) (s : List Int) (At : Option Addr) (ct : Nat) (t : List Int) (As : Option Addr) (ca : Nat) (rs : List Rel) : List Res := [iR B c' s, iR At ct t, Vec 62 3 As rs.length ca (rs.flatMap relC), Stars (rs.map relR)]
set_option maxRecDepth 10000 in
set_option maxHeartbeats 8000000 in
theorem Told_made (b : Nat) (A : Option Addr) (c : Nat) (L : List Int) (k most n : Nat) (I : PH) (hL : CodesOk I A c L) (hk : k ≤ L.length) (hm : most ≤ 1000) (hn : n ≤ 1000) :
    FnSpec Tryz.prog 13 [.pointer (some ⟨b, 0, none⟩), .int .i64 (most : Int), .int .i64 (n : Int)] I [CodesR b A c L k]
      (fun u R' => ∃ (B : Option Addr) (c' : Nat) (s : List Int) (At : Option Addr) (ct : Nat) (t : List Int) (As : Option Addr) (ca : Nat) (rs : List Rel) (k' : Nat), u = .tuple #[.agg #[.slice B s.length c'], .slice At t.length ct, .slice As rs.length ca] ∧ Sizes s ∧ tabOk s t most ∧ rs.length ≤ n ∧ RelsOk s t rs ∧ k' ≤ L.length ∧ R' = toldR B c' s At ct t As ca rs ++ [CodesR b A c L k']) := by
  refine FnSpec.enterP Tryz.func13 rfl Tryz.ntmps13 rfl fun w F => ?_
  repeat' first
    | ((with_reducible refine Nx.is_wp ?_); first | refine Nx.wo ?_ | refine Nx.zp (fun hc => ?_) (fun hc => ?_))
    | (refine Nx.zo ?_; first | refine Nx.opr rfl rfl ?_ | refine Nx.so ?_ | refine Nx.sb (fun bx => ?_) | refine Nx.sa (fun A2 c2 => ?_))
    | ((with_reducible refine Nx.is_at ?_); first | refine Nx.a ?_ | refine Nx.zd ?_ | refine Nx.zs (fun hc => ?_) (fun hc => ?_))
    | ((with_reducible refine Nx.is_mix ?_); first | refine Nx.m ?_ | refine Nx.zm ?_ | refine Nx.zt (fun hc => ?_) (fun hc => ?_))
    | refine Nx.zx ?_ | fail
  revert bx; intro b6
  refine Nx.at_op rfl rfl ?_
  refine Nx.call rfl rfl rfl (by kernel_rfl) rfl (Space_made b A c L k I hL hk) (by (exact Ent.auto)) ?_
  rintro _ _ ⟨B, c', s, k1, rfl, hs, hk1, rfl⟩
  repeat' first
    | ((with_reducible refine Nx.is_wp ?_); first | refine Nx.wo ?_ | refine Nx.zp (fun hc => ?_) (fun hc => ?_))
    | (refine Nx.zo ?_; first | refine Nx.opr rfl rfl ?_ | refine Nx.so ?_ | refine Nx.sb (fun bx => ?_) | refine Nx.sa (fun A2 c2 => ?_))
    | ((with_reducible refine Nx.is_at ?_); first | refine Nx.a ?_ | refine Nx.zd ?_ | refine Nx.zs (fun hc => ?_) (fun hc => ?_))
    | ((with_reducible refine Nx.is_mix ?_); first | refine Nx.m ?_ | refine Nx.zm ?_ | refine Nx.zt (fun hc => ?_) (fun hc => ?_))
    | refine Nx.zx ?_ | fail
  revert bx; intro b9
  refine Nx.at_op rfl rfl ?_
  refine Nx.call rfl rfl rfl (by kernel_rfl) rfl (FnSpec.keep [iR B c' s] fun m I' hle hm' hv => Cells_spec b A B c c' L s k1 most I' (hL.mono hle) hk1 (by obtain ⟨m1, hm1, h1⟩ := Stars.get 0 hv rfl; exact Vec.sliceOf (hm1.trans hm') h1) hs (by omega)) (by (exact Ent.auto)) ?_
  rintro _ _ ⟨_, ⟨bt, t, k2, rfl, htl, hte, hk2, rfl⟩, rfl⟩
  have hT : Table s t := ⟨htl, fun j hj => by have := hte j hj; omega⟩
  repeat' first
    | ((with_reducible refine Nx.is_wp ?_); first | refine Nx.wo ?_ | refine Nx.p_drawF (id := 3) rfl [0, 1, 2, 3, 4, 5, 6, 7, 8, 9] [6, 7] [] _ rfl rfl (by kernel_rfl) (by kernel_rfl) rfl (by repeat first | exact PanicOk.fn | refine PanicOk.then_ ?_ | refine PanicOk.inB ?_) ((Ent.eraseK 4 _).trans (Ent.eraseK 2 _)) ?_ | refine Nx.zp (fun hc => ?_) (fun hc => ?_))
    | (refine Nx.zo ?_; first | refine Nx.opr rfl rfl ?_ | (refine Nx.call rfl rfl rfl (by kernel_rfl) rfl (FnSpec.keep [iR B c' s, iR (some ⟨bt, 0, none⟩) t.length t] fun m I' hle hm' hv => Releases_made b A B (some ⟨bt, 0, none⟩) c c' t.length L s t k2 n I' (hL.mono hle) hk2 (by obtain ⟨m1, hm1, h1⟩ := Stars.get 0 hv rfl; exact Vec.sliceOf (hm1.trans hm') h1) hs (by obtain ⟨m1, hm1, h1⟩ := Stars.get 1 hv rfl; exact Vec.sliceOf (hm1.trans hm') h1) hT hn) (by (exact Ent.auto)) ?_; rintro _ _ ⟨_, ⟨As, ca, rs, k3, rfl, hrn, hro, hk3, rfl⟩, rfl⟩) | refine Nx.so ?_ | refine Nx.sb (fun bx => ?_) | refine Nx.sa (fun A2 c2 => ?_))
    | ((with_reducible refine Nx.is_at ?_); first | refine Nx.a ?_ | refine Nx.zd ?_ | refine Nx.zs (fun hc => ?_) (fun hc => ?_))
    | ((with_reducible refine Nx.is_mix ?_); first | refine Nx.m ?_ | refine Nx.zm ?_ | refine Nx.zt (fun hc => ?_) (fun hc => ?_))
    | refine Nx.zx ?_ | fail
  exact Nx.ret3 rfl (ROne.cell 0 rfl rfl rfl rfl rfl) (ROne.tmp rfl) (ROne.tmp rfl) [_, _, _, _, _] ⟨B, c', s, _, _, t, As, ca, rs, k3, rfl, hs, ⟨htl, hte⟩, hrn, hro, hk3, rfl⟩ (by (exact Ent.auto))
theorem mem_toldK {l : List Int} {v : List Row} {vs : List Int} {x : List Int × Int} : ∀ {n : Nat}, x ∈ toldK l v vs n ↔ ∃ j, j < n ∧ vs.getD j default ≠ -1 ∧ x = (memK l v (j : Int) (prod l).toNat, vs.getD j default)
  | 0 => by simp [toldK]
  | n + 1 => by
    rw [toldK, List.mem_append, mem_toldK]
    constructor
    · rintro (⟨j, h1, h2, h3⟩ | h)
      · exact ⟨j, by omega, h2, h3⟩
      · by_cases hz : vs.getD n default = -1
        · rw [if_pos hz] at h; cases h
        · rw [if_neg hz, List.mem_singleton] at h
          exact ⟨n, by omega, hz, h⟩
    · rintro ⟨j, h1, h2, h3⟩
      rcases Nat.lt_or_ge j n with hj | hj
      · exact .inl ⟨j, hj, h2, h3⟩
      · obtain rfl : j = n := by omega
        right
        rw [if_neg h2, List.mem_singleton]
        exact h3
/-- Equations with which a table agrees. -/
structure EqsOk (N : Nat) (t : List Int) (most : Int) (qs : List EqR) : Prop where
  n : 1 ≤ N ∧ N ≤ 48
  len : t.length = N
  tab : ∀ j, j < t.length → 0 ≤ t.getD j default ∧ t.getD j default ≤ most
  few : qs.length ≤ 8
  good : ∀ q ∈ qs, GoodE N q
  sum : ∀ q ∈ qs, sumC t (eqn q).1 = q.2
end Go.Proofs.YtcmdemfhbekabaaGreat
/- Contracts of functions of the given program, and lemmas about plain lists and numbers: what the laws of this seat lean on. -/
namespace Go.Proofs.YtcmdemfhbekabaaGreat
open Go.Eng Go.Sol
attribute [local irreducible] opK wpList Code.wp Exit.then Exit.inBlock fnPost bodyPost Nx Calls Oper.wp Rd Rds Wr Ent Stars Blk Again Vec FnSpec wpMix QRun Stop Upto wpAt
/-! The program's equations: what releases tell, for right views -/
def badV (z : Int) : Bool := decide (z ≠ -1) && !decide (0 ≤ z ∧ z ≤ 1000000)
set_option maxHeartbeats 8000000 in
set_option maxRecDepth 10000 in
theorem bad_spec (z : Int) (I : PH) : FnSpec Tryz.prog 151 [.int .i64 z] I [] (fun v R' => v = .bool (badV z) ∧ R' = []) := by
  have hv := value_spec z I
  unfold badV
  refine FnSpec.enterP Tryz.func151 rfl Tryz.ntmps151 rfl fun w F => ?_
  by_cases h : z = -1
  · rw [decide_eq_false (fun h' : z ≠ -1 => h' h), Bool.false_and]
    repeat' first
      | ((with_reducible refine Nx.is_wp ?_); first | refine Nx.wo ?_ | refine Nx.zp (fun hc => ?_) (fun hc => ?_))
      | (refine Nx.zo ?_; first | refine Nx.opr rfl rfl ?_ | refine Nx.callv rfl rfl rfl (by kernel_rfl) rfl hv ?_ | refine Nx.so ?_ | refine Nx.sb (fun bx => ?_) | refine Nx.sa (fun A2 c2 => ?_))
      | ((with_reducible refine Nx.is_at ?_); first | refine Nx.a ?_ | refine Nx.zd ?_ | refine Nx.zs (fun hc => ?_) (fun hc => ?_))
      | ((with_reducible refine Nx.is_mix ?_); first | refine Nx.m ?_ | refine Nx.zm ?_ | refine Nx.zt (fun hc => ?_) (fun hc => ?_))
      | refine Nx.zx ?_ | fail
    exact Nx.ret_fn rfl [] ⟨rfl, rfl⟩ (by (exact Ent.auto))
  · rw [decide_eq_true (show z ≠ -1 from h), Bool.true_and]
    repeat' first
      | ((with_reducible refine Nx.is_wp ?_); first | refine Nx.wo ?_ | refine Nx.zp (fun hc => ?_) (fun hc => ?_))
      | (refine Nx.zo ?_; first | refine Nx.opr rfl rfl ?_ | refine Nx.callv rfl rfl rfl (by kernel_rfl) rfl hv ?_ | refine Nx.so ?_ | refine Nx.sb (fun bx => ?_) | refine Nx.sa (fun A2 c2 => ?_))
      | ((with_reducible refine Nx.is_at ?_); first | refine Nx.a ?_ | refine Nx.zd ?_ | refine Nx.zs (fun hc => ?_) (fun hc => ?_))
      | ((with_reducible refine Nx.is_mix ?_); first | refine Nx.m ?_ | refine Nx.zm ?_ | refine Nx.zt (fun hc => ?_) (fun hc => ?_))
      | refine Nx.zx ?_ | fail
    exact Nx.ret_fn rfl [] ⟨rfl, rfl⟩ (by (exact Ent.auto))
/-- The error of a release. -/
def relE (_ : List Int) (r : Rel) (before : Int) : Int :=
  if r.num ≤ before ∨ 24 ≤ r.num then 48 else if (r.val.2.2.length : Int) ≠ prod (szs r.v) then 17 else if r.val.2.2.any badV = true then 2 else 0
set_option maxRecDepth 10000 in
set_option maxHeartbeats 8000000 in
theorem echeck_spec (A : Option Addr) (c : Nat) (l : List Int) (r : Rel) (before : Int) (I : PH) (hl : Ints I A c l) (hs : Sizes l) (hv : RowsOf I r.va r.vc r.v) (hd : Ints I r.val.1 r.val.2.1 r.val.2.2) (hw : Viewed l r.v) :
    FnSpec Tryz.prog 134 [.agg #[.slice A l.length c], .agg #[.int .i64 r.num, .slice r.va r.v.length r.vc, .slice r.val.1 r.val.2.2.length r.val.2.1], .int .i64 before] I [] (fun u R' => u = .int .i64 (relE l r before) ∧ R' = []) := by
  obtain ⟨num, B, cv, v, D, cd, vs⟩ := r
  dsimp only at hv hd hw ⊢
  have hvl := hd.len
  have hP := Published_spec A B c cv l v I hl hs hv hw
  have hC := ContainsFunc_spec 151 badV D cd vs I hd (by kernel_rfl) (fun z => bad_spec z I)
  unfold relE
  dsimp only
  generalize prod (szs v) = P at hP
  refine FnSpec.enterP Tryz.func134 rfl Tryz.ntmps134 rfl fun w F => ?_
  by_cases h1 : num ≤ before
  · rw [if_pos (.inl h1)]
    repeat' first
      | ((with_reducible refine Nx.is_wp ?_); first | refine Nx.wo ?_ | refine Nx.zp (fun hc => ?_) (fun hc => ?_))
      | (refine Nx.zo ?_; first | refine Nx.opr rfl rfl ?_ | refine Nx.so ?_ | refine Nx.sb (fun bx => ?_) | refine Nx.sa (fun A2 c2 => ?_))
      | ((with_reducible refine Nx.is_at ?_); first | refine Nx.a ?_ | refine Nx.zd ?_ | refine Nx.zs (fun hc => ?_) (fun hc => ?_))
      | ((with_reducible refine Nx.is_mix ?_); first | refine Nx.m ?_ | refine Nx.zm ?_ | refine Nx.zt (fun hc => ?_) (fun hc => ?_))
      | refine Nx.zx ?_ | fail
    exact Nx.ret_fn rfl [] ⟨rfl, rfl⟩ (by (exact Ent.auto))
  by_cases h2 : 24 ≤ num
  · rw [if_pos (.inr h2)]
    repeat' first
      | ((with_reducible refine Nx.is_wp ?_); first | refine Nx.wo ?_ | refine Nx.zp (fun hc => ?_) (fun hc => ?_))
      | (refine Nx.zo ?_; first | refine Nx.opr rfl rfl ?_ | refine Nx.so ?_ | refine Nx.sb (fun bx => ?_) | refine Nx.sa (fun A2 c2 => ?_))
      | ((with_reducible refine Nx.is_at ?_); first | refine Nx.a ?_ | refine Nx.zd ?_ | refine Nx.zs (fun hc => ?_) (fun hc => ?_))
      | ((with_reducible refine Nx.is_mix ?_); first | refine Nx.m ?_ | refine Nx.zm ?_ | refine Nx.zt (fun hc => ?_) (fun hc => ?_))
      | refine Nx.zx ?_ | fail
    exact Nx.ret_fn rfl [] ⟨rfl, rfl⟩ (by (exact Ent.auto))
  rw [if_neg (by omega)]
  by_cases h3 : (vs.length : Int) ≠ P
  · rw [if_pos h3]
    repeat' first
      | ((with_reducible refine Nx.is_wp ?_); first | refine Nx.wo ?_ | refine Nx.p_draw (id := 6) rfl [0, 1, 2, 3, 4, 5, 6, 7] [6] _ rfl rfl (by kernel_rfl) (by kernel_rfl) rfl (by repeat first | exact PanicOk.fn | refine PanicOk.then_ ?_ | refine PanicOk.inB ?_) (Ent.refl _) ?_ | refine Nx.zp (fun hc => ?_) (fun hc => ?_))
      | (refine Nx.zo ?_; first | refine Nx.opr rfl rfl ?_ | refine Nx.loads rfl rfl rfl rfl (Rds.cut 0 1 rfl rfl) rfl ?_ | refine Nx.callv rfl rfl rfl (by kernel_rfl) rfl (View_spec _ _ _ _ _ _ _ hl hs hv hw) ?_ | refine Nx.callv rfl rfl rfl (by kernel_rfl) rfl hP ?_ | refine Nx.so ?_ | refine Nx.sb (fun bx => ?_) | refine Nx.sa (fun A2 c2 => ?_))
      | ((with_reducible refine Nx.is_at ?_); first | refine Nx.a ?_ | refine Nx.zd ?_ | refine Nx.zs (fun hc => ?_) (fun hc => ?_))
      | ((with_reducible refine Nx.is_mix ?_); first | refine Nx.m_quiet rfl rfl rfl rfl rfl (by first | exact QRun.opr rfl | exact QRun.loads rfl rfl rfl (Rds.cut 0 1 rfl rfl) rfl) ?_ | refine Nx.m_quiet_do rfl rfl rfl rfl rfl rfl rfl (by first | exact QRun.opr rfl | exact QRun.loads rfl rfl rfl (Rds.cut 0 1 rfl rfl) rfl) ?_ | refine Nx.m ?_ | refine Nx.zm ?_ | refine Nx.zt (fun hc => ?_) (fun hc => ?_))
      | refine Nx.zx ?_ | fail
    exact Nx.ret_fn rfl [] ⟨rfl, rfl⟩ (by (exact Ent.auto))
  rw [if_neg h3]
  have h3 : (vs.length : Int) = P := Decidable.byContradiction h3
  cases hb : vs.any badV with
  | true =>
    rw [if_pos rfl]
    rw [hb] at hC
    repeat' first
      | ((with_reducible refine Nx.is_wp ?_); first | refine Nx.wo ?_ | refine Nx.p_draw (id := 6) rfl [0, 1, 2, 3, 4, 5, 6, 7] [6] _ rfl rfl (by kernel_rfl) (by kernel_rfl) rfl (by repeat first | exact PanicOk.fn | refine PanicOk.then_ ?_ | refine PanicOk.inB ?_) (Ent.refl _) ?_ | refine Nx.zp (fun hc => ?_) (fun hc => ?_))
      | (refine Nx.zo ?_; first | refine Nx.opr rfl rfl ?_ | refine Nx.loads rfl rfl rfl rfl (Rds.cut 0 1 rfl rfl) rfl ?_ | refine Nx.callv rfl rfl rfl (by kernel_rfl) rfl (View_spec _ _ _ _ _ _ _ hl hs hv hw) ?_ | refine Nx.callv rfl rfl rfl (by kernel_rfl) rfl hP ?_ | refine Nx.callv rfl rfl rfl (by kernel_rfl) rfl hC ?_ | refine Nx.so ?_ | refine Nx.sb (fun bx => ?_) | refine Nx.sa (fun A2 c2 => ?_))
      | ((with_reducible refine Nx.is_at ?_); first | refine Nx.a ?_ | refine Nx.zd ?_ | refine Nx.zs (fun hc => ?_) (fun hc => ?_))
      | ((with_reducible refine Nx.is_mix ?_); first | refine Nx.m_quiet rfl rfl rfl rfl rfl (by first | exact QRun.opr rfl | exact QRun.loads rfl rfl rfl (Rds.cut 0 1 rfl rfl) rfl) ?_ | refine Nx.m_quiet_do rfl rfl rfl rfl rfl rfl rfl (by first | exact QRun.opr rfl | exact QRun.loads rfl rfl rfl (Rds.cut 0 1 rfl rfl) rfl) ?_ | refine Nx.m ?_ | refine Nx.zm ?_ | refine Nx.zt (fun hc => ?_) (fun hc => ?_))
      | refine Nx.zx ?_ | fail
    exact Nx.ret_fn rfl [] ⟨rfl, rfl⟩ (by (exact Ent.auto))
  | false =>
    rw [if_neg (by decide)]
    rw [hb] at hC
    repeat' first
      | ((with_reducible refine Nx.is_wp ?_); first | refine Nx.wo ?_ | refine Nx.p_draw (id := 6) rfl [0, 1, 2, 3, 4, 5, 6, 7] [6] _ rfl rfl (by kernel_rfl) (by kernel_rfl) rfl (by repeat first | exact PanicOk.fn | refine PanicOk.then_ ?_ | refine PanicOk.inB ?_) (Ent.refl _) ?_ | refine Nx.zp (fun hc => ?_) (fun hc => ?_))
      | (refine Nx.zo ?_; first | refine Nx.opr rfl rfl ?_ | refine Nx.loads rfl rfl rfl rfl (Rds.cut 0 1 rfl rfl) rfl ?_ | refine Nx.callv rfl rfl rfl (by kernel_rfl) rfl (View_spec _ _ _ _ _ _ _ hl hs hv hw) ?_ | refine Nx.callv rfl rfl rfl (by kernel_rfl) rfl hP ?_ | refine Nx.callv rfl rfl rfl (by kernel_rfl) rfl hC ?_ | refine Nx.so ?_ | refine Nx.sb (fun bx => ?_) | refine Nx.sa (fun A2 c2 => ?_))
      | ((with_reducible refine Nx.is_at ?_); first | refine Nx.a ?_ | refine Nx.zd ?_ | refine Nx.zs (fun hc => ?_) (fun hc => ?_))
      | ((with_reducible refine Nx.is_mix ?_); first | refine Nx.m_quiet rfl rfl rfl rfl rfl (by first | exact QRun.opr rfl | exact QRun.loads rfl rfl rfl (Rds.cut 0 1 rfl rfl) rfl) ?_ | refine Nx.m_quiet_do rfl rfl rfl rfl rfl rfl rfl (by first | exact QRun.opr rfl | exact QRun.loads rfl rfl rfl (Rds.cut 0 1 rfl rfl) rfl) ?_ | refine Nx.m ?_ | refine Nx.zm ?_ | refine Nx.zt (fun hc => ?_) (fun hc => ?_))
      | refine Nx.zx ?_ | fail
    exact Nx.ret_fn rfl [] ⟨rfl, rfl⟩ (by (exact Ent.auto))
def relsF (l : List Int) : Int → List Rel → Int
  | _, [] => 0
  | b, r :: rest => if relE l r b ≠ 0 then relE l r b else relsF l r.num rest
/-- The error of releases. -/
def relsE (l : List Int) (rs : List Rel) : Int := if 24 < rs.length then 1 else relsF l (-1) rs
theorem drop_atR {l : List Rel} {k : Nat} (hk : k < l.length) : l.drop k = l.getD k default :: l.drop (k + 1) := by
  rw [List.drop_eq_getElem_cons hk, List.getD_eq_getElem?_getD, List.getElem?_eq_getElem hk]; rfl
theorem relsF_at {l : List Int} {rs : List Rel} {k : Nat} {b : Int} (hk : k < rs.length) : relsF l b (rs.drop k) = if relE l (rs.getD k default) b ≠ 0 then relE l (rs.getD k default) b else relsF l (rs.getD k default).num (rs.drop (k + 1)) := by
  rw [drop_atR hk, relsF]
set_option maxRecDepth 10000 in
set_option maxHeartbeats 8000000 in
theorem ECheck_spec (A As : Option Addr) (c cs : Nat) (l : List Int) (rs : List Rel) (I : PH) (hl : Ints I A c l) (hs : Sizes l) (hr : Rels I As cs rs) (hw : ∀ r ∈ rs, Viewed l r.v) :
    FnSpec Tryz.prog 108 [.agg #[.slice A l.length c], .slice As rs.length cs] I [] (fun u R' => u = .int .i64 (relsE l rs) ∧ R' = []) := by
  have hrl := hr.outer.len
  refine FnSpec.enterP Tryz.func108 rfl Tryz.ntmps108 rfl fun w F => ?_
  unfold relsE
  by_cases h24 : 24 < rs.length
  · rw [if_pos h24]
    repeat' first
      | ((with_reducible refine Nx.is_wp ?_); first | refine Nx.wo ?_ | refine Nx.zp (fun hc => ?_) (fun hc => ?_))
      | (refine Nx.zo ?_; first | refine Nx.opr rfl rfl ?_ | refine Nx.callv rfl rfl rfl (by kernel_rfl) rfl (Check_spec _ _ _ _ hl hs) ?_ | refine Nx.so ?_ | refine Nx.sb (fun bx => ?_) | refine Nx.sa (fun A2 c2 => ?_))
      | ((with_reducible refine Nx.is_at ?_); first | refine Nx.a ?_ | refine Nx.zd ?_ | refine Nx.zs (fun hc => ?_) (fun hc => ?_))
      | ((with_reducible refine Nx.is_mix ?_); first | refine Nx.m ?_ | refine Nx.zm ?_ | refine Nx.zt (fun hc => ?_) (fun hc => ?_))
      | refine Nx.zx ?_ | fail
    exact Nx.ret_fn rfl [] ⟨rfl, rfl⟩ (by (exact Ent.auto))
  rw [if_neg h24]
  repeat' first
    | ((with_reducible refine Nx.is_wp ?_); first | refine Nx.wo ?_ | refine Nx.zp (fun hc => ?_) (fun hc => ?_))
    | (refine Nx.zo ?_; first | refine Nx.opr rfl rfl ?_ | refine Nx.callv rfl rfl rfl (by kernel_rfl) rfl (Check_spec _ _ _ _ hl hs) ?_ | refine Nx.so ?_ | refine Nx.sb (fun bx => ?_) | refine Nx.sa (fun A2 c2 => ?_))
    | ((with_reducible refine Nx.is_at ?_); first | refine Nx.a ?_ | refine Nx.zd ?_ | refine Nx.zs (fun hc => ?_) (fun hc => ?_))
    | ((with_reducible refine Nx.is_mix ?_); first | refine Nx.m ?_ | refine Nx.zm ?_ | refine Nx.zt (fun hc => ?_) (fun hc => ?_))
    | refine Nx.zx ?_ | fail
  revert bx; intro b2
  refine Nx.p_loop (σ := Nat × Int) (fun s => [(2, .pointer (some ⟨b2, 0, none⟩)), (6, .int .i64 s.2), (18, .slice As rs.length cs), (19, .int .i64 rs.length), (20, .int .i64 (s.1 : Int))])
    (fun _ => [Blk b2 27 [.slice A l.length c], F]) (fun s => s.1 ≤ rs.length ∧ relsF l (-1) rs = relsF l s.2 (rs.drop s.1)) (fun s => rs.length - s.1) (0, -1) rfl ⟨Nat.zero_le _, rfl⟩ ⟨rfl, rfl, rfl, rfl, rfl, trivial⟩ (by (exact Ent.auto)) ?_
  rintro ⟨i, b⟩ ⟨hi, he⟩
  dsimp only at hi he ⊢
  by_cases hiv : i < rs.length
  case neg =>
    rw [List.drop_eq_nil_of_le (by omega), relsF] at he
    rw [he]
    repeat' first
      | ((with_reducible refine Nx.is_wp ?_); first | refine Nx.wo ?_ | refine Nx.zp (fun hc => ?_) (fun hc => ?_))
      | (refine Nx.zo ?_; first | refine Nx.opr rfl rfl ?_ | refine Nx.so ?_ | refine Nx.sb (fun bx => ?_) | refine Nx.sa (fun A2 c2 => ?_))
      | ((with_reducible refine Nx.is_at ?_); first | refine Nx.a ?_ | refine Nx.zd ?_ | refine Nx.zs (fun hc => ?_) (fun hc => ?_))
      | ((with_reducible refine Nx.is_mix ?_); first | refine Nx.m ?_ | refine Nx.zm ?_ | refine Nx.zt (fun hc => ?_) (fun hc => ?_))
      | refine Nx.zx ?_ | fail
    exact Nx.ret_fn rfl [] ⟨rfl, rfl⟩ (by (exact Ent.auto))
  rw [relsF_at hiv] at he
  have hwi := hw _ (getD_memR hiv)
  have hS := echeck_spec A c l (rs.getD i default) b I hl hs (hr.view _ (getD_memR hiv)) (hr.val _ (getD_memR hiv)) hwi
  have hrds : ∀ (W : World) (R : List Res), Rds W I R ((ad As).add (i * 3)) (relC (rs.getD i default)) := fun W R => hr.outer.rds hiv
  generalize rs.getD i default = r at he hS hrds
  obtain ⟨num, va, vc, v, D, cd, vs⟩ := r
  dsimp only at he hS
  replace hrds : ∀ (W : World) (R : List Res), Rds W I R ((ad As).add (i * 3)) [.int .i64 num, .slice va v.length vc, .slice D vs.length cd] := hrds
  generalize relE l ⟨num, va, vc, v, (D, cd, vs)⟩ b = er at he hS
  by_cases h0 : er = 0
  · rw [if_neg (by omega)] at he
    subst h0
    repeat' first
      | ((with_reducible refine Nx.is_wp ?_); first | refine Nx.wo ?_ | refine Nx.zp (fun hc => ?_) (fun hc => ?_))
      | (refine Nx.zo ?_; first | refine Nx.opr rfl rfl ?_ | refine Nx.indexAddr_nat rfl rfl rfl rfl rfl hiv (hr.outer.isSome (by omega) (by omega)) ?_ | refine Nx.loads rfl rfl rfl rfl (hrds _ _) rfl ?_ | refine Nx.callv rfl rfl rfl (by kernel_rfl) rfl hS ?_ | refine Nx.so ?_ | refine Nx.sb (fun bx => ?_) | refine Nx.sa (fun A2 c2 => ?_))
      | ((with_reducible refine Nx.is_at ?_); first | refine Nx.a ?_ | refine Nx.zd ?_ | refine Nx.zs (fun hc => ?_) (fun hc => ?_))
      | ((with_reducible refine Nx.is_mix ?_); first | refine Nx.m ?_ | refine Nx.zm ?_ | refine Nx.zt (fun hc => ?_) (fun hc => ?_))
      | refine Nx.zx ?_ | fail
    exact Nx.again (i + 1, num) ⟨hiv, he⟩ (by dsimp only; omega) ⟨rfl, rfl, rfl, rfl, rfl, trivial⟩ (by (exact Ent.auto))
  · rw [if_pos h0] at he
    rw [he]
    repeat' first
      | ((with_reducible refine Nx.is_wp ?_); first | refine Nx.wo ?_ | refine Nx.zp (fun hc => ?_) (fun hc => ?_))
      | (refine Nx.zo ?_; first | refine Nx.opr rfl rfl ?_ | refine Nx.indexAddr_nat rfl rfl rfl rfl rfl hiv (hr.outer.isSome (by omega) (by omega)) ?_ | refine Nx.loads rfl rfl rfl rfl (hrds _ _) rfl ?_ | refine Nx.callv rfl rfl rfl (by kernel_rfl) rfl hS ?_ | refine Nx.so ?_ | refine Nx.sb (fun bx => ?_) | refine Nx.sa (fun A2 c2 => ?_))
      | ((with_reducible refine Nx.is_at ?_); first | refine Nx.a ?_ | refine Nx.zd ?_ | refine Nx.zs (fun hc => ?_) (fun hc => ?_))
      | ((with_reducible refine Nx.is_mix ?_); first | refine Nx.m ?_ | refine Nx.zm ?_ | refine Nx.zt (fun hc => ?_) (fun hc => ?_))
      | refine Nx.zx ?_ | fail
    exact Nx.ret_fn rfl [] ⟨rfl, rfl⟩ (by (exact Ent.auto))
end Go.Proofs.YtcmdemfhbekabaaGreat
/-
  The proof engine, part AQ: two bundles as one.
-/
namespace Go.Eng
theorem Ent.app {R R' : List Res} (h : Ent R R') : ∀ A : List Res, Ent (A ++ R) (A ++ R')
  | [] => h
  | _ :: A => Ent.cons (Ent.app h A)
theorem Ent.stars_app {A B R : List Res} : Ent (Stars A :: Stars B :: R) (Stars (A ++ B) :: R) := by
  refine Ent.unstars.trans ?_
  refine (Ent.app Ent.unstars A).trans ?_
  rw [← List.append_assoc]
  exact Ent.stars
end Go.Eng
/- Contracts of functions of the given program, and lemmas about plain lists and numbers: what the laws of this seat lean on. -/
namespace Go.Proofs.YtcmdemfhbekabaaGreat
open Go.Eng Go.Sol
attribute [local irreducible] opK wpList Code.wp Exit.then Exit.inBlock fnPost bodyPost Nx Calls Oper.wp Rd Rds Wr Ent Stars Blk Again Vec FnSpec wpMix QRun Stop Upto wpAt
theorem eq_one (l : List EqR) : ∀ u ∈ l.flatMap eqC, u.oneCell' = true := fun u hu => by
  obtain ⟨x, _, hx⟩ := List.mem_flatMap.1 hu
  simp only [eqC, List.mem_cons, List.not_mem_nil, or_false] at hx
  rcases hx with rfl | rfl <;> rfl
theorem relE_ok {l : List Int} {r : Rel} {b : Int} (hw : Viewed l r.v) (_ : Sizes l) (h : relE l r b = 0) : b < r.num ∧ r.num < 24 ∧ RelV l r := by
  unfold relE at h
  split at h
  · omega
  rename_i h1
  split at h
  · omega
  rename_i h2
  split at h
  · omega
  rename_i h3
  have h2 : (r.val.2.2.length : Int) = prod (szs r.v) := Decidable.byContradiction h2
  refine ⟨by omega, by omega, hw, by omega, fun j hj => ?_⟩
  have h4 : ∀ z ∈ r.val.2.2, ¬ badV z = true := fun z hz hb => h3 (List.any_eq_true.2 ⟨z, hz, hb⟩)
  have h5 := h4 _ (getD_memI hj)
  unfold badV at h5
  by_cases hz : r.val.2.2.getD j default = -1
  · exact .inl hz
  · right
    rw [decide_eq_true hz, Bool.true_and] at h5
    exact Decidable.byContradiction fun hc => h5 (by rw [decide_eq_false hc]; rfl)
theorem relE_of {l : List Int} {r : Rel} {b : Int} (hb : b < r.num) (h24 : r.num < 24) (hs : Sizes l) (h : RelV l r) : relE l r b = 0 := by
  have hp := (h.view.sizes hs).bound (k := (szs r.v).length) (Nat.le_refl _)
  rw [List.take_length] at hp
  have hl := h.len
  unfold relE
  rw [if_neg (by omega), if_neg (by omega), if_neg]
  intro ha
  obtain ⟨z, hz, hbz⟩ := List.any_eq_true.1 ha
  obtain ⟨j, hj, rfl⟩ := mem_getDI hz
  unfold badV at hbz
  rcases h.each j hj with h1 | h1
  · rw [h1] at hbz; simp at hbz
  · rw [decide_eq_true h1] at hbz; simp at hbz
theorem relsF_ok {l : List Int} (hs : Sizes l) : ∀ {rs : List Rel} {b : Int}, (∀ r ∈ rs, Viewed l r.v) → relsF l b rs = 0 → (∀ i, i < rs.length → RelV l (rs.getD i default) ∧ b < (rs.getD i default).num ∧ (rs.getD i default).num < 24) ∧ ∀ i, i + 1 < rs.length → (rs.getD i default).num < (rs.getD (i + 1) default).num
  | [], _, _, _ => ⟨fun i hi => absurd hi (Nat.not_lt_zero _), fun i hi => absurd hi (Nat.not_lt_zero _)⟩
  | r :: rs, b, hw, h => by
    rw [relsF] at h
    split at h
    · omega
    rename_i h0
    have h0 : relE l r b = 0 := Decidable.byContradiction h0
    obtain ⟨h1, h2, h3⟩ := relE_ok (hw r List.mem_cons_self) hs h0
    obtain ⟨h4, h5⟩ := relsF_ok hs (fun x hx => hw x (List.mem_cons_of_mem _ hx)) h
    refine ⟨fun i hi => ?_, fun i hi => ?_⟩
    · cases i with
      | zero => exact ⟨h3, h1, h2⟩
      | succ i =>
        obtain ⟨a, c, d⟩ := h4 i (by simpa using hi)
        exact ⟨a, by show b < (rs.getD i default).num; omega, d⟩
    · cases i with
      | zero => exact (h4 0 (by simpa using hi)).2.1
      | succ i => exact h5 i (by simpa using hi)
theorem relsF_of {l : List Int} (hs : Sizes l) : ∀ {rs : List Rel} {b : Int}, (∀ i, i < rs.length → RelV l (rs.getD i default) ∧ (rs.getD i default).num < 24) → (0 < rs.length → b < (rs.getD 0 default).num) → (∀ i, i + 1 < rs.length → (rs.getD i default).num < (rs.getD (i + 1) default).num) → relsF l b rs = 0
  | [], _, _, _, _ => rfl
  | r :: rs, b, h1, h2, h3 => by
    obtain ⟨h4, h5⟩ := h1 0 (by simp)
    rw [relsF, if_neg (by rw [show relE l r b = 0 from relE_of (h2 (by simp)) h5 hs h4]; simp)]
    exact relsF_of hs (fun i hi => h1 (i + 1) (by simpa using hi)) (fun hi => h3 0 (by simpa using hi)) fun i hi => h3 (i + 1) (by simpa using hi)
theorem relsE_iff {l : List Int} {rs : List Rel} (hs : Sizes l) (hw : ∀ r ∈ rs, Viewed l r.v) : relsE l rs = 0 ↔ RelsV l rs := by
  unfold relsE
  constructor
  · intro h
    split at h
    · omega
    obtain ⟨h1, h2⟩ := relsF_ok hs hw h
    exact ⟨by omega, fun i hi => ⟨(h1 i hi).1, by have := (h1 i hi).2.1; omega, (h1 i hi).2.2⟩, h2⟩
  · intro h
    have := h.len
    rw [if_neg (by omega)]
    exact relsF_of hs (fun i hi => ⟨(h.each i hi).1, (h.each i hi).2.2⟩) (fun hi => by have := (h.each 0 hi).2.1; omega) h.asc
set_option maxRecDepth 10000 in
set_option maxHeartbeats 8000000 in
theorem told_spec (A : Option Addr) (c : Nat) (l : List Int) (r : Rel) (I : PH) (hl : Ints I A c l) (hs : Sizes l) (hv : RowsOf I r.va r.vc r.v) (hd : Ints I r.val.1 r.val.2.1 r.val.2.2) (hV : RelV l r) :
    FnSpec Tryz.prog 110 [.agg #[.slice A l.length c], .agg #[.int .i64 r.num, .slice r.va r.v.length r.vc, .slice r.val.1 r.val.2.2.length r.val.2.1]] I []
      (fun u R' => ∃ (A' : Option Addr) (c' : Nat) (qs : List EqR), u = .slice A' qs.length c' ∧ qs.map cont = told l r ∧ qs.length ≤ 48 ∧ R' = eqsR A' c' qs) := by
  obtain ⟨num, va, vc, v, D, cd, vs⟩ := r
  obtain ⟨hw, hlen, heach⟩ := hV
  dsimp only at hv hd hw hlen heach ⊢
  have hszs := hw.sizes hs
  have hvl := hd.len
  have hpc := hszs.cells
  have hpr := hszs.bound (k := (szs v).length) (Nat.le_refl _)
  rw [List.take_length] at hpr
  refine FnSpec.enterP Tryz.func110 rfl Tryz.ntmps110 rfl fun w F => ?_
  repeat' first
    | ((with_reducible refine Nx.is_wp ?_); first | refine Nx.wo ?_ | refine Nx.zp (fun hc => ?_) (fun hc => ?_))
    | (refine Nx.zo ?_; first | refine Nx.opr rfl rfl ?_ | refine Nx.so ?_ | refine Nx.sb (fun bx => ?_) | refine Nx.sa (fun A2 c2 => ?_))
    | ((with_reducible refine Nx.is_at ?_); first | refine Nx.a ?_ | refine Nx.zd ?_ | refine Nx.zs (fun hc => ?_) (fun hc => ?_))
    | ((with_reducible refine Nx.is_mix ?_); first | refine Nx.m ?_ | refine Nx.zm ?_ | refine Nx.zt (fun hc => ?_) (fun hc => ?_))
    | refine Nx.zx ?_ | fail
  rename_i b2
  revert bx; intro b3
  refine Nx.p_loop (σ := Nat × Option Addr × Nat × List EqR) (fun s => [(2, .pointer (some ⟨b2, 0, none⟩)), (3, .pointer (some ⟨b3, 0, none⟩)), (5, .slice s.2.1 s.2.2.2.length s.2.2.1), (11, .slice D vs.length cd), (12, .int .i64 vs.length), (13, .int .i64 (s.1 : Int))])
    (fun s => Blk b3 62 [.int .i64 num, .slice va v.length vc, .slice D vs.length cd] :: Blk b2 27 [.slice A l.length c] :: (eqsR s.2.1 s.2.2.1 s.2.2.2 ++ [F])) (fun s => s.1 ≤ vs.length ∧ s.2.2.2.map cont = toldK l v vs s.1 ∧ s.2.2.2.length ≤ s.1) (fun s => vs.length - s.1) (0, none, 0, []) rfl ⟨Nat.zero_le _, rfl, Nat.le_refl _⟩ ⟨rfl, rfl, rfl, rfl, rfl, rfl, trivial⟩ ((Ent.stars_nil _).trans ((Ent.vec_nil 93 2 _).trans (by unfold eqsR; (exact Ent.auto)))) ?_
  rintro ⟨j, Ap, cp, ps⟩ ⟨hj, hps, hpl⟩
  dsimp only at hj hps hpl ⊢
  by_cases hjv : j < vs.length
  case neg =>
    obtain rfl : j = vs.length := by omega
    repeat' first
      | ((with_reducible refine Nx.is_wp ?_); first | refine Nx.wo ?_ | refine Nx.zp (fun hc => ?_) (fun hc => ?_))
      | (refine Nx.zo ?_; first | refine Nx.opr rfl rfl ?_ | refine Nx.so ?_ | refine Nx.sb (fun bx => ?_) | refine Nx.sa (fun A2 c2 => ?_))
      | ((with_reducible refine Nx.is_at ?_); first | refine Nx.a ?_ | refine Nx.zd ?_ | refine Nx.zs (fun hc => ?_) (fun hc => ?_))
      | ((with_reducible refine Nx.is_mix ?_); first | refine Nx.m ?_ | refine Nx.zm ?_ | refine Nx.zt (fun hc => ?_) (fun hc => ?_))
      | refine Nx.zx ?_ | fail
    exact Nx.ret_fn rfl [_, _] ⟨Ap, cp, ps, rfl, hps, by omega, rfl⟩ (by (exact Ent.auto))
  have hrd : ∀ (W : World) (R : List Res), Rd W I R ((ad D).add (j * 1)) (.int .i64 (vs.getD j default)) := fun W R => hd.rd hjv
  have hts : toldK l v vs (j + 1) = toldK l v vs j ++ if vs.getD j default = -1 then [] else [(memK l v (j : Int) (prod l).toNat, vs.getD j default)] := rfl
  have hM := Members_spec A va c vc l v (j : Int) I hl hs hv hw ⟨by omega, by omega⟩
  generalize memK l v (j : Int) (prod l).toNat = mm at hM hts
  generalize vs.getD j default = z at hrd hts
  by_cases hz : z = -1
  · subst hz
    rw [if_pos rfl, List.append_nil] at hts
    repeat' first
      | ((with_reducible refine Nx.is_wp ?_); first | refine Nx.wo ?_ | refine Nx.zp (fun hc => ?_) (fun hc => ?_))
      | (refine Nx.zo ?_; first | refine Nx.opr rfl rfl ?_ | refine Nx.indexAddr_nat (A := D) rfl rfl rfl rfl rfl hjv (hd.isSome (by omega)) ?_ | refine Nx.load rfl rfl rfl (hrd _ _) ?_ | refine Nx.so ?_ | refine Nx.sb (fun bx => ?_) | refine Nx.sa (fun A2 c2 => ?_))
      | ((with_reducible refine Nx.is_at ?_); first | refine Nx.a ?_ | refine Nx.zd ?_ | refine Nx.zs (fun hc => ?_) (fun hc => ?_))
      | ((with_reducible refine Nx.is_mix ?_); first | refine Nx.m ?_ | refine Nx.zm ?_ | refine Nx.zt (fun hc => ?_) (fun hc => ?_))
      | refine Nx.zx ?_ | fail
    exact Nx.again (j + 1, Ap, cp, ps) ⟨hjv, by rw [hts]; exact hps, by dsimp only; omega⟩ (by dsimp only; omega) ⟨rfl, rfl, rfl, rfl, rfl, rfl, trivial⟩ (by (exact Ent.auto))
  · rw [if_neg hz] at hts
    repeat' first
      | ((with_reducible refine Nx.is_wp ?_); first | refine Nx.wo ?_ | refine Nx.zp (fun hc => ?_) (fun hc => ?_))
      | (refine Nx.zo ?_; first | refine Nx.opr rfl rfl ?_ | refine Nx.indexAddr_nat (A := D) rfl rfl rfl rfl rfl hjv (hd.isSome (by omega)) ?_ | refine Nx.load rfl rfl rfl (hrd _ _) ?_ | refine Nx.loads rfl rfl rfl rfl (Rds.cut 0 1 rfl rfl) rfl ?_ | (refine Nx.call (Rpre := []) rfl rfl rfl (by kernel_rfl) rfl hM (Ent.refl _) ?_; rintro _ _ ⟨Am, cm, rfl, rfl⟩) | refine Nx.so ?_ | refine Nx.sb (fun bx => ?_) | refine Nx.sa (fun A2 c2 => ?_))
      | ((with_reducible refine Nx.is_at ?_); first | refine Nx.a ?_ | refine Nx.zd ?_ | refine Nx.zs (fun hc => ?_) (fun hc => ?_))
      | ((with_reducible refine Nx.is_mix ?_); first | refine Nx.m ?_ | refine Nx.zm ?_ | refine Nx.zt (fun hc => ?_) (fun hc => ?_))
      | refine Nx.zx ?_ | fail
    refine Nx.again (j + 1, A2, c2, ps ++ [((Am, cm, mm), z)]) ⟨hjv, by dsimp only; rw [hts, List.map_append, hps]; rfl, by dsimp only; rw [List.length_append]; show ps.length + 1 ≤ _; omega⟩ (by dsimp only; omega) ⟨rfl, rfl, by dsimp only; rw [List.length_append]; rfl, rfl, rfl, rfl, trivial⟩ ?_
    dsimp only
    refine Ent.trans (R' := rowR (Am, cm, mm) :: Stars (ps.map fun q => rowR q.1) :: [Vec 93 2 A2 (ps.length + 1) c2 (ps.flatMap eqC ++ eqC ((Am, cm, mm), z)), Blk b3 62 [.int .i64 num, .slice va v.length vc, .slice D vs.length cd], Blk b2 27 [.slice A l.length c], F]) (by unfold rowR eqC eqsR; (exact Ent.auto)) ?_
    refine Ent.trans (R' := Stars ((ps.map fun q => rowR q.1) ++ [rowR (Am, cm, mm)]) :: [Vec 93 2 A2 (ps.length + 1) c2 (ps.flatMap eqC ++ eqC ((Am, cm, mm), z)), Blk b3 62 [.int .i64 num, .slice va v.length vc, .slice D vs.length cd], Blk b2 27 [.slice A l.length c], F]) Ent.bundle ?_
    unfold eqsR
    rw [List.length_append, List.flatMap_append, List.map_append, List.flatMap_cons, List.flatMap_nil, List.append_nil]
    (exact Ent.auto)
set_option maxRecDepth 10000 in
set_option maxHeartbeats 8000000 in
theorem EAll_spec (A As : Option Addr) (c cs : Nat) (l : List Int) (rs : List Rel) (I : PH) (hl : Ints I A c l) (hs : Sizes l) (hr : Rels I As cs rs) (hw : ∀ r ∈ rs, Viewed l r.v) :
    FnSpec Tryz.prog 68 [.agg #[.slice A l.length c], .slice As rs.length cs] I []
      (fun u R' => ∃ (A' : Option Addr) (c' : Nat) (qs : List EqR), u = .tuple #[.slice A' qs.length c', .int .i64 (relsE l rs)] ∧ qs.map cont = (if relsE l rs = 0 then rs.flatMap (told l) else []) ∧ qs.length ≤ 24 * 48 ∧ R' = eqsR A' c' qs) := by
  have hEC := ECheck_spec A As c cs l rs I hl hs hr hw
  have hiff := relsE_iff hs hw
  refine FnSpec.enterP Tryz.func68 rfl Tryz.ntmps68 rfl fun w F => ?_
  by_cases h0 : relsE l rs = 0
  case neg =>
    rw [if_neg h0]
    generalize relsE l rs = er at h0 hEC
    repeat' first
      | ((with_reducible refine Nx.is_wp ?_); first | refine Nx.wo ?_ | refine Nx.zp (fun hc => ?_) (fun hc => ?_))
      | (refine Nx.zo ?_; first | refine Nx.opr rfl rfl ?_ | refine Nx.callv rfl rfl rfl (by kernel_rfl) rfl hEC ?_ | refine Nx.so ?_ | refine Nx.sb (fun bx => ?_) | refine Nx.sa (fun A2 c2 => ?_))
      | ((with_reducible refine Nx.is_at ?_); first | refine Nx.a ?_ | refine Nx.zd ?_ | refine Nx.zs (fun hc => ?_) (fun hc => ?_))
      | ((with_reducible refine Nx.is_mix ?_); first | refine Nx.m ?_ | refine Nx.zm ?_ | refine Nx.zt (fun hc => ?_) (fun hc => ?_))
      | refine Nx.zx ?_ | fail
    exact Nx.ret_fn rfl [_, _] ⟨none, 0, [], rfl, rfl, by decide, rfl⟩ ((Ent.stars_nil _).trans ((Ent.vec_nil 93 2 _).trans (by (exact Ent.auto))))
  have hV := hiff.1 h0
  rw [if_pos h0, h0]
  rw [h0] at hEC
  have h24 := hV.len
  repeat' first
    | ((with_reducible refine Nx.is_wp ?_); first | refine Nx.wo ?_ | refine Nx.zp (fun hc => ?_) (fun hc => ?_))
    | (refine Nx.zo ?_; first | refine Nx.opr rfl rfl ?_ | refine Nx.callv rfl rfl rfl (by kernel_rfl) rfl hEC ?_ | refine Nx.so ?_ | refine Nx.sb (fun bx => ?_) | refine Nx.sa (fun A2 c2 => ?_))
    | ((with_reducible refine Nx.is_at ?_); first | refine Nx.a ?_ | refine Nx.zd ?_ | refine Nx.zs (fun hc => ?_) (fun hc => ?_))
    | ((with_reducible refine Nx.is_mix ?_); first | refine Nx.m ?_ | refine Nx.zm ?_ | refine Nx.zt (fun hc => ?_) (fun hc => ?_))
    | refine Nx.zx ?_ | fail
  revert bx; intro b2
  refine Nx.p_loop (σ := Nat × Option Addr × Nat × List EqR) (fun s => [(2, .pointer (some ⟨b2, 0, none⟩)), (7, .slice s.2.1 s.2.2.2.length s.2.2.1), (16, .slice As rs.length cs), (17, .int .i64 rs.length), (18, .int .i64 (s.1 : Int))])
    (fun s => Blk b2 27 [.slice A l.length c] :: (eqsR s.2.1 s.2.2.1 s.2.2.2 ++ [F])) (fun s => s.1 ≤ rs.length ∧ s.2.2.2.map cont = (rs.take s.1).flatMap (told l) ∧ s.2.2.2.length ≤ s.1 * 48) (fun s => rs.length - s.1) (0, none, 0, []) rfl ⟨Nat.zero_le _, rfl, Nat.le_refl _⟩ ⟨rfl, rfl, rfl, rfl, rfl, trivial⟩ ((Ent.stars_nil _).trans ((Ent.vec_nil 93 2 _).trans (by unfold eqsR; (exact Ent.auto)))) ?_
  rintro ⟨i, Ao, co, qs⟩ ⟨hi, hqs, hql⟩
  dsimp only at hi hqs hql ⊢
  by_cases hiv : i < rs.length
  case neg =>
    obtain rfl : i = rs.length := by omega
    rw [List.take_length] at hqs
    repeat' first
      | ((with_reducible refine Nx.is_wp ?_); first | refine Nx.wo ?_ | refine Nx.zp (fun hc => ?_) (fun hc => ?_))
      | (refine Nx.zo ?_; first | refine Nx.opr rfl rfl ?_ | refine Nx.so ?_ | refine Nx.sb (fun bx => ?_) | refine Nx.sa (fun A2 c2 => ?_))
      | ((with_reducible refine Nx.is_at ?_); first | refine Nx.a ?_ | refine Nx.zd ?_ | refine Nx.zs (fun hc => ?_) (fun hc => ?_))
      | ((with_reducible refine Nx.is_mix ?_); first | refine Nx.m ?_ | refine Nx.zm ?_ | refine Nx.zt (fun hc => ?_) (fun hc => ?_))
      | refine Nx.zx ?_ | fail
    exact Nx.ret_fn rfl [_, _] ⟨Ao, co, qs, rfl, hqs, by omega, rfl⟩ (by (exact Ent.auto))
  have htk := take_snocR hiv
  have hT := told_spec A c l (rs.getD i default) I hl hs (hr.view _ (getD_memR hiv)) (hr.val _ (getD_memR hiv)) (hV.each i hiv).1
  have hrds : ∀ (W : World) (R : List Res), Rds W I R ((ad As).add (i * 3)) (relC (rs.getD i default)) := fun W R => hr.outer.rds hiv
  generalize rs.getD i default = r at htk hT hrds
  obtain ⟨num, va, vc, v, D, cd, vs⟩ := r
  dsimp only at hT
  replace hrds : ∀ (W : World) (R : List Res), Rds W I R ((ad As).add (i * 3)) [.int .i64 num, .slice va v.length vc, .slice D vs.length cd] := hrds
  repeat' first
    | ((with_reducible refine Nx.is_wp ?_); first | refine Nx.wo ?_ | refine Nx.zp (fun hc => ?_) (fun hc => ?_))
    | (refine Nx.zo ?_; first | refine Nx.opr rfl rfl ?_ | refine Nx.indexAddr_nat rfl rfl rfl rfl rfl hiv (hr.outer.isSome (by omega) (by omega)) ?_ | refine Nx.loads rfl rfl rfl rfl (hrds _ _) rfl ?_ | (refine Nx.call (Rpre := []) rfl rfl rfl (by kernel_rfl) rfl hT (Ent.refl _) ?_; rintro _ _ ⟨Am, cm, ps, rfl, hps, hpl, rfl⟩) | refine Nx.append_vec 3 rfl rfl rfl rfl (by kernel_rfl) rfl rfl (eq_one ps) (by omega) fun A2 c2 => ?_ | refine Nx.so ?_ | refine Nx.sb (fun bx => ?_) | refine Nx.sa (fun A2 c2 => ?_))
    | ((with_reducible refine Nx.is_at ?_); first | refine Nx.a ?_ | refine Nx.zd ?_ | refine Nx.zs (fun hc => ?_) (fun hc => ?_))
    | ((with_reducible refine Nx.is_mix ?_); first | refine Nx.m ?_ | refine Nx.zm ?_ | refine Nx.zt (fun hc => ?_) (fun hc => ?_))
    | refine Nx.zx ?_ | fail
  refine Nx.again (i + 1, A2, c2, qs ++ ps) ⟨hiv, by dsimp only; rw [htk, List.flatMap_append, List.flatMap_cons, List.flatMap_nil, List.append_nil, List.map_append, hqs, hps], by dsimp only; rw [List.length_append]; omega⟩ (by dsimp only; omega) ⟨rfl, by dsimp only; rw [List.length_append]; rfl, rfl, rfl, rfl, trivial⟩ ?_
  dsimp only
  refine Ent.trans (R' := Stars (qs.map fun q => rowR q.1) :: Stars (ps.map fun q => rowR q.1) :: [Vec 93 2 A2 (qs.length + ps.length) c2 (qs.flatMap eqC ++ ps.flatMap eqC), Blk b2 27 [.slice A l.length c], F]) (by (exact Ent.auto)) ?_
  refine Ent.stars_app.trans ?_
  unfold eqsR
  rw [List.length_append, List.flatMap_append, List.map_append]
  (exact Ent.auto)
end Go.Proofs.YtcmdemfhbekabaaGreat
/-
  The proof engine, part AN: a statement of open order in which memory that a call of its own has made is read before the next call; what is known of all worlds grows from call to call.
-/
namespace Go.Eng
section
variable {P : Program} {ops : Array Oper} {Q : Exit → Act → World → Prop} {md : Region.Mode} {S S' : World → Prop} {fin loud : List Nat}
theorem wpAnyF_weaker (h : ∀ w, S' w → S w) : ∀ (n : Nat) (listed : Array Bool) (a : Act) (w : World), wpAnyF P md ops Q S' fin n listed a w → wpAnyF P md ops Q S fin n listed a w
  | 0, _, _, _, H => H
  | n + 1, _, _, _, H => ⟨H.1, fun i hi => wpOp_mono (fun a' w' h' => ⟨fun hf => h w' (h'.1 hf), wpAnyF_weaker h n _ a' w' h'.2⟩) (H.2 i hi)⟩
/-- The operations in parts; behind each part more may be known of all worlds to come. -/
def wpSegs (P : Program) (ops : Array Oper) (Q : Exit → Act → World → Prop) (loud fin : List Nat) : List (List Nat) → (World → Prop) → Act → World → Prop
  | [], _, a, w => wpMix P ops Q AnyW fin fin a w
  | g :: r, S, a, w => wpMix P ops (Exit.then (fun a w => ∃ S' : World → Prop, (∀ u, S' u → S u) ∧ S' w ∧ wpSegs P ops Q loud fin r S' a w) Q) S loud g a w
theorem wpSegs_anyF (hs : Region.noSelect ops = true) (hQ : PanicOk Q) : ∀ (gs : List (List Nat)) (S : World → Prop) (n : Nat) (listed : Array Bool) (a : Act) (w : World), Closed .any ops listed →
    mixOkF ops fin loud gs.flatten listed = true → gs.flatten.length + fin.length ≤ n → S w → wpSegs P ops Q loud fin gs S a w → wpAnyF P .any ops Q S fin n listed a w
  | [], S, n, listed, a, w, _, hok, hl, _, h => wpMix_fin hs hQ (fun k hk => by simpa using hk) fin n listed a w (fun k hk => by simpa using hk) hok (by simpa using hl) h
  | g :: gs, S, n, listed, a, w, hcl, hok, hl, hS, h => by
    rw [List.flatten_cons] at hok hl
    have key : ∀ (r : List Nat) (n : Nat) (listed : Array Bool) (a : Act) (w : World), Closed .any ops listed → mixOkF ops fin loud (r ++ gs.flatten) listed = true → (r ++ gs.flatten).length + fin.length ≤ n → S w →
        wpMix P ops (Exit.then (fun a w => ∃ S' : World → Prop, (∀ u, S' u → S u) ∧ S' w ∧ wpSegs P ops Q loud fin gs S' a w) Q) S loud r a w → wpAnyF P .any ops Q S fin n listed a w := by
      intro r
      induction r with
      | nil =>
        rintro n listed a w hcl hok hl hS ⟨S', hi, hS', h⟩
        exact wpAnyF_weaker hi _ _ _ _ (wpSegs_anyF hs hQ gs S' n listed a w hcl hok hl hS' h)
      | cons k r ih =>
        intro n listed a w hcl hok hl hS h
        obtain ⟨o, ho, h⟩ := h
        rw [List.cons_append] at hok hl
        unfold mixOkF at hok
        rw [Bool.and_eq_true] at hok
        obtain ⟨hk, hr⟩ := hok
        cases n with
        | zero => simp at hl
        | succ n =>
          have hl' : (r ++ gs.flatten).length + fin.length ≤ n := by simp only [List.length_cons] at hl; omega
          by_cases hc : loud.contains k = true
          · rw [if_pos hc] at h hk
            simp only [Bool.and_eq_true, beq_iff_eq, Bool.not_eq_true'] at hk
            refine ⟨fun h0 => (by rw [hk.1] at h0; cases h0), fun i hi => ?_⟩
            rw [hk.1] at hi
            obtain rfl : i = k := by simpa using hi
            refine wpOp_then (T := fun a w => ∃ S' : World → Prop, (∀ u, S' u → S u) ∧ S' w ∧ wpSegs P ops Q loud fin gs S' a w) ?_
            exact wpOp_mono (fun a' w' h3 => ⟨fun _ => h3.1, ih n _ a' w' (hcl.set (by rw [hk.1]; simp)) hr hl' h3.1 h3.2⟩) h
          · rw [if_neg hc] at h hk
            simp only [Bool.and_eq_true] at hk
            obtain ⟨v, hy, h⟩ := h
            exact wpAnyF_first ho hs hQ hk.2 n listed a w hcl (Region.free_spec ho hk.1.1) (by simpa using hk.1.2) hy hS (ih n _ _ w (hcl.set (by simpa using hk.1.2)) hr hl' hS h)
    exact key g n listed a w hcl hok hl hS h
end
section
variable {C : Cx} {e e' : Env} {I I' : PH} {R R' R0 R1 : List Res} {K K' : Act → World → Prop} {Q : Exit → Act → World → Prop} {c : Code} {ops : Array Oper} {loud fin : List Nat}
theorem Nx.p_segs {id : Nat} (hid : cid c = id) (gs : List (List Nat)) (loud fin : List Nat) (R0 : List Res) (hk : ck c = 2) (hm : C.P.follows .mixedOrders = true) (hs : Region.noSelect (cops c) = true) (hok : mixOkF (cops c) fin loud gs.flatten (Array.replicate (cops c).size false) = true) (hlen : Nat.ble (gs.flatten.length + fin.length) (cops c).size = true) (hQ : PanicOk Q) (hR : Ent R R0)
    (h : Nx C e I R (wpSegs C.P (cops c) Q loud fin gs (St C.W I R0))) : Nx C e I R (c.wp C.P Q) := by
  have hc : c = .region (cid c) (cops c) true := by
    cases c <;> first | (simp [ck] at hk; done) | skip
    rename_i b
    cases b with
    | false => simp [ck] at hk
    | true => rfl
  clear hid
  rw [hc]
  intro a w ha hw
  refine wp_region_any hm (wpAny_of_fin _ _ _ _ (wpSegs_anyF (S := St C.W I R0) hs hQ gs _ _ a _ (Closed.start _) hok (Nat.le_of_ble_eq_true hlen) (hw.drew.ent hR) (h a _ ha hw.drew)))
theorem Nx.segs_in {g : List Nat} {gs : List (List Nat)} {S : World → Prop} (h : Nx C e I R (wpMix C.P ops (Exit.then (fun a w => ∃ S' : World → Prop, (∀ u, S' u → S u) ∧ S' w ∧ wpSegs C.P ops Q loud fin gs S' a w) Q) S loud g)) : Nx C e I R (wpSegs C.P ops Q loud fin (g :: gs) S) := h
theorem Nx.segs_end {S : World → Prop} (h : Nx C e I R (wpMix C.P ops Q AnyW fin fin)) : Nx C e I R (wpSegs C.P ops Q loud fin [] S) := h
/-- Behind a part: from here on 'R' is known of all worlds. -/
theorem Nx.segs_next {gs : List (List Nat)} (hle : PH.le I I') (hR : Ent R R0) (h : Nx C e I' R (wpSegs C.P ops Q loud fin gs (St C.W I' R))) : Nx C e I' R (fun a w => ∃ S' : World → Prop, (∀ u, S' u → St C.W I R0 u) ∧ S' w ∧ wpSegs C.P ops Q loud fin gs S' a w) :=
  fun a w ha hw => ⟨St C.W I' R, fun _ hu => (hu.imm_le hle).ent hR, hw, h a w ha hw⟩
end
end Go.Eng
/- Contracts of functions of the given program, and lemmas about plain lists and numbers: what the laws of this seat lean on. -/
namespace Go.Proofs.YtcmdemfhbekabaaGreat
open Go.Eng Go.Sol
attribute [local irreducible] opK wpList Code.wp Exit.then Exit.inBlock fnPost bodyPost Nx Calls Oper.wp Rd Rds Wr Ent Stars Blk Again Vec FnSpec wpMix QRun Stop Upto wpAt
/-! Reaches and pairs -/
theorem mem_sols {n : Nat} {l : List EqR} (hg : ∀ q ∈ l, GoodE n q) {s : List Int} : s ∈ solsOf n (eqns l) ↔ Goes n 1000000 (eqns l) (touch n (eqns l)) (List.replicate n 0) s :=
  mem_enum (fun q hq => by obtain ⟨x, hx, rfl⟩ := List.mem_map.1 hq; exact eqn_nd (hg x hx)) (inv_start hg (touch_nd _ _) fun _ => Iff.rfl)
theorem mem_ext {n x : Nat} {down : Bool} {l : List EqR} (hg : ∀ q ∈ l, GoodE n q) (hx : x ∈ touch n (eqns l)) {s : List Int} : s ∈ extOf n (eqns l) x down ↔ s ∈ solsOf n (eqns l) := by
  rw [mem_sols hg]
  refine (mem_enum (fun q hq => by obtain ⟨x, hx, rfl⟩ := List.mem_map.1 hq; exact eqn_nd (hg x hx)) (inv_start hg (ord_nd n (eqns l) x) (ord_mem hx))).trans ?_
  constructor
  · exact fun h => ⟨h.len, fun c hc => h.same c fun h' => hc ((ord_mem hx c).1 h'), fun c hc => h.pos c ((ord_mem hx c).2 hc), h.sum⟩
  · exact fun h => ⟨h.len, fun c hc => h.same c fun h' => hc ((ord_mem hx c).2 h'), fun c hc => h.pos c ((ord_mem hx c).1 hc), h.sum⟩
theorem ext_some {n x : Nat} (down : Bool) {l : List EqR} (hg : ∀ q ∈ l, GoodE n q) (hx : x ∈ touch n (eqns l)) (hne : solsOf n (eqns l) ≠ []) : ∃ s r, extOf n (eqns l) x down = s :: r ∧ s.length = n := by
  obtain ⟨s0, h0⟩ := List.exists_mem_of_ne_nil _ hne
  have h1 := (mem_ext (down := down) hg hx).2 h0
  cases he : extOf n (eqns l) x down with
  | nil => rw [he] at h1; cases h1
  | cons s r =>
    refine ⟨s, r, rfl, ?_⟩
    have : s ∈ extOf n (eqns l) x down := by rw [he]; exact List.mem_cons_self ..
    exact ((mem_sols hg).1 ((mem_ext hg hx).1 this)).len
set_option maxHeartbeats 8000000 in
theorem extreme_spec2 {A : Option Addr} {c : Nat} {l : List EqR} {n x : Nat} {down : Bool} {I : PH} {s : List Int} (hl : Eqs I A c l) (hg : ∀ q ∈ l, GoodE n q) (hn : n ≤ 4096) (hll : l.length ≤ 100000) (h9 : (allC l).length ≤ 100000) (hx : x ∈ touch n (eqns l)) (hs : (extOf n (eqns l) x down).headD [] = s) :
    FnSpec Tryz.prog 113 [.int .i64 (n : Int), .slice A l.length c, .int .i64 (x : Int), .bool down] I [] (fun v R' => ∃ (A' : Option Addr) (c' : Nat), v = .slice A' s.length c' ∧ R' = [iR A' c' s]) := by
  refine (extreme_spec A c l n x down I hl hg hn hll h9 hx).mono ?_
  rintro v R' ⟨A', c', tab, rfl, rfl, rfl⟩
  subst hs
  exact ⟨A', c', rfl, rfl⟩
def reachAt (n : Nat) (L : List Eqn) (c : Nat) : Rch := if c ∈ touch n L then (((extOf n L c false).headD []).getD c 0, ((extOf n L c true).headD []).getD c 0, false) else (0, 0, true)
def reachR (n : Int) (l : List EqR) : List Rch × Int := if chkQ n l = 0 then (if solsOf n.toNat (eqns l) = [] then ([], 52) else ((List.range n.toNat).map (reachAt n.toNat (eqns l)), 0)) else ([], chkQ n l)
abbrev rcR (A : Option Addr) (c : Nat) (r : List Rch) : Res := Vec 42 3 A r.length c (r.flatMap rcC)
theorem list_ext_d {α : Type} [Inhabited α] {a b : List α} (hl : a.length = b.length) (h : ∀ j, j < a.length → a.getD j default = b.getD j default) : a = b := by
  refine List.ext_getElem hl fun i h1 h2 => ?_
  have := h i h1
  rw [List.getD_eq_getElem?_getD, List.getD_eq_getElem?_getD, List.getElem?_eq_getElem h1, List.getElem?_eq_getElem h2] at this
  exact this
set_option maxRecDepth 10000 in
set_option maxHeartbeats 8000000 in
theorem Reaches_spec (n : Int) (A : Option Addr) (c : Nat) (l : List EqR) (I : PH) (hl : Eqs I A c l) (h9 : (allC l).length ≤ 100000) :
    FnSpec Tryz.prog 107 [.int .i64 n, .slice A l.length c] I []
      (fun v R' => ∃ (A' : Option Addr) (c' : Nat), v = .tuple #[.slice A' (reachR n l).1.length c', .int .i64 (reachR n l).2] ∧ R' = [rcR A' c' (reachR n l).1]) := by
  have hF := First_spec n A c l I hl h9
  unfold firstOf at hF
  unfold reachR
  refine FnSpec.enterP Tryz.func107 rfl Tryz.ntmps107 rfl fun w F => ?_
  by_cases h0 : chkQ n l = 0
  case neg =>
    rw [if_neg h0] at hF
    rw [if_neg h0]
    repeat' first
      | ((with_reducible refine Nx.is_wp ?_); first | refine Nx.wo ?_ | refine Nx.zp (fun hc => ?_) (fun hc => ?_))
      | (refine Nx.zo ?_; first | refine Nx.opr rfl rfl ?_ | (refine Nx.call (Rpre := []) rfl rfl rfl (by kernel_rfl) rfl hF (Ent.refl _) ?_; rintro _ _ ⟨A1, c1, rfl, rfl⟩) | refine Nx.so ?_ | refine Nx.sb (fun bx => ?_) | refine Nx.sa (fun A2 c2 => ?_))
      | ((with_reducible refine Nx.is_at ?_); first | refine Nx.a ?_ | refine Nx.zd ?_ | refine Nx.zs (fun hc => ?_) (fun hc => ?_))
      | ((with_reducible refine Nx.is_mix ?_); first | refine Nx.m ?_ | refine Nx.zm ?_ | refine Nx.zt (fun hc => ?_) (fun hc => ?_))
      | refine Nx.zx ?_ | fail
    exact Nx.ret_fn rfl [_] ⟨none, 0, rfl, rfl⟩ ((Ent.vec_nil 42 3 _).trans (by unfold rcR; (exact Ent.auto)))
  rw [if_pos h0] at hF ⊢
  obtain ⟨h1, h2, h3, _⟩ := chk_good h0
  by_cases hso : solsOf n.toNat (eqns l) = []
  · rw [if_pos hso]
    rw [hso] at hF
    repeat' first
      | ((with_reducible refine Nx.is_wp ?_); first | refine Nx.wo ?_ | refine Nx.zp (fun hc => ?_) (fun hc => ?_))
      | (refine Nx.zo ?_; first | refine Nx.opr rfl rfl ?_ | (refine Nx.call (Rpre := []) rfl rfl rfl (by kernel_rfl) rfl hF (Ent.refl _) ?_; rintro _ _ ⟨A1, c1, rfl, rfl⟩) | refine Nx.so ?_ | refine Nx.sb (fun bx => ?_) | refine Nx.sa (fun A2 c2 => ?_))
      | ((with_reducible refine Nx.is_at ?_); first | refine Nx.a ?_ | refine Nx.zd ?_ | refine Nx.zs (fun hc => ?_) (fun hc => ?_))
      | ((with_reducible refine Nx.is_mix ?_); first | refine Nx.m ?_ | refine Nx.zm ?_ | refine Nx.zt (fun hc => ?_) (fun hc => ?_))
      | refine Nx.zx ?_ | fail
    exact Nx.ret_fn rfl [_] ⟨none, 0, rfl, rfl⟩ ((Ent.vec_nil 42 3 _).trans (by unfold rcR; (exact Ent.auto)))
  rw [if_neg hso]
  have hne : (solsOf n.toNat (eqns l)).isEmpty = false := by simpa using hso
  rw [hne] at hF
  obtain ⟨m, rfl⟩ : ∃ m : Nat, n = m := ⟨n.toNat, by omega⟩
  rw [Int.toNat_natCast] at hF hso h3 ⊢
  generalize ((solsOf m (eqns l)).headD []) = t0 at hF
  have hT := Touched_spec A c l m I hl h3 (by omega)
  have hRp := fun b => RepeatR_spec [.int .i64 0, .int .i64 0, .bool true] rfl (by simp [Value.oneCell']) b m (by omega) (by omega) I
  have hext : ∀ (x : Nat) (down : Bool), x ∈ touch m (eqns l) → ∃ s, (extOf m (eqns l) x down).headD [] = s ∧ s.length = m := fun x down hx => by
    obtain ⟨s, r, he, hs⟩ := ext_some down h3 hx hso
    exact ⟨s, by rw [he]; rfl, hs⟩
  have htdl : (touch m (eqns l)).length ≤ m := by
    unfold touch
    exact Nat.le_trans (List.length_filter_le _ _) (by simp)
  repeat' first
    | ((with_reducible refine Nx.is_wp ?_); first | refine Nx.wo ?_ | refine Nx.zp (fun hc => ?_) (fun hc => ?_))
    | (refine Nx.zo ?_; first | refine Nx.opr rfl rfl ?_ | (refine Nx.call (Rpre := []) rfl rfl rfl (by kernel_rfl) rfl hF (Ent.refl _) ?_; rintro _ _ ⟨A1, c1, rfl, rfl⟩) | (refine Nx.call rfl rfl rfl (by kernel_rfl) rfl (hRp _) (by (exact Ent.auto)) ?_; rintro _ _ ⟨b5, rfl, rfl⟩) | (refine Nx.call (Rpre := []) rfl rfl rfl (by kernel_rfl) rfl hT (Ent.refl _) ?_; rintro _ _ ⟨A9, c9, rfl, rfl⟩) | refine Nx.so ?_ | refine Nx.sb (fun bx => ?_) | refine Nx.sa (fun A2 c2 => ?_))
    | ((with_reducible refine Nx.is_at ?_); first | refine Nx.a ?_ | refine Nx.zd ?_ | refine Nx.zs (fun hc => ?_) (fun hc => ?_))
    | ((with_reducible refine Nx.is_mix ?_); first | refine Nx.m ?_ | refine Nx.zm ?_ | refine Nx.zt (fun hc => ?_) (fun hc => ?_))
    | refine Nx.zx ?_ | fail
  refine Nx.p_loop (σ := Nat × List Rch) (fun s => [(0, .int .i64 (m : Int)), (1, .slice A l.length c), (9, .slice (some ⟨b5, 0, none⟩) m m), (32, .slice A9 (touch m (eqns l)).length c9), (33, .int .i64 (touch m (eqns l)).length), (34, .int .i64 (s.1 : Int))])
    (fun s => [iR A9 c9 ((touch m (eqns l)).map Int.ofNat), Vec 42 3 (some ⟨b5, 0, none⟩) m m (s.2.flatMap rcC), F])
    (fun s => s.1 ≤ (touch m (eqns l)).length ∧ s.2.length = m ∧ ∀ x, x < m → s.2.getD x default = if x ∈ (touch m (eqns l)).take s.1 then reachAt m (eqns l) x else (0, 0, true)) (fun s => (touch m (eqns l)).length - s.1) (0, List.replicate m (0, 0, true)) rfl
    ⟨Nat.zero_le _, by simp, fun x hx => by dsimp only; rw [List.getD_eq_getElem?_getD, List.getElem?_replicate, if_pos hx]; simp⟩ ⟨rfl, rfl, rfl, rfl, rfl, rfl, trivial⟩ ?_ ?_
  · dsimp only
    rw [show (List.replicate m ((0, 0, true) : Rch)).flatMap rcC = (List.replicate m [Value.int .i64 0, .int .i64 0, .bool true]).flatten by rw [List.flatMap_def, List.map_replicate]; rfl]
    unfold iR
    (exact Ent.auto)
  rintro ⟨k, rl⟩ ⟨hk, hrl, hrx⟩
  dsimp only at hk hrl hrx ⊢
  by_cases hlt : k < (touch m (eqns l)).length
  case neg =>
    obtain rfl : k = (touch m (eqns l)).length := by omega
    rw [List.take_length] at hrx
    have he : rl = (List.range m).map (reachAt m (eqns l)) := by
      refine list_ext_d (by rw [hrl]; simp) fun x hx => ?_
      rw [hrx x (by omega), List.getD_eq_getElem?_getD (l := List.map _ _), List.getElem?_map, List.getElem?_range (by omega)]
      show _ = reachAt m (eqns l) x
      by_cases hm : x ∈ touch m (eqns l)
      · rw [if_pos hm]
      · rw [if_neg hm]; unfold reachAt; rw [if_neg hm]
    rw [← he]
    repeat' first
      | ((with_reducible refine Nx.is_wp ?_); first | refine Nx.wo ?_ | refine Nx.zp (fun hc => ?_) (fun hc => ?_))
      | (refine Nx.zo ?_; first | refine Nx.opr rfl rfl ?_ | refine Nx.so ?_ | refine Nx.sb (fun bx => ?_) | refine Nx.sa (fun A2 c2 => ?_))
      | ((with_reducible refine Nx.is_at ?_); first | refine Nx.a ?_ | refine Nx.zd ?_ | refine Nx.zs (fun hc => ?_) (fun hc => ?_))
      | ((with_reducible refine Nx.is_mix ?_); first | refine Nx.m ?_ | refine Nx.zm ?_ | refine Nx.zt (fun hc => ?_) (fun hc => ?_))
      | refine Nx.zx ?_ | fail
    exact Nx.ret_fn rfl [rcR (some ⟨b5, 0, none⟩) m rl] ⟨some ⟨b5, 0, none⟩, m, by rw [hrl], rfl⟩ (by unfold rcR; rw [hrl]; (exact Ent.auto))
  have hyt : (touch m (eqns l))[k] ∈ touch m (eqns l) := List.getElem_mem hlt
  have hyn := (mem_touch.1 hyt).1
  have htk : (touch m (eqns l)).take (k + 1) = (touch m (eqns l)).take k ++ [(touch m (eqns l))[k]] := List.take_succ_eq_append_getElem hlt
  have htr : ∀ (W : World) (R : List Res), Rd W I (iR A9 c9 ((touch m (eqns l)).map Int.ofNat) :: R) ((ad A9).add (k * 1)) (.int .i64 (((touch m (eqns l))[k] : Nat) : Int)) := fun W R => by
    have h := Rd.vecEl (W := W) (I := I) (R := iR A9 c9 ((touch m (eqns l)).map Int.ofNat) :: R) 0 (f := Value.int .i64) (l := (touch m (eqns l)).map Int.ofNat) (i := k) rfl (by rw [List.length_map]; exact hlt)
    rw [List.getD_eq_getElem?_getD, List.getElem?_map, List.getElem?_eq_getElem hlt] at h
    exact h
  refine Nx.vec_fact fun hv1 hv2 hv3 hA9 => ?_
  rw [List.length_map] at hv2 hA9
  generalize (touch m (eqns l))[k] = y at hyt hyn htk htr
  obtain ⟨s1, hs1, hl1⟩ := hext y false hyt
  obtain ⟨s2, hs2, hl2⟩ := hext y true hyt
  have hra : reachAt m (eqns l) y = (s1.getD y 0, s2.getD y 0, false) := by unfold reachAt; rw [if_pos hyt, hs1, hs2]
  have hE1 := extreme_spec2 hl h3 (by omega) (by omega) h9 hyt hs1
  have hE2 := extreme_spec2 hl h3 (by omega) (by omega) h9 hyt hs2
  repeat' first
    | ((with_reducible refine Nx.is_wp ?_); first | refine Nx.p_segs (id := 10) rfl [[0,1,2,3,4,6,9,10,11,13,5],[7,8,12],[14,15,16,17]] [5,12] [18] _ rfl rfl (by kernel_rfl) (by kernel_rfl) rfl (by repeat first | exact PanicOk.fn | refine PanicOk.then_ ?_ | refine PanicOk.inB ?_) (Ent.refl _) (Nx.segs_in ?_) | refine Nx.wo ?_ | refine Nx.zp (fun hc => ?_) (fun hc => ?_))
    | (refine Nx.zo ?_; first | refine Nx.opr rfl rfl ?_ | refine Nx.indexAddr_nat rfl rfl rfl rfl rfl (by omega) (hA9 (by omega)) ?_ | refine Nx.load rfl rfl rfl (htr _ _) ?_ | (refine Nx.call (Rpre := []) rfl rfl rfl (by kernel_rfl) rfl hE1 (Ent.refl _) ?_; rintro _ _ ⟨Ac, cc, rfl, rfl⟩; refine Nx.vec_fact fun _ _ _ hAc => ?_) | refine Nx.so ?_ | refine Nx.sb (fun bx => ?_) | refine Nx.sa (fun A2 c2 => ?_))
    | ((with_reducible refine Nx.is_at ?_); first | refine Nx.a ?_ | refine Nx.zd ?_ | refine Nx.zs (fun hc => ?_) (fun hc => ?_))
    | ((with_reducible refine Nx.is_mix ?_); first | refine Nx.m ?_ | refine Nx.zm ?_ | refine Nx.zt (fun hc => ?_) (fun hc => ?_))
    | refine Nx.zx ?_ | fail
  refine Nx.segs_next (PH.le_refl _) (by (exact Ent.auto)) (Nx.segs_in ?_)
  repeat' first
    | ((with_reducible refine Nx.is_wp ?_); first | refine Nx.wo ?_ | refine Nx.zp (fun hc => ?_) (fun hc => ?_))
    | (refine Nx.zo ?_; first | refine Nx.opr rfl rfl ?_ | (refine Nx.call (Rpre := []) rfl rfl rfl (by kernel_rfl) rfl hE2 (Ent.refl _) ?_; rintro _ _ ⟨Ad, cd, rfl, rfl⟩; refine Nx.vec_fact fun _ _ _ hAd => ?_) | refine Nx.so ?_ | refine Nx.sb (fun bx => ?_) | refine Nx.sa (fun A2 c2 => ?_))
    | ((with_reducible refine Nx.is_at ?_); first | refine Nx.a ?_ | refine Nx.zd ?_ | refine Nx.zs (fun hc => ?_) (fun hc => ?_))
    | ((with_reducible refine Nx.is_mix ?_); first | refine Nx.m_quiet rfl rfl rfl rfl rfl (by first | exact QRun.opr rfl | exact QRun.idx (sz := 1) rfl rfl rfl rfl (by omega) (hAc (by omega)) | exact QRun.load rfl rfl (Rd.vecEl 0 (f := Value.int .i64) (l := s1) (i := y) rfl (by omega))) ?_ | refine Nx.m_quiet_do rfl rfl rfl rfl rfl rfl rfl (by first | exact QRun.opr rfl | exact QRun.idx (sz := 1) rfl rfl rfl rfl (by omega) (hAc (by omega)) | exact QRun.load rfl rfl (Rd.vecEl 0 (f := Value.int .i64) (l := s1) (i := y) rfl (by omega))) ?_ | refine Nx.m ?_ | refine Nx.zm ?_ | refine Nx.zt (fun hc => ?_) (fun hc => ?_))
    | refine Nx.zx ?_ | fail
  refine Nx.segs_next (PH.le_refl _) (by (exact Ent.auto)) (Nx.segs_in ?_)
  repeat' first
    | ((with_reducible refine Nx.is_wp ?_); first | refine Nx.wo ?_ | refine Nx.zp (fun hc => ?_) (fun hc => ?_))
    | (refine Nx.zo ?_; first | refine Nx.opr rfl rfl ?_ | refine Nx.so ?_ | refine Nx.sb (fun bx => ?_) | refine Nx.sa (fun A2 c2 => ?_))
    | ((with_reducible refine Nx.is_at ?_); first | refine Nx.a ?_ | refine Nx.zd ?_ | refine Nx.zs (fun hc => ?_) (fun hc => ?_))
    | ((with_reducible refine Nx.is_mix ?_); first | refine Nx.m_quiet rfl rfl rfl rfl rfl (by first | exact QRun.opr rfl | exact QRun.idx (sz := 1) rfl rfl rfl rfl (by omega) (hAd (by omega)) | exact QRun.load rfl rfl (Rd.vecEl 0 (f := Value.int .i64) (l := s2) (i := y) rfl (by omega)) | exact QRun.idx (sz := 3) rfl rfl rfl rfl (by omega) rfl) ?_ | refine Nx.m_quiet_do rfl rfl rfl rfl rfl rfl rfl (by first | exact QRun.opr rfl | exact QRun.idx (sz := 1) rfl rfl rfl rfl (by omega) (hAd (by omega)) | exact QRun.load rfl rfl (Rd.vecEl 0 (f := Value.int .i64) (l := s2) (i := y) rfl (by omega)) | exact QRun.idx (sz := 3) rfl rfl rfl rfl (by omega) rfl) ?_ | refine Nx.m ?_ | refine Nx.zm ?_ | refine Nx.zt (fun hc => ?_) (fun hc => ?_))
    | refine Nx.zx ?_ | fail
  refine Nx.segs_next (PH.le_refl _) (by (exact Ent.auto)) (Nx.segs_end ?_)
  repeat' first
    | ((with_reducible refine Nx.is_wp ?_); first | refine Nx.wo ?_ | refine Nx.zp (fun hc => ?_) (fun hc => ?_))
    | (refine Nx.zo ?_; first | refine Nx.opr rfl rfl ?_ | refine Nx.store_elt (A := some ⟨b5, 0, none⟩) 3 rcC (l := rl) (i := y) (x' := (s1.getD y default, s2.getD y default, false)) rfl rfl rfl rfl rfl rcC_len (by decide) (rcC_one _) (by omega) hrl ?_ | refine Nx.so ?_ | refine Nx.sb (fun bx => ?_) | refine Nx.sa (fun A2 c2 => ?_))
    | ((with_reducible refine Nx.is_at ?_); first | refine Nx.a ?_ | refine Nx.zd ?_ | refine Nx.zs (fun hc => ?_) (fun hc => ?_))
    | ((with_reducible refine Nx.is_mix ?_); first | refine Nx.m ?_ | refine Nx.zm ?_ | refine Nx.zt (fun hc => ?_) (fun hc => ?_))
    | refine Nx.zx ?_ | fail
  refine Nx.again (k + 1, rl.set y (s1.getD y default, s2.getD y default, false)) ⟨hlt, by dsimp only; rw [List.length_set]; exact hrl, fun x hx => ?_⟩ (by dsimp only; omega) ⟨rfl, rfl, rfl, rfl, rfl, rfl, trivial⟩ (by unfold iR; rw [List.length_map]; (exact Ent.auto))
  dsimp only
  rw [htk, List.getD_eq_getElem?_getD]
  by_cases hxy : x = y
  · subst hxy
    rw [List.getElem?_set_self (by omega), if_pos (by simp), hra]; rfl
  · rw [List.getElem?_set_ne (Ne.symm hxy), ← List.getD_eq_getElem?_getD, hrx x hx]
    by_cases hm : x ∈ (touch m (eqns l)).take k
    · rw [if_pos hm, if_pos (by simp [hm])]
    · rw [if_neg hm, if_neg (by simp [hm, hxy])]
end Go.Proofs.YtcmdemfhbekabaaGreat
/-
  Plain: the solutions of equations found cell by cell in the order of the cells, with what is left of each equation.
-/
namespace Go.Sol
/-- The least value of the equations in which a cell is, plus 1; 0 if it is in none. -/
def roomR (L : List Eqn) (c : Nat) : Int := L.foldl (fun a q => if c ∈ q.1 then (if a = 0 ∨ q.2 + 1 < a then q.2 + 1 else a) else a) 0
theorem roomR_snoc (L : List Eqn) (q : Eqn) (c : Nat) : roomR (L ++ [q]) c = if c ∈ q.1 then (if roomR L c = 0 ∨ q.2 + 1 < roomR L c then q.2 + 1 else roomR L c) else roomR L c := by
  unfold roomR; rw [List.foldl_append]; rfl
theorem snoc_ind {α : Type} {p : List α → Prop} (h0 : p []) (h1 : ∀ l x, p l → p (l ++ [x])) : ∀ l, p l := fun l => by
  rw [← List.reverse_reverse l]
  induction l.reverse with
  | nil => exact h0
  | cons x r ih => rw [List.reverse_cons]; exact h1 _ _ ih
theorem roomR_facts {c : Nat} : ∀ (L : List Eqn), (∀ q ∈ L, 0 ≤ q.2) → 0 ≤ roomR L c ∧ (roomR L c = 0 ↔ ∀ q ∈ L, c ∉ q.1) ∧ (roomR L c ≠ 0 → ∀ v, v ≤ roomR L c - 1 ↔ ∀ q ∈ L, c ∈ q.1 → v ≤ q.2) := by
  refine snoc_ind ?_ ?_
  · intro _
    exact ⟨Int.le_refl _, ⟨fun _ q hq => (nomatch hq), fun _ => rfl⟩, fun h => absurd rfl h⟩
  · intro L q ih hv
    obtain ⟨h1, h2, h3⟩ := ih fun p hp => hv p (by simp [hp])
    have hq := hv q (by simp)
    rw [roomR_snoc]
    by_cases hc : c ∈ q.1
    · rw [if_pos hc]
      by_cases h0 : roomR L c = 0
      · rw [if_pos (.inl h0)]
        refine ⟨by omega, ⟨fun h => by omega, fun h => absurd hc (h q (by simp))⟩, fun _ v => ⟨fun h p hp hcp => ?_, fun h => by have := h q (by simp) hc; omega⟩⟩
        rcases List.mem_append.1 hp with hp | hp
        · exact absurd hcp ((h2.1 h0) p hp)
        · rw [List.mem_singleton] at hp; subst hp; omega
      · have h3 := h3 h0
        by_cases hlt : q.2 + 1 < roomR L c
        · rw [if_pos (.inr hlt)]
          refine ⟨by omega, ⟨fun h => by omega, fun h => absurd hc (h q (by simp))⟩, fun _ v => ⟨fun h p hp hcp => ?_, fun h => by have := h q (by simp) hc; omega⟩⟩
          rcases List.mem_append.1 hp with hp | hp
          · exact (h3 v).1 (by omega) p hp hcp
          · rw [List.mem_singleton] at hp; subst hp; omega
        · rw [if_neg (by omega)]
          refine ⟨h1, ⟨fun h => absurd h h0, fun h => absurd hc (h q (by simp))⟩, fun _ v => ⟨fun h p hp hcp => ?_, fun h => (h3 v).2 fun p hp hcp => h p (by simp [hp]) hcp⟩⟩
          rcases List.mem_append.1 hp with hp | hp
          · exact (h3 v).1 h p hp hcp
          · rw [List.mem_singleton] at hp; subst hp; omega
    · rw [if_neg hc]
      refine ⟨h1, ⟨fun h p hp => ?_, fun h => h2.2 fun p hp => h p (by simp [hp])⟩, fun h0 v => ⟨fun h p hp hcp => ?_, fun h => (h3 h0 v).2 fun p hp hcp => h p (by simp [hp]) hcp⟩⟩
      · rcases List.mem_append.1 hp with hp | hp
        · exact h2.1 h p hp
        · rw [List.mem_singleton] at hp; subst hp; exact hc
      · rcases List.mem_append.1 hp with hp | hp
        · exact (h3 h0 v).1 h p hp hcp
        · rw [List.mem_singleton] at hp; subst hp; exact absurd hcp hc
/-- How far a cell can go, where so much is left of each equation. -/
def gtF (t : List Int) (c : Nat) (a : Int) (L : List Eqn) : Int := L.foldl (fun a q => if c ∈ q.1 then min a (restQ t q) else a) a
theorem gtF_snoc (t : List Int) (c : Nat) (a : Int) (L : List Eqn) (q : Eqn) : gtF t c a (L ++ [q]) = if c ∈ q.1 then min (gtF t c a L) (restQ t q) else gtF t c a L := by
  unfold gtF; rw [List.foldl_append]; rfl
theorem le_gtF {t : List Int} {c : Nat} {a v : Int} : ∀ (L : List Eqn), v ≤ gtF t c a L ↔ v ≤ a ∧ ∀ q ∈ L, c ∈ q.1 → v ≤ restQ t q := by
  refine snoc_ind ?_ ?_
  · exact ⟨fun h => ⟨h, fun q hq => (nomatch hq)⟩, fun h => h.1⟩
  · intro L q ih
    rw [gtF_snoc]
    by_cases hc : c ∈ q.1
    · rw [if_pos hc, Int.le_min, ih]
      refine ⟨fun h => ⟨h.1.1, fun p hp hcp => ?_⟩, fun h => ⟨⟨h.1, fun p hp => h.2 p (by simp [hp])⟩, h.2 q (by simp) hc⟩⟩
      rcases List.mem_append.1 hp with hp | hp
      · exact h.1.2 p hp hcp
      · rw [List.mem_singleton] at hp; subst hp; exact h.2
    · rw [if_neg hc, ih]
      refine ⟨fun h => ⟨h.1, fun p hp hcp => ?_⟩, fun h => ⟨h.1, fun p hp => h.2 p (by simp [hp])⟩⟩
      rcases List.mem_append.1 hp with hp | hp
      · exact h.2 p hp hcp
      · rw [List.mem_singleton] at hp; subst hp; exact absurd hcp hc
def topF (L : List Eqn) (t : List Int) : Int := gtF t t.length (max 0 (roomR L t.length - 1)) L
/-- Whether the equations whose last cell has just got its number are right. -/
def fitB (L : List Eqn) (t : List Int) : Bool := L.all fun q => !decide (q.1.getLast? = some (t.length - 1)) || decide (restQ t q = 0)
def rs (L : List Eqn) : Nat → List Int → List (List Int)
  | 0, t => if L.all (fun q => decide (restQ t q = 0)) then [t] else []
  | k + 1, t => (List.range (topF L t + 1).toNat).flatMap fun (n : Nat) => if fitB L (t ++ [(n : Int)]) then rs L k (t ++ [(n : Int)]) else []
/-- Equations over cells below N, ascending. -/
structure Asc (N : Nat) (L : List Eqn) : Prop where
  asc : ∀ q ∈ L, q.1.Pairwise (· < ·)
  lt : ∀ q ∈ L, ∀ c ∈ q.1, c < N
  val : ∀ q ∈ L, 0 ≤ q.2
theorem Asc.once {N : Nat} {L : List Eqn} (h : Asc N L) : Once L := fun q hq => (h.asc q hq).imp fun h => Nat.ne_of_lt h
theorem getD_app_lt {t r : List Int} {c : Nat} (h : c < t.length) : (t ++ r).getD c 0 = t.getD c 0 := by
  rw [List.getD_eq_getElem?_getD, List.getD_eq_getElem?_getD, List.getElem?_append_left h]
theorem getD_ge {t : List Int} {c : Nat} (h : t.length ≤ c) : t.getD c 0 = 0 := by
  rw [List.getD_eq_getElem?_getD, List.getElem?_eq_none h]; rfl
theorem getD_app_at {t : List Int} {v : Int} : (t ++ [v]).getD t.length 0 = v := by
  rw [List.getD_eq_getElem?_getD, List.getElem?_append_right (Nat.le_refl _), Nat.sub_self]; rfl
theorem last_le : ∀ {cs : List Nat} {m : Nat}, cs.Pairwise (· < ·) → cs.getLast? = some m → ∀ c ∈ cs, c ≤ m
  | [], _, _, h => by cases h
  | [x], m, _, h => by
    have h : some x = some m := h
    injection h with h
    intro c hc; rw [List.mem_singleton] at hc; omega
  | x :: y :: r, m, hp, h => by
    rw [List.getLast?_cons_cons] at h
    rw [List.pairwise_cons] at hp
    have ih := last_le hp.2 h
    intro c hc
    rcases List.mem_cons.1 hc with rfl | hc
    · have := hp.1 y (by simp); have := ih y (by simp); omega
    · exact ih c hc
/-- A table that goes on from a shorter one. -/
structure From (L : List Eqn) (k : Nat) (t s : List Int) : Prop where
  len : s.length = t.length + k
  pre : s.take t.length = t
  pos : ∀ c, t.length ≤ c → 0 ≤ s.getD c 0 ∧ ((∀ q ∈ L, c ∉ q.1) → s.getD c 0 = 0)
  sum : ∀ q ∈ L, sumC s q.1 = q.2
theorem pre_at {s t : List Int} (h : s.take t.length = t) {c : Nat} (hc : c < t.length) : s.getD c 0 = t.getD c 0 := by
  rw [← h, List.length_take] at hc
  rw [← h, List.getD_eq_getElem?_getD, List.getD_eq_getElem?_getD, List.getElem?_take, if_pos (by omega)]
theorem pre_snoc {s t : List Int} (h : s.take t.length = t) (hl : t.length < s.length) : s.take (t.length + 1) = t ++ [s.getD t.length 0] := by
  rw [List.take_succ_eq_append_getElem hl, h, List.getD_eq_getElem?_getD, List.getElem?_eq_getElem hl]; rfl
theorem mem_rs {N : Nat} {L : List Eqn} (ha : Asc N L) : ∀ {k : Nat} {t s : List Int}, t.length + k = N → (∀ c, 0 ≤ t.getD c 0) → (s ∈ rs L k t ↔ From L k t s)
  | 0, t, s, hN, h0 => by
    rw [rs]
    constructor
    · intro h
      by_cases hall : L.all (fun q => decide (restQ t q = 0)) = true
      · rw [if_pos hall, List.mem_singleton] at h
        subst h
        refine ⟨rfl, List.take_length, fun c hc => by rw [getD_ge hc]; exact ⟨Int.le_refl _, fun _ => rfl⟩, fun q hq => ?_⟩
        have := of_decide_eq_true (List.all_eq_true.1 hall q hq)
        unfold restQ at this
        omega
      · rw [if_neg hall] at h; cases h
    · intro h
      have hst : s = t := by
        have := h.pre
        rwa [← Nat.add_zero t.length, ← h.len, List.take_length] at this
      subst hst
      rw [if_pos (List.all_eq_true.2 fun q hq => decide_eq_true (by have := h.sum q hq; unfold restQ; omega))]
      exact List.mem_singleton.2 rfl
  | k + 1, t, s, hN, h0 => by
    rw [rs, List.mem_flatMap]
    constructor
    · rintro ⟨n, hn, hs⟩
      rw [List.mem_range] at hn
      by_cases hf : fitB L (t ++ [(n : Int)]) = true
      · rw [if_pos hf] at hs
        have hl1 : (t ++ [(n : Int)]).length = t.length + 1 := by simp
        have h0' : ∀ c, 0 ≤ (t ++ [(n : Int)]).getD c 0 := fun c => by
          rcases Nat.lt_trichotomy c t.length with h | h | h
          · rw [getD_app_lt h]; exact h0 c
          · subst h; rw [getD_app_at]; omega
          · rw [getD_ge (by rw [hl1]; omega)]; exact Int.le_refl _
        have g := (mem_rs ha (by rw [hl1]; omega) h0').1 hs
        have hat : s.getD t.length 0 = n := by
          rw [pre_at g.pre (by rw [hl1]; omega), getD_app_at]
        refine ⟨by rw [g.len, hl1]; omega, ?_, fun c hc => ?_, g.sum⟩
        · have := congrArg (List.take t.length) g.pre
          rwa [List.take_take, hl1, Nat.min_eq_left (by omega), List.take_left' rfl] at this
        · rcases Nat.lt_or_ge t.length c with h | h
          · exact g.pos c (by rw [hl1]; omega)
          · obtain rfl : c = t.length := by omega
            rw [hat]
            refine ⟨by omega, fun hno => ?_⟩
            have hle := (le_gtF L).1 (show (n : Int) ≤ gtF t t.length (max 0 (roomR L t.length - 1)) L by unfold topF at hn; omega)
            have hr := (roomR_facts (c := t.length) L ha.val).2.1.2 hno
            have := hle.1
            omega
      · rw [if_neg hf] at hs; cases hs
    · intro g
      have hlt : t.length < s.length := by rw [g.len]; omega
      have hp := g.pos t.length (Nat.le_refl _)
      have hnn : ∀ c, 0 ≤ s.getD c 0 := fun c => by
        rcases Nat.lt_or_ge c t.length with h | h
        · rw [pre_at g.pre h]; exact h0 c
        · exact (g.pos c h).1
      have htn : ((s.getD t.length 0).toNat : Int) = s.getD t.length 0 := by omega
      refine ⟨(s.getD t.length 0).toNat, List.mem_range.2 ?_, ?_⟩
      · have : s.getD t.length 0 ≤ topF L t := by
          unfold topF
          refine (le_gtF L).2 ⟨?_, fun q hq hc => ?_⟩
          · obtain ⟨r1, r2, r3⟩ := roomR_facts (c := t.length) L ha.val
            by_cases hr : roomR L t.length = 0
            · have := hp.2 (r2.1 hr); omega
            · have := (r3 hr (s.getD t.length 0)).2 fun q hq hc => by
                have := le_sumC (s := s) (c := t.length) (cs := q.1) (fun d _ => hnn d) hc
                have := g.sum q hq
                omega
              omega
          · have h1 : sumC s q.1 = sumC t q.1 + sumC s (q.1.filter fun c => decide (t.length ≤ c)) := by
              have : ∀ cs : List Nat, sumC s cs = sumC t cs + sumC s (cs.filter fun c => decide (t.length ≤ c)) := by
                intro cs
                induction cs with
                | nil => rfl
                | cons d r ih =>
                  rw [sumC, sumC, ih]
                  rcases Nat.lt_or_ge d t.length with h | h
                  · rw [List.filter_cons_of_neg (by simpa using h), pre_at g.pre h]; omega
                  · rw [List.filter_cons_of_pos (by simpa using h), sumC, getD_ge h]; omega
              exact this _
            have h2 := le_sumC (s := s) (c := t.length) (cs := q.1.filter fun c => decide (t.length ≤ c)) (fun d _ => hnn d) (List.mem_filter.2 ⟨hc, by simp⟩)
            have h3 := g.sum q hq
            unfold restQ
            omega
        omega
      · rw [htn]
        have hl1 : (t ++ [s.getD t.length 0]).length = t.length + 1 := by simp
        have hpre := pre_snoc g.pre hlt
        rw [if_pos]
        · refine (mem_rs ha (by rw [hl1]; omega) (fun c => ?_)).2 ⟨by rw [g.len, hl1]; omega, by rw [hl1]; exact hpre, fun c hc => g.pos c (by rw [hl1] at hc; omega), g.sum⟩
          rcases Nat.lt_or_ge c (t.length + 1) with h | h
          · rw [← pre_at (s := s) (by rw [hl1]; exact hpre) (by rw [hl1]; exact h)]; exact hnn c
          · rw [getD_ge (by rw [hl1]; exact h)]; exact Int.le_refl _
        · refine List.all_eq_true.2 fun q hq => ?_
          rw [hl1, Nat.add_sub_cancel]
          by_cases hla : q.1.getLast? = some t.length
          · have hle := last_le (ha.asc q hq) hla
            have : sumC (t ++ [s.getD t.length 0]) q.1 = sumC s q.1 := sumC_congr fun c hc => (pre_at (s := s) (by rw [hl1]; exact hpre) (by rw [hl1]; have := hle c hc; omega)).symm
            rw [decide_eq_true hla, decide_eq_true (show restQ (t ++ [s.getD t.length 0]) q = 0 by unfold restQ; rw [this, g.sum q hq]; omega)]
            rfl
          · rw [decide_eq_false hla]; rfl
theorem rs_sorted {N : Nat} {L : List Eqn} (ha : Asc N L) : ∀ {k : Nat} {t : List Int}, t.length + k = N → (∀ c, 0 ≤ t.getD c 0) → (rs L k t).Pairwise (ltU false (List.range' t.length k))
  | 0, t, _, _ => by
    rw [rs]
    split
    · exact List.pairwise_singleton _ _
    · exact List.Pairwise.nil
  | k + 1, t, hN, h0 => by
    rw [rs]
    have hl1 : ∀ n : Nat, (t ++ [(n : Int)]).length = t.length + 1 := fun n => by simp
    have h0' : ∀ (n : Nat) c, 0 ≤ (t ++ [(n : Int)]).getD c 0 := fun n c => by
      rcases Nat.lt_trichotomy c t.length with h | h | h
      · rw [getD_app_lt h]; exact h0 c
      · subst h; rw [getD_app_at]; omega
      · rw [getD_ge (by rw [hl1]; omega)]; exact Int.le_refl _
    have hat : ∀ (n : Nat) s, s ∈ (if fitB L (t ++ [(n : Int)]) then rs L k (t ++ [(n : Int)]) else []) → s.getD t.length 0 = n := fun n s hs => by
      split at hs
      · have g := (mem_rs ha (by rw [hl1]; omega) (h0' n)).1 hs
        rw [pre_at g.pre (by rw [hl1]; omega), getD_app_at]
      · cases hs
    refine pairwise_flatMap (fun n _ => ?_) ?_
    · rw [List.range'_succ]
      split
      · have ih := rs_sorted ha (k := k) (t := t ++ [(n : Int)]) (by rw [hl1]; omega) (h0' n)
        rw [hl1] at ih
        rename_i hf
        refine List.Pairwise.imp_of_mem (fun {a b} hia hib hab => ?_) ih
        refine .inr ⟨?_, hab⟩
        rw [hat n a (by rw [if_pos hf]; exact hia), hat n b (by rw [if_pos hf]; exact hib)]
      · exact List.Pairwise.nil
    · refine List.Pairwise.imp (fun {x y} hxy a hia b hib => ?_) List.pairwise_lt_range
      rw [List.range'_succ]
      refine .inl ?_
      rw [if_neg (by decide), hat x a hia, hat y b hib]
      omega
/-- The product of the rooms of some cells. -/
def prodR (L : List Eqn) : List Nat → Int
  | [] => 1
  | c :: r => max 1 (roomR L c) * prodR L r
theorem prodR_pos (L : List Eqn) : ∀ cs, 1 ≤ prodR L cs
  | [] => Int.le_refl _
  | c :: r => by
    have h1 : (1 : Int) * 1 ≤ max 1 (roomR L c) * prodR L r := Int.mul_le_mul (by omega) (prodR_pos L r) (by omega) (by omega)
    rw [prodR]; omega
theorem flatMap_len_le {α β : Type} {f : α → List β} {m : Nat} : ∀ {l : List α}, (∀ x ∈ l, (f x).length ≤ m) → (l.flatMap f).length ≤ l.length * m
  | [], _ => by simp
  | x :: r, h => by
    rw [List.flatMap_cons, List.length_append, List.length_cons, Nat.succ_mul]
    have := flatMap_len_le (l := r) fun y hy => h y (by simp [hy])
    have := h x (by simp)
    omega
theorem rs_len {L : List Eqn} : ∀ (k : Nat) (t : List Int), ((rs L k t).length : Int) ≤ prodR L (List.range' t.length k)
  | 0, t => by
    rw [rs, List.range'_zero, prodR]
    split <;> simp
  | k + 1, t => by
    rw [rs, List.range'_succ, prodR]
    have hP := prodR_pos L (List.range' (t.length + 1) k)
    have h1 := flatMap_len_le (l := List.range (topF L t + 1).toNat) (f := fun (n : Nat) => if fitB L (t ++ [(n : Int)]) then rs L k (t ++ [(n : Int)]) else []) (m := (prodR L (List.range' (t.length + 1) k)).toNat) fun n _ => by
      split
      · have := rs_len (L := L) k (t ++ [(n : Int)])
        rw [show (t ++ [(n : Int)]).length = t.length + 1 by simp] at this
        omega
      · exact Nat.zero_le _
    rw [List.length_range] at h1
    have h2 : topF L t ≤ max 0 (roomR L t.length - 1) := by
      unfold topF
      exact ((le_gtF L).1 (Int.le_refl _)).1
    have h3 : ((topF L t + 1).toNat : Int) ≤ max 1 (roomR L t.length) := by omega
    have h4 : ((topF L t + 1).toNat : Int) * (prodR L (List.range' (t.length + 1) k)) ≤ max 1 (roomR L t.length) * prodR L (List.range' (t.length + 1) k) := Int.mul_le_mul_of_nonneg_right h3 (by omega)
    have h5 : (((topF L t + 1).toNat * (prodR L (List.range' (t.length + 1) k)).toNat : Nat) : Int) = ((topF L t + 1).toNat : Int) * (prodR L (List.range' (t.length + 1) k)) := by
      rw [Int.natCast_mul, Int.toNat_of_nonneg (a := prodR L _) (by omega)]
    omega
/-- Where two tables agree on the cells that are left out, their order is that of the others. -/
theorem ltU_filter {p : Nat → Bool} {a b : List Int} : ∀ {U : List Nat}, (∀ c ∈ U, p c = false → a.getD c 0 = b.getD c 0) → ltU false U a b → ltU false (U.filter p) a b
  | [], _, h => h
  | c :: U, hs, h => by
    cases hp : p c with
    | false =>
      rw [List.filter_cons_of_neg (by simp [hp])]
      have := hs c (by simp) hp
      rcases h with h | h
      · rw [if_neg (by decide)] at h; omega
      · exact ltU_filter (fun d hd => hs d (by simp [hd])) h.2
    | true =>
      rw [List.filter_cons_of_pos (by simp [hp])]
      rcases h with h | h
      · exact .inl h
      · exact .inr ⟨h.1, ltU_filter (fun d hd => hs d (by simp [hd])) h.2⟩
end Go.Sol
