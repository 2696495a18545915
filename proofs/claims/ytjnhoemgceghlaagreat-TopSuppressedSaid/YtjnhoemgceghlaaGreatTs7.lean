/- Contracts of functions of the given program, and lemmas about plain lists and numbers: what the laws of this seat lean on. -/
import Derived.Test.YtjnhoemgceghlaaGreatTs6
namespace Go.Proofs.YtjnhoemgceghlaaGreat
open Go.Eng Go.Sol
attribute [local irreducible] opK wpList Code.wp Exit.then Exit.inBlock fnPost bodyPost Nx Calls Oper.wp Rd Rds Wr Ent Stars Blk Again Vec FnSpec wpMix QRun Stop Upto wpAt
/-! Made releases -/
abbrev spB (b5 : Nat) (B : Option Addr) (n cs : Nat) : Res := Blk b5 27 [.slice B n cs]
set_option maxRecDepth 10000 in
set_option maxHeartbeats 8000000 in
theorem Releases_made (b : Nat) (A B T : Option Addr) (c cs ct : Nat) (L l t : List Int) (k most : Nat) (I : PH) (hL : CodesOk I A c L) (hk : k ≤ L.length) (hl : Ints I B cs l) (hs : Sizes l) (ht : Ints I T ct t) (hT : Table l t) (hm9 : most ≤ 1000) :
    FnSpec Tryz.prog 24 [.pointer (some ⟨b, 0, none⟩), .agg #[.slice B l.length cs], .slice T t.length ct, .int .i64 (most : Int)] I [CodesR b A c L k]
      (fun u R' => ∃ (As : Option Addr) (c' : Nat) (rs : List Rel) (k' : Nat), u = .slice As rs.length c' ∧ rs.length ≤ most ∧ RelsOk l t rs ∧ k' ≤ L.length ∧ R' = [Vec 43 3 As rs.length c' (rs.flatMap relC), Stars (rs.map relR), CodesR b A c L k']) := by
  have hlen := hl.len
  have htl := ht.len
  refine FnSpec.enterP Tryz.func24 rfl Tryz.ntmps24 rfl fun w F => ?_
  repeat' first
    | ((with_reducible refine Nx.is_wp ?_); first | refine Nx.wo ?_ | refine Nx.zp (fun hc => ?_) (fun hc => ?_))
    | (refine Nx.zo ?_; first | refine Nx.opr rfl rfl ?_ | (refine Nx.call rfl rfl rfl (by kernel_rfl) rfl (Next_any b A c L k ((most : Int) + 1) I hL hk (by omega)) (by (exact Ent.auto)) ?_; rintro _ _ ⟨n, k1, rfl, hn, hk1, rfl⟩) | refine Nx.so ?_ | refine Nx.sb (fun bx => ?_) | refine Nx.sa (fun A2 c2 => ?_))
    | ((with_reducible refine Nx.is_at ?_); first | refine Nx.a ?_ | refine Nx.zd ?_ | refine Nx.zs (fun hc => ?_) (fun hc => ?_))
    | ((with_reducible refine Nx.is_mix ?_); first | refine Nx.m ?_ | refine Nx.zm ?_ | refine Nx.zt (fun hc => ?_) (fun hc => ?_))
    | refine Nx.zx ?_ | fail
  obtain ⟨m, rfl⟩ : ∃ m : Nat, n = m := ⟨n.toNat, by omega⟩
  revert bx; intro b5
  refine Nx.p_loop (σ := Nat × Nat × Option Addr × Nat × List Rel) (fun s => [(0, .pointer (some ⟨b, 0, none⟩)), (2, .slice T t.length ct), (5, .pointer (some ⟨b5, 0, none⟩)), (9, .slice s.2.2.1 s.2.2.2.2.length s.2.2.2.1), (10, .int .i64 (s.1 : Int))])
    (fun s => [Vec 43 3 s.2.2.1 s.2.2.2.2.length s.2.2.2.1 (s.2.2.2.2.flatMap relC), Stars (s.2.2.2.2.map relR), CodesR b A c L s.2.1, spB b5 B l.length cs, F]) (fun s => s.2.1 ≤ L.length ∧ s.2.2.2.2.length + s.1 ≤ most ∧ RelsOk l t s.2.2.2.2) (fun s => s.1) (m, k1, none, 0, []) rfl
    ⟨hk1, by dsimp only; simp; omega, ⟨fun i hi => absurd hi (Nat.not_lt_zero _)⟩⟩ ⟨rfl, rfl, rfl, rfl, rfl, trivial⟩ ((Ent.stars_nil _).trans ((Ent.vec_nil 43 3 _).trans (by (exact Ent.auto)))) ?_
  rintro ⟨n, kc, As, c', rs⟩ ⟨hkc, hrl, hrs⟩
  dsimp only at hkc hrl hrs ⊢
  cases n with
  | zero =>
    repeat' first
      | ((with_reducible refine Nx.is_wp ?_); first | refine Nx.wo ?_ | refine Nx.zp (fun hc => ?_) (fun hc => ?_))
      | (refine Nx.zo ?_; first | refine Nx.opr rfl rfl ?_ | refine Nx.so ?_ | refine Nx.sb (fun bx => ?_) | refine Nx.sa (fun A2 c2 => ?_))
      | ((with_reducible refine Nx.is_at ?_); first | refine Nx.a ?_ | refine Nx.zd ?_ | refine Nx.zs (fun hc => ?_) (fun hc => ?_))
      | ((with_reducible refine Nx.is_mix ?_); first | refine Nx.m ?_ | refine Nx.zm ?_ | refine Nx.zt (fun hc => ?_) (fun hc => ?_))
      | refine Nx.zx ?_ | fail
    exact Nx.ret_fn rfl [_, _, _] ⟨As, c', rs, kc, rfl, by omega, hrs, hkc, rfl⟩ (by (exact Ent.auto))
  | succ n =>
    repeat' first
      | ((with_reducible refine Nx.is_wp ?_); first | refine Nx.wo ?_ | refine Nx.zp (fun hc => ?_) (fun hc => ?_))
      | (refine Nx.zo ?_; first | refine Nx.opr rfl rfl ?_ | (refine Nx.call rfl rfl rfl (by kernel_rfl) rfl (View_made b A B c cs L l kc I hL hkc hl hs) (by (exact Ent.auto)) ?_; rintro _ _ ⟨Av, cv, v, k2, rfl, hw, hk2, rfl⟩) | refine Nx.so ?_ | refine Nx.sb (fun bx => ?_) | refine Nx.sa (fun A2 c2 => ?_))
      | ((with_reducible refine Nx.is_at ?_); first | refine Nx.a ?_ | refine Nx.zd ?_ | refine Nx.zs (fun hc => ?_) (fun hc => ?_))
      | ((with_reducible refine Nx.is_mix ?_); first | refine Nx.m ?_ | refine Nx.zm ?_ | refine Nx.zt (fun hc => ?_) (fun hc => ?_))
      | refine Nx.zx ?_ | fail
    revert bx; intro b11
    refine Nx.ent (R' := [ViewR Av cv v, Blk b11 35 [.slice Av v.length cv], CodesR b A c L k2, Vec 43 3 As rs.length c' (rs.flatMap relC), Stars (rs.map relR), spB b5 B l.length cs, F]) (by (exact Ent.auto)) ?_
    refine Nx.at_op rfl rfl ?_
    refine Nx.call_lendR 0 rfl rfl rfl (by kernel_rfl) rfl rfl (fun m I' hle hm hv => RPublish_spec B Av T cs cv ct l t v I' (hl.mono hle) hs (ViewR.rows hm hv) hw (ht.mono hle) hT) ?_
    rintro _ _ ⟨Ap, rfl, rfl⟩
    have hszs := hw.sizes hs
    have hpr := hszs.bound (k := (szs v).length) (Nat.le_refl _)
    rw [List.take_length] at hpr
    generalize hP : (prod (szs v)).toNat = P
    have hsl := sums_len (pubOf l v) t P t.length
    generalize hz0 : sums (pubOf l v) t P t.length = z0 at hsl
    have hz1 : ∀ j, j < P → z0.getD j default = sumAt (pubOf l v) t (j : Int) t.length := fun j hj => by rw [← hz0, sums_at _ _ _ _ _ hj]
    repeat' first
      | ((with_reducible refine Nx.is_wp ?_); first | refine Nx.wo ?_ | refine Nx.zp (fun hc => ?_) (fun hc => ?_))
      | (refine Nx.zo ?_; first | refine Nx.opr rfl rfl ?_ | refine Nx.so ?_ | refine Nx.sb (fun bx => ?_) | refine Nx.sa (fun A2 c2 => ?_))
      | ((with_reducible refine Nx.is_at ?_); first | refine Nx.a ?_ | refine Nx.zd ?_ | refine Nx.zs (fun hc => ?_) (fun hc => ?_))
      | ((with_reducible refine Nx.is_mix ?_); first | refine Nx.m ?_ | refine Nx.zm ?_ | refine Nx.zt (fun hc => ?_) (fun hc => ?_))
      | refine Nx.zx ?_ | fail
    refine Nx.p_loop (σ := Nat × Nat × List Int) (fun s => [(0, .pointer (some ⟨b, 0, none⟩)), (2, .slice T t.length ct), (5, .pointer (some ⟨b5, 0, none⟩)), (9, .slice As rs.length c'), (10, .int .i64 ((n + 1 : Nat) : Int)), (11, .pointer (some ⟨b11, 0, none⟩)), (12, .slice Ap P P), (33, .slice Ap P P), (34, .int .i64 (P : Int)), (35, .int .i64 (s.1 : Int))])
      (fun s => [Vec 3 1 Ap P P (s.2.2.map (Value.int .i64)), CodesR b A c L s.2.1, ViewR Av cv v, Blk b11 35 [.slice Av v.length cv], Vec 43 3 As rs.length c' (rs.flatMap relC), Stars (rs.map relR), spB b5 B l.length cs, F]) (fun s => s.1 ≤ P ∧ s.2.1 ≤ L.length ∧ s.2.2.length = P ∧ ∀ j, j < P → s.2.2.getD j default = -1 ∨ s.2.2.getD j default = sumAt (pubOf l v) t (j : Int) t.length) (fun s => P - s.1) (0, k2, z0) rfl
      ⟨Nat.zero_le _, hk2, hsl, fun j hj => .inr (hz1 j hj)⟩ ⟨rfl, rfl, rfl, rfl, rfl, rfl, rfl, rfl, rfl, rfl, trivial⟩ (by (exact Ent.auto)) ?_
    rintro ⟨i, ki, z⟩ ⟨hi, hki, hzl, hz⟩
    dsimp only at hi hki hzl hz ⊢
    by_cases hiP : i < P
    · refine Nx.vec_fact fun _ _ _ hAp => ?_
      repeat' first
        | ((with_reducible refine Nx.is_wp ?_); first | refine Nx.wo ?_ | refine Nx.zp (fun hc => ?_) (fun hc => ?_))
        | (refine Nx.zo ?_; first | refine Nx.opr rfl rfl ?_ | (refine Nx.call rfl rfl rfl (by kernel_rfl) rfl (Next_any b A c L ki 5 I hL hki (by omega)) (by (exact Ent.auto)) ?_; rintro _ _ ⟨r, k3, rfl, hr, hk3, rfl⟩) | refine Nx.indexAddr_nat rfl rfl rfl rfl rfl hiP (hAp (by omega)) ?_ | refine Nx.store_of 1 (Value.int .i64) (l := z) (i := i) (z := -1) rfl rfl rfl rfl rfl rfl hiP ?_ | refine Nx.so ?_ | refine Nx.sb (fun bx => ?_) | refine Nx.sa (fun A2 c2 => ?_))
        | ((with_reducible refine Nx.is_at ?_); first | refine Nx.a ?_ | refine Nx.zd ?_ | refine Nx.zs (fun hc => ?_) (fun hc => ?_))
        | ((with_reducible refine Nx.is_mix ?_); first | refine Nx.m ?_ | refine Nx.zm ?_ | refine Nx.zt (fun hc => ?_) (fun hc => ?_))
        | refine Nx.zx ?_ | fail
      · exact Nx.again (i + 1, k3, z.set i (-1)) ⟨hiP, hk3, by dsimp only; rw [List.length_set]; exact hzl, fun j hj => by
            dsimp only
            by_cases hij : i = j
            · subst hij; exact .inl (getD_set_eq (by omega))
            · rw [getD_set_ne hij]; exact hz j hj⟩ (by dsimp only; omega) ⟨rfl, rfl, rfl, rfl, rfl, rfl, rfl, rfl, rfl, rfl, trivial⟩ (by (exact Ent.auto))
      · exact Nx.again (i + 1, k3, z) ⟨hiP, hk3, hzl, hz⟩ (by dsimp only; omega) ⟨rfl, rfl, rfl, rfl, rfl, rfl, rfl, rfl, rfl, rfl, trivial⟩ (by (exact Ent.auto))
    obtain rfl : i = P := by omega
    subst hzl
    repeat' first
      | ((with_reducible refine Nx.is_wp ?_); first | refine Nx.wo ?_ | refine Nx.zp (fun hc => ?_) (fun hc => ?_))
      | (refine Nx.zo ?_; first | refine Nx.opr rfl rfl ?_ | refine Nx.so ?_ | refine Nx.sb (fun bx => ?_) | refine Nx.sa (fun A2 c2 => ?_))
      | ((with_reducible refine Nx.is_at ?_); first | refine Nx.a ?_ | refine Nx.zd ?_ | refine Nx.zs (fun hc => ?_) (fun hc => ?_))
      | ((with_reducible refine Nx.is_mix ?_); first | refine Nx.m ?_ | refine Nx.zm ?_ | refine Nx.zt (fun hc => ?_) (fun hc => ?_))
      | refine Nx.zx ?_ | fail
    refine Nx.again (n, ki, A2, c2, rs ++ [⟨(rs.length : Int), Av, cv, v, (Ap, z.length, z)⟩]) ⟨hki, by dsimp only; rw [List.length_append]; show rs.length + 1 + n ≤ most; omega, ⟨fun i hi => ?_⟩⟩ (by dsimp only; omega) ⟨rfl, rfl, rfl, by dsimp only; rw [List.length_append]; rfl, by dsimp only; rw [show ((n + 1 : Nat) : Int) - 1 = (n : Int) by omega]; rfl, trivial⟩ ?_
    · dsimp only
      by_cases hir : i < rs.length
      · rw [List.getD_eq_getElem?_getD, List.getElem?_append_left hir, ← List.getD_eq_getElem?_getD]
        exact hrs.each i hir
      · obtain rfl : i = rs.length := by rw [List.length_append, List.length_singleton] at hi; omega
        rw [List.getD_eq_getElem?_getD, List.getElem?_append_right (Nat.le_refl _), Nat.sub_self]
        exact ⟨⟨hw, show z.length = (prod (szs v)).toNat from hP.symm, hz⟩, rfl⟩
    · dsimp only
      refine Ent.trans (R' := [ViewR Av cv v, rowR (Ap, z.length, z), Stars (rs.map relR), Vec 43 3 A2 (rs.length + 1) c2 (rs.flatMap relC ++ relC ⟨(rs.length : Int), Av, cv, v, (Ap, z.length, z)⟩), CodesR b A c L ki, spB b5 B l.length cs, F]) (by unfold rowR relC rowV; (exact Ent.auto)) ?_
      refine Ent.pack2.trans ?_
      refine Ent.trans (R' := Stars (rs.map relR ++ [relR ⟨(rs.length : Int), Av, cv, v, (Ap, z.length, z)⟩]) :: [Vec 43 3 A2 (rs.length + 1) c2 (rs.flatMap relC ++ relC ⟨(rs.length : Int), Av, cv, v, (Ap, z.length, z)⟩), CodesR b A c L ki, spB b5 B l.length cs, F]) Ent.bundle ?_
      rw [List.length_append, List.flatMap_append, List.map_append, List.flatMap_cons, List.flatMap_nil, List.append_nil]
      (exact Ent.auto)
end Go.Proofs.YtjnhoemgceghlaaGreat
/- Contracts of functions of the given program, and lemmas about plain lists and numbers: what the laws of this seat lean on. -/
namespace Go.Proofs.YtjnhoemgceghlaaGreat
open Go.Eng Go.Sol
attribute [local irreducible] opK wpList Code.wp Exit.then Exit.inBlock fnPost bodyPost Nx Calls Oper.wp Rd Rds Wr Ent Stars Blk Again Vec FnSpec wpMix QRun Stop Upto wpAt
/-! The reference's equations: what right releases tell -/
/-- A right release of a space. -/
structure RelV (l : List Int) (r : Rel) : Prop where
  view : Viewed l r.v
  len : r.val.2.2.length = (prod (szs r.v)).toNat
  each : ∀ j, j < r.val.2.2.length → r.val.2.2.getD j default = -1 ∨ (0 ≤ r.val.2.2.getD j default ∧ r.val.2.2.getD j default ≤ 1000000)
/-- Right releases of a space, by ascending numbers. -/
structure RelsV (l : List Int) (rs : List Rel) : Prop where
  len : rs.length ≤ 24
  each : ∀ i, i < rs.length → RelV l (rs.getD i default) ∧ 0 ≤ (rs.getD i default).num ∧ (rs.getD i default).num < 24
  asc : ∀ i, i + 1 < rs.length → (rs.getD i default).num < (rs.getD (i + 1) default).num
def prevN (rs : List Rel) : Nat → Int
  | 0 => -1
  | i + 1 => (rs.getD i default).num
theorem RelsV.prev {l : List Int} {rs : List Rel} (h : RelsV l rs) : ∀ {i : Nat}, i < rs.length → prevN rs i < (rs.getD i default).num
  | 0, hi => by have := (h.each 0 hi).2.1; show -1 < _; omega
  | i + 1, hi => h.asc i hi
theorem getD_memR {l : List Rel} {k : Nat} (h : k < l.length) : l.getD k default ∈ l := by
  rw [List.getD_eq_getElem?_getD, List.getElem?_eq_getElem h]; exact List.getElem_mem _
/-! What releases tell -/
def cont (q : EqR) : List Int × Int := (q.1.2.2, q.2)
def toldK (l : List Int) (v : List Row) (vs : List Int) : Nat → List (List Int × Int)
  | 0 => []
  | j + 1 => toldK l v vs j ++ if vs.getD j default = -1 then [] else [(memK l v (j : Int) (prod l).toNat, vs.getD j default)]
def told (l : List Int) (r : Rel) : List (List Int × Int) := toldK l r.v r.val.2.2 r.val.2.2.length
abbrev eqsR (A : Option Addr) (c : Nat) (qs : List EqR) : List Res := [Vec 140 2 A qs.length c (qs.flatMap eqC), Stars (qs.map fun q => rowR q.1)]
theorem take_snocR {l : List Rel} {k : Nat} (h : k < l.length) : l.take (k + 1) = l.take k ++ [l.getD k default] := by
  rw [List.take_add_one, List.getElem?_eq_getElem h, List.getD_eq_getElem?_getD, List.getElem?_eq_getElem h]; rfl
end Go.Proofs.YtjnhoemgceghlaaGreat
/-
  The proof engine, part AP: a contract of a function that reads what its caller owns: it is lent and given back.
-/
namespace Go.Eng
set_option maxHeartbeats 8000000 in
theorem FnSpec.keep {P : Program} {f : FuncId} {al : List Value} {I : PH} {Rpre : List Res} {Post : Value → List Res → Prop} (B : List Res)
    (hs : ∀ m I', PH.le I I' → PH.le m I' → Stars B m → FnSpec P f al I' Rpre Post) : FnSpec P f al I (B ++ Rpre) (fun v R' => ∃ R0, Post v R0 ∧ R' = B ++ R0) := by
  intro w F hw
  rw [List.append_assoc] at hw
  obtain ⟨m, hd, hB, hl, hback⟩ := hw.lend
  refine Calls.mono (hs m _ (PH.le_or_left _ _) (PH.le_or_right hd) hB w F hl) ?_
  rintro en w' ⟨v, R', rfl, hv, hst⟩
  exact ⟨v, B ++ R', rfl, ⟨R', hv, rfl⟩, by rw [List.append_assoc]; exact hback hst⟩
theorem Ent.pre : ∀ (A B R : List Res), Ent (A ++ (B ++ R)) (A ++ R)
  | [], [], R => Ent.refl R
  | [], b :: B, R => Ent.drop (Ent.pre [] B R)
  | a :: A, B, R => Ent.cons (Ent.pre A B R)
end Go.Eng
/- Contracts of functions of the given program, and lemmas about plain lists and numbers: what the laws of this seat lean on. -/
namespace Go.Proofs.YtjnhoemgceghlaaGreat
open Go.Eng Go.Sol
attribute [local irreducible] opK wpList Code.wp Exit.then Exit.inBlock fnPost bodyPost Nx Calls Oper.wp Rd Rds Wr Ent Stars Blk Again Vec FnSpec wpMix QRun Stop Upto wpAt
/-! Made equations -/
theorem rels_of {As : Option Addr} {cs : Nat} {rs : List Rel} {m I' : PH} {m1 m2 : PH} (hm : PH.le m I') (h1 : Vec 43 3 As rs.length cs (rs.flatMap relC) m1) (hm1 : PH.le m1 m) (h2 : Stars (rs.map relR) m2) (hm2 : PH.le m2 m) : Rels I' As cs rs := by
  have hat : ∀ r ∈ rs, ∃ m3, PH.le m3 I' ∧ relR r m3 := fun r hr => by
    obtain ⟨k, hk, he⟩ := List.mem_iff_getElem.1 hr
    obtain ⟨m3, h3le, h3⟩ := Stars.get k (r := relR r) h2 (by rw [nthL_eq, List.getElem?_map, List.getElem?_eq_getElem hk, he]; rfl)
    exact ⟨m3, (h3le.trans hm2).trans hm, h3⟩
  refine ⟨Vec.sliceN (hm1.trans hm) h1 fun x _ => relC_len x, fun r hr => ?_, fun r hr => ?_⟩
  · obtain ⟨m3, h3, hr3⟩ := hat r hr
    obtain ⟨m4, h4le, h4⟩ := Stars.get 0 hr3 rfl
    exact ViewR.rows (h4le.trans h3) h4
  · obtain ⟨m3, h3, hr3⟩ := hat r hr
    obtain ⟨m4, h4le, h4⟩ := Stars.get 1 hr3 rfl
    exact Vec.sliceOf (h4le.trans h3) h4
abbrev tabOk (s t : List Int) (most : Int) : Prop := t.length = (prod s).toNat ∧ ∀ j, j < t.length → 0 ≤ t.getD j default ∧ t.getD j default ≤ most
abbrev toldR (B : Option Addr) (c' : Nat) (s : List Int) (At : Option Addr) (ct : Nat) (t : List Int) (As : Option Addr) (ca : Nat) (rs : List Rel) : List Res := [iR B c' s, iR At ct t, Vec 43 3 As rs.length ca (rs.flatMap relC), Stars (rs.map relR)]
set_option maxRecDepth 10000 in
set_option maxHeartbeats 8000000 in
theorem Told_made (b : Nat) (A : Option Addr) (c : Nat) (L : List Int) (k most n : Nat) (I : PH) (hL : CodesOk I A c L) (hk : k ≤ L.length) (hm : most ≤ 1000) (hn : n ≤ 1000) :
    FnSpec Tryz.prog 6 [.pointer (some ⟨b, 0, none⟩), .int .i64 (most : Int), .int .i64 (n : Int)] I [CodesR b A c L k]
      (fun u R' => ∃ (B : Option Addr) (c' : Nat) (s : List Int) (At : Option Addr) (ct : Nat) (t : List Int) (As : Option Addr) (ca : Nat) (rs : List Rel) (k' : Nat), u = .tuple #[.agg #[.slice B s.length c'], .slice At t.length ct, .slice As rs.length ca] ∧ Sizes s ∧ tabOk s t most ∧ rs.length ≤ n ∧ RelsOk s t rs ∧ k' ≤ L.length ∧ R' = toldR B c' s At ct t As ca rs ++ [CodesR b A c L k']) := by
  refine FnSpec.enterP Tryz.func6 rfl Tryz.ntmps6 rfl fun w F => ?_
  repeat' first
    | ((with_reducible refine Nx.is_wp ?_); first | refine Nx.wo ?_ | refine Nx.zp (fun hc => ?_) (fun hc => ?_))
    | (refine Nx.zo ?_; first | refine Nx.opr rfl rfl ?_ | refine Nx.so ?_ | refine Nx.sb (fun bx => ?_) | refine Nx.sa (fun A2 c2 => ?_))
    | ((with_reducible refine Nx.is_at ?_); first | refine Nx.a ?_ | refine Nx.zd ?_ | refine Nx.zs (fun hc => ?_) (fun hc => ?_))
    | ((with_reducible refine Nx.is_mix ?_); first | refine Nx.m ?_ | refine Nx.zm ?_ | refine Nx.zt (fun hc => ?_) (fun hc => ?_))
    | refine Nx.zx ?_ | fail
  revert bx; intro b6
  refine Nx.at_op rfl rfl ?_
  refine Nx.call rfl rfl rfl (by kernel_rfl) rfl (Space_made b A c L k I hL hk) (by (exact Ent.auto)) ?_
  rintro _ _ ⟨B, c', s, k1, rfl, hs, hk1, rfl⟩
  repeat' first
    | ((with_reducible refine Nx.is_wp ?_); first | refine Nx.wo ?_ | refine Nx.zp (fun hc => ?_) (fun hc => ?_))
    | (refine Nx.zo ?_; first | refine Nx.opr rfl rfl ?_ | refine Nx.so ?_ | refine Nx.sb (fun bx => ?_) | refine Nx.sa (fun A2 c2 => ?_))
    | ((with_reducible refine Nx.is_at ?_); first | refine Nx.a ?_ | refine Nx.zd ?_ | refine Nx.zs (fun hc => ?_) (fun hc => ?_))
    | ((with_reducible refine Nx.is_mix ?_); first | refine Nx.m ?_ | refine Nx.zm ?_ | refine Nx.zt (fun hc => ?_) (fun hc => ?_))
    | refine Nx.zx ?_ | fail
  revert bx; intro b9
  refine Nx.at_op rfl rfl ?_
  refine Nx.call rfl rfl rfl (by kernel_rfl) rfl (FnSpec.keep [iR B c' s] fun m I' hle hm' hv => Cells_spec b A B c c' L s k1 most I' (hL.mono hle) hk1 (by obtain ⟨m1, hm1, h1⟩ := Stars.get 0 hv rfl; exact Vec.sliceOf (hm1.trans hm') h1) hs (by omega)) (by (exact Ent.auto)) ?_
  rintro _ _ ⟨_, ⟨bt, t, k2, rfl, htl, hte, hk2, rfl⟩, rfl⟩
  have hT : Table s t := ⟨htl, fun j hj => by have := hte j hj; omega⟩
  repeat' first
    | ((with_reducible refine Nx.is_wp ?_); first | refine Nx.wo ?_ | refine Nx.p_drawF (id := 3) rfl [0, 1, 2, 3, 4, 5, 6, 7, 8, 9] [6, 7] [] _ rfl rfl (by kernel_rfl) (by kernel_rfl) rfl (by repeat first | exact PanicOk.fn | refine PanicOk.then_ ?_ | refine PanicOk.inB ?_) ((Ent.eraseK 4 _).trans (Ent.eraseK 2 _)) ?_ | refine Nx.zp (fun hc => ?_) (fun hc => ?_))
    | (refine Nx.zo ?_; first | refine Nx.opr rfl rfl ?_ | (refine Nx.call rfl rfl rfl (by kernel_rfl) rfl (FnSpec.keep [iR B c' s, iR (some ⟨bt, 0, none⟩) t.length t] fun m I' hle hm' hv => Releases_made b A B (some ⟨bt, 0, none⟩) c c' t.length L s t k2 n I' (hL.mono hle) hk2 (by obtain ⟨m1, hm1, h1⟩ := Stars.get 0 hv rfl; exact Vec.sliceOf (hm1.trans hm') h1) hs (by obtain ⟨m1, hm1, h1⟩ := Stars.get 1 hv rfl; exact Vec.sliceOf (hm1.trans hm') h1) hT hn) (by (exact Ent.auto)) ?_; rintro _ _ ⟨_, ⟨As, ca, rs, k3, rfl, hrn, hro, hk3, rfl⟩, rfl⟩) | refine Nx.so ?_ | refine Nx.sb (fun bx => ?_) | refine Nx.sa (fun A2 c2 => ?_))
    | ((with_reducible refine Nx.is_at ?_); first | refine Nx.a ?_ | refine Nx.zd ?_ | refine Nx.zs (fun hc => ?_) (fun hc => ?_))
    | ((with_reducible refine Nx.is_mix ?_); first | refine Nx.m ?_ | refine Nx.zm ?_ | refine Nx.zt (fun hc => ?_) (fun hc => ?_))
    | refine Nx.zx ?_ | fail
  exact Nx.ret3 rfl (ROne.cell 0 rfl rfl rfl rfl rfl) (ROne.tmp rfl) (ROne.tmp rfl) [_, _, _, _, _] ⟨B, c', s, _, _, t, As, ca, rs, k3, rfl, hs, ⟨htl, hte⟩, hrn, hro, hk3, rfl⟩ (by (exact Ent.auto))
theorem sumAt_bd2 {p : Nat → Int} {t : List Int} {k M : Int} (ht : ∀ j, j < t.length → 0 ≤ t.getD j default ∧ t.getD j default ≤ M) (hM : 0 ≤ M) : ∀ n, n ≤ t.length → 0 ≤ sumAt p t k n ∧ sumAt p t k n ≤ n * M
  | 0, _ => by simp [sumAt]
  | n + 1, h => by
    have ih := sumAt_bd2 (p := p) (k := k) ht hM n (by omega)
    have h1 := ht n (by omega)
    rw [sumAt]
    have e : ((n + 1 : Nat) : Int) * M = n * M + M := by rw [Int.natCast_succ, Int.add_mul, Int.one_mul]
    split <;> omega
theorem relsV_of {l t : List Int} {rs : List Rel} {most : Int} (hs : Sizes l) (hT : tabOk l t most) (h0 : 0 ≤ most) (hm : most ≤ 1000) (h : RelsOk l t rs) (hn : rs.length ≤ 24) : RelsV l rs := by
  have hc := hs.cells
  refine ⟨hn, fun i hi => ?_, fun i hi => ?_⟩
  · obtain ⟨⟨h1, h2, h3⟩, h4⟩ := h.each i hi
    refine ⟨⟨h1, h2, fun j hj => ?_⟩, by omega, by omega⟩
    rcases h3 j hj with h5 | h5
    · exact .inl h5
    · have hb := sumAt_bd2 (p := pubOf l (rs.getD i default).v) (k := (j : Int)) hT.2 h0 t.length (Nat.le_refl _)
      have hlt : (t.length : Int) ≤ 48 := by have := hT.1; omega
      have h6 : (t.length : Int) * most ≤ 48 * 1000 := Int.mul_le_mul hlt hm h0 (by omega)
      rw [h5]
      right; omega
  · have h1 := (h.each i (by omega)).2
    have h2 := (h.each (i + 1) hi).2
    omega
theorem mem_toldK {l : List Int} {v : List Row} {vs : List Int} {x : List Int × Int} : ∀ {n : Nat}, x ∈ toldK l v vs n ↔ ∃ j, j < n ∧ vs.getD j default ≠ -1 ∧ x = (memK l v (j : Int) (prod l).toNat, vs.getD j default)
  | 0 => by simp [toldK]
  | n + 1 => by
    rw [toldK, List.mem_append, mem_toldK]
    constructor
    · rintro (⟨j, h1, h2, h3⟩ | h)
      · exact ⟨j, by omega, h2, h3⟩
      · by_cases hz : vs.getD n default = -1
        · rw [if_pos hz] at h; cases h
        · rw [if_neg hz, List.mem_singleton] at h
          exact ⟨n, by omega, hz, h⟩
    · rintro ⟨j, h1, h2, h3⟩
      rcases Nat.lt_or_ge j n with hj | hj
      · exact .inl ⟨j, hj, h2, h3⟩
      · obtain rfl : j = n := by omega
        right
        rw [if_neg h2, List.mem_singleton]
        exact h3
/-- What releases of a table tell is valid, and the table agrees with it. -/
theorem told_eq {l t : List Int} {rs : List Rel} {most : Int} (hs : Sizes l) (hT : tabOk l t most) (h0 : 0 ≤ most) (hm : most ≤ 1000) (h : RelsOk l t rs) (hn : rs.length ≤ 24) {q : EqR} (hq : cont q ∈ rs.flatMap (told l)) : GoodE (prod l).toNat q ∧ sumC t (eqn q).1 = q.2 := by
  rw [List.mem_flatMap] at hq
  obtain ⟨r, hr, hq⟩ := hq
  obtain ⟨i, hi, he⟩ := List.mem_iff_getElem.1 hr
  have hri : rs.getD i default = r := by rw [List.getD_eq_getElem?_getD, List.getElem?_eq_getElem hi, he]; rfl
  have hV := ((relsV_of hs hT h0 hm h hn).each i hi).1
  have hO := (h.each i hi).1
  rw [hri] at hV hO
  unfold told at hq
  obtain ⟨j, hj, hne, hc⟩ := mem_toldK.1 hq
  obtain ⟨⟨a, c, m⟩, z⟩ := q
  unfold cont at hc
  obtain ⟨rfl, rfl⟩ := Prod.mk.inj hc
  have hP := hV.len
  have hvj := hV.each j hj
  have hoj := hO.each j hj
  have hszs := hV.view.sizes hs
  have hk : 0 ≤ (j : Int) ∧ (j : Int) < prod (szs r.v) := ⟨by omega, by omega⟩
  refine ⟨memK_good hs hV.view hk (by omega), ?_⟩
  show sumC t ((memK l r.v (j : Int) (prod l).toNat).map Int.toNat) = r.val.2.2.getD j default
  rw [memK_sum, ← hT.1]
  rcases hoj with h5 | h5
  · exact absurd h5 hne
  · exact h5.symm
/-- Equations with which a table agrees. -/
structure EqsOk (N : Nat) (t : List Int) (most : Int) (qs : List EqR) : Prop where
  n : 1 ≤ N ∧ N ≤ 48
  len : t.length = N
  tab : ∀ j, j < t.length → 0 ≤ t.getD j default ∧ t.getD j default ≤ most
  few : qs.length ≤ 8
  good : ∀ q ∈ qs, GoodE N q
  sum : ∀ q ∈ qs, sumC t (eqn q).1 = q.2
end Go.Proofs.YtjnhoemgceghlaaGreat
/- Contracts of functions of the given program, and lemmas about plain lists and numbers: what the laws of this seat lean on. -/
namespace Go.Proofs.YtjnhoemgceghlaaGreat
open Go.Eng Go.Sol
attribute [local irreducible] opK wpList Code.wp Exit.then Exit.inBlock fnPost bodyPost Nx Calls Oper.wp Rd Rds Wr Ent Stars Blk Again Vec FnSpec wpMix QRun Stop Upto wpAt
/-! The program's equations: what releases tell, for right views -/
def badV (z : Int) : Bool := decide (z ≠ -1) && !decide (0 ≤ z ∧ z ≤ 1000000)
set_option maxHeartbeats 8000000 in
set_option maxRecDepth 10000 in
theorem bad_spec (z : Int) (I : PH) : FnSpec Tryz.prog 145 [.int .i64 z] I [] (fun v R' => v = .bool (badV z) ∧ R' = []) := by
  have hv := value_spec z I
  unfold badV
  refine FnSpec.enterP Tryz.func145 rfl Tryz.ntmps145 rfl fun w F => ?_
  by_cases h : z = -1
  · rw [decide_eq_false (fun h' : z ≠ -1 => h' h), Bool.false_and]
    repeat' first
      | ((with_reducible refine Nx.is_wp ?_); first | refine Nx.wo ?_ | refine Nx.zp (fun hc => ?_) (fun hc => ?_))
      | (refine Nx.zo ?_; first | refine Nx.opr rfl rfl ?_ | refine Nx.callv rfl rfl rfl (by kernel_rfl) rfl hv ?_ | refine Nx.so ?_ | refine Nx.sb (fun bx => ?_) | refine Nx.sa (fun A2 c2 => ?_))
      | ((with_reducible refine Nx.is_at ?_); first | refine Nx.a ?_ | refine Nx.zd ?_ | refine Nx.zs (fun hc => ?_) (fun hc => ?_))
      | ((with_reducible refine Nx.is_mix ?_); first | refine Nx.m ?_ | refine Nx.zm ?_ | refine Nx.zt (fun hc => ?_) (fun hc => ?_))
      | refine Nx.zx ?_ | fail
    exact Nx.ret_fn rfl [] ⟨rfl, rfl⟩ (by (exact Ent.auto))
  · rw [decide_eq_true (show z ≠ -1 from h), Bool.true_and]
    repeat' first
      | ((with_reducible refine Nx.is_wp ?_); first | refine Nx.wo ?_ | refine Nx.zp (fun hc => ?_) (fun hc => ?_))
      | (refine Nx.zo ?_; first | refine Nx.opr rfl rfl ?_ | refine Nx.callv rfl rfl rfl (by kernel_rfl) rfl hv ?_ | refine Nx.so ?_ | refine Nx.sb (fun bx => ?_) | refine Nx.sa (fun A2 c2 => ?_))
      | ((with_reducible refine Nx.is_at ?_); first | refine Nx.a ?_ | refine Nx.zd ?_ | refine Nx.zs (fun hc => ?_) (fun hc => ?_))
      | ((with_reducible refine Nx.is_mix ?_); first | refine Nx.m ?_ | refine Nx.zm ?_ | refine Nx.zt (fun hc => ?_) (fun hc => ?_))
      | refine Nx.zx ?_ | fail
    exact Nx.ret_fn rfl [] ⟨rfl, rfl⟩ (by (exact Ent.auto))
/-- The error of a release. -/
def relE (_ : List Int) (r : Rel) (before : Int) : Int :=
  if r.num ≤ before ∨ 24 ≤ r.num then 48 else if (r.val.2.2.length : Int) ≠ prod (szs r.v) then 17 else if r.val.2.2.any badV = true then 2 else 0
set_option maxRecDepth 10000 in
set_option maxHeartbeats 8000000 in
theorem echeck_spec (A : Option Addr) (c : Nat) (l : List Int) (r : Rel) (before : Int) (I : PH) (hl : Ints I A c l) (hs : Sizes l) (hv : RowsOf I r.va r.vc r.v) (hd : Ints I r.val.1 r.val.2.1 r.val.2.2) (hw : Viewed l r.v) :
    FnSpec Tryz.prog 118 [.agg #[.slice A l.length c], .agg #[.int .i64 r.num, .slice r.va r.v.length r.vc, .slice r.val.1 r.val.2.2.length r.val.2.1], .int .i64 before] I [] (fun u R' => u = .int .i64 (relE l r before) ∧ R' = []) := by
  obtain ⟨num, B, cv, v, D, cd, vs⟩ := r
  dsimp only at hv hd hw ⊢
  have hvl := hd.len
  have hP := Published_spec A B c cv l v I hl hs hv hw
  have hC := ContainsFunc_spec 145 badV D cd vs I hd (by kernel_rfl) (fun z => bad_spec z I)
  unfold relE
  dsimp only
  generalize prod (szs v) = P at hP
  refine FnSpec.enterP Tryz.func118 rfl Tryz.ntmps118 rfl fun w F => ?_
  by_cases h1 : num ≤ before
  · rw [if_pos (.inl h1)]
    repeat' first
      | ((with_reducible refine Nx.is_wp ?_); first | refine Nx.wo ?_ | refine Nx.zp (fun hc => ?_) (fun hc => ?_))
      | (refine Nx.zo ?_; first | refine Nx.opr rfl rfl ?_ | refine Nx.so ?_ | refine Nx.sb (fun bx => ?_) | refine Nx.sa (fun A2 c2 => ?_))
      | ((with_reducible refine Nx.is_at ?_); first | refine Nx.a ?_ | refine Nx.zd ?_ | refine Nx.zs (fun hc => ?_) (fun hc => ?_))
      | ((with_reducible refine Nx.is_mix ?_); first | refine Nx.m ?_ | refine Nx.zm ?_ | refine Nx.zt (fun hc => ?_) (fun hc => ?_))
      | refine Nx.zx ?_ | fail
    exact Nx.ret_fn rfl [] ⟨rfl, rfl⟩ (by (exact Ent.auto))
  by_cases h2 : 24 ≤ num
  · rw [if_pos (.inr h2)]
    repeat' first
      | ((with_reducible refine Nx.is_wp ?_); first | refine Nx.wo ?_ | refine Nx.zp (fun hc => ?_) (fun hc => ?_))
      | (refine Nx.zo ?_; first | refine Nx.opr rfl rfl ?_ | refine Nx.so ?_ | refine Nx.sb (fun bx => ?_) | refine Nx.sa (fun A2 c2 => ?_))
      | ((with_reducible refine Nx.is_at ?_); first | refine Nx.a ?_ | refine Nx.zd ?_ | refine Nx.zs (fun hc => ?_) (fun hc => ?_))
      | ((with_reducible refine Nx.is_mix ?_); first | refine Nx.m ?_ | refine Nx.zm ?_ | refine Nx.zt (fun hc => ?_) (fun hc => ?_))
      | refine Nx.zx ?_ | fail
    exact Nx.ret_fn rfl [] ⟨rfl, rfl⟩ (by (exact Ent.auto))
  rw [if_neg (by omega)]
  by_cases h3 : (vs.length : Int) ≠ P
  · rw [if_pos h3]
    repeat' first
      | ((with_reducible refine Nx.is_wp ?_); first | refine Nx.wo ?_ | refine Nx.p_draw (id := 6) rfl [0, 1, 2, 3, 4, 5, 6, 7] [6] _ rfl rfl (by kernel_rfl) (by kernel_rfl) rfl (by repeat first | exact PanicOk.fn | refine PanicOk.then_ ?_ | refine PanicOk.inB ?_) (Ent.refl _) ?_ | refine Nx.zp (fun hc => ?_) (fun hc => ?_))
      | (refine Nx.zo ?_; first | refine Nx.opr rfl rfl ?_ | refine Nx.loads rfl rfl rfl rfl (Rds.cut 0 1 rfl rfl) rfl ?_ | refine Nx.callv rfl rfl rfl (by kernel_rfl) rfl (View_spec _ _ _ _ _ _ _ hl hs hv hw) ?_ | refine Nx.callv rfl rfl rfl (by kernel_rfl) rfl hP ?_ | refine Nx.so ?_ | refine Nx.sb (fun bx => ?_) | refine Nx.sa (fun A2 c2 => ?_))
      | ((with_reducible refine Nx.is_at ?_); first | refine Nx.a ?_ | refine Nx.zd ?_ | refine Nx.zs (fun hc => ?_) (fun hc => ?_))
      | ((with_reducible refine Nx.is_mix ?_); first | refine Nx.m_quiet rfl rfl rfl rfl rfl (by first | exact QRun.opr rfl | exact QRun.loads rfl rfl rfl (Rds.cut 0 1 rfl rfl) rfl) ?_ | refine Nx.m_quiet_do rfl rfl rfl rfl rfl rfl rfl (by first | exact QRun.opr rfl | exact QRun.loads rfl rfl rfl (Rds.cut 0 1 rfl rfl) rfl) ?_ | refine Nx.m ?_ | refine Nx.zm ?_ | refine Nx.zt (fun hc => ?_) (fun hc => ?_))
      | refine Nx.zx ?_ | fail
    exact Nx.ret_fn rfl [] ⟨rfl, rfl⟩ (by (exact Ent.auto))
  rw [if_neg h3]
  have h3 : (vs.length : Int) = P := Decidable.byContradiction h3
  cases hb : vs.any badV with
  | true =>
    rw [if_pos rfl]
    rw [hb] at hC
    repeat' first
      | ((with_reducible refine Nx.is_wp ?_); first | refine Nx.wo ?_ | refine Nx.p_draw (id := 6) rfl [0, 1, 2, 3, 4, 5, 6, 7] [6] _ rfl rfl (by kernel_rfl) (by kernel_rfl) rfl (by repeat first | exact PanicOk.fn | refine PanicOk.then_ ?_ | refine PanicOk.inB ?_) (Ent.refl _) ?_ | refine Nx.zp (fun hc => ?_) (fun hc => ?_))
      | (refine Nx.zo ?_; first | refine Nx.opr rfl rfl ?_ | refine Nx.loads rfl rfl rfl rfl (Rds.cut 0 1 rfl rfl) rfl ?_ | refine Nx.callv rfl rfl rfl (by kernel_rfl) rfl (View_spec _ _ _ _ _ _ _ hl hs hv hw) ?_ | refine Nx.callv rfl rfl rfl (by kernel_rfl) rfl hP ?_ | refine Nx.callv rfl rfl rfl (by kernel_rfl) rfl hC ?_ | refine Nx.so ?_ | refine Nx.sb (fun bx => ?_) | refine Nx.sa (fun A2 c2 => ?_))
      | ((with_reducible refine Nx.is_at ?_); first | refine Nx.a ?_ | refine Nx.zd ?_ | refine Nx.zs (fun hc => ?_) (fun hc => ?_))
      | ((with_reducible refine Nx.is_mix ?_); first | refine Nx.m_quiet rfl rfl rfl rfl rfl (by first | exact QRun.opr rfl | exact QRun.loads rfl rfl rfl (Rds.cut 0 1 rfl rfl) rfl) ?_ | refine Nx.m_quiet_do rfl rfl rfl rfl rfl rfl rfl (by first | exact QRun.opr rfl | exact QRun.loads rfl rfl rfl (Rds.cut 0 1 rfl rfl) rfl) ?_ | refine Nx.m ?_ | refine Nx.zm ?_ | refine Nx.zt (fun hc => ?_) (fun hc => ?_))
      | refine Nx.zx ?_ | fail
    exact Nx.ret_fn rfl [] ⟨rfl, rfl⟩ (by (exact Ent.auto))
  | false =>
    rw [if_neg (by decide)]
    rw [hb] at hC
    repeat' first
      | ((with_reducible refine Nx.is_wp ?_); first | refine Nx.wo ?_ | refine Nx.p_draw (id := 6) rfl [0, 1, 2, 3, 4, 5, 6, 7] [6] _ rfl rfl (by kernel_rfl) (by kernel_rfl) rfl (by repeat first | exact PanicOk.fn | refine PanicOk.then_ ?_ | refine PanicOk.inB ?_) (Ent.refl _) ?_ | refine Nx.zp (fun hc => ?_) (fun hc => ?_))
      | (refine Nx.zo ?_; first | refine Nx.opr rfl rfl ?_ | refine Nx.loads rfl rfl rfl rfl (Rds.cut 0 1 rfl rfl) rfl ?_ | refine Nx.callv rfl rfl rfl (by kernel_rfl) rfl (View_spec _ _ _ _ _ _ _ hl hs hv hw) ?_ | refine Nx.callv rfl rfl rfl (by kernel_rfl) rfl hP ?_ | refine Nx.callv rfl rfl rfl (by kernel_rfl) rfl hC ?_ | refine Nx.so ?_ | refine Nx.sb (fun bx => ?_) | refine Nx.sa (fun A2 c2 => ?_))
      | ((with_reducible refine Nx.is_at ?_); first | refine Nx.a ?_ | refine Nx.zd ?_ | refine Nx.zs (fun hc => ?_) (fun hc => ?_))
      | ((with_reducible refine Nx.is_mix ?_); first | refine Nx.m_quiet rfl rfl rfl rfl rfl (by first | exact QRun.opr rfl | exact QRun.loads rfl rfl rfl (Rds.cut 0 1 rfl rfl) rfl) ?_ | refine Nx.m_quiet_do rfl rfl rfl rfl rfl rfl rfl (by first | exact QRun.opr rfl | exact QRun.loads rfl rfl rfl (Rds.cut 0 1 rfl rfl) rfl) ?_ | refine Nx.m ?_ | refine Nx.zm ?_ | refine Nx.zt (fun hc => ?_) (fun hc => ?_))
      | refine Nx.zx ?_ | fail
    exact Nx.ret_fn rfl [] ⟨rfl, rfl⟩ (by (exact Ent.auto))
def relsF (l : List Int) : Int → List Rel → Int
  | _, [] => 0
  | b, r :: rest => if relE l r b ≠ 0 then relE l r b else relsF l r.num rest
/-- The error of releases. -/
def relsE (l : List Int) (rs : List Rel) : Int := if 24 < rs.length then 1 else relsF l (-1) rs
theorem drop_atR {l : List Rel} {k : Nat} (hk : k < l.length) : l.drop k = l.getD k default :: l.drop (k + 1) := by
  rw [List.drop_eq_getElem_cons hk, List.getD_eq_getElem?_getD, List.getElem?_eq_getElem hk]; rfl
theorem relsF_at {l : List Int} {rs : List Rel} {k : Nat} {b : Int} (hk : k < rs.length) : relsF l b (rs.drop k) = if relE l (rs.getD k default) b ≠ 0 then relE l (rs.getD k default) b else relsF l (rs.getD k default).num (rs.drop (k + 1)) := by
  rw [drop_atR hk, relsF]
set_option maxRecDepth 10000 in
set_option maxHeartbeats 8000000 in
theorem ECheck_spec (A As : Option Addr) (c cs : Nat) (l : List Int) (rs : List Rel) (I : PH) (hl : Ints I A c l) (hs : Sizes l) (hr : Rels I As cs rs) (hw : ∀ r ∈ rs, Viewed l r.v) :
    FnSpec Tryz.prog 90 [.agg #[.slice A l.length c], .slice As rs.length cs] I [] (fun u R' => u = .int .i64 (relsE l rs) ∧ R' = []) := by
  have hrl := hr.outer.len
  refine FnSpec.enterP Tryz.func90 rfl Tryz.ntmps90 rfl fun w F => ?_
  unfold relsE
  by_cases h24 : 24 < rs.length
  · rw [if_pos h24]
    repeat' first
      | ((with_reducible refine Nx.is_wp ?_); first | refine Nx.wo ?_ | refine Nx.zp (fun hc => ?_) (fun hc => ?_))
      | (refine Nx.zo ?_; first | refine Nx.opr rfl rfl ?_ | refine Nx.callv rfl rfl rfl (by kernel_rfl) rfl (Check_spec _ _ _ _ hl hs) ?_ | refine Nx.so ?_ | refine Nx.sb (fun bx => ?_) | refine Nx.sa (fun A2 c2 => ?_))
      | ((with_reducible refine Nx.is_at ?_); first | refine Nx.a ?_ | refine Nx.zd ?_ | refine Nx.zs (fun hc => ?_) (fun hc => ?_))
      | ((with_reducible refine Nx.is_mix ?_); first | refine Nx.m ?_ | refine Nx.zm ?_ | refine Nx.zt (fun hc => ?_) (fun hc => ?_))
      | refine Nx.zx ?_ | fail
    exact Nx.ret_fn rfl [] ⟨rfl, rfl⟩ (by (exact Ent.auto))
  rw [if_neg h24]
  repeat' first
    | ((with_reducible refine Nx.is_wp ?_); first | refine Nx.wo ?_ | refine Nx.zp (fun hc => ?_) (fun hc => ?_))
    | (refine Nx.zo ?_; first | refine Nx.opr rfl rfl ?_ | refine Nx.callv rfl rfl rfl (by kernel_rfl) rfl (Check_spec _ _ _ _ hl hs) ?_ | refine Nx.so ?_ | refine Nx.sb (fun bx => ?_) | refine Nx.sa (fun A2 c2 => ?_))
    | ((with_reducible refine Nx.is_at ?_); first | refine Nx.a ?_ | refine Nx.zd ?_ | refine Nx.zs (fun hc => ?_) (fun hc => ?_))
    | ((with_reducible refine Nx.is_mix ?_); first | refine Nx.m ?_ | refine Nx.zm ?_ | refine Nx.zt (fun hc => ?_) (fun hc => ?_))
    | refine Nx.zx ?_ | fail
  revert bx; intro b2
  refine Nx.p_loop (σ := Nat × Int) (fun s => [(2, .pointer (some ⟨b2, 0, none⟩)), (6, .int .i64 s.2), (18, .slice As rs.length cs), (19, .int .i64 rs.length), (20, .int .i64 (s.1 : Int))])
    (fun _ => [Blk b2 27 [.slice A l.length c], F]) (fun s => s.1 ≤ rs.length ∧ relsF l (-1) rs = relsF l s.2 (rs.drop s.1)) (fun s => rs.length - s.1) (0, -1) rfl ⟨Nat.zero_le _, rfl⟩ ⟨rfl, rfl, rfl, rfl, rfl, trivial⟩ (by (exact Ent.auto)) ?_
  rintro ⟨i, b⟩ ⟨hi, he⟩
  dsimp only at hi he ⊢
  by_cases hiv : i < rs.length
  case neg =>
    rw [List.drop_eq_nil_of_le (by omega), relsF] at he
    rw [he]
    repeat' first
      | ((with_reducible refine Nx.is_wp ?_); first | refine Nx.wo ?_ | refine Nx.zp (fun hc => ?_) (fun hc => ?_))
      | (refine Nx.zo ?_; first | refine Nx.opr rfl rfl ?_ | refine Nx.so ?_ | refine Nx.sb (fun bx => ?_) | refine Nx.sa (fun A2 c2 => ?_))
      | ((with_reducible refine Nx.is_at ?_); first | refine Nx.a ?_ | refine Nx.zd ?_ | refine Nx.zs (fun hc => ?_) (fun hc => ?_))
      | ((with_reducible refine Nx.is_mix ?_); first | refine Nx.m ?_ | refine Nx.zm ?_ | refine Nx.zt (fun hc => ?_) (fun hc => ?_))
      | refine Nx.zx ?_ | fail
    exact Nx.ret_fn rfl [] ⟨rfl, rfl⟩ (by (exact Ent.auto))
  rw [relsF_at hiv] at he
  have hwi := hw _ (getD_memR hiv)
  have hS := echeck_spec A c l (rs.getD i default) b I hl hs (hr.view _ (getD_memR hiv)) (hr.val _ (getD_memR hiv)) hwi
  have hrds : ∀ (W : World) (R : List Res), Rds W I R ((ad As).add (i * 3)) (relC (rs.getD i default)) := fun W R => hr.outer.rds hiv
  generalize rs.getD i default = r at he hS hrds
  obtain ⟨num, va, vc, v, D, cd, vs⟩ := r
  dsimp only at he hS
  replace hrds : ∀ (W : World) (R : List Res), Rds W I R ((ad As).add (i * 3)) [.int .i64 num, .slice va v.length vc, .slice D vs.length cd] := hrds
  generalize relE l ⟨num, va, vc, v, (D, cd, vs)⟩ b = er at he hS
  by_cases h0 : er = 0
  · rw [if_neg (by omega)] at he
    subst h0
    repeat' first
      | ((with_reducible refine Nx.is_wp ?_); first | refine Nx.wo ?_ | refine Nx.zp (fun hc => ?_) (fun hc => ?_))
      | (refine Nx.zo ?_; first | refine Nx.opr rfl rfl ?_ | refine Nx.indexAddr_nat rfl rfl rfl rfl rfl hiv (hr.outer.isSome (by omega) (by omega)) ?_ | refine Nx.loads rfl rfl rfl rfl (hrds _ _) rfl ?_ | refine Nx.callv rfl rfl rfl (by kernel_rfl) rfl hS ?_ | refine Nx.so ?_ | refine Nx.sb (fun bx => ?_) | refine Nx.sa (fun A2 c2 => ?_))
      | ((with_reducible refine Nx.is_at ?_); first | refine Nx.a ?_ | refine Nx.zd ?_ | refine Nx.zs (fun hc => ?_) (fun hc => ?_))
      | ((with_reducible refine Nx.is_mix ?_); first | refine Nx.m ?_ | refine Nx.zm ?_ | refine Nx.zt (fun hc => ?_) (fun hc => ?_))
      | refine Nx.zx ?_ | fail
    exact Nx.again (i + 1, num) ⟨hiv, he⟩ (by dsimp only; omega) ⟨rfl, rfl, rfl, rfl, rfl, trivial⟩ (by (exact Ent.auto))
  · rw [if_pos h0] at he
    rw [he]
    repeat' first
      | ((with_reducible refine Nx.is_wp ?_); first | refine Nx.wo ?_ | refine Nx.zp (fun hc => ?_) (fun hc => ?_))
      | (refine Nx.zo ?_; first | refine Nx.opr rfl rfl ?_ | refine Nx.indexAddr_nat rfl rfl rfl rfl rfl hiv (hr.outer.isSome (by omega) (by omega)) ?_ | refine Nx.loads rfl rfl rfl rfl (hrds _ _) rfl ?_ | refine Nx.callv rfl rfl rfl (by kernel_rfl) rfl hS ?_ | refine Nx.so ?_ | refine Nx.sb (fun bx => ?_) | refine Nx.sa (fun A2 c2 => ?_))
      | ((with_reducible refine Nx.is_at ?_); first | refine Nx.a ?_ | refine Nx.zd ?_ | refine Nx.zs (fun hc => ?_) (fun hc => ?_))
      | ((with_reducible refine Nx.is_mix ?_); first | refine Nx.m ?_ | refine Nx.zm ?_ | refine Nx.zt (fun hc => ?_) (fun hc => ?_))
      | refine Nx.zx ?_ | fail
    exact Nx.ret_fn rfl [] ⟨rfl, rfl⟩ (by (exact Ent.auto))
end Go.Proofs.YtjnhoemgceghlaaGreat
/-
  The proof engine, part AQ: two bundles as one.
-/
namespace Go.Eng
theorem Ent.app {R R' : List Res} (h : Ent R R') : ∀ A : List Res, Ent (A ++ R) (A ++ R')
  | [] => h
  | _ :: A => Ent.cons (Ent.app h A)
theorem Ent.stars_app {A B R : List Res} : Ent (Stars A :: Stars B :: R) (Stars (A ++ B) :: R) := by
  refine Ent.unstars.trans ?_
  refine (Ent.app Ent.unstars A).trans ?_
  rw [← List.append_assoc]
  exact Ent.stars
end Go.Eng
/- Contracts of functions of the given program, and lemmas about plain lists and numbers: what the laws of this seat lean on. -/
namespace Go.Proofs.YtjnhoemgceghlaaGreat
open Go.Eng Go.Sol
attribute [local irreducible] opK wpList Code.wp Exit.then Exit.inBlock fnPost bodyPost Nx Calls Oper.wp Rd Rds Wr Ent Stars Blk Again Vec FnSpec wpMix QRun Stop Upto wpAt
theorem eq_one (l : List EqR) : ∀ u ∈ l.flatMap eqC, u.oneCell' = true := fun u hu => by
  obtain ⟨x, _, hx⟩ := List.mem_flatMap.1 hu
  simp only [eqC, List.mem_cons, List.not_mem_nil, or_false] at hx
  rcases hx with rfl | rfl <;> rfl
theorem relE_ok {l : List Int} {r : Rel} {b : Int} (hw : Viewed l r.v) (_ : Sizes l) (h : relE l r b = 0) : b < r.num ∧ r.num < 24 ∧ RelV l r := by
  unfold relE at h
  split at h
  · omega
  rename_i h1
  split at h
  · omega
  rename_i h2
  split at h
  · omega
  rename_i h3
  have h2 : (r.val.2.2.length : Int) = prod (szs r.v) := Decidable.byContradiction h2
  refine ⟨by omega, by omega, hw, by omega, fun j hj => ?_⟩
  have h4 : ∀ z ∈ r.val.2.2, ¬ badV z = true := fun z hz hb => h3 (List.any_eq_true.2 ⟨z, hz, hb⟩)
  have h5 := h4 _ (getD_memI hj)
  unfold badV at h5
  by_cases hz : r.val.2.2.getD j default = -1
  · exact .inl hz
  · right
    rw [decide_eq_true hz, Bool.true_and] at h5
    exact Decidable.byContradiction fun hc => h5 (by rw [decide_eq_false hc]; rfl)
theorem relE_of {l : List Int} {r : Rel} {b : Int} (hb : b < r.num) (h24 : r.num < 24) (hs : Sizes l) (h : RelV l r) : relE l r b = 0 := by
  have hp := (h.view.sizes hs).bound (k := (szs r.v).length) (Nat.le_refl _)
  rw [List.take_length] at hp
  have hl := h.len
  unfold relE
  rw [if_neg (by omega), if_neg (by omega), if_neg]
  intro ha
  obtain ⟨z, hz, hbz⟩ := List.any_eq_true.1 ha
  obtain ⟨j, hj, rfl⟩ := mem_getDI hz
  unfold badV at hbz
  rcases h.each j hj with h1 | h1
  · rw [h1] at hbz; simp at hbz
  · rw [decide_eq_true h1] at hbz; simp at hbz
theorem relsF_ok {l : List Int} (hs : Sizes l) : ∀ {rs : List Rel} {b : Int}, (∀ r ∈ rs, Viewed l r.v) → relsF l b rs = 0 → (∀ i, i < rs.length → RelV l (rs.getD i default) ∧ b < (rs.getD i default).num ∧ (rs.getD i default).num < 24) ∧ ∀ i, i + 1 < rs.length → (rs.getD i default).num < (rs.getD (i + 1) default).num
  | [], _, _, _ => ⟨fun i hi => absurd hi (Nat.not_lt_zero _), fun i hi => absurd hi (Nat.not_lt_zero _)⟩
  | r :: rs, b, hw, h => by
    rw [relsF] at h
    split at h
    · omega
    rename_i h0
    have h0 : relE l r b = 0 := Decidable.byContradiction h0
    obtain ⟨h1, h2, h3⟩ := relE_ok (hw r List.mem_cons_self) hs h0
    obtain ⟨h4, h5⟩ := relsF_ok hs (fun x hx => hw x (List.mem_cons_of_mem _ hx)) h
    refine ⟨fun i hi => ?_, fun i hi => ?_⟩
    · cases i with
      | zero => exact ⟨h3, h1, h2⟩
      | succ i =>
        obtain ⟨a, c, d⟩ := h4 i (by simpa using hi)
        exact ⟨a, by show b < (rs.getD i default).num; omega, d⟩
    · cases i with
      | zero => exact (h4 0 (by simpa using hi)).2.1
      | succ i => exact h5 i (by simpa using hi)
theorem relsF_of {l : List Int} (hs : Sizes l) : ∀ {rs : List Rel} {b : Int}, (∀ i, i < rs.length → RelV l (rs.getD i default) ∧ (rs.getD i default).num < 24) → (0 < rs.length → b < (rs.getD 0 default).num) → (∀ i, i + 1 < rs.length → (rs.getD i default).num < (rs.getD (i + 1) default).num) → relsF l b rs = 0
  | [], _, _, _, _ => rfl
  | r :: rs, b, h1, h2, h3 => by
    obtain ⟨h4, h5⟩ := h1 0 (by simp)
    rw [relsF, if_neg (by rw [show relE l r b = 0 from relE_of (h2 (by simp)) h5 hs h4]; simp)]
    exact relsF_of hs (fun i hi => h1 (i + 1) (by simpa using hi)) (fun hi => h3 0 (by simpa using hi)) fun i hi => h3 (i + 1) (by simpa using hi)
theorem relsE_iff {l : List Int} {rs : List Rel} (hs : Sizes l) (hw : ∀ r ∈ rs, Viewed l r.v) : relsE l rs = 0 ↔ RelsV l rs := by
  unfold relsE
  constructor
  · intro h
    split at h
    · omega
    obtain ⟨h1, h2⟩ := relsF_ok hs hw h
    exact ⟨by omega, fun i hi => ⟨(h1 i hi).1, by have := (h1 i hi).2.1; omega, (h1 i hi).2.2⟩, h2⟩
  · intro h
    have := h.len
    rw [if_neg (by omega)]
    exact relsF_of hs (fun i hi => ⟨(h.each i hi).1, (h.each i hi).2.2⟩) (fun hi => by have := (h.each 0 hi).2.1; omega) h.asc
set_option maxRecDepth 10000 in
set_option maxHeartbeats 8000000 in
theorem told_spec (A : Option Addr) (c : Nat) (l : List Int) (r : Rel) (I : PH) (hl : Ints I A c l) (hs : Sizes l) (hv : RowsOf I r.va r.vc r.v) (hd : Ints I r.val.1 r.val.2.1 r.val.2.2) (hV : RelV l r) :
    FnSpec Tryz.prog 91 [.agg #[.slice A l.length c], .agg #[.int .i64 r.num, .slice r.va r.v.length r.vc, .slice r.val.1 r.val.2.2.length r.val.2.1]] I []
      (fun u R' => ∃ (A' : Option Addr) (c' : Nat) (qs : List EqR), u = .slice A' qs.length c' ∧ qs.map cont = told l r ∧ qs.length ≤ 48 ∧ R' = eqsR A' c' qs) := by
  obtain ⟨num, va, vc, v, D, cd, vs⟩ := r
  obtain ⟨hw, hlen, heach⟩ := hV
  dsimp only at hv hd hw hlen heach ⊢
  have hszs := hw.sizes hs
  have hvl := hd.len
  have hpc := hszs.cells
  have hpr := hszs.bound (k := (szs v).length) (Nat.le_refl _)
  rw [List.take_length] at hpr
  refine FnSpec.enterP Tryz.func91 rfl Tryz.ntmps91 rfl fun w F => ?_
  repeat' first
    | ((with_reducible refine Nx.is_wp ?_); first | refine Nx.wo ?_ | refine Nx.zp (fun hc => ?_) (fun hc => ?_))
    | (refine Nx.zo ?_; first | refine Nx.opr rfl rfl ?_ | refine Nx.so ?_ | refine Nx.sb (fun bx => ?_) | refine Nx.sa (fun A2 c2 => ?_))
    | ((with_reducible refine Nx.is_at ?_); first | refine Nx.a ?_ | refine Nx.zd ?_ | refine Nx.zs (fun hc => ?_) (fun hc => ?_))
    | ((with_reducible refine Nx.is_mix ?_); first | refine Nx.m ?_ | refine Nx.zm ?_ | refine Nx.zt (fun hc => ?_) (fun hc => ?_))
    | refine Nx.zx ?_ | fail
  rename_i b2
  revert bx; intro b3
  refine Nx.p_loop (σ := Nat × Option Addr × Nat × List EqR) (fun s => [(2, .pointer (some ⟨b2, 0, none⟩)), (3, .pointer (some ⟨b3, 0, none⟩)), (5, .slice s.2.1 s.2.2.2.length s.2.2.1), (11, .slice D vs.length cd), (12, .int .i64 vs.length), (13, .int .i64 (s.1 : Int))])
    (fun s => Blk b3 43 [.int .i64 num, .slice va v.length vc, .slice D vs.length cd] :: Blk b2 27 [.slice A l.length c] :: (eqsR s.2.1 s.2.2.1 s.2.2.2 ++ [F])) (fun s => s.1 ≤ vs.length ∧ s.2.2.2.map cont = toldK l v vs s.1 ∧ s.2.2.2.length ≤ s.1) (fun s => vs.length - s.1) (0, none, 0, []) rfl ⟨Nat.zero_le _, rfl, Nat.le_refl _⟩ ⟨rfl, rfl, rfl, rfl, rfl, rfl, trivial⟩ ((Ent.stars_nil _).trans ((Ent.vec_nil 140 2 _).trans (by unfold eqsR; (exact Ent.auto)))) ?_
  rintro ⟨j, Ap, cp, ps⟩ ⟨hj, hps, hpl⟩
  dsimp only at hj hps hpl ⊢
  by_cases hjv : j < vs.length
  case neg =>
    obtain rfl : j = vs.length := by omega
    repeat' first
      | ((with_reducible refine Nx.is_wp ?_); first | refine Nx.wo ?_ | refine Nx.zp (fun hc => ?_) (fun hc => ?_))
      | (refine Nx.zo ?_; first | refine Nx.opr rfl rfl ?_ | refine Nx.so ?_ | refine Nx.sb (fun bx => ?_) | refine Nx.sa (fun A2 c2 => ?_))
      | ((with_reducible refine Nx.is_at ?_); first | refine Nx.a ?_ | refine Nx.zd ?_ | refine Nx.zs (fun hc => ?_) (fun hc => ?_))
      | ((with_reducible refine Nx.is_mix ?_); first | refine Nx.m ?_ | refine Nx.zm ?_ | refine Nx.zt (fun hc => ?_) (fun hc => ?_))
      | refine Nx.zx ?_ | fail
    exact Nx.ret_fn rfl [_, _] ⟨Ap, cp, ps, rfl, hps, by omega, rfl⟩ (by (exact Ent.auto))
  have hrd : ∀ (W : World) (R : List Res), Rd W I R ((ad D).add (j * 1)) (.int .i64 (vs.getD j default)) := fun W R => hd.rd hjv
  have hts : toldK l v vs (j + 1) = toldK l v vs j ++ if vs.getD j default = -1 then [] else [(memK l v (j : Int) (prod l).toNat, vs.getD j default)] := rfl
  have hM := Members_spec A va c vc l v (j : Int) I hl hs hv hw ⟨by omega, by omega⟩
  generalize memK l v (j : Int) (prod l).toNat = mm at hM hts
  generalize vs.getD j default = z at hrd hts
  by_cases hz : z = -1
  · subst hz
    rw [if_pos rfl, List.append_nil] at hts
    repeat' first
      | ((with_reducible refine Nx.is_wp ?_); first | refine Nx.wo ?_ | refine Nx.zp (fun hc => ?_) (fun hc => ?_))
      | (refine Nx.zo ?_; first | refine Nx.opr rfl rfl ?_ | refine Nx.indexAddr_nat (A := D) rfl rfl rfl rfl rfl hjv (hd.isSome (by omega)) ?_ | refine Nx.load rfl rfl rfl (hrd _ _) ?_ | refine Nx.so ?_ | refine Nx.sb (fun bx => ?_) | refine Nx.sa (fun A2 c2 => ?_))
      | ((with_reducible refine Nx.is_at ?_); first | refine Nx.a ?_ | refine Nx.zd ?_ | refine Nx.zs (fun hc => ?_) (fun hc => ?_))
      | ((with_reducible refine Nx.is_mix ?_); first | refine Nx.m ?_ | refine Nx.zm ?_ | refine Nx.zt (fun hc => ?_) (fun hc => ?_))
      | refine Nx.zx ?_ | fail
    exact Nx.again (j + 1, Ap, cp, ps) ⟨hjv, by rw [hts]; exact hps, by dsimp only; omega⟩ (by dsimp only; omega) ⟨rfl, rfl, rfl, rfl, rfl, rfl, trivial⟩ (by (exact Ent.auto))
  · rw [if_neg hz] at hts
    repeat' first
      | ((with_reducible refine Nx.is_wp ?_); first | refine Nx.wo ?_ | refine Nx.zp (fun hc => ?_) (fun hc => ?_))
      | (refine Nx.zo ?_; first | refine Nx.opr rfl rfl ?_ | refine Nx.indexAddr_nat (A := D) rfl rfl rfl rfl rfl hjv (hd.isSome (by omega)) ?_ | refine Nx.load rfl rfl rfl (hrd _ _) ?_ | refine Nx.loads rfl rfl rfl rfl (Rds.cut 0 1 rfl rfl) rfl ?_ | (refine Nx.call (Rpre := []) rfl rfl rfl (by kernel_rfl) rfl hM (Ent.refl _) ?_; rintro _ _ ⟨Am, cm, rfl, rfl⟩) | refine Nx.so ?_ | refine Nx.sb (fun bx => ?_) | refine Nx.sa (fun A2 c2 => ?_))
      | ((with_reducible refine Nx.is_at ?_); first | refine Nx.a ?_ | refine Nx.zd ?_ | refine Nx.zs (fun hc => ?_) (fun hc => ?_))
      | ((with_reducible refine Nx.is_mix ?_); first | refine Nx.m ?_ | refine Nx.zm ?_ | refine Nx.zt (fun hc => ?_) (fun hc => ?_))
      | refine Nx.zx ?_ | fail
    refine Nx.again (j + 1, A2, c2, ps ++ [((Am, cm, mm), z)]) ⟨hjv, by dsimp only; rw [hts, List.map_append, hps]; rfl, by dsimp only; rw [List.length_append]; show ps.length + 1 ≤ _; omega⟩ (by dsimp only; omega) ⟨rfl, rfl, by dsimp only; rw [List.length_append]; rfl, rfl, rfl, rfl, trivial⟩ ?_
    dsimp only
    refine Ent.trans (R' := rowR (Am, cm, mm) :: Stars (ps.map fun q => rowR q.1) :: [Vec 140 2 A2 (ps.length + 1) c2 (ps.flatMap eqC ++ eqC ((Am, cm, mm), z)), Blk b3 43 [.int .i64 num, .slice va v.length vc, .slice D vs.length cd], Blk b2 27 [.slice A l.length c], F]) (by unfold rowR eqC eqsR; (exact Ent.auto)) ?_
    refine Ent.trans (R' := Stars ((ps.map fun q => rowR q.1) ++ [rowR (Am, cm, mm)]) :: [Vec 140 2 A2 (ps.length + 1) c2 (ps.flatMap eqC ++ eqC ((Am, cm, mm), z)), Blk b3 43 [.int .i64 num, .slice va v.length vc, .slice D vs.length cd], Blk b2 27 [.slice A l.length c], F]) Ent.bundle ?_
    unfold eqsR
    rw [List.length_append, List.flatMap_append, List.map_append, List.flatMap_cons, List.flatMap_nil, List.append_nil]
    (exact Ent.auto)
set_option maxRecDepth 10000 in
set_option maxHeartbeats 8000000 in
theorem EAll_spec (A As : Option Addr) (c cs : Nat) (l : List Int) (rs : List Rel) (I : PH) (hl : Ints I A c l) (hs : Sizes l) (hr : Rels I As cs rs) (hw : ∀ r ∈ rs, Viewed l r.v) :
    FnSpec Tryz.prog 66 [.agg #[.slice A l.length c], .slice As rs.length cs] I []
      (fun u R' => ∃ (A' : Option Addr) (c' : Nat) (qs : List EqR), u = .tuple #[.slice A' qs.length c', .int .i64 (relsE l rs)] ∧ qs.map cont = (if relsE l rs = 0 then rs.flatMap (told l) else []) ∧ qs.length ≤ 24 * 48 ∧ R' = eqsR A' c' qs) := by
  have hEC := ECheck_spec A As c cs l rs I hl hs hr hw
  have hiff := relsE_iff hs hw
  refine FnSpec.enterP Tryz.func66 rfl Tryz.ntmps66 rfl fun w F => ?_
  by_cases h0 : relsE l rs = 0
  case neg =>
    rw [if_neg h0]
    generalize relsE l rs = er at h0 hEC
    repeat' first
      | ((with_reducible refine Nx.is_wp ?_); first | refine Nx.wo ?_ | refine Nx.zp (fun hc => ?_) (fun hc => ?_))
      | (refine Nx.zo ?_; first | refine Nx.opr rfl rfl ?_ | refine Nx.callv rfl rfl rfl (by kernel_rfl) rfl hEC ?_ | refine Nx.so ?_ | refine Nx.sb (fun bx => ?_) | refine Nx.sa (fun A2 c2 => ?_))
      | ((with_reducible refine Nx.is_at ?_); first | refine Nx.a ?_ | refine Nx.zd ?_ | refine Nx.zs (fun hc => ?_) (fun hc => ?_))
      | ((with_reducible refine Nx.is_mix ?_); first | refine Nx.m ?_ | refine Nx.zm ?_ | refine Nx.zt (fun hc => ?_) (fun hc => ?_))
      | refine Nx.zx ?_ | fail
    exact Nx.ret_fn rfl [_, _] ⟨none, 0, [], rfl, rfl, by decide, rfl⟩ ((Ent.stars_nil _).trans ((Ent.vec_nil 140 2 _).trans (by (exact Ent.auto))))
  have hV := hiff.1 h0
  rw [if_pos h0, h0]
  rw [h0] at hEC
  have h24 := hV.len
  repeat' first
    | ((with_reducible refine Nx.is_wp ?_); first | refine Nx.wo ?_ | refine Nx.zp (fun hc => ?_) (fun hc => ?_))
    | (refine Nx.zo ?_; first | refine Nx.opr rfl rfl ?_ | refine Nx.callv rfl rfl rfl (by kernel_rfl) rfl hEC ?_ | refine Nx.so ?_ | refine Nx.sb (fun bx => ?_) | refine Nx.sa (fun A2 c2 => ?_))
    | ((with_reducible refine Nx.is_at ?_); first | refine Nx.a ?_ | refine Nx.zd ?_ | refine Nx.zs (fun hc => ?_) (fun hc => ?_))
    | ((with_reducible refine Nx.is_mix ?_); first | refine Nx.m ?_ | refine Nx.zm ?_ | refine Nx.zt (fun hc => ?_) (fun hc => ?_))
    | refine Nx.zx ?_ | fail
  revert bx; intro b2
  refine Nx.p_loop (σ := Nat × Option Addr × Nat × List EqR) (fun s => [(2, .pointer (some ⟨b2, 0, none⟩)), (7, .slice s.2.1 s.2.2.2.length s.2.2.1), (16, .slice As rs.length cs), (17, .int .i64 rs.length), (18, .int .i64 (s.1 : Int))])
    (fun s => Blk b2 27 [.slice A l.length c] :: (eqsR s.2.1 s.2.2.1 s.2.2.2 ++ [F])) (fun s => s.1 ≤ rs.length ∧ s.2.2.2.map cont = (rs.take s.1).flatMap (told l) ∧ s.2.2.2.length ≤ s.1 * 48) (fun s => rs.length - s.1) (0, none, 0, []) rfl ⟨Nat.zero_le _, rfl, Nat.le_refl _⟩ ⟨rfl, rfl, rfl, rfl, rfl, trivial⟩ ((Ent.stars_nil _).trans ((Ent.vec_nil 140 2 _).trans (by unfold eqsR; (exact Ent.auto)))) ?_
  rintro ⟨i, Ao, co, qs⟩ ⟨hi, hqs, hql⟩
  dsimp only at hi hqs hql ⊢
  by_cases hiv : i < rs.length
  case neg =>
    obtain rfl : i = rs.length := by omega
    rw [List.take_length] at hqs
    repeat' first
      | ((with_reducible refine Nx.is_wp ?_); first | refine Nx.wo ?_ | refine Nx.zp (fun hc => ?_) (fun hc => ?_))
      | (refine Nx.zo ?_; first | refine Nx.opr rfl rfl ?_ | refine Nx.so ?_ | refine Nx.sb (fun bx => ?_) | refine Nx.sa (fun A2 c2 => ?_))
      | ((with_reducible refine Nx.is_at ?_); first | refine Nx.a ?_ | refine Nx.zd ?_ | refine Nx.zs (fun hc => ?_) (fun hc => ?_))
      | ((with_reducible refine Nx.is_mix ?_); first | refine Nx.m ?_ | refine Nx.zm ?_ | refine Nx.zt (fun hc => ?_) (fun hc => ?_))
      | refine Nx.zx ?_ | fail
    exact Nx.ret_fn rfl [_, _] ⟨Ao, co, qs, rfl, hqs, by omega, rfl⟩ (by (exact Ent.auto))
  have htk := take_snocR hiv
  have hT := told_spec A c l (rs.getD i default) I hl hs (hr.view _ (getD_memR hiv)) (hr.val _ (getD_memR hiv)) (hV.each i hiv).1
  have hrds : ∀ (W : World) (R : List Res), Rds W I R ((ad As).add (i * 3)) (relC (rs.getD i default)) := fun W R => hr.outer.rds hiv
  generalize rs.getD i default = r at htk hT hrds
  obtain ⟨num, va, vc, v, D, cd, vs⟩ := r
  dsimp only at hT
  replace hrds : ∀ (W : World) (R : List Res), Rds W I R ((ad As).add (i * 3)) [.int .i64 num, .slice va v.length vc, .slice D vs.length cd] := hrds
  repeat' first
    | ((with_reducible refine Nx.is_wp ?_); first | refine Nx.wo ?_ | refine Nx.zp (fun hc => ?_) (fun hc => ?_))
    | (refine Nx.zo ?_; first | refine Nx.opr rfl rfl ?_ | refine Nx.indexAddr_nat rfl rfl rfl rfl rfl hiv (hr.outer.isSome (by omega) (by omega)) ?_ | refine Nx.loads rfl rfl rfl rfl (hrds _ _) rfl ?_ | (refine Nx.call (Rpre := []) rfl rfl rfl (by kernel_rfl) rfl hT (Ent.refl _) ?_; rintro _ _ ⟨Am, cm, ps, rfl, hps, hpl, rfl⟩) | refine Nx.append_vec 3 rfl rfl rfl rfl (by kernel_rfl) rfl rfl (eq_one ps) (by omega) fun A2 c2 => ?_ | refine Nx.so ?_ | refine Nx.sb (fun bx => ?_) | refine Nx.sa (fun A2 c2 => ?_))
    | ((with_reducible refine Nx.is_at ?_); first | refine Nx.a ?_ | refine Nx.zd ?_ | refine Nx.zs (fun hc => ?_) (fun hc => ?_))
    | ((with_reducible refine Nx.is_mix ?_); first | refine Nx.m ?_ | refine Nx.zm ?_ | refine Nx.zt (fun hc => ?_) (fun hc => ?_))
    | refine Nx.zx ?_ | fail
  refine Nx.again (i + 1, A2, c2, qs ++ ps) ⟨hiv, by dsimp only; rw [htk, List.flatMap_append, List.flatMap_cons, List.flatMap_nil, List.append_nil, List.map_append, hqs, hps], by dsimp only; rw [List.length_append]; omega⟩ (by dsimp only; omega) ⟨rfl, by dsimp only; rw [List.length_append]; rfl, rfl, rfl, rfl, trivial⟩ ?_
  dsimp only
  refine Ent.trans (R' := Stars (qs.map fun q => rowR q.1) :: Stars (ps.map fun q => rowR q.1) :: [Vec 140 2 A2 (qs.length + ps.length) c2 (qs.flatMap eqC ++ ps.flatMap eqC), Blk b2 27 [.slice A l.length c], F]) (by (exact Ent.auto)) ?_
  refine Ent.stars_app.trans ?_
  unfold eqsR
  rw [List.length_append, List.flatMap_append, List.map_append]
  (exact Ent.auto)
end Go.Proofs.YtjnhoemgceghlaaGreat
/-
  The proof engine, part AN: a statement of open order in which memory that a call of its own has made is read before the next call; what is known of all worlds grows from call to call.
-/
namespace Go.Eng
section
variable {P : Program} {ops : Array Oper} {Q : Exit → Act → World → Prop} {md : Region.Mode} {S S' : World → Prop} {fin loud : List Nat}
theorem wpAnyF_weaker (h : ∀ w, S' w → S w) : ∀ (n : Nat) (listed : Array Bool) (a : Act) (w : World), wpAnyF P md ops Q S' fin n listed a w → wpAnyF P md ops Q S fin n listed a w
  | 0, _, _, _, H => H
  | n + 1, _, _, _, H => ⟨H.1, fun i hi => wpOp_mono (fun a' w' h' => ⟨fun hf => h w' (h'.1 hf), wpAnyF_weaker h n _ a' w' h'.2⟩) (H.2 i hi)⟩
/-- The operations in parts; behind each part more may be known of all worlds to come. -/
def wpSegs (P : Program) (ops : Array Oper) (Q : Exit → Act → World → Prop) (loud fin : List Nat) : List (List Nat) → (World → Prop) → Act → World → Prop
  | [], _, a, w => wpMix P ops Q AnyW fin fin a w
  | g :: r, S, a, w => wpMix P ops (Exit.then (fun a w => ∃ S' : World → Prop, (∀ u, S' u → S u) ∧ S' w ∧ wpSegs P ops Q loud fin r S' a w) Q) S loud g a w
theorem wpSegs_anyF (hs : Region.noSelect ops = true) (hQ : PanicOk Q) : ∀ (gs : List (List Nat)) (S : World → Prop) (n : Nat) (listed : Array Bool) (a : Act) (w : World), Closed .any ops listed →
    mixOkF ops fin loud gs.flatten listed = true → gs.flatten.length + fin.length ≤ n → S w → wpSegs P ops Q loud fin gs S a w → wpAnyF P .any ops Q S fin n listed a w
  | [], S, n, listed, a, w, _, hok, hl, _, h => wpMix_fin hs hQ (fun k hk => by simpa using hk) fin n listed a w (fun k hk => by simpa using hk) hok (by simpa using hl) h
  | g :: gs, S, n, listed, a, w, hcl, hok, hl, hS, h => by
    rw [List.flatten_cons] at hok hl
    have key : ∀ (r : List Nat) (n : Nat) (listed : Array Bool) (a : Act) (w : World), Closed .any ops listed → mixOkF ops fin loud (r ++ gs.flatten) listed = true → (r ++ gs.flatten).length + fin.length ≤ n → S w →
        wpMix P ops (Exit.then (fun a w => ∃ S' : World → Prop, (∀ u, S' u → S u) ∧ S' w ∧ wpSegs P ops Q loud fin gs S' a w) Q) S loud r a w → wpAnyF P .any ops Q S fin n listed a w := by
      intro r
      induction r with
      | nil =>
        rintro n listed a w hcl hok hl hS ⟨S', hi, hS', h⟩
        exact wpAnyF_weaker hi _ _ _ _ (wpSegs_anyF hs hQ gs S' n listed a w hcl hok hl hS' h)
      | cons k r ih =>
        intro n listed a w hcl hok hl hS h
        obtain ⟨o, ho, h⟩ := h
        rw [List.cons_append] at hok hl
        unfold mixOkF at hok
        rw [Bool.and_eq_true] at hok
        obtain ⟨hk, hr⟩ := hok
        cases n with
        | zero => simp at hl
        | succ n =>
          have hl' : (r ++ gs.flatten).length + fin.length ≤ n := by simp only [List.length_cons] at hl; omega
          by_cases hc : loud.contains k = true
          · rw [if_pos hc] at h hk
            simp only [Bool.and_eq_true, beq_iff_eq, Bool.not_eq_true'] at hk
            refine ⟨fun h0 => (by rw [hk.1] at h0; cases h0), fun i hi => ?_⟩
            rw [hk.1] at hi
            obtain rfl : i = k := by simpa using hi
            refine wpOp_then (T := fun a w => ∃ S' : World → Prop, (∀ u, S' u → S u) ∧ S' w ∧ wpSegs P ops Q loud fin gs S' a w) ?_
            exact wpOp_mono (fun a' w' h3 => ⟨fun _ => h3.1, ih n _ a' w' (hcl.set (by rw [hk.1]; simp)) hr hl' h3.1 h3.2⟩) h
          · rw [if_neg hc] at h hk
            simp only [Bool.and_eq_true] at hk
            obtain ⟨v, hy, h⟩ := h
            exact wpAnyF_first ho hs hQ hk.2 n listed a w hcl (Region.free_spec ho hk.1.1) (by simpa using hk.1.2) hy hS (ih n _ _ w (hcl.set (by simpa using hk.1.2)) hr hl' hS h)
    exact key g n listed a w hcl hok hl hS h
end
section
variable {C : Cx} {e e' : Env} {I I' : PH} {R R' R0 R1 : List Res} {K K' : Act → World → Prop} {Q : Exit → Act → World → Prop} {c : Code} {ops : Array Oper} {loud fin : List Nat}
theorem Nx.p_segs {id : Nat} (hid : cid c = id) (gs : List (List Nat)) (loud fin : List Nat) (R0 : List Res) (hk : ck c = 2) (hm : C.P.follows .mixedOrders = true) (hs : Region.noSelect (cops c) = true) (hok : mixOkF (cops c) fin loud gs.flatten (Array.replicate (cops c).size false) = true) (hlen : Nat.ble (gs.flatten.length + fin.length) (cops c).size = true) (hQ : PanicOk Q) (hR : Ent R R0)
    (h : Nx C e I R (wpSegs C.P (cops c) Q loud fin gs (St C.W I R0))) : Nx C e I R (c.wp C.P Q) := by
  have hc : c = .region (cid c) (cops c) true := by
    cases c <;> first | (simp [ck] at hk; done) | skip
    rename_i b
    cases b with
    | false => simp [ck] at hk
    | true => rfl
  clear hid
  rw [hc]
  intro a w ha hw
  refine wp_region_any hm (wpAny_of_fin _ _ _ _ (wpSegs_anyF (S := St C.W I R0) hs hQ gs _ _ a _ (Closed.start _) hok (Nat.le_of_ble_eq_true hlen) (hw.drew.ent hR) (h a _ ha hw.drew)))
theorem Nx.segs_in {g : List Nat} {gs : List (List Nat)} {S : World → Prop} (h : Nx C e I R (wpMix C.P ops (Exit.then (fun a w => ∃ S' : World → Prop, (∀ u, S' u → S u) ∧ S' w ∧ wpSegs C.P ops Q loud fin gs S' a w) Q) S loud g)) : Nx C e I R (wpSegs C.P ops Q loud fin (g :: gs) S) := h
theorem Nx.segs_end {S : World → Prop} (h : Nx C e I R (wpMix C.P ops Q AnyW fin fin)) : Nx C e I R (wpSegs C.P ops Q loud fin [] S) := h
/-- Behind a part: from here on 'R' is known of all worlds. -/
theorem Nx.segs_next {gs : List (List Nat)} (hle : PH.le I I') (hR : Ent R R0) (h : Nx C e I' R (wpSegs C.P ops Q loud fin gs (St C.W I' R))) : Nx C e I' R (fun a w => ∃ S' : World → Prop, (∀ u, S' u → St C.W I R0 u) ∧ S' w ∧ wpSegs C.P ops Q loud fin gs S' a w) :=
  fun a w ha hw => ⟨St C.W I' R, fun _ hu => (hu.imm_le hle).ent hR, hw, h a w ha hw⟩
end
end Go.Eng
/- Contracts of functions of the given program, and lemmas about plain lists and numbers: what the laws of this seat lean on. -/
namespace Go.Proofs.YtjnhoemgceghlaaGreat
open Go.Eng Go.Sol
attribute [local irreducible] opK wpList Code.wp Exit.then Exit.inBlock fnPost bodyPost Nx Calls Oper.wp Rd Rds Wr Ent Stars Blk Again Vec FnSpec wpMix QRun Stop Upto wpAt
/-! Reaches and pairs -/
theorem mem_sols {n : Nat} {l : List EqR} (hg : ∀ q ∈ l, GoodE n q) {s : List Int} : s ∈ solsOf n (eqns l) ↔ Goes n 1000000 (eqns l) (touch n (eqns l)) (List.replicate n 0) s :=
  mem_enum (fun q hq => by obtain ⟨x, hx, rfl⟩ := List.mem_map.1 hq; exact eqn_nd (hg x hx)) (inv_start hg (touch_nd _ _) fun _ => Iff.rfl)
theorem mem_ext {n x : Nat} {down : Bool} {l : List EqR} (hg : ∀ q ∈ l, GoodE n q) (hx : x ∈ touch n (eqns l)) {s : List Int} : s ∈ extOf n (eqns l) x down ↔ s ∈ solsOf n (eqns l) := by
  rw [mem_sols hg]
  refine (mem_enum (fun q hq => by obtain ⟨x, hx, rfl⟩ := List.mem_map.1 hq; exact eqn_nd (hg x hx)) (inv_start hg (ord_nd n (eqns l) x) (ord_mem hx))).trans ?_
  constructor
  · exact fun h => ⟨h.len, fun c hc => h.same c fun h' => hc ((ord_mem hx c).1 h'), fun c hc => h.pos c ((ord_mem hx c).2 hc), h.sum⟩
  · exact fun h => ⟨h.len, fun c hc => h.same c fun h' => hc ((ord_mem hx c).2 h'), fun c hc => h.pos c ((ord_mem hx c).1 hc), h.sum⟩
theorem ext_some {n x : Nat} (down : Bool) {l : List EqR} (hg : ∀ q ∈ l, GoodE n q) (hx : x ∈ touch n (eqns l)) (hne : solsOf n (eqns l) ≠ []) : ∃ s r, extOf n (eqns l) x down = s :: r ∧ s.length = n := by
  obtain ⟨s0, h0⟩ := List.exists_mem_of_ne_nil _ hne
  have h1 := (mem_ext (down := down) hg hx).2 h0
  cases he : extOf n (eqns l) x down with
  | nil => rw [he] at h1; cases h1
  | cons s r =>
    refine ⟨s, r, rfl, ?_⟩
    have : s ∈ extOf n (eqns l) x down := by rw [he]; exact List.mem_cons_self ..
    exact ((mem_sols hg).1 ((mem_ext hg hx).1 this)).len
set_option maxHeartbeats 8000000 in
theorem extreme_spec2 {A : Option Addr} {c : Nat} {l : List EqR} {n x : Nat} {down : Bool} {I : PH} {s : List Int} (hl : Eqs I A c l) (hg : ∀ q ∈ l, GoodE n q) (hn : n ≤ 4096) (hll : l.length ≤ 100000) (h9 : (allC l).length ≤ 100000) (hx : x ∈ touch n (eqns l)) (hs : (extOf n (eqns l) x down).headD [] = s) :
    FnSpec Tryz.prog 138 [.int .i64 (n : Int), .slice A l.length c, .int .i64 (x : Int), .bool down] I [] (fun v R' => ∃ (A' : Option Addr) (c' : Nat), v = .slice A' s.length c' ∧ R' = [iR A' c' s]) := by
  refine (extreme_spec A c l n x down I hl hg hn hll h9 hx).mono ?_
  rintro v R' ⟨A', c', tab, rfl, rfl, rfl⟩
  subst hs
  exact ⟨A', c', rfl, rfl⟩
def reachAt (n : Nat) (L : List Eqn) (c : Nat) : Rch := if c ∈ touch n L then (((extOf n L c false).headD []).getD c 0, ((extOf n L c true).headD []).getD c 0, false) else (0, 0, true)
def reachR (n : Int) (l : List EqR) : List Rch × Int := if chkQ n l = 0 then (if solsOf n.toNat (eqns l) = [] then ([], 52) else ((List.range n.toNat).map (reachAt n.toNat (eqns l)), 0)) else ([], chkQ n l)
abbrev rcR (A : Option Addr) (c : Nat) (r : List Rch) : Res := Vec 124 3 A r.length c (r.flatMap rcC)
theorem list_ext_d {α : Type} [Inhabited α] {a b : List α} (hl : a.length = b.length) (h : ∀ j, j < a.length → a.getD j default = b.getD j default) : a = b := by
  refine List.ext_getElem hl fun i h1 h2 => ?_
  have := h i h1
  rw [List.getD_eq_getElem?_getD, List.getD_eq_getElem?_getD, List.getElem?_eq_getElem h1, List.getElem?_eq_getElem h2] at this
  exact this
set_option maxRecDepth 10000 in
set_option maxHeartbeats 8000000 in
theorem Reaches_spec (n : Int) (A : Option Addr) (c : Nat) (l : List EqR) (I : PH) (hl : Eqs I A c l) (h9 : (allC l).length ≤ 100000) :
    FnSpec Tryz.prog 107 [.int .i64 n, .slice A l.length c] I []
      (fun v R' => ∃ (A' : Option Addr) (c' : Nat), v = .tuple #[.slice A' (reachR n l).1.length c', .int .i64 (reachR n l).2] ∧ R' = [rcR A' c' (reachR n l).1]) := by
  have hF := First_spec n A c l I hl h9
  unfold firstOf at hF
  unfold reachR
  refine FnSpec.enterP Tryz.func107 rfl Tryz.ntmps107 rfl fun w F => ?_
  by_cases h0 : chkQ n l = 0
  case neg =>
    rw [if_neg h0] at hF
    rw [if_neg h0]
    repeat' first
      | ((with_reducible refine Nx.is_wp ?_); first | refine Nx.wo ?_ | refine Nx.zp (fun hc => ?_) (fun hc => ?_))
      | (refine Nx.zo ?_; first | refine Nx.opr rfl rfl ?_ | (refine Nx.call (Rpre := []) rfl rfl rfl (by kernel_rfl) rfl hF (Ent.refl _) ?_; rintro _ _ ⟨A1, c1, rfl, rfl⟩) | refine Nx.so ?_ | refine Nx.sb (fun bx => ?_) | refine Nx.sa (fun A2 c2 => ?_))
      | ((with_reducible refine Nx.is_at ?_); first | refine Nx.a ?_ | refine Nx.zd ?_ | refine Nx.zs (fun hc => ?_) (fun hc => ?_))
      | ((with_reducible refine Nx.is_mix ?_); first | refine Nx.m ?_ | refine Nx.zm ?_ | refine Nx.zt (fun hc => ?_) (fun hc => ?_))
      | refine Nx.zx ?_ | fail
    exact Nx.ret_fn rfl [_] ⟨none, 0, rfl, rfl⟩ ((Ent.vec_nil 124 3 _).trans (by unfold rcR; (exact Ent.auto)))
  rw [if_pos h0] at hF ⊢
  obtain ⟨h1, h2, h3, _⟩ := chk_good h0
  by_cases hso : solsOf n.toNat (eqns l) = []
  · rw [if_pos hso]
    rw [hso] at hF
    repeat' first
      | ((with_reducible refine Nx.is_wp ?_); first | refine Nx.wo ?_ | refine Nx.zp (fun hc => ?_) (fun hc => ?_))
      | (refine Nx.zo ?_; first | refine Nx.opr rfl rfl ?_ | (refine Nx.call (Rpre := []) rfl rfl rfl (by kernel_rfl) rfl hF (Ent.refl _) ?_; rintro _ _ ⟨A1, c1, rfl, rfl⟩) | refine Nx.so ?_ | refine Nx.sb (fun bx => ?_) | refine Nx.sa (fun A2 c2 => ?_))
      | ((with_reducible refine Nx.is_at ?_); first | refine Nx.a ?_ | refine Nx.zd ?_ | refine Nx.zs (fun hc => ?_) (fun hc => ?_))
      | ((with_reducible refine Nx.is_mix ?_); first | refine Nx.m ?_ | refine Nx.zm ?_ | refine Nx.zt (fun hc => ?_) (fun hc => ?_))
      | refine Nx.zx ?_ | fail
    exact Nx.ret_fn rfl [_] ⟨none, 0, rfl, rfl⟩ ((Ent.vec_nil 124 3 _).trans (by unfold rcR; (exact Ent.auto)))
  rw [if_neg hso]
  have hne : (solsOf n.toNat (eqns l)).isEmpty = false := by simpa using hso
  rw [hne] at hF
  obtain ⟨m, rfl⟩ : ∃ m : Nat, n = m := ⟨n.toNat, by omega⟩
  rw [Int.toNat_natCast] at hF hso h3 ⊢
  generalize ((solsOf m (eqns l)).headD []) = t0 at hF
  have hT := Touched_spec A c l m I hl h3 (by omega)
  have hRp := fun b => RepeatR_spec [.int .i64 0, .int .i64 0, .bool true] rfl (by simp [Value.oneCell']) b m (by omega) (by omega) I
  have hext : ∀ (x : Nat) (down : Bool), x ∈ touch m (eqns l) → ∃ s, (extOf m (eqns l) x down).headD [] = s ∧ s.length = m := fun x down hx => by
    obtain ⟨s, r, he, hs⟩ := ext_some down h3 hx hso
    exact ⟨s, by rw [he]; rfl, hs⟩
  have htdl : (touch m (eqns l)).length ≤ m := by
    unfold touch
    exact Nat.le_trans (List.length_filter_le _ _) (by simp)
  repeat' first
    | ((with_reducible refine Nx.is_wp ?_); first | refine Nx.wo ?_ | refine Nx.zp (fun hc => ?_) (fun hc => ?_))
    | (refine Nx.zo ?_; first | refine Nx.opr rfl rfl ?_ | (refine Nx.call (Rpre := []) rfl rfl rfl (by kernel_rfl) rfl hF (Ent.refl _) ?_; rintro _ _ ⟨A1, c1, rfl, rfl⟩) | (refine Nx.call rfl rfl rfl (by kernel_rfl) rfl (hRp _) (by (exact Ent.auto)) ?_; rintro _ _ ⟨b5, rfl, rfl⟩) | (refine Nx.call (Rpre := []) rfl rfl rfl (by kernel_rfl) rfl hT (Ent.refl _) ?_; rintro _ _ ⟨A9, c9, rfl, rfl⟩) | refine Nx.so ?_ | refine Nx.sb (fun bx => ?_) | refine Nx.sa (fun A2 c2 => ?_))
    | ((with_reducible refine Nx.is_at ?_); first | refine Nx.a ?_ | refine Nx.zd ?_ | refine Nx.zs (fun hc => ?_) (fun hc => ?_))
    | ((with_reducible refine Nx.is_mix ?_); first | refine Nx.m ?_ | refine Nx.zm ?_ | refine Nx.zt (fun hc => ?_) (fun hc => ?_))
    | refine Nx.zx ?_ | fail
  refine Nx.p_loop (σ := Nat × List Rch) (fun s => [(0, .int .i64 (m : Int)), (1, .slice A l.length c), (9, .slice (some ⟨b5, 0, none⟩) m m), (32, .slice A9 (touch m (eqns l)).length c9), (33, .int .i64 (touch m (eqns l)).length), (34, .int .i64 (s.1 : Int))])
    (fun s => [iR A9 c9 ((touch m (eqns l)).map Int.ofNat), Vec 124 3 (some ⟨b5, 0, none⟩) m m (s.2.flatMap rcC), F])
    (fun s => s.1 ≤ (touch m (eqns l)).length ∧ s.2.length = m ∧ ∀ x, x < m → s.2.getD x default = if x ∈ (touch m (eqns l)).take s.1 then reachAt m (eqns l) x else (0, 0, true)) (fun s => (touch m (eqns l)).length - s.1) (0, List.replicate m (0, 0, true)) rfl
    ⟨Nat.zero_le _, by simp, fun x hx => by dsimp only; rw [List.getD_eq_getElem?_getD, List.getElem?_replicate, if_pos hx]; simp⟩ ⟨rfl, rfl, rfl, rfl, rfl, rfl, trivial⟩ ?_ ?_
  · dsimp only
    rw [show (List.replicate m ((0, 0, true) : Rch)).flatMap rcC = (List.replicate m [Value.int .i64 0, .int .i64 0, .bool true]).flatten by rw [List.flatMap_def, List.map_replicate]; rfl]
    unfold iR
    (exact Ent.auto)
  rintro ⟨k, rl⟩ ⟨hk, hrl, hrx⟩
  dsimp only at hk hrl hrx ⊢
  by_cases hlt : k < (touch m (eqns l)).length
  case neg =>
    obtain rfl : k = (touch m (eqns l)).length := by omega
    rw [List.take_length] at hrx
    have he : rl = (List.range m).map (reachAt m (eqns l)) := by
      refine list_ext_d (by rw [hrl]; simp) fun x hx => ?_
      rw [hrx x (by omega), List.getD_eq_getElem?_getD (l := List.map _ _), List.getElem?_map, List.getElem?_range (by omega)]
      show _ = reachAt m (eqns l) x
      by_cases hm : x ∈ touch m (eqns l)
      · rw [if_pos hm]
      · rw [if_neg hm]; unfold reachAt; rw [if_neg hm]
    rw [← he]
    repeat' first
      | ((with_reducible refine Nx.is_wp ?_); first | refine Nx.wo ?_ | refine Nx.zp (fun hc => ?_) (fun hc => ?_))
      | (refine Nx.zo ?_; first | refine Nx.opr rfl rfl ?_ | refine Nx.so ?_ | refine Nx.sb (fun bx => ?_) | refine Nx.sa (fun A2 c2 => ?_))
      | ((with_reducible refine Nx.is_at ?_); first | refine Nx.a ?_ | refine Nx.zd ?_ | refine Nx.zs (fun hc => ?_) (fun hc => ?_))
      | ((with_reducible refine Nx.is_mix ?_); first | refine Nx.m ?_ | refine Nx.zm ?_ | refine Nx.zt (fun hc => ?_) (fun hc => ?_))
      | refine Nx.zx ?_ | fail
    exact Nx.ret_fn rfl [rcR (some ⟨b5, 0, none⟩) m rl] ⟨some ⟨b5, 0, none⟩, m, by rw [hrl], rfl⟩ (by unfold rcR; rw [hrl]; (exact Ent.auto))
  have hyt : (touch m (eqns l))[k] ∈ touch m (eqns l) := List.getElem_mem hlt
  have hyn := (mem_touch.1 hyt).1
  have htk : (touch m (eqns l)).take (k + 1) = (touch m (eqns l)).take k ++ [(touch m (eqns l))[k]] := List.take_succ_eq_append_getElem hlt
  have htr : ∀ (W : World) (R : List Res), Rd W I (iR A9 c9 ((touch m (eqns l)).map Int.ofNat) :: R) ((ad A9).add (k * 1)) (.int .i64 (((touch m (eqns l))[k] : Nat) : Int)) := fun W R => by
    have h := Rd.vecEl (W := W) (I := I) (R := iR A9 c9 ((touch m (eqns l)).map Int.ofNat) :: R) 0 (f := Value.int .i64) (l := (touch m (eqns l)).map Int.ofNat) (i := k) rfl (by rw [List.length_map]; exact hlt)
    rw [List.getD_eq_getElem?_getD, List.getElem?_map, List.getElem?_eq_getElem hlt] at h
    exact h
  refine Nx.vec_fact fun hv1 hv2 hv3 hA9 => ?_
  rw [List.length_map] at hv2 hA9
  generalize (touch m (eqns l))[k] = y at hyt hyn htk htr
  obtain ⟨s1, hs1, hl1⟩ := hext y false hyt
  obtain ⟨s2, hs2, hl2⟩ := hext y true hyt
  have hra : reachAt m (eqns l) y = (s1.getD y 0, s2.getD y 0, false) := by unfold reachAt; rw [if_pos hyt, hs1, hs2]
  have hE1 := extreme_spec2 hl h3 (by omega) (by omega) h9 hyt hs1
  have hE2 := extreme_spec2 hl h3 (by omega) (by omega) h9 hyt hs2
  repeat' first
    | ((with_reducible refine Nx.is_wp ?_); first | refine Nx.p_segs (id := 10) rfl [[0,1,2,3,4,6,9,10,11,13,5],[7,8,12],[14,15,16,17]] [5,12] [18] _ rfl rfl (by kernel_rfl) (by kernel_rfl) rfl (by repeat first | exact PanicOk.fn | refine PanicOk.then_ ?_ | refine PanicOk.inB ?_) (Ent.refl _) (Nx.segs_in ?_) | refine Nx.wo ?_ | refine Nx.zp (fun hc => ?_) (fun hc => ?_))
    | (refine Nx.zo ?_; first | refine Nx.opr rfl rfl ?_ | refine Nx.indexAddr_nat rfl rfl rfl rfl rfl (by omega) (hA9 (by omega)) ?_ | refine Nx.load rfl rfl rfl (htr _ _) ?_ | (refine Nx.call (Rpre := []) rfl rfl rfl (by kernel_rfl) rfl hE1 (Ent.refl _) ?_; rintro _ _ ⟨Ac, cc, rfl, rfl⟩; refine Nx.vec_fact fun _ _ _ hAc => ?_) | refine Nx.so ?_ | refine Nx.sb (fun bx => ?_) | refine Nx.sa (fun A2 c2 => ?_))
    | ((with_reducible refine Nx.is_at ?_); first | refine Nx.a ?_ | refine Nx.zd ?_ | refine Nx.zs (fun hc => ?_) (fun hc => ?_))
    | ((with_reducible refine Nx.is_mix ?_); first | refine Nx.m ?_ | refine Nx.zm ?_ | refine Nx.zt (fun hc => ?_) (fun hc => ?_))
    | refine Nx.zx ?_ | fail
  refine Nx.segs_next (PH.le_refl _) (by (exact Ent.auto)) (Nx.segs_in ?_)
  repeat' first
    | ((with_reducible refine Nx.is_wp ?_); first | refine Nx.wo ?_ | refine Nx.zp (fun hc => ?_) (fun hc => ?_))
    | (refine Nx.zo ?_; first | refine Nx.opr rfl rfl ?_ | (refine Nx.call (Rpre := []) rfl rfl rfl (by kernel_rfl) rfl hE2 (Ent.refl _) ?_; rintro _ _ ⟨Ad, cd, rfl, rfl⟩; refine Nx.vec_fact fun _ _ _ hAd => ?_) | refine Nx.so ?_ | refine Nx.sb (fun bx => ?_) | refine Nx.sa (fun A2 c2 => ?_))
    | ((with_reducible refine Nx.is_at ?_); first | refine Nx.a ?_ | refine Nx.zd ?_ | refine Nx.zs (fun hc => ?_) (fun hc => ?_))
    | ((with_reducible refine Nx.is_mix ?_); first | refine Nx.m_quiet rfl rfl rfl rfl rfl (by first | exact QRun.opr rfl | exact QRun.idx (sz := 1) rfl rfl rfl rfl (by omega) (hAc (by omega)) | exact QRun.load rfl rfl (Rd.vecEl 0 (f := Value.int .i64) (l := s1) (i := y) rfl (by omega))) ?_ | refine Nx.m_quiet_do rfl rfl rfl rfl rfl rfl rfl (by first | exact QRun.opr rfl | exact QRun.idx (sz := 1) rfl rfl rfl rfl (by omega) (hAc (by omega)) | exact QRun.load rfl rfl (Rd.vecEl 0 (f := Value.int .i64) (l := s1) (i := y) rfl (by omega))) ?_ | refine Nx.m ?_ | refine Nx.zm ?_ | refine Nx.zt (fun hc => ?_) (fun hc => ?_))
    | refine Nx.zx ?_ | fail
  refine Nx.segs_next (PH.le_refl _) (by (exact Ent.auto)) (Nx.segs_in ?_)
  repeat' first
    | ((with_reducible refine Nx.is_wp ?_); first | refine Nx.wo ?_ | refine Nx.zp (fun hc => ?_) (fun hc => ?_))
    | (refine Nx.zo ?_; first | refine Nx.opr rfl rfl ?_ | refine Nx.so ?_ | refine Nx.sb (fun bx => ?_) | refine Nx.sa (fun A2 c2 => ?_))
    | ((with_reducible refine Nx.is_at ?_); first | refine Nx.a ?_ | refine Nx.zd ?_ | refine Nx.zs (fun hc => ?_) (fun hc => ?_))
    | ((with_reducible refine Nx.is_mix ?_); first | refine Nx.m_quiet rfl rfl rfl rfl rfl (by first | exact QRun.opr rfl | exact QRun.idx (sz := 1) rfl rfl rfl rfl (by omega) (hAd (by omega)) | exact QRun.load rfl rfl (Rd.vecEl 0 (f := Value.int .i64) (l := s2) (i := y) rfl (by omega)) | exact QRun.idx (sz := 3) rfl rfl rfl rfl (by omega) rfl) ?_ | refine Nx.m_quiet_do rfl rfl rfl rfl rfl rfl rfl (by first | exact QRun.opr rfl | exact QRun.idx (sz := 1) rfl rfl rfl rfl (by omega) (hAd (by omega)) | exact QRun.load rfl rfl (Rd.vecEl 0 (f := Value.int .i64) (l := s2) (i := y) rfl (by omega)) | exact QRun.idx (sz := 3) rfl rfl rfl rfl (by omega) rfl) ?_ | refine Nx.m ?_ | refine Nx.zm ?_ | refine Nx.zt (fun hc => ?_) (fun hc => ?_))
    | refine Nx.zx ?_ | fail
  refine Nx.segs_next (PH.le_refl _) (by (exact Ent.auto)) (Nx.segs_end ?_)
  repeat' first
    | ((with_reducible refine Nx.is_wp ?_); first | refine Nx.wo ?_ | refine Nx.zp (fun hc => ?_) (fun hc => ?_))
    | (refine Nx.zo ?_; first | refine Nx.opr rfl rfl ?_ | refine Nx.store_elt (A := some ⟨b5, 0, none⟩) 3 rcC (l := rl) (i := y) (x' := (s1.getD y default, s2.getD y default, false)) rfl rfl rfl rfl rfl rcC_len (by decide) (rcC_one _) (by omega) hrl ?_ | refine Nx.so ?_ | refine Nx.sb (fun bx => ?_) | refine Nx.sa (fun A2 c2 => ?_))
    | ((with_reducible refine Nx.is_at ?_); first | refine Nx.a ?_ | refine Nx.zd ?_ | refine Nx.zs (fun hc => ?_) (fun hc => ?_))
    | ((with_reducible refine Nx.is_mix ?_); first | refine Nx.m ?_ | refine Nx.zm ?_ | refine Nx.zt (fun hc => ?_) (fun hc => ?_))
    | refine Nx.zx ?_ | fail
  refine Nx.again (k + 1, rl.set y (s1.getD y default, s2.getD y default, false)) ⟨hlt, by dsimp only; rw [List.length_set]; exact hrl, fun x hx => ?_⟩ (by dsimp only; omega) ⟨rfl, rfl, rfl, rfl, rfl, rfl, trivial⟩ (by unfold iR; rw [List.length_map]; (exact Ent.auto))
  dsimp only
  rw [htk, List.getD_eq_getElem?_getD]
  by_cases hxy : x = y
  · subst hxy
    rw [List.getElem?_set_self (by omega), if_pos (by simp), hra]; rfl
  · rw [List.getElem?_set_ne (Ne.symm hxy), ← List.getD_eq_getElem?_getD, hrx x hx]
    by_cases hm : x ∈ (touch m (eqns l)).take k
    · rw [if_pos hm, if_pos (by simp [hm])]
    · rw [if_neg hm, if_neg (by simp [hm, hxy])]
end Go.Proofs.YtjnhoemgceghlaaGreat
/-
  Plain: the solutions of equations found cell by cell in the order of the cells, with what is left of each equation.
-/
namespace Go.Sol
/-- The least value of the equations in which a cell is, plus 1; 0 if it is in none. -/
def roomR (L : List Eqn) (c : Nat) : Int := L.foldl (fun a q => if c ∈ q.1 then (if a = 0 ∨ q.2 + 1 < a then q.2 + 1 else a) else a) 0
/-- How far a cell can go, where so much is left of each equation. -/
def gtF (t : List Int) (c : Nat) (a : Int) (L : List Eqn) : Int := L.foldl (fun a q => if c ∈ q.1 then min a (restQ t q) else a) a
def topF (L : List Eqn) (t : List Int) : Int := gtF t t.length (max 0 (roomR L t.length - 1)) L
/-- Whether the equations whose last cell has just got its number are right. -/
def fitB (L : List Eqn) (t : List Int) : Bool := L.all fun q => !decide (q.1.getLast? = some (t.length - 1)) || decide (restQ t q = 0)
def rs (L : List Eqn) : Nat → List Int → List (List Int)
  | 0, t => if L.all (fun q => decide (restQ t q = 0)) then [t] else []
  | k + 1, t => (List.range (topF L t + 1).toNat).flatMap fun (n : Nat) => if fitB L (t ++ [(n : Int)]) then rs L k (t ++ [(n : Int)]) else []
/-- Equations over cells below N, ascending. -/
structure Asc (N : Nat) (L : List Eqn) : Prop where
  asc : ∀ q ∈ L, q.1.Pairwise (· < ·)
  lt : ∀ q ∈ L, ∀ c ∈ q.1, c < N
  val : ∀ q ∈ L, 0 ≤ q.2
theorem Asc.once {N : Nat} {L : List Eqn} (h : Asc N L) : Once L := fun q hq => (h.asc q hq).imp fun h => Nat.ne_of_lt h
theorem getD_ge {t : List Int} {c : Nat} (h : t.length ≤ c) : t.getD c 0 = 0 := by
  rw [List.getD_eq_getElem?_getD, List.getElem?_eq_none h]; rfl
/-- A table that goes on from a shorter one. -/
structure From (L : List Eqn) (k : Nat) (t s : List Int) : Prop where
  len : s.length = t.length + k
  pre : s.take t.length = t
  pos : ∀ c, t.length ≤ c → 0 ≤ s.getD c 0 ∧ ((∀ q ∈ L, c ∉ q.1) → s.getD c 0 = 0)
  sum : ∀ q ∈ L, sumC s q.1 = q.2
end Go.Sol
/- Contracts of functions of the given program, and lemmas about plain lists and numbers: what the laws of this seat lean on. -/
namespace Go.Proofs.YtjnhoemgceghlaaGreat
open Go.Eng Go.Sol
attribute [local irreducible] opK wpList Code.wp Exit.then Exit.inBlock fnPost bodyPost Nx Calls Oper.wp Rd Rds Wr Ent Stars Blk Again Vec FnSpec wpMix QRun Stop Upto wpAt
/-! The reference's test of equations -/
/-! Rooms -/
theorem cells_bd {n : Nat} {l : List EqR} (hg : ∀ q ∈ l, GoodE n q) : ∀ q ∈ eqns l, 0 ≤ q.2 ∧ q.2 ≤ 1000000 := fun q hq => by
  obtain ⟨x, hx, rfl⟩ := List.mem_map.1 hq
  exact (hg x hx).val
end Go.Proofs.YtjnhoemgceghlaaGreat
/- Contracts of functions of the given program, and lemmas about plain lists and numbers: what the laws of this seat lean on. -/
namespace Go.Proofs.YtjnhoemgceghlaaGreat
open Go.Eng Go.Sol
attribute [local irreducible] opK wpList Code.wp Exit.then Exit.inBlock fnPost bodyPost Nx Calls Oper.wp Rd Rds Wr Ent Stars Blk Again Vec FnSpec wpMix QRun Stop Upto wpAt
/-! Plain: the reference's search finds the same, in the same order -/
theorem asc_eqns {n : Nat} {l : List EqR} (hg : ∀ q ∈ l, GoodE n q) : Asc n (eqns l) := by
  refine ⟨fun q hq => ?_, fun q hq c hc => ?_, fun q hq => (cells_bd hg q hq).1⟩
  · obtain ⟨x, hx, rfl⟩ := List.mem_map.1 hq
    exact toNat_asc (hg x hx).asc fun y hy => ((hg x hx).lt y hy).1
  · obtain ⟨x, hx, rfl⟩ := List.mem_map.1 hq
    have := (hg x hx).lt _ ((mem_eqn (hg x hx)).1 hc)
    omega
theorem once_eqns {n : Nat} {l : List EqR} (hg : ∀ q ∈ l, GoodE n q) : Once (eqns l) := (asc_eqns hg).once
theorem ext_sorted {n x : Nat} {down : Bool} {l : List EqR} (hg : ∀ q ∈ l, GoodE n q) (hx : x ∈ touch n (eqns l)) : (extOf n (eqns l) x down).Pairwise (ltU down (ordOf n (eqns l) x)) :=
  enum_sorted (once_eqns hg) (inv_start hg (ord_nd n (eqns l) x) (ord_mem hx))
/-! Products -/
/-! The first table with the least, or the greatest, number at a cell -/
/-- The first in such an order has the least, or the greatest, number. -/
theorem ext_head {n x : Nat} {down : Bool} {l : List EqR} (hg : ∀ q ∈ l, GoodE n q) (hx : x ∈ touch n (eqns l)) {h : List Int} {r : List (List Int)} (he : extOf n (eqns l) x down = h :: r) : h ∈ solsOf n (eqns l) ∧ ∀ s ∈ solsOf n (eqns l), if down then s.getD x 0 ≤ h.getD x 0 else h.getD x 0 ≤ s.getD x 0 := by
  have hm := fun s => mem_ext (down := down) (s := s) hg hx
  have hs := ext_sorted (down := down) hg hx
  rw [he] at hs
  refine ⟨(hm _).1 (by rw [he]; exact List.mem_cons_self ..), fun s h' => ?_⟩
  have h' := (hm _).2 h'
  rw [he] at h'
  rcases List.mem_cons.1 h' with rfl | h'
  · cases down <;> exact Int.le_refl _
  · rcases (List.pairwise_cons.1 hs).1 s h' with h1 | h1
    · cases down with
      | true => rw [if_pos rfl] at h1 ⊢; omega
      | false => rw [if_neg (by decide)] at h1 ⊢; omega
    · cases down with
      | true => rw [if_pos rfl]; omega
      | false => rw [if_neg (by decide)]; omega
end Go.Proofs.YtjnhoemgceghlaaGreat
/- Contracts of functions of the given program, and lemmas about plain lists and numbers: what the laws of this seat lean on. -/
namespace Go.Proofs.YtjnhoemgceghlaaGreat
open Go.Eng Go.Sol
attribute [local irreducible] opK wpList Code.wp Exit.then Exit.inBlock fnPost bodyPost Nx Calls Oper.wp Rd Rds Wr Ent Stars Blk Again Vec FnSpec wpMix QRun Stop Upto wpAt
/-! The reference's reaches -/
theorem rows_of {A : Option Addr} {c : Nat} {o : List Row} {m I' : PH} (hm : PH.le m I') (h : Stars [Vec 25 1 A o.length c (o.map rowV), Stars (o.map rwR)] m) : RowsOf I' A c o := by
  obtain ⟨m1, h1le, h1⟩ := Stars.get 0 h rfl
  obtain ⟨m2, h2le, h2⟩ := Stars.get 1 h rfl
  refine ⟨Vec.sliceOf (h1le.trans hm) h1, fun r hr => ?_⟩
  obtain ⟨k, hk, he⟩ := List.mem_iff_getElem.1 hr
  obtain ⟨m3, h3le, h3⟩ := Stars.get k (r := rwR r) h2 (by rw [nthL_eq, List.getElem?_map, List.getElem?_eq_getElem hk, he]; rfl)
  exact Vec.sliceOf ((h3le.trans h2le).trans hm) h3
/-- The least and the greatest number at a cell. -/
theorem reach_is {n x : Nat} {l : List EqR} (hg : ∀ q ∈ l, GoodE n q) (hx : x ∈ touch n (eqns l)) (hne : solsOf n (eqns l) ≠ []) {lo hi : Int} (h1 : ∃ s ∈ solsOf n (eqns l), s.getD x 0 = lo) (h2 : ∃ s ∈ solsOf n (eqns l), s.getD x 0 = hi)
    (h3 : ∀ s ∈ solsOf n (eqns l), lo ≤ s.getD x 0 ∧ s.getD x 0 ≤ hi) : reachAt n (eqns l) x = (lo, hi, false) := by
  obtain ⟨a, ra, ha, _⟩ := ext_some false hg hx hne
  obtain ⟨b, rb, hb, _⟩ := ext_some true hg hx hne
  have ga := ext_head hg hx ha
  have gb := ext_head hg hx hb
  unfold reachAt
  rw [if_pos hx, ha, hb]
  obtain ⟨s1, hs1, e1⟩ := h1
  obtain ⟨s2, hs2, e2⟩ := h2
  have a1 := ga.2 s1 hs1
  have b1 := gb.2 s2 hs2
  rw [if_neg (by decide)] at a1
  rw [if_pos rfl] at b1
  have a2 := (h3 a ga.1).1
  have b2 := (h3 b gb.1).2
  show (a.getD x 0, b.getD x 0, false) = _
  rw [show a.getD x 0 = lo by omega, show b.getD x 0 = hi by omega]
end Go.Proofs.YtjnhoemgceghlaaGreat
/- Contracts of functions of the given program, and lemmas about plain lists and numbers: what the laws of this seat lean on. -/
namespace Go.Proofs.YtjnhoemgceghlaaGreat
open Go.Eng Go.Sol
attribute [local irreducible] opK wpList Code.wp Exit.then Exit.inBlock fnPost bodyPost Nx Calls Oper.wp Rd Rds Wr Ent Stars Blk Again Vec FnSpec wpMix QRun Stop Upto wpAt
/-! Plain: made equations and their solutions -/
theorem asc_room : ∀ {xs : List Int} {a b : Int}, xs.Pairwise (· < ·) → (∀ x ∈ xs, a ≤ x ∧ x < b) → (xs.length : Int) ≤ max 0 (b - a)
  | [], a, b, _, _ => by simp; omega
  | x :: r, a, b, h, hb => by
    rw [List.pairwise_cons] at h
    have hx := hb x List.mem_cons_self
    have ih := asc_room (a := x + 1) (b := b) h.2 fun y hy => by have := h.1 y hy; have := hb y (List.mem_cons_of_mem _ hy); omega
    rw [List.length_cons]
    omega
theorem good_len {n : Nat} {q : EqR} (hg : GoodE n q) : q.1.2.2.length ≤ n := by
  have := asc_room hg.asc hg.lt
  omega
theorem allC_good {n : Nat} : ∀ {l : List EqR}, (∀ q ∈ l, GoodE n q) → (allC l).length ≤ l.length * n
  | [], _ => by simp [allC]
  | q :: l, hg => by
    have ih := allC_good (l := l) fun p hp => hg p (List.mem_cons_of_mem _ hp)
    have h1 := good_len (hg q List.mem_cons_self)
    show (q.1.2.2 ++ allC l).length ≤ _
    rw [List.length_append, List.length_cons, Nat.succ_mul]
    omega
theorem EqsOk.all {N : Nat} {t : List Int} {most : Int} {qs : List EqR} (h : EqsOk N t most qs) : (allC qs).length ≤ 384 := by
  have h1 := allC_good h.good
  have h2 := h.few
  have h3 := h.n
  exact Nat.le_trans h1 (Nat.mul_le_mul h2 h3.2)
theorem valid_of {N : Nat} {qs : List EqR} (hN : 1 ≤ N ∧ N ≤ 48) (hl : qs.length ≤ 1152) (hg : ∀ q ∈ qs, GoodE N q) : validB (N : Int) qs = true := by
  unfold validB
  rw [decide_eq_true (show 1 ≤ (N : Int) ∧ (N : Int) ≤ 48 by omega), decide_eq_true hl, Bool.true_and, Bool.true_and, List.all_eq_true]
  exact fun q hq => rightB_iff.2 (hg q hq)
theorem chk_of {N : Nat} {qs : List EqR} (hN : 1 ≤ N ∧ N ≤ 48) (hl : qs.length ≤ 1152) (hg : ∀ q ∈ qs, GoodE N q) : chkQ (N : Int) qs = if smallB N (eqns qs) = false then 1 else 0 := by
  unfold chkQ
  rw [valid_of hN hl hg, if_neg (by decide), Int.toNat_natCast]
/-- The table, 0 where no equation is. -/
def wantL (N : Nat) (U : List Nat) (t : List Int) : List Int := (List.range N).map fun c => if c ∈ U then t.getD c 0 else 0
theorem wantL_len (N : Nat) (U : List Nat) (t : List Int) : (wantL N U t).length = N := by simp [wantL]
theorem wantL_at {N : Nat} {U : List Nat} {t : List Int} {c : Nat} (hc : c < N) : (wantL N U t).getD c 0 = if c ∈ U then t.getD c 0 else 0 := by
  unfold wantL
  rw [List.getD_eq_getElem?_getD, List.getElem?_map, List.getElem?_range hc]; rfl
theorem wantL_out {N : Nat} {U : List Nat} {t : List Int} {c : Nat} (hc : ¬ c < N) : (wantL N U t).getD c 0 = 0 := getD_ge (by rw [wantL_len]; omega)
/-- Values of a table that agrees with all equations, 0 elsewhere: a solution. -/
theorem want_sol {N : Nat} {l : List EqR} {t : List Int} (hg : ∀ q ∈ l, GoodE N q) (hp : ∀ c ∈ touch N (eqns l), 0 ≤ t.getD c 0 ∧ t.getD c 0 ≤ 1000000) (hs : ∀ q ∈ l, sumC t (eqn q).1 = q.2) : wantL N (touch N (eqns l)) t ∈ solsOf N (eqns l) := by
  have hat : ∀ c ∈ touch N (eqns l), (wantL N (touch N (eqns l)) t).getD c 0 = t.getD c 0 := fun c hc => by
    rw [wantL_at (mem_touch.1 hc).1, if_pos hc]
  refine (mem_sols hg).2 ⟨wantL_len _ _ _, fun c hc => ?_, fun c hc => by rw [hat c hc]; exact hp c hc, fun q hq => ?_⟩
  · rw [zeros_at]
    by_cases hN : c < N
    · rw [wantL_at hN, if_neg hc]
    · exact wantL_out hN
  · obtain ⟨p, hpl, rfl⟩ := List.mem_map.1 hq
    rw [← show sumC t (eqn p).1 = (eqn p).2 from hs p hpl]
    refine sumC_congr fun c hc => hat c (mem_touch.2 ⟨?_, eqn p, hq, hc⟩)
    have := (hg p hpl).lt (c : Int) ((mem_eqn (hg p hpl)).1 hc)
    omega
theorem EqsOk.pos {N : Nat} {t : List Int} {qs : List EqR} (h : EqsOk N t 2 qs) (c : Nat) : 0 ≤ t.getD c 0 ∧ t.getD c 0 ≤ 1000000 := by
  by_cases hc : c < t.length
  · have := h.tab c hc
    exact ⟨this.1, by have := this.2; show t.getD c default ≤ _; omega⟩
  · rw [getD_ge (by omega)]; decide
theorem EqsOk.want {N : Nat} {t : List Int} {qs : List EqR} (h : EqsOk N t 2 qs) : wantL N (touch N (eqns qs)) t ∈ solsOf N (eqns qs) := want_sol h.good (fun c _ => h.pos c) h.sum
theorem EqsOk.some {N : Nat} {t : List Int} {qs : List EqR} (h : EqsOk N t 2 qs) : solsOf N (eqns qs) ≠ [] := fun he => by
  have := h.want; rw [he] at this; cases this
/-! Made equations are given up -/
theorem eqs_of {A : Option Addr} {c : Nat} {qs : List EqR} {m m1 m2 I' : PH} (hm : PH.le m I') (h1 : Vec 140 2 A qs.length c (qs.flatMap eqC) m1) (hm1 : PH.le m1 m) (h2 : Stars (qs.map fun q => rowR q.1) m2) (hm2 : PH.le m2 m) : Eqs I' A c qs := by
  refine ⟨Vec.sliceN (hm1.trans hm) h1 fun x _ => eqC_len x, fun q hq => ?_⟩
  obtain ⟨k, hk, he⟩ := List.mem_iff_getElem.1 hq
  obtain ⟨m3, h3le, h3⟩ := Stars.get k (r := rowR q.1) h2 (by rw [nthL_eq, List.getElem?_map, List.getElem?_eq_getElem hk, he]; rfl)
  exact Vec.sliceOf ((h3le.trans hm2).trans hm) h3
theorem Nx.giveRows {C : Cx} {e : Env} {I : PH} {R : List Res} {K : Act → World → Prop} {A : Option Addr} {c : Nat} {o : List Row} {RR : List Res}
    (hR : Ent R (Stars (rowsR A c o) :: RR)) (h : ∀ I', PH.le I I' → RowsOf I' A c o → Nx C e I' RR K) : Nx C e I R K := by
  refine Nx.ent hR ?_
  refine Nx.freezeAt 0 rfl fun I1 m1 hI1 hm1 h1 => ?_
  exact h I1 hI1 (rows_of hm1 h1)
end Go.Proofs.YtjnhoemgceghlaaGreat
/- Contracts of functions of the given program, and lemmas about plain lists and numbers: what the laws of this seat lean on. -/
namespace Go.Proofs.YtjnhoemgceghlaaGreat
open Go.Eng Go.Sol
attribute [local irreducible] opK wpList Code.wp Exit.then Exit.inBlock fnPost bodyPost Nx Calls Oper.wp Rd Rds Wr Ent Stars Blk Again Vec FnSpec wpMix QRun Stop Upto wpAt
theorem touch_len (N : Nat) (L : List Eqn) : (touch N L).length ≤ N := by
  have := List.length_filter_le (fun c => L.any fun q => decide (c ∈ q.1)) (List.range N)
  rw [List.length_range] at this
  exact this
end Go.Proofs.YtjnhoemgceghlaaGreat
/- Contracts of functions of the given program, and lemmas about plain lists and numbers: what the laws of this seat lean on. -/
namespace Go.Proofs.YtjnhoemgceghlaaGreat
open Go.Eng Go.Sol
attribute [local irreducible] opK wpList Code.wp Exit.then Exit.inBlock fnPost bodyPost Nx Calls Oper.wp Rd Rds Wr Ent Stars Blk Again Vec FnSpec wpMix QRun Stop Upto wpAt
/-! What releases tell, without where it lies -/
def canonE (p : List Int × Int) : EqR := ((none, 0, p.1), p.2)
def qsOf (l : List Int) (rs : List Rel) : List EqR := (rs.flatMap (told l)).map canonE
theorem cont_eqns {qs : List EqR} {L : List (List Int × Int)} (h : qs.map cont = L) : eqns qs = eqns (L.map canonE) := by
  subst h
  unfold eqns
  rw [List.map_map, List.map_map]
  rfl
theorem cont_valid {qs : List EqR} {L : List (List Int × Int)} (h : qs.map cont = L) (n : Int) : validB n qs = validB n (L.map canonE) := by
  subst h
  unfold validB
  rw [List.length_map, List.length_map, List.all_map, List.all_map]
  rfl
theorem cont_chk {qs : List EqR} {L : List (List Int × Int)} (h : qs.map cont = L) (n : Int) : chkQ n qs = chkQ n (L.map canonE) := by
  unfold chkQ
  rw [cont_valid h, cont_eqns h]
theorem cont_reach {qs : List EqR} {L : List (List Int × Int)} (h : qs.map cont = L) (n : Int) : reachR n qs = reachR n (L.map canonE) := by
  unfold reachR
  rw [cont_chk h, cont_eqns h]
theorem cont_good {N : Nat} {qs : List EqR} {L : List (List Int × Int)} (h : qs.map cont = L) (hg : ∀ q ∈ L.map canonE, GoodE N q) : ∀ q ∈ qs, GoodE N q := fun q hq => by
  have := hg (canonE (cont q)) (List.mem_map.2 ⟨cont q, by rw [← h]; exact List.mem_map.2 ⟨q, hq, rfl⟩, rfl⟩)
  exact ⟨this.ne, this.val, this.asc, this.lt⟩
/-- What right releases tell is valid. -/
theorem told_good {l : List Int} {rs : List Rel} (hs : Sizes l) (hV : RelsV l rs) : ∀ q ∈ qsOf l rs, GoodE (prod l).toNat q := fun q hq => by
  obtain ⟨p, hp, rfl⟩ := List.mem_map.1 hq
  obtain ⟨r, hr, hp⟩ := List.mem_flatMap.1 hp
  obtain ⟨i, hi, he⟩ := List.mem_iff_getElem.1 hr
  have hri : rs.getD i default = r := by rw [List.getD_eq_getElem?_getD, List.getElem?_eq_getElem hi, he]; rfl
  have h := (hV.each i hi).1
  rw [hri] at h
  unfold told at hp
  obtain ⟨j, hj, hne, rfl⟩ := mem_toldK.1 hp
  have hP := h.len
  have hvj := h.each j hj
  exact memK_good hs h.view ⟨by omega, by omega⟩ (hvj.elim (fun h => absurd h hne) id)
theorem toldK_len {l : List Int} {v : List Row} {vs : List Int} : ∀ n, (toldK l v vs n).length ≤ n
  | 0 => Nat.le_refl _
  | n + 1 => by
    have := toldK_len (l := l) (v := v) (vs := vs) n
    rw [toldK, List.length_append]
    split <;> simp <;> omega
theorem qs_len {l : List Int} : ∀ {rs : List Rel}, (∀ r ∈ rs, r.val.2.2.length ≤ 48) → (rs.flatMap (told l)).length ≤ rs.length * 48
  | [], _ => by simp
  | r :: rs, h => by
    have ih := qs_len (l := l) (rs := rs) fun x hx => h x (List.mem_cons_of_mem _ hx)
    have h1 := toldK_len (l := l) (v := r.v) (vs := r.val.2.2) r.val.2.2.length
    have h2 := h r List.mem_cons_self
    rw [List.flatMap_cons, List.length_append, List.length_cons, Nat.succ_mul]
    unfold told at ih ⊢
    omega
theorem RelsV.lens {l : List Int} {rs : List Rel} (hs : Sizes l) (hV : RelsV l rs) : ∀ r ∈ rs, r.val.2.2.length ≤ 48 := fun r hr => by
  obtain ⟨i, hi, he⟩ := List.mem_iff_getElem.1 hr
  have hri : rs.getD i default = r := by rw [List.getD_eq_getElem?_getD, List.getElem?_eq_getElem hi, he]; rfl
  have h := (hV.each i hi).1
  rw [hri] at h
  have := (h.view.sizes hs).cells
  have := h.len
  omega
theorem RelsV.qlen {l : List Int} {rs : List Rel} (hs : Sizes l) (hV : RelsV l rs) : (qsOf l rs).length ≤ 1152 := by
  have h1 := qs_len (l := l) (hV.lens hs)
  have h2 := hV.len
  unfold qsOf
  rw [List.length_map]
  omega
theorem size_ok {l : List Int} (hs : Sizes l) : 1 ≤ (prod l).toNat ∧ (prod l).toNat ≤ 48 ∧ ((prod l).toNat : Int) = prod l := by
  have h := hs.bound (k := l.length) (Nat.le_refl _)
  rw [List.take_length] at h
  have := hs.cells
  omega
theorem allC_told {l : List Int} {rs : List Rel} {qs : List EqR} (hs : Sizes l) (hV : RelsV l rs) (h : qs.map cont = rs.flatMap (told l)) : (allC qs).length ≤ 100000 := by
  have hg := cont_good (N := (prod l).toNat) h (told_good hs hV)
  have h1 := allC_good hg
  have h2 : qs.length ≤ 1152 := by
    have := hV.qlen hs
    unfold qsOf at this
    rw [List.length_map, ← h, List.length_map] at this
    exact this
  have h3 := (size_ok hs).2.1
  have h4 := Nat.mul_le_mul h2 h3
  omega
/-- The reaches from releases. -/
def rchD (l : List Int) (rs : List Rel) : List Rch × Int := if relsE l rs = 0 then reachR (prod l) (qsOf l rs) else ([], relsE l rs)
set_option maxRecDepth 10000 in
set_option maxHeartbeats 8000000 in
theorem reaches_spec (A As : Option Addr) (c cs : Nat) (l : List Int) (rs : List Rel) (I : PH) (hl : Ints I A c l) (hs : Sizes l) (hr : Rels I As cs rs) (hw : ∀ r ∈ rs, Viewed l r.v) :
    FnSpec Tryz.prog 83 [.agg #[.slice A l.length c], .slice As rs.length cs] I []
      (fun u R' => ∃ (A' : Option Addr) (c' : Nat), u = .tuple #[.slice A' (rchD l rs).1.length c', .int .i64 (rchD l rs).2] ∧ R' = [rcR A' c' (rchD l rs).1]) := by
  have hA := EAll_spec A As c cs l rs I hl hs hr hw
  have hiff := relsE_iff hs hw
  refine FnSpec.enterP Tryz.func83 rfl Tryz.ntmps83 rfl fun w F => ?_
  unfold rchD
  by_cases h0 : relsE l rs = 0
  case neg =>
    rw [if_neg h0]
    generalize relsE l rs = er at h0 hA
    repeat' first
      | ((with_reducible refine Nx.is_wp ?_); first | refine Nx.wo ?_ | refine Nx.zp (fun hc => ?_) (fun hc => ?_))
      | (refine Nx.zo ?_; first | refine Nx.opr rfl rfl ?_ | (refine Nx.call (Rpre := []) rfl rfl rfl (by kernel_rfl) rfl hA (Ent.refl _) ?_; rintro _ _ ⟨Am, cm, qs, rfl, hqs, hql, rfl⟩) | refine Nx.so ?_ | refine Nx.sb (fun bx => ?_) | refine Nx.sa (fun A2 c2 => ?_))
      | ((with_reducible refine Nx.is_at ?_); first | refine Nx.a ?_ | refine Nx.zd ?_ | refine Nx.zs (fun hc => ?_) (fun hc => ?_))
      | ((with_reducible refine Nx.is_mix ?_); first | refine Nx.m ?_ | refine Nx.zm ?_ | refine Nx.zt (fun hc => ?_) (fun hc => ?_))
      | refine Nx.zx ?_ | fail
    exact Nx.ret_fn rfl [_] ⟨none, 0, rfl, rfl⟩ ((Ent.vec_nil 124 3 _).trans (by (exact Ent.auto)))
  have hV := hiff.1 h0
  rw [if_pos h0] at hA
  rw [if_pos h0]
  rw [h0] at hA
  repeat' first
    | ((with_reducible refine Nx.is_wp ?_); first | refine Nx.p_stopr 4 rfl ?_ | refine Nx.wo ?_ | refine Nx.zp (fun hc => ?_) (fun hc => ?_))
    | (refine Nx.zo ?_; first | refine Nx.opr rfl rfl ?_ | (refine Nx.call (Rpre := []) rfl rfl rfl (by kernel_rfl) rfl hA (Ent.refl _) ?_; rintro _ _ ⟨Am, cm, qs, rfl, hqs, hql, rfl⟩) | refine Nx.so ?_ | refine Nx.sb (fun bx => ?_) | refine Nx.sa (fun A2 c2 => ?_))
    | ((with_reducible refine Nx.is_at ?_); first | refine Nx.a ?_ | refine Nx.zd ?_ | refine Nx.zs (fun hc => ?_) (fun hc => ?_))
    | ((with_reducible refine Nx.is_mix ?_); first | refine Nx.m ?_ | refine Nx.zm ?_ | refine Nx.zt (fun hc => ?_) (fun hc => ?_))
    | refine Nx.zx ?_ | fail
  refine Nx.unstop ?_
  refine Nx.freezeAt 0 rfl fun I1 m1 hI1 hm1 h1 => ?_
  refine Nx.freezeAt 0 rfl fun I2 m2 hI2 hm2 h2 => ?_
  have hq : Eqs I2 Am cm qs := ⟨(Vec.sliceN hm1 h1 fun x _ => eqC_len x).mono hI2, fun q hq => by
    obtain ⟨k, hk, he⟩ := List.mem_iff_getElem.1 hq
    obtain ⟨m3, h3le, h3⟩ := Stars.get k (r := rowR q.1) h2 (by rw [nthL_eq, List.getElem?_map, List.getElem?_eq_getElem hk, he]; rfl)
    exact Vec.sliceOf (h3le.trans hm2) h3⟩
  have hR := Reaches_spec (prod l) Am cm qs I2 hq (allC_told hs hV hqs)
  rw [show reachR (prod l) qs = reachR (prod l) (qsOf l rs) from cont_reach hqs _] at hR
  repeat' first
    | ((with_reducible refine Nx.is_wp ?_); first | refine Nx.wo ?_ | refine Nx.zp (fun hc => ?_) (fun hc => ?_))
    | (refine Nx.zo ?_; first | refine Nx.opr rfl rfl ?_ | refine Nx.callv rfl rfl rfl (by kernel_rfl) rfl (Count_spec A c l I2 (hl.mono (hI1.trans hI2)) hs) ?_ | (refine Nx.call (Rpre := []) rfl rfl rfl (by kernel_rfl) rfl hR (Ent.refl _) ?_; rintro _ _ ⟨A', c', rfl, rfl⟩) | refine Nx.so ?_ | refine Nx.sb (fun bx => ?_) | refine Nx.sa (fun A2 c2 => ?_))
    | ((with_reducible refine Nx.is_at ?_); first | refine Nx.a ?_ | refine Nx.zd ?_ | refine Nx.zs (fun hc => ?_) (fun hc => ?_))
    | ((with_reducible refine Nx.is_mix ?_); first | refine Nx.m ?_ | refine Nx.zm ?_ | refine Nx.zt (fun hc => ?_) (fun hc => ?_))
    | refine Nx.zx ?_ | fail
  exact Nx.imm_le (hI1.trans hI2) (Nx.ret_fn rfl [_] ⟨A', c', rfl, rfl⟩ (by (exact Ent.auto)))
set_option maxHeartbeats 8000000 in
set_option maxRecDepth 10000 in
/-- slices.IndexFunc, slices.ContainsFunc with what the closure holds. -/
theorem IndexFuncC_spec (f : FuncId) (cap : Value) (p : Int → Bool) (A : Option Addr) (cp : Nat) (l : List Int) (I : PH) (hl : Ints I A cp l) (hcall : callable Tryz.prog f = true)
    (hp : ∀ x, FnSpec Tryz.prog f [.int .i64 x, cap] I [] (fun v R' => v = .bool (p x) ∧ R' = [])) :
    FnSpec Tryz.prog 51 [.slice A l.length cp, .func (.func f) #[] #[cap]] I []
      (fun v R' => ∃ i : Int, v = .int .i64 i ∧ (decide (0 ≤ i) = l.any p) ∧ R' = []) := by
  refine FnSpec.enterP Tryz.func51 rfl Tryz.ntmps51 rfl fun w F => ?_
  repeat' first
    | ((with_reducible refine Nx.is_wp ?_); first | refine Nx.wo ?_ | refine Nx.zp (fun hc => ?_) (fun hc => ?_))
    | (refine Nx.zo ?_; first | refine Nx.opr rfl rfl ?_ | refine Nx.so ?_ | refine Nx.sb (fun bx => ?_) | refine Nx.sa (fun A2 c2 => ?_))
    | ((with_reducible refine Nx.is_at ?_); first | refine Nx.a ?_ | refine Nx.zd ?_ | refine Nx.zs (fun hc => ?_) (fun hc => ?_))
    | ((with_reducible refine Nx.is_mix ?_); first | refine Nx.m ?_ | refine Nx.zm ?_ | refine Nx.zt (fun hc => ?_) (fun hc => ?_))
    | refine Nx.zx ?_ | fail
  have hlen := hl.len
  refine Nx.p_loop (σ := Nat) (fun k => [(0, .slice A l.length cp), (1, .func (.func f) #[] #[cap]), (7, .int .i64 l.length), (8, .int .i64 (k : Int))])
    (fun _ => [F]) (fun k => k ≤ l.length ∧ (l.take k).any p = false) (fun k => l.length - k) 0 rfl ⟨Nat.zero_le _, by simp⟩ ⟨rfl, rfl, rfl, rfl, trivial⟩ (Ent.refl _) ?_
  rintro k ⟨hk, hnone⟩
  repeat' first
    | ((with_reducible refine Nx.is_wp ?_); first | refine Nx.wo ?_ | refine Nx.zp (fun hc => ?_) (fun hc => ?_))
    | (refine Nx.zo ?_; first | refine Nx.opr rfl rfl ?_ | refine Nx.indexAddr_nat rfl rfl rfl rfl rfl (by omega) (hl.isSome (by omega)) ?_ | refine Nx.load rfl rfl rfl (hl.rd (by omega)) ?_ | refine Nx.callv rfl rfl rfl hcall rfl (hp _) ?_ | refine Nx.so ?_ | refine Nx.sb (fun bx => ?_) | refine Nx.sa (fun A2 c2 => ?_))
    | ((with_reducible refine Nx.is_at ?_); first | refine Nx.a ?_ | refine Nx.zd ?_ | refine Nx.zs (fun hc => ?_) (fun hc => ?_))
    | ((with_reducible refine Nx.is_mix ?_); first | refine Nx.m ?_ | refine Nx.zm ?_ | refine Nx.zt (fun hc => ?_) (fun hc => ?_))
    | refine Nx.zx ?_ | fail
  · refine Nx.ret_fn rfl [] ⟨_, rfl, ?_, rfl⟩ (Ent.refl _)
    rw [show decide ((0 : Int) ≤ k) = true by simp, Eq.comm, List.any_eq_true]
    exact ⟨l.getD k default, by rw [List.getD_eq_getElem?_getD, List.getElem?_eq_getElem (by omega)]; exact List.getElem_mem _, hc⟩
  · refine Nx.again (k + 1) ⟨by omega, ?_⟩ (by omega) ⟨rfl, rfl, rfl, rfl, trivial⟩ (Ent.refl _)
    rw [List.take_succ_eq_append_getElem (by omega), List.any_append, hnone]
    have : l[k]'(by omega) = l.getD k default := by rw [List.getD_eq_getElem?_getD, List.getElem?_eq_getElem (by omega)]; rfl
    simp only [this, List.any_cons, List.any_nil, hc, Bool.or_self]
  · obtain rfl : k = l.length := by omega
    refine Nx.ret_fn rfl [] ⟨_, rfl, ?_, rfl⟩ (Ent.refl _)
    rw [List.take_length] at hnone
    rw [hnone]; rfl
set_option maxHeartbeats 8000000 in
set_option maxRecDepth 10000 in
theorem ContainsFuncC_spec (f : FuncId) (cap : Value) (p : Int → Bool) (A : Option Addr) (cp : Nat) (l : List Int) (I : PH) (hl : Ints I A cp l) (hcall : callable Tryz.prog f = true)
    (hp : ∀ x, FnSpec Tryz.prog f [.int .i64 x, cap] I [] (fun v R' => v = .bool (p x) ∧ R' = [])) :
    FnSpec Tryz.prog 28 [.slice A l.length cp, .func (.func f) #[] #[cap]] I []
      (fun v R' => v = .bool (l.any p) ∧ R' = []) := by
  refine FnSpec.enterP Tryz.func28 rfl Tryz.ntmps28 rfl fun w F => ?_
  repeat' first
    | ((with_reducible refine Nx.is_wp ?_); first | refine Nx.wo ?_ | refine Nx.zp (fun hc => ?_) (fun hc => ?_))
    | (refine Nx.zo ?_; first | refine Nx.opr rfl rfl ?_ | refine Nx.so ?_ | refine Nx.sb (fun bx => ?_) | refine Nx.sa (fun A2 c2 => ?_))
    | ((with_reducible refine Nx.is_at ?_); first | refine Nx.a ?_ | refine Nx.zd ?_ | refine Nx.zs (fun hc => ?_) (fun hc => ?_))
    | ((with_reducible refine Nx.is_mix ?_); first | refine Nx.m ?_ | refine Nx.zm ?_ | refine Nx.zt (fun hc => ?_) (fun hc => ?_))
    | refine Nx.zx ?_ | fail
  refine Nx.at_op rfl rfl ?_
  refine Nx.call rfl rfl rfl (by kernel_rfl) rfl (IndexFuncC_spec f cap p A cp l I hl hcall hp) (Ent.refl _) ?_
  rintro v R' ⟨i, rfl, hi, rfl⟩
  repeat' first
    | ((with_reducible refine Nx.is_wp ?_); first | refine Nx.wo ?_ | refine Nx.zp (fun hc => ?_) (fun hc => ?_))
    | (refine Nx.zo ?_; first | refine Nx.opr rfl rfl ?_ | refine Nx.so ?_ | refine Nx.sb (fun bx => ?_) | refine Nx.sa (fun A2 c2 => ?_))
    | ((with_reducible refine Nx.is_at ?_); first | refine Nx.a ?_ | refine Nx.zd ?_ | refine Nx.zs (fun hc => ?_) (fun hc => ?_))
    | ((with_reducible refine Nx.is_mix ?_); first | refine Nx.m ?_ | refine Nx.zm ?_ | refine Nx.zt (fun hc => ?_) (fun hc => ?_))
    | refine Nx.zx ?_ | fail
  exact Nx.ret_fn rfl [] ⟨by rw [← hi], rfl⟩ (Ent.refl _)
end Go.Proofs.YtjnhoemgceghlaaGreat
/- Contracts of functions of the given program, and lemmas about plain lists and numbers: what the laws of this seat lean on. -/
namespace Go.Proofs.YtjnhoemgceghlaaGreat
open Go.Eng Go.Sol
attribute [local irreducible] opK wpList Code.wp Exit.then Exit.inBlock fnPost bodyPost Nx Calls Oper.wp Rd Rds Wr Ent Stars Blk Again Vec FnSpec wpMix QRun Stop Upto wpAt
/-! Differencing: checks, narrow reaches -/
def outP (n k : Int) : Bool := decide (k < 0 ∨ n ≤ k)
set_option maxHeartbeats 8000000 in
set_option maxRecDepth 10000 in
theorem outP_spec (n k : Int) (b : Nat) (I : PH) (hb : ∀ (W : World) (R : List Res), Rd W I R ⟨b, 0, none⟩ (.int .i64 n)) :
    FnSpec Tryz.prog 106 [.int .i64 k, .pointer (some ⟨b, 0, none⟩)] I [] (fun v R' => v = .bool (outP n k) ∧ R' = []) := by
  unfold outP
  refine FnSpec.enterP Tryz.func106 rfl Tryz.ntmps106 rfl fun w F => ?_
  by_cases h1 : k < 0
  · rw [decide_eq_true (.inl h1)]
    repeat' first
      | ((with_reducible refine Nx.is_wp ?_); first | refine Nx.wo ?_ | refine Nx.zp (fun hc => ?_) (fun hc => ?_))
      | (refine Nx.zo ?_; first | refine Nx.opr rfl rfl ?_ | refine Nx.load rfl rfl rfl (hb _ _) ?_ | refine Nx.so ?_ | refine Nx.sb (fun bx => ?_) | refine Nx.sa (fun A2 c2 => ?_))
      | ((with_reducible refine Nx.is_at ?_); first | refine Nx.a ?_ | refine Nx.zd ?_ | refine Nx.zs (fun hc => ?_) (fun hc => ?_))
      | ((with_reducible refine Nx.is_mix ?_); first | refine Nx.m ?_ | refine Nx.zm ?_ | refine Nx.zt (fun hc => ?_) (fun hc => ?_))
      | refine Nx.zx ?_ | fail
    exact Nx.ret_fn rfl [] ⟨rfl, rfl⟩ (by (exact Ent.auto))
  by_cases h2 : n ≤ k
  · rw [decide_eq_true (.inr h2)]
    repeat' first
      | ((with_reducible refine Nx.is_wp ?_); first | refine Nx.wo ?_ | refine Nx.zp (fun hc => ?_) (fun hc => ?_))
      | (refine Nx.zo ?_; first | refine Nx.opr rfl rfl ?_ | refine Nx.load rfl rfl rfl (hb _ _) ?_ | refine Nx.so ?_ | refine Nx.sb (fun bx => ?_) | refine Nx.sa (fun A2 c2 => ?_))
      | ((with_reducible refine Nx.is_at ?_); first | refine Nx.a ?_ | refine Nx.zd ?_ | refine Nx.zs (fun hc => ?_) (fun hc => ?_))
      | ((with_reducible refine Nx.is_mix ?_); first | refine Nx.m ?_ | refine Nx.zm ?_ | refine Nx.zt (fun hc => ?_) (fun hc => ?_))
      | refine Nx.zx ?_ | fail
    exact Nx.ret_fn rfl [] ⟨by rw [decide_eq_true h2], rfl⟩ (by (exact Ent.auto))
  · rw [decide_eq_false (by omega)]
    repeat' first
      | ((with_reducible refine Nx.is_wp ?_); first | refine Nx.wo ?_ | refine Nx.zp (fun hc => ?_) (fun hc => ?_))
      | (refine Nx.zo ?_; first | refine Nx.opr rfl rfl ?_ | refine Nx.load rfl rfl rfl (hb _ _) ?_ | refine Nx.so ?_ | refine Nx.sb (fun bx => ?_) | refine Nx.sa (fun A2 c2 => ?_))
      | ((with_reducible refine Nx.is_at ?_); first | refine Nx.a ?_ | refine Nx.zd ?_ | refine Nx.zs (fun hc => ?_) (fun hc => ?_))
      | ((with_reducible refine Nx.is_mix ?_); first | refine Nx.m ?_ | refine Nx.zm ?_ | refine Nx.zt (fun hc => ?_) (fun hc => ?_))
      | refine Nx.zx ?_ | fail
    exact Nx.ret_fn rfl [] ⟨by rw [decide_eq_false h2], rfl⟩ (by (exact Ent.auto))
/-- The first error of releases, protected cells and a margin. -/
def chkD (l : List Int) (rs : List Rel) (prot : List Int) (m : Int) : Int :=
  if relsE l rs ≠ 0 then relsE l rs else if m < 1 ∨ 100 < m then 2 else if prot.any (outP (prod l)) = true then 2 else if prot.Pairwise (· < ·) then 0 else 11
theorem pairwise_adj : ∀ {p : List Int}, (∀ i, i + 1 < p.length → p.getD i default < p.getD (i + 1) default) → p.Pairwise (· < ·)
  | [], _ => List.Pairwise.nil
  | [a], _ => List.pairwise_singleton _ _
  | a :: b :: p, h => by
    have ih := pairwise_adj (p := b :: p) fun i hi => h (i + 1) (by simpa using hi)
    have hab : a < b := h 0 (by simp)
    refine List.pairwise_cons.2 ⟨fun x hx => ?_, ih⟩
    rcases List.mem_cons.1 hx with rfl | hx
    · exact hab
    · have := (List.pairwise_cons.1 ih).1 x hx; omega
theorem adj_of {p : List Int} (h : p.Pairwise (· < ·)) {i : Nat} (hi : i + 1 < p.length) : p.getD i default < p.getD (i + 1) default := by
  have := List.pairwise_iff_getElem.1 h i (i + 1) (by omega) hi (by omega)
  rw [List.getD_eq_getElem?_getD, List.getElem?_eq_getElem (by omega), List.getD_eq_getElem?_getD, List.getElem?_eq_getElem hi]
  exact this
set_option maxRecDepth 10000 in
set_option maxHeartbeats 8000000 in
theorem check_specD (A As Ap : Option Addr) (c cs cp : Nat) (l : List Int) (rs : List Rel) (prot : List Int) (m : Int) (I : PH) (hl : Ints I A c l) (hs : Sizes l) (hr : Rels I As cs rs) (hw : ∀ r ∈ rs, Viewed l r.v) (hp : Ints I Ap cp prot) :
    FnSpec Tryz.prog 82 [.agg #[.slice A l.length c], .slice As rs.length cs, .slice Ap prot.length cp, .int .i64 m] I [] (fun u R' => u = .int .i64 (chkD l rs prot m) ∧ R' = []) := by
  have hEC := ECheck_spec A As c cs l rs I hl hs hr hw
  have hpl := hp.len
  unfold chkD
  refine FnSpec.enterP Tryz.func82 rfl Tryz.ntmps82 rfl fun w F => ?_
  by_cases h0 : relsE l rs = 0
  case neg =>
    rw [if_pos h0]
    generalize relsE l rs = er at h0 hEC
    repeat' first
      | ((with_reducible refine Nx.is_wp ?_); first | refine Nx.wo ?_ | refine Nx.zp (fun hc => ?_) (fun hc => ?_))
      | (refine Nx.zo ?_; first | refine Nx.opr rfl rfl ?_ | refine Nx.callv rfl rfl rfl (by kernel_rfl) rfl hEC ?_ | refine Nx.so ?_ | refine Nx.sb (fun bx => ?_) | refine Nx.sa (fun A2 c2 => ?_))
      | ((with_reducible refine Nx.is_at ?_); first | refine Nx.a ?_ | refine Nx.zd ?_ | refine Nx.zs (fun hc => ?_) (fun hc => ?_))
      | ((with_reducible refine Nx.is_mix ?_); first | refine Nx.m ?_ | refine Nx.zm ?_ | refine Nx.zt (fun hc => ?_) (fun hc => ?_))
      | refine Nx.zx ?_ | fail
    exact Nx.ret_fn rfl [] ⟨rfl, rfl⟩ (by (exact Ent.auto))
  rw [if_neg (by omega)]
  rw [h0] at hEC
  by_cases h1 : m < 1 ∨ 100 < m
  · rw [if_pos h1]
    by_cases h2 : m < 1
    · repeat' first
        | ((with_reducible refine Nx.is_wp ?_); first | refine Nx.wo ?_ | refine Nx.zp (fun hc => ?_) (fun hc => ?_))
        | (refine Nx.zo ?_; first | refine Nx.opr rfl rfl ?_ | refine Nx.callv rfl rfl rfl (by kernel_rfl) rfl hEC ?_ | refine Nx.callv rfl rfl rfl (by kernel_rfl) rfl (Count_spec A c l I hl hs) ?_ | refine Nx.so ?_ | refine Nx.sb (fun bx => ?_) | refine Nx.sa (fun A2 c2 => ?_))
        | ((with_reducible refine Nx.is_at ?_); first | refine Nx.a ?_ | refine Nx.zd ?_ | refine Nx.zs (fun hc => ?_) (fun hc => ?_))
        | ((with_reducible refine Nx.is_mix ?_); first | refine Nx.m ?_ | refine Nx.zm ?_ | refine Nx.zt (fun hc => ?_) (fun hc => ?_))
        | refine Nx.zx ?_ | fail
      exact Nx.ret_fn rfl [] ⟨rfl, rfl⟩ (by (exact Ent.auto))
    · repeat' first
        | ((with_reducible refine Nx.is_wp ?_); first | refine Nx.wo ?_ | refine Nx.zp (fun hc => ?_) (fun hc => ?_))
        | (refine Nx.zo ?_; first | refine Nx.opr rfl rfl ?_ | refine Nx.callv rfl rfl rfl (by kernel_rfl) rfl hEC ?_ | refine Nx.callv rfl rfl rfl (by kernel_rfl) rfl (Count_spec A c l I hl hs) ?_ | refine Nx.so ?_ | refine Nx.sb (fun bx => ?_) | refine Nx.sa (fun A2 c2 => ?_))
        | ((with_reducible refine Nx.is_at ?_); first | refine Nx.a ?_ | refine Nx.zd ?_ | refine Nx.zs (fun hc => ?_) (fun hc => ?_))
        | ((with_reducible refine Nx.is_mix ?_); first | refine Nx.m ?_ | refine Nx.zm ?_ | refine Nx.zt (fun hc => ?_) (fun hc => ?_))
        | refine Nx.zx ?_ | fail
      exact Nx.ret_fn rfl [] ⟨rfl, rfl⟩ (by (exact Ent.auto))
  rw [if_neg h1]
  repeat' first
    | ((with_reducible refine Nx.is_wp ?_); first | refine Nx.p_stopr 5 rfl ?_ | refine Nx.wo ?_ | refine Nx.zp (fun hc => ?_) (fun hc => ?_))
    | (refine Nx.zo ?_; first | refine Nx.opr rfl rfl ?_ | refine Nx.callv rfl rfl rfl (by kernel_rfl) rfl hEC ?_ | refine Nx.callv rfl rfl rfl (by kernel_rfl) rfl (Count_spec A c l I hl hs) ?_ | refine Nx.so ?_ | refine Nx.sb (fun bx => ?_) | refine Nx.sa (fun A2 c2 => ?_))
    | ((with_reducible refine Nx.is_at ?_); first | refine Nx.a ?_ | refine Nx.zd ?_ | refine Nx.zs (fun hc => ?_) (fun hc => ?_))
    | ((with_reducible refine Nx.is_mix ?_); first | refine Nx.m ?_ | refine Nx.zm ?_ | refine Nx.zt (fun hc => ?_) (fun hc => ?_))
    | refine Nx.zx ?_ | fail
  refine unstopN ?_
  revert bx; intro b10
  refine Nx.freezeAt 0 rfl fun I2 m2 hI2 hm2 hb2 => ?_
  have rb : ∀ (W : World) (R : List Res), Rd W I2 R ⟨b10, 0, none⟩ (.int .i64 (prod l)) := fun W R => Rd.imm (cellH_mono hm2 (Blk.cell hb2 rfl))
  have hC := ContainsFuncC_spec 106 (.pointer (some ⟨b10, 0, none⟩)) (outP (prod l)) Ap cp prot I2 (hp.mono hI2) (by kernel_rfl) (fun x => outP_spec (prod l) x b10 I2 rb)
  replace hp := hp.mono hI2
  cases ha : prot.any (outP (prod l)) with
  | true =>
    rw [if_pos rfl]
    rw [ha] at hC
    repeat' first
      | ((with_reducible refine Nx.is_wp ?_); first | refine Nx.wo ?_ | refine Nx.zp (fun hc => ?_) (fun hc => ?_))
      | (refine Nx.zo ?_; first | refine Nx.opr rfl rfl ?_ | refine Nx.callv rfl rfl rfl (by kernel_rfl) rfl hC ?_ | refine Nx.so ?_ | refine Nx.sb (fun bx => ?_) | refine Nx.sa (fun A2 c2 => ?_))
      | ((with_reducible refine Nx.is_at ?_); first | refine Nx.a ?_ | refine Nx.zd ?_ | refine Nx.zs (fun hc => ?_) (fun hc => ?_))
      | ((with_reducible refine Nx.is_mix ?_); first | refine Nx.m ?_ | refine Nx.zm ?_ | refine Nx.zt (fun hc => ?_) (fun hc => ?_))
      | refine Nx.zx ?_ | fail
    exact Nx.imm_le hI2 (Nx.ret_fn rfl [] ⟨rfl, rfl⟩ (by (exact Ent.auto)))
  | false =>
  rw [if_neg (by decide)]
  rw [ha] at hC
  repeat' first
    | ((with_reducible refine Nx.is_wp ?_); first | refine Nx.wo ?_ | refine Nx.zp (fun hc => ?_) (fun hc => ?_))
    | (refine Nx.zo ?_; first | refine Nx.opr rfl rfl ?_ | refine Nx.callv rfl rfl rfl (by kernel_rfl) rfl hC ?_ | refine Nx.so ?_ | refine Nx.sb (fun bx => ?_) | refine Nx.sa (fun A2 c2 => ?_))
    | ((with_reducible refine Nx.is_at ?_); first | refine Nx.a ?_ | refine Nx.zd ?_ | refine Nx.zs (fun hc => ?_) (fun hc => ?_))
    | ((with_reducible refine Nx.is_mix ?_); first | refine Nx.m ?_ | refine Nx.zm ?_ | refine Nx.zt (fun hc => ?_) (fun hc => ?_))
    | refine Nx.zx ?_ | fail
  refine Nx.p_loop (σ := Nat) (fun i => [(2, .slice Ap prot.length cp), (11, .int .i64 ((i + 1 : Nat) : Int))])
    (fun _ => [F]) (fun i => i ≤ prot.length ∧ ∀ j, j < i → j + 1 < prot.length → prot.getD j default < prot.getD (j + 1) default) (fun i => prot.length - i) 0 rfl ⟨Nat.zero_le _, fun j hj => absurd hj (Nat.not_lt_zero _)⟩ ⟨rfl, rfl, trivial⟩ (by (exact Ent.auto)) ?_
  rintro i ⟨hi, hall⟩
  by_cases hlt : i + 1 < prot.length
  case neg =>
    rw [if_pos (pairwise_adj fun j hj => hall j (by omega) hj)]
    repeat' first
      | ((with_reducible refine Nx.is_wp ?_); first | refine Nx.wo ?_ | refine Nx.zp (fun hc => ?_) (fun hc => ?_))
      | (refine Nx.zo ?_; first | refine Nx.opr rfl rfl ?_ | refine Nx.so ?_ | refine Nx.sb (fun bx => ?_) | refine Nx.sa (fun A2 c2 => ?_))
      | ((with_reducible refine Nx.is_at ?_); first | refine Nx.a ?_ | refine Nx.zd ?_ | refine Nx.zs (fun hc => ?_) (fun hc => ?_))
      | ((with_reducible refine Nx.is_mix ?_); first | refine Nx.m ?_ | refine Nx.zm ?_ | refine Nx.zt (fun hc => ?_) (fun hc => ?_))
      | refine Nx.zx ?_ | fail
    exact Nx.imm_le hI2 (Nx.ret_fn rfl [] ⟨rfl, rfl⟩ (by (exact Ent.auto)))
  have hadj := fun h : prot.Pairwise (· < ·) => adj_of h hlt
  have r1 := fun (W : World) (R : List Res) => hp.rd (W := W) (R := R) (k := i) (by omega)
  have r2 := fun (W : World) (R : List Res) => hp.rd (W := W) (R := R) hlt
  have hnx : ∀ j, j < i + 1 → prot.getD i default < prot.getD (i + 1) default → j + 1 < prot.length → prot.getD j default < prot.getD (j + 1) default := fun j hj hx h => by
    rcases Nat.lt_or_ge j i with h' | h'
    · exact hall j h' h
    · rw [show j = i by omega]; exact hx
  generalize prot.getD i default = x at hadj r1 hnx
  generalize prot.getD (i + 1) default = y at hadj r2 hnx
  have hi1 : (((i + 1 : Nat) : Int) - 1).toNat = i := by omega
  have r1' : ∀ (W : World) (R : List Res), Rd W I2 R ((ad Ap).add ((((i + 1 : Nat) : Int) - 1).toNat * 1)) (.int .i64 x) := fun W R => by rw [hi1]; exact r1 W R
  by_cases hxy : x < y
  · repeat' first
      | ((with_reducible refine Nx.is_wp ?_); first | refine Nx.wo ?_ | refine Nx.p_draw (id := 10) rfl [0, 1, 2, 3, 4, 5, 6, 7, 8, 9] [] _ rfl rfl (by kernel_rfl) (by kernel_rfl) rfl (by repeat first | exact PanicOk.fn | refine PanicOk.then_ ?_ | refine PanicOk.inB ?_) (Ent.refl _) ?_ | refine Nx.zp (fun hc => ?_) (fun hc => ?_))
      | (refine Nx.zo ?_; first | refine Nx.opr rfl rfl ?_ | refine Nx.so ?_ | refine Nx.sb (fun bx => ?_) | refine Nx.sa (fun A2 c2 => ?_))
      | ((with_reducible refine Nx.is_at ?_); first | refine Nx.a ?_ | refine Nx.zd ?_ | refine Nx.zs (fun hc => ?_) (fun hc => ?_))
      | ((with_reducible refine Nx.is_mix ?_); first | refine Nx.m_quiet rfl rfl rfl rfl rfl (by first | exact QRun.opr rfl | exact QRun.idxi (A := Ap) (i := ((i + 1 : Nat) : Int) - 1) (sz := 1) rfl rfl rfl rfl (by omega) (by omega) (hp.isSome (by omega)) | exact QRun.idx (A := Ap) (i := i + 1) (sz := 1) rfl rfl rfl rfl (by omega) (hp.isSome (by omega)) | exact QRun.load rfl rfl (r1' _ _) | exact QRun.load rfl rfl (r2 _ _)) ?_ | refine Nx.m_quiet_do rfl rfl rfl rfl rfl rfl rfl (by first | exact QRun.opr rfl | exact QRun.idxi (A := Ap) (i := ((i + 1 : Nat) : Int) - 1) (sz := 1) rfl rfl rfl rfl (by omega) (by omega) (hp.isSome (by omega)) | exact QRun.idx (A := Ap) (i := i + 1) (sz := 1) rfl rfl rfl rfl (by omega) (hp.isSome (by omega)) | exact QRun.load rfl rfl (r1' _ _) | exact QRun.load rfl rfl (r2 _ _)) ?_ | refine Nx.m ?_ | refine Nx.zm ?_ | refine Nx.zt (fun hc => ?_) (fun hc => ?_))
      | refine Nx.zx ?_ | fail
    exact Nx.again (i + 1) ⟨by omega, fun j hj h => hnx j hj hxy h⟩ (by omega) ⟨rfl, rfl, trivial⟩ (by (exact Ent.auto))
  · rw [if_neg fun h => hxy (hadj h)]
    repeat' first
      | ((with_reducible refine Nx.is_wp ?_); first | refine Nx.wo ?_ | refine Nx.p_draw (id := 10) rfl [0, 1, 2, 3, 4, 5, 6, 7, 8, 9] [] _ rfl rfl (by kernel_rfl) (by kernel_rfl) rfl (by repeat first | exact PanicOk.fn | refine PanicOk.then_ ?_ | refine PanicOk.inB ?_) (Ent.refl _) ?_ | refine Nx.zp (fun hc => ?_) (fun hc => ?_))
      | (refine Nx.zo ?_; first | refine Nx.opr rfl rfl ?_ | refine Nx.so ?_ | refine Nx.sb (fun bx => ?_) | refine Nx.sa (fun A2 c2 => ?_))
      | ((with_reducible refine Nx.is_at ?_); first | refine Nx.a ?_ | refine Nx.zd ?_ | refine Nx.zs (fun hc => ?_) (fun hc => ?_))
      | ((with_reducible refine Nx.is_mix ?_); first | refine Nx.m_quiet rfl rfl rfl rfl rfl (by first | exact QRun.opr rfl | exact QRun.idxi (A := Ap) (i := ((i + 1 : Nat) : Int) - 1) (sz := 1) rfl rfl rfl rfl (by omega) (by omega) (hp.isSome (by omega)) | exact QRun.idx (A := Ap) (i := i + 1) (sz := 1) rfl rfl rfl rfl (by omega) (hp.isSome (by omega)) | exact QRun.load rfl rfl (r1' _ _) | exact QRun.load rfl rfl (r2 _ _)) ?_ | refine Nx.m_quiet_do rfl rfl rfl rfl rfl rfl rfl (by first | exact QRun.opr rfl | exact QRun.idxi (A := Ap) (i := ((i + 1 : Nat) : Int) - 1) (sz := 1) rfl rfl rfl rfl (by omega) (by omega) (hp.isSome (by omega)) | exact QRun.idx (A := Ap) (i := i + 1) (sz := 1) rfl rfl rfl rfl (by omega) (hp.isSome (by omega)) | exact QRun.load rfl rfl (r1' _ _) | exact QRun.load rfl rfl (r2 _ _)) ?_ | refine Nx.m ?_ | refine Nx.zm ?_ | refine Nx.zt (fun hc => ?_) (fun hc => ?_))
      | refine Nx.zx ?_ | fail
    exact Nx.imm_le hI2 (Nx.ret_fn rfl [] ⟨rfl, rfl⟩ (by (exact Ent.auto)))
def narrowB (x : Rch) (m : Int) : Bool := !x.2.2 && decide (x.2.1 - x.1 < m)
def rchOk (x : Rch) : Prop := (0 ≤ x.1 ∧ x.1 ≤ 1000000) ∧ (0 ≤ x.2.1 ∧ x.2.1 ≤ 1000000)
set_option maxHeartbeats 8000000 in
set_option maxRecDepth 10000 in
theorem narrow_spec (x : Rch) (m : Int) (I : PH) (hx : rchOk x) : FnSpec Tryz.prog 84 [.agg #[.int .i64 x.1, .int .i64 x.2.1, .bool x.2.2], .int .i64 m] I [] (fun v R' => v = .bool (narrowB x m) ∧ R' = []) := by
  obtain ⟨lo, hi, op⟩ := x
  unfold rchOk at hx
  unfold narrowB
  dsimp only at hx ⊢
  obtain ⟨⟨h1, h2⟩, h3, h4⟩ := hx
  refine FnSpec.enterP Tryz.func84 rfl Tryz.ntmps84 rfl fun w F => ?_
  cases op with
  | true =>
    repeat' first
      | ((with_reducible refine Nx.is_wp ?_); first | refine Nx.wo ?_ | refine Nx.zp (fun hc => ?_) (fun hc => ?_))
      | (refine Nx.zo ?_; first | refine Nx.opr rfl rfl ?_ | refine Nx.so ?_ | refine Nx.sb (fun bx => ?_) | refine Nx.sa (fun A2 c2 => ?_))
      | ((with_reducible refine Nx.is_at ?_); first | refine Nx.a ?_ | refine Nx.zd ?_ | refine Nx.zs (fun hc => ?_) (fun hc => ?_))
      | ((with_reducible refine Nx.is_mix ?_); first | refine Nx.m ?_ | refine Nx.zm ?_ | refine Nx.zt (fun hc => ?_) (fun hc => ?_))
      | refine Nx.zx ?_ | fail
    exact Nx.ret_fn rfl [] ⟨rfl, rfl⟩ (by (exact Ent.auto))
  | false =>
    repeat' first
      | ((with_reducible refine Nx.is_wp ?_); first | refine Nx.wo ?_ | refine Nx.zp (fun hc => ?_) (fun hc => ?_))
      | (refine Nx.zo ?_; first | refine Nx.opr rfl rfl ?_ | refine Nx.so ?_ | refine Nx.sb (fun bx => ?_) | refine Nx.sa (fun A2 c2 => ?_))
      | ((with_reducible refine Nx.is_at ?_); first | refine Nx.a ?_ | refine Nx.zd ?_ | refine Nx.zs (fun hc => ?_) (fun hc => ?_))
      | ((with_reducible refine Nx.is_mix ?_); first | refine Nx.m ?_ | refine Nx.zm ?_ | refine Nx.zt (fun hc => ?_) (fun hc => ?_))
      | refine Nx.zx ?_ | fail
    exact Nx.ret_fn rfl [] ⟨rfl, rfl⟩ (by (exact Ent.auto))
theorem reach_ok {N x : Nat} {qs : List EqR} (hg : ∀ q ∈ qs, GoodE N q) (hne : solsOf N (eqns qs) ≠ []) : rchOk (reachAt N (eqns qs) x) := by
  unfold rchOk reachAt
  by_cases hx : x ∈ touch N (eqns qs)
  · rw [if_pos hx]
    have hat : ∀ s ∈ solsOf N (eqns qs), 0 ≤ s.getD x 0 ∧ s.getD x 0 ≤ 1000000 := fun s hs => ((mem_sols hg).1 hs).pos x hx
    have e : ∀ down, (extOf N (eqns qs) x down).headD [] ∈ solsOf N (eqns qs) := fun down => by
      obtain ⟨a, ra, ha, _⟩ := ext_some down hg hx hne
      rw [ha]; exact (ext_head hg hx ha).1
    exact ⟨hat _ (e false), hat _ (e true)⟩
  · rw [if_neg hx]; decide
end Go.Proofs.YtjnhoemgceghlaaGreat
/- Contracts of functions of the given program, and lemmas about plain lists and numbers: what the laws of this seat lean on. -/
namespace Go.Proofs.YtjnhoemgceghlaaGreat
open Go.Eng Go.Sol
attribute [local irreducible] opK wpList Code.wp Exit.then Exit.inBlock fnPost bodyPost Nx Calls Oper.wp Rd Rds Wr Ent Stars Blk Again Vec FnSpec wpMix QRun Stop Upto wpAt
theorem range_at {α : Type} [Inhabited α] {f : Nat → α} {N x : Nat} (hx : x < N) : ((List.range N).map f).getD x default = f x := by
  rw [List.getD_eq_getElem?_getD, List.getElem?_map, List.getElem?_range hx]; rfl
end Go.Proofs.YtjnhoemgceghlaaGreat
