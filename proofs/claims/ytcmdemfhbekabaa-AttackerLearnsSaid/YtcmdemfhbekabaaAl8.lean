/- Contracts of functions of the given program, and lemmas about plain lists and numbers: what the laws of this seat lean on. -/
import Derived.Test.YtcmdemfhbekabaaAl7
namespace Go.Proofs.Ytcmdemfhbekabaa
open Go.Eng Go.Sol
attribute [local irreducible] opK wpList Code.wp Exit.then Exit.inBlock fnPost bodyPost Nx Calls Oper.wp Rd Rds Wr Ent Stars Blk Again Vec FnSpec wpMix QRun Stop Upto wpAt
theorem eq_one (l : List EqR) : ∀ u ∈ l.flatMap eqC, u.oneCell' = true := fun u hu => by
  obtain ⟨x, _, hx⟩ := List.mem_flatMap.1 hu
  simp only [eqC, List.mem_cons, List.not_mem_nil, or_false] at hx
  rcases hx with rfl | rfl <;> rfl
theorem relE_ok {l : List Int} {r : Rel} {b : Int} (hw : Viewed l r.v) (_ : Sizes l) (h : relE l r b = 0) : b < r.num ∧ r.num < 24 ∧ RelV l r := by
  unfold relE at h
  split at h
  · omega
  rename_i h1
  split at h
  · omega
  rename_i h2
  split at h
  · omega
  rename_i h3
  have h2 : (r.val.2.2.length : Int) = prod (szs r.v) := Decidable.byContradiction h2
  refine ⟨by omega, by omega, hw, by omega, fun j hj => ?_⟩
  have h4 : ∀ z ∈ r.val.2.2, ¬ badV z = true := fun z hz hb => h3 (List.any_eq_true.2 ⟨z, hz, hb⟩)
  have h5 := h4 _ (getD_memI hj)
  unfold badV at h5
  by_cases hz : r.val.2.2.getD j default = -1
  · exact .inl hz
  · right
    rw [decide_eq_true hz, Bool.true_and] at h5
    exact Decidable.byContradiction fun hc => h5 (by rw [decide_eq_false hc]; rfl)
theorem relE_of {l : List Int} {r : Rel} {b : Int} (hb : b < r.num) (h24 : r.num < 24) (hs : Sizes l) (h : RelV l r) : relE l r b = 0 := by
  have hp := (h.view.sizes hs).bound (k := (szs r.v).length) (Nat.le_refl _)
  rw [List.take_length] at hp
  have hl := h.len
  unfold relE
  rw [if_neg (by omega), if_neg (by omega), if_neg]
  intro ha
  obtain ⟨z, hz, hbz⟩ := List.any_eq_true.1 ha
  obtain ⟨j, hj, rfl⟩ := mem_getDI hz
  unfold badV at hbz
  rcases h.each j hj with h1 | h1
  · rw [h1] at hbz; simp at hbz
  · rw [decide_eq_true h1] at hbz; simp at hbz
theorem relsF_ok {l : List Int} (hs : Sizes l) : ∀ {rs : List Rel} {b : Int}, (∀ r ∈ rs, Viewed l r.v) → relsF l b rs = 0 → (∀ i, i < rs.length → RelV l (rs.getD i default) ∧ b < (rs.getD i default).num ∧ (rs.getD i default).num < 24) ∧ ∀ i, i + 1 < rs.length → (rs.getD i default).num < (rs.getD (i + 1) default).num
  | [], _, _, _ => ⟨fun i hi => absurd hi (Nat.not_lt_zero _), fun i hi => absurd hi (Nat.not_lt_zero _)⟩
  | r :: rs, b, hw, h => by
    rw [relsF] at h
    split at h
    · omega
    rename_i h0
    have h0 : relE l r b = 0 := Decidable.byContradiction h0
    obtain ⟨h1, h2, h3⟩ := relE_ok (hw r List.mem_cons_self) hs h0
    obtain ⟨h4, h5⟩ := relsF_ok hs (fun x hx => hw x (List.mem_cons_of_mem _ hx)) h
    refine ⟨fun i hi => ?_, fun i hi => ?_⟩
    · cases i with
      | zero => exact ⟨h3, h1, h2⟩
      | succ i =>
        obtain ⟨a, c, d⟩ := h4 i (by simpa using hi)
        exact ⟨a, by show b < (rs.getD i default).num; omega, d⟩
    · cases i with
      | zero => exact (h4 0 (by simpa using hi)).2.1
      | succ i => exact h5 i (by simpa using hi)
theorem relsF_of {l : List Int} (hs : Sizes l) : ∀ {rs : List Rel} {b : Int}, (∀ i, i < rs.length → RelV l (rs.getD i default) ∧ (rs.getD i default).num < 24) → (0 < rs.length → b < (rs.getD 0 default).num) → (∀ i, i + 1 < rs.length → (rs.getD i default).num < (rs.getD (i + 1) default).num) → relsF l b rs = 0
  | [], _, _, _, _ => rfl
  | r :: rs, b, h1, h2, h3 => by
    obtain ⟨h4, h5⟩ := h1 0 (by simp)
    rw [relsF, if_neg (by rw [show relE l r b = 0 from relE_of (h2 (by simp)) h5 hs h4]; simp)]
    exact relsF_of hs (fun i hi => h1 (i + 1) (by simpa using hi)) (fun hi => h3 0 (by simpa using hi)) fun i hi => h3 (i + 1) (by simpa using hi)
theorem relsE_iff {l : List Int} {rs : List Rel} (hs : Sizes l) (hw : ∀ r ∈ rs, Viewed l r.v) : relsE l rs = 0 ↔ RelsV l rs := by
  unfold relsE
  constructor
  · intro h
    split at h
    · omega
    obtain ⟨h1, h2⟩ := relsF_ok hs hw h
    exact ⟨by omega, fun i hi => ⟨(h1 i hi).1, by have := (h1 i hi).2.1; omega, (h1 i hi).2.2⟩, h2⟩
  · intro h
    have := h.len
    rw [if_neg (by omega)]
    exact relsF_of hs (fun i hi => ⟨(h.each i hi).1, (h.each i hi).2.2⟩) (fun hi => by have := (h.each 0 hi).2.1; omega) h.asc
set_option maxRecDepth 10000 in
set_option maxHeartbeats 8000000 in
theorem told_spec (A : Option Addr) (c : Nat) (l : List Int) (r : Rel) (I : PH) (hl : Ints I A c l) (hs : Sizes l) (hv : RowsOf I r.va r.vc r.v) (hd : Ints I r.val.1 r.val.2.1 r.val.2.2) (hV : RelV l r) :
    FnSpec Try.prog 54 [.agg #[.slice A l.length c], .agg #[.int .i64 r.num, .slice r.va r.v.length r.vc, .slice r.val.1 r.val.2.2.length r.val.2.1]] I []
      (fun u R' => ∃ (A' : Option Addr) (c' : Nat) (qs : List EqR), u = .slice A' qs.length c' ∧ qs.map cont = told l r ∧ qs.length ≤ 48 ∧ R' = eqsR A' c' qs) := by
  obtain ⟨num, va, vc, v, D, cd, vs⟩ := r
  obtain ⟨hw, hlen, heach⟩ := hV
  dsimp only at hv hd hw hlen heach ⊢
  have hszs := hw.sizes hs
  have hvl := hd.len
  have hpc := hszs.cells
  have hpr := hszs.bound (k := (szs v).length) (Nat.le_refl _)
  rw [List.take_length] at hpr
  refine FnSpec.enterP Try.func54 rfl Try.ntmps54 rfl fun w F => ?_
  repeat' first
    | ((with_reducible refine Nx.is_wp ?_); first | refine Nx.wo ?_ | refine Nx.zp (fun hc => ?_) (fun hc => ?_))
    | (refine Nx.zo ?_; first | refine Nx.opr rfl rfl ?_ | refine Nx.so ?_ | refine Nx.sb (fun bx => ?_) | refine Nx.sa (fun A2 c2 => ?_))
    | ((with_reducible refine Nx.is_at ?_); first | refine Nx.a ?_ | refine Nx.zd ?_ | refine Nx.zs (fun hc => ?_) (fun hc => ?_))
    | ((with_reducible refine Nx.is_mix ?_); first | refine Nx.m ?_ | refine Nx.zm ?_ | refine Nx.zt (fun hc => ?_) (fun hc => ?_))
    | refine Nx.zx ?_ | fail
  rename_i b2
  revert bx; intro b3
  refine Nx.p_loop (σ := Nat × Option Addr × Nat × List EqR) (fun s => [(2, .pointer (some ⟨b2, 0, none⟩)), (3, .pointer (some ⟨b3, 0, none⟩)), (5, .slice s.2.1 s.2.2.2.length s.2.2.1), (11, .slice D vs.length cd), (12, .int .i64 vs.length), (13, .int .i64 (s.1 : Int))])
    (fun s => Blk b3 44 [.int .i64 num, .slice va v.length vc, .slice D vs.length cd] :: Blk b2 27 [.slice A l.length c] :: (eqsR s.2.1 s.2.2.1 s.2.2.2 ++ [F])) (fun s => s.1 ≤ vs.length ∧ s.2.2.2.map cont = toldK l v vs s.1 ∧ s.2.2.2.length ≤ s.1) (fun s => vs.length - s.1) (0, none, 0, []) rfl ⟨Nat.zero_le _, rfl, Nat.le_refl _⟩ ⟨rfl, rfl, rfl, rfl, rfl, rfl, trivial⟩ ((Ent.stars_nil _).trans ((Ent.vec_nil 105 2 _).trans (by unfold eqsR; (exact Ent.auto)))) ?_
  rintro ⟨j, Ap, cp, ps⟩ ⟨hj, hps, hpl⟩
  dsimp only at hj hps hpl ⊢
  by_cases hjv : j < vs.length
  case neg =>
    obtain rfl : j = vs.length := by omega
    repeat' first
      | ((with_reducible refine Nx.is_wp ?_); first | refine Nx.wo ?_ | refine Nx.zp (fun hc => ?_) (fun hc => ?_))
      | (refine Nx.zo ?_; first | refine Nx.opr rfl rfl ?_ | refine Nx.so ?_ | refine Nx.sb (fun bx => ?_) | refine Nx.sa (fun A2 c2 => ?_))
      | ((with_reducible refine Nx.is_at ?_); first | refine Nx.a ?_ | refine Nx.zd ?_ | refine Nx.zs (fun hc => ?_) (fun hc => ?_))
      | ((with_reducible refine Nx.is_mix ?_); first | refine Nx.m ?_ | refine Nx.zm ?_ | refine Nx.zt (fun hc => ?_) (fun hc => ?_))
      | refine Nx.zx ?_ | fail
    exact Nx.ret_fn rfl [_, _] ⟨Ap, cp, ps, rfl, hps, by omega, rfl⟩ (by (exact Ent.auto))
  have hrd : ∀ (W : World) (R : List Res), Rd W I R ((ad D).add (j * 1)) (.int .i64 (vs.getD j default)) := fun W R => hd.rd hjv
  have hts : toldK l v vs (j + 1) = toldK l v vs j ++ if vs.getD j default = -1 then [] else [(memK l v (j : Int) (prod l).toNat, vs.getD j default)] := rfl
  have hM := Members_spec A va c vc l v (j : Int) I hl hs hv hw ⟨by omega, by omega⟩
  generalize memK l v (j : Int) (prod l).toNat = mm at hM hts
  generalize vs.getD j default = z at hrd hts
  by_cases hz : z = -1
  · subst hz
    rw [if_pos rfl, List.append_nil] at hts
    repeat' first
      | ((with_reducible refine Nx.is_wp ?_); first | refine Nx.wo ?_ | refine Nx.zp (fun hc => ?_) (fun hc => ?_))
      | (refine Nx.zo ?_; first | refine Nx.opr rfl rfl ?_ | refine Nx.indexAddr_nat (A := D) rfl rfl rfl rfl rfl hjv (hd.isSome (by omega)) ?_ | refine Nx.load rfl rfl rfl (hrd _ _) ?_ | refine Nx.so ?_ | refine Nx.sb (fun bx => ?_) | refine Nx.sa (fun A2 c2 => ?_))
      | ((with_reducible refine Nx.is_at ?_); first | refine Nx.a ?_ | refine Nx.zd ?_ | refine Nx.zs (fun hc => ?_) (fun hc => ?_))
      | ((with_reducible refine Nx.is_mix ?_); first | refine Nx.m ?_ | refine Nx.zm ?_ | refine Nx.zt (fun hc => ?_) (fun hc => ?_))
      | refine Nx.zx ?_ | fail
    exact Nx.again (j + 1, Ap, cp, ps) ⟨hjv, by rw [hts]; exact hps, by dsimp only; omega⟩ (by dsimp only; omega) ⟨rfl, rfl, rfl, rfl, rfl, rfl, trivial⟩ (by (exact Ent.auto))
  · rw [if_neg hz] at hts
    repeat' first
      | ((with_reducible refine Nx.is_wp ?_); first | refine Nx.wo ?_ | refine Nx.zp (fun hc => ?_) (fun hc => ?_))
      | (refine Nx.zo ?_; first | refine Nx.opr rfl rfl ?_ | refine Nx.indexAddr_nat (A := D) rfl rfl rfl rfl rfl hjv (hd.isSome (by omega)) ?_ | refine Nx.load rfl rfl rfl (hrd _ _) ?_ | refine Nx.loads rfl rfl rfl rfl (Rds.cut 0 1 rfl rfl) rfl ?_ | (refine Nx.call (Rpre := []) rfl rfl rfl (by kernel_rfl) rfl hM (Ent.refl _) ?_; rintro _ _ ⟨Am, cm, rfl, rfl⟩) | refine Nx.so ?_ | refine Nx.sb (fun bx => ?_) | refine Nx.sa (fun A2 c2 => ?_))
      | ((with_reducible refine Nx.is_at ?_); first | refine Nx.a ?_ | refine Nx.zd ?_ | refine Nx.zs (fun hc => ?_) (fun hc => ?_))
      | ((with_reducible refine Nx.is_mix ?_); first | refine Nx.m ?_ | refine Nx.zm ?_ | refine Nx.zt (fun hc => ?_) (fun hc => ?_))
      | refine Nx.zx ?_ | fail
    refine Nx.again (j + 1, A2, c2, ps ++ [((Am, cm, mm), z)]) ⟨hjv, by dsimp only; rw [hts, List.map_append, hps]; rfl, by dsimp only; rw [List.length_append]; show ps.length + 1 ≤ _; omega⟩ (by dsimp only; omega) ⟨rfl, rfl, by dsimp only; rw [List.length_append]; rfl, rfl, rfl, rfl, trivial⟩ ?_
    dsimp only
    refine Ent.trans (R' := rowR (Am, cm, mm) :: Stars (ps.map fun q => rowR q.1) :: [Vec 105 2 A2 (ps.length + 1) c2 (ps.flatMap eqC ++ eqC ((Am, cm, mm), z)), Blk b3 44 [.int .i64 num, .slice va v.length vc, .slice D vs.length cd], Blk b2 27 [.slice A l.length c], F]) (by unfold rowR eqC eqsR; (exact Ent.auto)) ?_
    refine Ent.trans (R' := Stars ((ps.map fun q => rowR q.1) ++ [rowR (Am, cm, mm)]) :: [Vec 105 2 A2 (ps.length + 1) c2 (ps.flatMap eqC ++ eqC ((Am, cm, mm), z)), Blk b3 44 [.int .i64 num, .slice va v.length vc, .slice D vs.length cd], Blk b2 27 [.slice A l.length c], F]) Ent.bundle ?_
    unfold eqsR
    rw [List.length_append, List.flatMap_append, List.map_append, List.flatMap_cons, List.flatMap_nil, List.append_nil]
    (exact Ent.auto)
set_option maxRecDepth 10000 in
set_option maxHeartbeats 8000000 in
theorem EAll_spec (A As : Option Addr) (c cs : Nat) (l : List Int) (rs : List Rel) (I : PH) (hl : Ints I A c l) (hs : Sizes l) (hr : Rels I As cs rs) (hw : ∀ r ∈ rs, Viewed l r.v) :
    FnSpec Try.prog 43 [.agg #[.slice A l.length c], .slice As rs.length cs] I []
      (fun u R' => ∃ (A' : Option Addr) (c' : Nat) (qs : List EqR), u = .tuple #[.slice A' qs.length c', .int .i64 (relsE l rs)] ∧ qs.map cont = (if relsE l rs = 0 then rs.flatMap (told l) else []) ∧ qs.length ≤ 24 * 48 ∧ R' = eqsR A' c' qs) := by
  have hEC := ECheck_spec A As c cs l rs I hl hs hr hw
  have hiff := relsE_iff hs hw
  refine FnSpec.enterP Try.func43 rfl Try.ntmps43 rfl fun w F => ?_
  by_cases h0 : relsE l rs = 0
  case neg =>
    rw [if_neg h0]
    generalize relsE l rs = er at h0 hEC
    repeat' first
      | ((with_reducible refine Nx.is_wp ?_); first | refine Nx.wo ?_ | refine Nx.zp (fun hc => ?_) (fun hc => ?_))
      | (refine Nx.zo ?_; first | refine Nx.opr rfl rfl ?_ | refine Nx.callv rfl rfl rfl (by kernel_rfl) rfl hEC ?_ | refine Nx.so ?_ | refine Nx.sb (fun bx => ?_) | refine Nx.sa (fun A2 c2 => ?_))
      | ((with_reducible refine Nx.is_at ?_); first | refine Nx.a ?_ | refine Nx.zd ?_ | refine Nx.zs (fun hc => ?_) (fun hc => ?_))
      | ((with_reducible refine Nx.is_mix ?_); first | refine Nx.m ?_ | refine Nx.zm ?_ | refine Nx.zt (fun hc => ?_) (fun hc => ?_))
      | refine Nx.zx ?_ | fail
    exact Nx.ret_fn rfl [_, _] ⟨none, 0, [], rfl, rfl, by decide, rfl⟩ ((Ent.stars_nil _).trans ((Ent.vec_nil 105 2 _).trans (by (exact Ent.auto))))
  have hV := hiff.1 h0
  rw [if_pos h0, h0]
  rw [h0] at hEC
  have h24 := hV.len
  repeat' first
    | ((with_reducible refine Nx.is_wp ?_); first | refine Nx.wo ?_ | refine Nx.zp (fun hc => ?_) (fun hc => ?_))
    | (refine Nx.zo ?_; first | refine Nx.opr rfl rfl ?_ | refine Nx.callv rfl rfl rfl (by kernel_rfl) rfl hEC ?_ | refine Nx.so ?_ | refine Nx.sb (fun bx => ?_) | refine Nx.sa (fun A2 c2 => ?_))
    | ((with_reducible refine Nx.is_at ?_); first | refine Nx.a ?_ | refine Nx.zd ?_ | refine Nx.zs (fun hc => ?_) (fun hc => ?_))
    | ((with_reducible refine Nx.is_mix ?_); first | refine Nx.m ?_ | refine Nx.zm ?_ | refine Nx.zt (fun hc => ?_) (fun hc => ?_))
    | refine Nx.zx ?_ | fail
  revert bx; intro b2
  refine Nx.p_loop (σ := Nat × Option Addr × Nat × List EqR) (fun s => [(2, .pointer (some ⟨b2, 0, none⟩)), (7, .slice s.2.1 s.2.2.2.length s.2.2.1), (16, .slice As rs.length cs), (17, .int .i64 rs.length), (18, .int .i64 (s.1 : Int))])
    (fun s => Blk b2 27 [.slice A l.length c] :: (eqsR s.2.1 s.2.2.1 s.2.2.2 ++ [F])) (fun s => s.1 ≤ rs.length ∧ s.2.2.2.map cont = (rs.take s.1).flatMap (told l) ∧ s.2.2.2.length ≤ s.1 * 48) (fun s => rs.length - s.1) (0, none, 0, []) rfl ⟨Nat.zero_le _, rfl, Nat.le_refl _⟩ ⟨rfl, rfl, rfl, rfl, rfl, trivial⟩ ((Ent.stars_nil _).trans ((Ent.vec_nil 105 2 _).trans (by unfold eqsR; (exact Ent.auto)))) ?_
  rintro ⟨i, Ao, co, qs⟩ ⟨hi, hqs, hql⟩
  dsimp only at hi hqs hql ⊢
  by_cases hiv : i < rs.length
  case neg =>
    obtain rfl : i = rs.length := by omega
    rw [List.take_length] at hqs
    repeat' first
      | ((with_reducible refine Nx.is_wp ?_); first | refine Nx.wo ?_ | refine Nx.zp (fun hc => ?_) (fun hc => ?_))
      | (refine Nx.zo ?_; first | refine Nx.opr rfl rfl ?_ | refine Nx.so ?_ | refine Nx.sb (fun bx => ?_) | refine Nx.sa (fun A2 c2 => ?_))
      | ((with_reducible refine Nx.is_at ?_); first | refine Nx.a ?_ | refine Nx.zd ?_ | refine Nx.zs (fun hc => ?_) (fun hc => ?_))
      | ((with_reducible refine Nx.is_mix ?_); first | refine Nx.m ?_ | refine Nx.zm ?_ | refine Nx.zt (fun hc => ?_) (fun hc => ?_))
      | refine Nx.zx ?_ | fail
    exact Nx.ret_fn rfl [_, _] ⟨Ao, co, qs, rfl, hqs, by omega, rfl⟩ (by (exact Ent.auto))
  have htk := take_snocR hiv
  have hT := told_spec A c l (rs.getD i default) I hl hs (hr.view _ (getD_memR hiv)) (hr.val _ (getD_memR hiv)) (hV.each i hiv).1
  have hrds : ∀ (W : World) (R : List Res), Rds W I R ((ad As).add (i * 3)) (relC (rs.getD i default)) := fun W R => hr.outer.rds hiv
  generalize rs.getD i default = r at htk hT hrds
  obtain ⟨num, va, vc, v, D, cd, vs⟩ := r
  dsimp only at hT
  replace hrds : ∀ (W : World) (R : List Res), Rds W I R ((ad As).add (i * 3)) [.int .i64 num, .slice va v.length vc, .slice D vs.length cd] := hrds
  repeat' first
    | ((with_reducible refine Nx.is_wp ?_); first | refine Nx.wo ?_ | refine Nx.zp (fun hc => ?_) (fun hc => ?_))
    | (refine Nx.zo ?_; first | refine Nx.opr rfl rfl ?_ | refine Nx.indexAddr_nat rfl rfl rfl rfl rfl hiv (hr.outer.isSome (by omega) (by omega)) ?_ | refine Nx.loads rfl rfl rfl rfl (hrds _ _) rfl ?_ | (refine Nx.call (Rpre := []) rfl rfl rfl (by kernel_rfl) rfl hT (Ent.refl _) ?_; rintro _ _ ⟨Am, cm, ps, rfl, hps, hpl, rfl⟩) | refine Nx.append_vec 3 rfl rfl rfl rfl (by kernel_rfl) rfl rfl (eq_one ps) (by omega) fun A2 c2 => ?_ | refine Nx.so ?_ | refine Nx.sb (fun bx => ?_) | refine Nx.sa (fun A2 c2 => ?_))
    | ((with_reducible refine Nx.is_at ?_); first | refine Nx.a ?_ | refine Nx.zd ?_ | refine Nx.zs (fun hc => ?_) (fun hc => ?_))
    | ((with_reducible refine Nx.is_mix ?_); first | refine Nx.m ?_ | refine Nx.zm ?_ | refine Nx.zt (fun hc => ?_) (fun hc => ?_))
    | refine Nx.zx ?_ | fail
  refine Nx.again (i + 1, A2, c2, qs ++ ps) ⟨hiv, by dsimp only; rw [htk, List.flatMap_append, List.flatMap_cons, List.flatMap_nil, List.append_nil, List.map_append, hqs, hps], by dsimp only; rw [List.length_append]; omega⟩ (by dsimp only; omega) ⟨rfl, by dsimp only; rw [List.length_append]; rfl, rfl, rfl, rfl, trivial⟩ ?_
  dsimp only
  refine Ent.trans (R' := Stars (qs.map fun q => rowR q.1) :: Stars (ps.map fun q => rowR q.1) :: [Vec 105 2 A2 (qs.length + ps.length) c2 (qs.flatMap eqC ++ ps.flatMap eqC), Blk b2 27 [.slice A l.length c], F]) (by (exact Ent.auto)) ?_
  refine Ent.stars_app.trans ?_
  unfold eqsR
  rw [List.length_append, List.flatMap_append, List.map_append]
  (exact Ent.auto)
end Go.Proofs.Ytcmdemfhbekabaa
/- Contracts of functions of the given program, and lemmas about plain lists and numbers: what the laws of this seat lean on. -/
namespace Go.Proofs.Ytcmdemfhbekabaa
open Go.Eng Go.Sol
attribute [local irreducible] opK wpList Code.wp Exit.then Exit.inBlock fnPost bodyPost Nx Calls Oper.wp Rd Rds Wr Ent Stars Blk Again Vec FnSpec wpMix QRun Stop Upto wpAt
theorem touch_len (N : Nat) (L : List Eqn) : (touch N L).length ≤ N := by
  have := List.length_filter_le (fun c => L.any fun q => decide (c ∈ q.1)) (List.range N)
  rw [List.length_range] at this
  exact this
end Go.Proofs.Ytcmdemfhbekabaa
/- Contracts of functions of the given program, and lemmas about plain lists and numbers: what the laws of this seat lean on. -/
namespace Go.Proofs.Ytcmdemfhbekabaa
open Go.Eng Go.Sol
attribute [local irreducible] opK wpList Code.wp Exit.then Exit.inBlock fnPost bodyPost Nx Calls Oper.wp Rd Rds Wr Ent Stars Blk Again Vec FnSpec wpMix QRun Stop Upto wpAt
/-! What releases tell, without where it lies -/
def canonE (p : List Int × Int) : EqR := ((none, 0, p.1), p.2)
def qsOf (l : List Int) (rs : List Rel) : List EqR := (rs.flatMap (told l)).map canonE
theorem cont_eqns {qs : List EqR} {L : List (List Int × Int)} (h : qs.map cont = L) : eqns qs = eqns (L.map canonE) := by
  subst h
  unfold eqns
  rw [List.map_map, List.map_map]
  rfl
theorem cont_valid {qs : List EqR} {L : List (List Int × Int)} (h : qs.map cont = L) (n : Int) : validB n qs = validB n (L.map canonE) := by
  subst h
  unfold validB
  rw [List.length_map, List.length_map, List.all_map, List.all_map]
  rfl
theorem cont_chk {qs : List EqR} {L : List (List Int × Int)} (h : qs.map cont = L) (n : Int) : chkQ n qs = chkQ n (L.map canonE) := by
  unfold chkQ
  rw [cont_valid h, cont_eqns h]
theorem cont_good {N : Nat} {qs : List EqR} {L : List (List Int × Int)} (h : qs.map cont = L) (hg : ∀ q ∈ L.map canonE, GoodE N q) : ∀ q ∈ qs, GoodE N q := fun q hq => by
  have := hg (canonE (cont q)) (List.mem_map.2 ⟨cont q, by rw [← h]; exact List.mem_map.2 ⟨q, hq, rfl⟩, rfl⟩)
  exact ⟨this.ne, this.val, this.asc, this.lt⟩
/-- What right releases tell is valid. -/
theorem told_good {l : List Int} {rs : List Rel} (hs : Sizes l) (hV : RelsV l rs) : ∀ q ∈ qsOf l rs, GoodE (prod l).toNat q := fun q hq => by
  obtain ⟨p, hp, rfl⟩ := List.mem_map.1 hq
  obtain ⟨r, hr, hp⟩ := List.mem_flatMap.1 hp
  obtain ⟨i, hi, he⟩ := List.mem_iff_getElem.1 hr
  have hri : rs.getD i default = r := by rw [List.getD_eq_getElem?_getD, List.getElem?_eq_getElem hi, he]; rfl
  have h := (hV.each i hi).1
  rw [hri] at h
  unfold told at hp
  obtain ⟨j, hj, hne, rfl⟩ := mem_toldK.1 hp
  have hP := h.len
  have hvj := h.each j hj
  exact memK_good hs h.view ⟨by omega, by omega⟩ (hvj.elim (fun h => absurd h hne) id)
theorem toldK_len {l : List Int} {v : List Row} {vs : List Int} : ∀ n, (toldK l v vs n).length ≤ n
  | 0 => Nat.le_refl _
  | n + 1 => by
    have := toldK_len (l := l) (v := v) (vs := vs) n
    rw [toldK, List.length_append]
    split <;> simp <;> omega
theorem qs_len {l : List Int} : ∀ {rs : List Rel}, (∀ r ∈ rs, r.val.2.2.length ≤ 48) → (rs.flatMap (told l)).length ≤ rs.length * 48
  | [], _ => by simp
  | r :: rs, h => by
    have ih := qs_len (l := l) (rs := rs) fun x hx => h x (List.mem_cons_of_mem _ hx)
    have h1 := toldK_len (l := l) (v := r.v) (vs := r.val.2.2) r.val.2.2.length
    have h2 := h r List.mem_cons_self
    rw [List.flatMap_cons, List.length_append, List.length_cons, Nat.succ_mul]
    unfold told at ih ⊢
    omega
theorem RelsV.lens {l : List Int} {rs : List Rel} (hs : Sizes l) (hV : RelsV l rs) : ∀ r ∈ rs, r.val.2.2.length ≤ 48 := fun r hr => by
  obtain ⟨i, hi, he⟩ := List.mem_iff_getElem.1 hr
  have hri : rs.getD i default = r := by rw [List.getD_eq_getElem?_getD, List.getElem?_eq_getElem hi, he]; rfl
  have h := (hV.each i hi).1
  rw [hri] at h
  have := (h.view.sizes hs).cells
  have := h.len
  omega
theorem RelsV.qlen {l : List Int} {rs : List Rel} (hs : Sizes l) (hV : RelsV l rs) : (qsOf l rs).length ≤ 1152 := by
  have h1 := qs_len (l := l) (hV.lens hs)
  have h2 := hV.len
  unfold qsOf
  rw [List.length_map]
  omega
theorem size_ok {l : List Int} (hs : Sizes l) : 1 ≤ (prod l).toNat ∧ (prod l).toNat ≤ 48 ∧ ((prod l).toNat : Int) = prod l := by
  have h := hs.bound (k := l.length) (Nat.le_refl _)
  rw [List.take_length] at h
  have := hs.cells
  omega
theorem allC_told {l : List Int} {rs : List Rel} {qs : List EqR} (hs : Sizes l) (hV : RelsV l rs) (h : qs.map cont = rs.flatMap (told l)) : (allC qs).length ≤ 100000 := by
  have hg := cont_good (N := (prod l).toNat) h (told_good hs hV)
  have h1 := allC_good hg
  have h2 : qs.length ≤ 1152 := by
    have := hV.qlen hs
    unfold qsOf at this
    rw [List.length_map, ← h, List.length_map] at this
    exact this
  have h3 := (size_ok hs).2.1
  have h4 := Nat.mul_le_mul h2 h3
  omega
/-- The reaches from releases. -/
def rchD (l : List Int) (rs : List Rel) : List Rch × Int := if relsE l rs = 0 then reachR (prod l) (qsOf l rs) else ([], relsE l rs)
end Go.Proofs.Ytcmdemfhbekabaa
/- Contracts of functions of the given program, and lemmas about plain lists and numbers: what the laws of this seat lean on. -/
namespace Go.Proofs.Ytcmdemfhbekabaa
open Go.Eng Go.Sol
attribute [local irreducible] opK wpList Code.wp Exit.then Exit.inBlock fnPost bodyPost Nx Calls Oper.wp Rd Rds Wr Ent Stars Blk Again Vec FnSpec wpMix QRun Stop Upto wpAt
/-! What somebody who tries all tables finds: told, certain, Certain, Values -/
def tolE (l : List Int) (rs : List Rel) : Int := if relsE l rs = 0 then chkQ (prod l) (qsOf l rs) else relsE l rs
theorem first_err (n : Int) (l : List EqR) : (firstOf n l).2.2 = chkQ n l := by
  unfold firstOf
  split
  · rename_i h; exact h.symm
  · rfl
theorem tolE_ok {l : List Int} {rs : List Rel} (h : tolE l rs = 0) : relsE l rs = 0 ∧ chkQ (prod l) (qsOf l rs) = 0 := by
  unfold tolE at h
  split at h
  · rename_i h0; exact ⟨h0, h⟩
  · rename_i h0; exact absurd h h0
def ToldPost (l : List Int) (rs : List Rel) (v : Value) (R' : List Res) : Prop :=
  ∃ (Am : Option Addr) (cm : Nat) (qs : List EqR), v = .tuple #[.slice Am qs.length cm, .int .i64 (if tolE l rs = 0 then prod l else 0), .int .i64 (tolE l rs)] ∧ (tolE l rs = 0 → qs.map cont = rs.flatMap (told l)) ∧ (tolE l rs ≠ 0 → qs = []) ∧ R' = eqsR Am cm qs
theorem nil_eqs {R : List Res} : Ent R (eqsR none 0 [] ++ R) := (Ent.stars_nil _).trans (Ent.vec_nil 105 2 _)
set_option maxRecDepth 10000 in
set_option maxHeartbeats 16000000 in
theorem atold_spec (A As : Option Addr) (c cs : Nat) (l : List Int) (rs : List Rel) (I : PH) (hl : Ints I A c l) (hs : Sizes l) (hr : Rels I As cs rs) (hw : ∀ r ∈ rs, Viewed l r.v) :
    FnSpec Try.prog 33 [.agg #[.slice A l.length c], .slice As rs.length cs] I [] (ToldPost l rs) := by
  have hA := EAll_spec A As c cs l rs I hl hs hr hw
  have hiff := relsE_iff hs hw
  refine FnSpec.enterP Try.func33 rfl Try.ntmps33 rfl fun w F => ?_
  unfold ToldPost tolE
  by_cases h0 : relsE l rs = 0
  case neg =>
    rw [if_neg h0, if_neg h0]
    generalize relsE l rs = er at h0 hA
    repeat' first
      | ((with_reducible refine Nx.is_wp ?_); first | refine Nx.wo ?_ | refine Nx.zp (fun hc => ?_) (fun hc => ?_))
      | (refine Nx.zo ?_; first | refine Nx.opr rfl rfl ?_ | (refine Nx.call (Rpre := []) rfl rfl rfl (by kernel_rfl) rfl hA (Ent.refl _) ?_; rintro _ _ ⟨Am, cm, qs, rfl, hqs, hql, rfl⟩) | refine Nx.so ?_ | refine Nx.sb (fun bx => ?_) | refine Nx.sa (fun A2 c2 => ?_))
      | ((with_reducible refine Nx.is_at ?_); first | refine Nx.a ?_ | refine Nx.zd ?_ | refine Nx.zs (fun hc => ?_) (fun hc => ?_))
      | ((with_reducible refine Nx.is_mix ?_); first | refine Nx.m ?_ | refine Nx.zm ?_ | refine Nx.zt (fun hc => ?_) (fun hc => ?_))
      | refine Nx.zx ?_ | fail
    exact Nx.ret_fn rfl _ ⟨none, 0, [], rfl, fun h => absurd h h0, fun _ => rfl, rfl⟩ (nil_eqs.trans (by (exact Ent.auto)))
  have hV := hiff.1 h0
  rw [if_pos h0] at hA
  rw [if_pos h0]
  rw [h0] at hA
  repeat' first
    | ((with_reducible refine Nx.is_wp ?_); first | refine Nx.p_stopr 4 rfl ?_ | refine Nx.wo ?_ | refine Nx.zp (fun hc => ?_) (fun hc => ?_))
    | (refine Nx.zo ?_; first | refine Nx.opr rfl rfl ?_ | (refine Nx.call (Rpre := []) rfl rfl rfl (by kernel_rfl) rfl hA (Ent.refl _) ?_; rintro _ _ ⟨Am, cm, qs, rfl, hqs, hql, rfl⟩) | refine Nx.so ?_ | refine Nx.sb (fun bx => ?_) | refine Nx.sa (fun A2 c2 => ?_))
    | ((with_reducible refine Nx.is_at ?_); first | refine Nx.a ?_ | refine Nx.zd ?_ | refine Nx.zs (fun hc => ?_) (fun hc => ?_))
    | ((with_reducible refine Nx.is_mix ?_); first | refine Nx.m ?_ | refine Nx.zm ?_ | refine Nx.zt (fun hc => ?_) (fun hc => ?_))
    | refine Nx.zx ?_ | fail
  refine Nx.unstop ?_
  have hF := fun (m I' : PH) (hle : PH.le I I') (hm : PH.le m I') (hv : Stars (eqsR Am cm qs) m) => (by
    obtain ⟨a0, ha0, b0⟩ := Stars.get 0 hv rfl
    obtain ⟨a1, ha1, b1⟩ := Stars.get 1 hv rfl
    exact First_spec (prod l) Am cm qs I' (eqs_of hm b0 ha0 b1 ha1) (allC_told hs hV hqs) : FnSpec Try.prog 46 [.int .i64 (prod l), .slice Am qs.length cm] I' [] (fun v R' => ∃ (A' : Option Addr) (c' : Nat), v = .tuple #[.slice A' (firstOf (prod l) qs).1.length c', .bool (firstOf (prod l) qs).2.1, .int .i64 (firstOf (prod l) qs).2.2] ∧ R' = [iR A' c' (firstOf (prod l) qs).1]))
  rw [first_err, cont_chk hqs] at hF
  have hqe : qsOf l rs = (rs.flatMap (told l)).map canonE := rfl
  rw [← hqe] at hF
  generalize chkQ (prod l) (qsOf l rs) = ck at hF
  by_cases hc : ck = 0
  · subst hc
    rw [if_pos rfl]
    repeat' first
      | ((with_reducible refine Nx.is_wp ?_); first | refine Nx.wo ?_ | refine Nx.zp (fun hc => ?_) (fun hc => ?_))
      | (refine Nx.zo ?_; first | refine Nx.opr rfl rfl ?_ | refine Nx.callv rfl rfl rfl (by kernel_rfl) rfl (Count_spec A c l _ hl hs) ?_ | (refine Nx.call rfl rfl rfl (by kernel_rfl) rfl (FnSpec.keep (eqsR Am cm qs) hF) (by (exact Ent.auto)) ?_; rintro _ _ ⟨_, ⟨A', c', rfl, rfl⟩, rfl⟩) | refine Nx.so ?_ | refine Nx.sb (fun bx => ?_) | refine Nx.sa (fun A2 c2 => ?_))
      | ((with_reducible refine Nx.is_at ?_); first | refine Nx.a ?_ | refine Nx.zd ?_ | refine Nx.zs (fun hc => ?_) (fun hc => ?_))
      | ((with_reducible refine Nx.is_mix ?_); first | refine Nx.m ?_ | refine Nx.zm ?_ | refine Nx.zt (fun hc => ?_) (fun hc => ?_))
      | refine Nx.zx ?_ | fail
    exact Nx.ret_fn rfl _ ⟨Am, cm, qs, rfl, fun _ => hqs, fun h => absurd rfl h, rfl⟩ (by (exact Ent.auto))
  · rw [if_neg hc]
    repeat' first
      | ((with_reducible refine Nx.is_wp ?_); first | refine Nx.wo ?_ | refine Nx.zp (fun hc => ?_) (fun hc => ?_))
      | (refine Nx.zo ?_; first | refine Nx.opr rfl rfl ?_ | refine Nx.callv rfl rfl rfl (by kernel_rfl) rfl (Count_spec A c l _ hl hs) ?_ | (refine Nx.call rfl rfl rfl (by kernel_rfl) rfl (FnSpec.keep (eqsR Am cm qs) hF) (by (exact Ent.auto)) ?_; rintro _ _ ⟨_, ⟨A', c', rfl, rfl⟩, rfl⟩) | refine Nx.so ?_ | refine Nx.sb (fun bx => ?_) | refine Nx.sa (fun A2 c2 => ?_))
      | ((with_reducible refine Nx.is_at ?_); first | refine Nx.a ?_ | refine Nx.zd ?_ | refine Nx.zs (fun hc => ?_) (fun hc => ?_))
      | ((with_reducible refine Nx.is_mix ?_); first | refine Nx.m ?_ | refine Nx.zm ?_ | refine Nx.zt (fun hc => ?_) (fun hc => ?_))
      | refine Nx.zx ?_ | fail
    exact Nx.ret_fn rfl _ ⟨none, 0, [], rfl, fun h => absurd h hc, fun _ => rfl, rfl⟩ (nil_eqs.trans (by (exact Ent.auto)))
theorem rows_vals {n : Nat} {f : Nat → List Int} {o : List Row} (h : o.map (·.2.2) = (List.range n).map f) : o.length = n ∧ ∀ k, k < n → (o.getD k default).2.2 = f k := by
  have hl : o.length = n := by have := congrArg List.length h; simpa using this
  refine ⟨hl, fun k hk => ?_⟩
  have := congrArg (·[k]?) h
  simp only [List.getElem?_map, List.getElem?_range hk, List.getElem?_eq_getElem (show k < o.length by omega), Option.map_some, Option.some.injEq] at this
  rw [List.getD_eq_getElem?_getD, List.getElem?_eq_getElem (show k < o.length by omega)]
  exact this
def certU (n : Nat) (L : List Eqn) (U : List Nat) : List Int := natI (U.filter fun k => decide ((valsOf n L k).length = 1))
def certL (n : Nat) (L : List Eqn) : List Int := certU n L (touch n L)
def certF (n : Nat) (L : List Eqn) : List Int × Int := if solsOf n L = [] then ([], 52) else (certL n L, 0)
theorem certU_snoc {n : Nat} {L : List Eqn} {U : List Nat} {k : Nat} (hk : k < U.length) : certU n L (U.take (k + 1)) = certU n L (U.take k) ++ if (valsOf n L (U.getD k 0)).length = 1 then [((U.getD k 0 : Nat) : Int)] else [] := by
  unfold certU natI
  rw [List.take_succ_eq_append_getElem hk, List.filter_append, List.map_append, List.getD_eq_getElem?_getD, List.getElem?_eq_getElem hk]
  congr 1
  show List.map Int.ofNat (List.filter _ [U[k]]) = _
  by_cases h : (valsOf n L U[k]).length = 1
  · rw [if_pos (by exact h), List.filter_cons_of_pos (by exact decide_eq_true h)]; rfl
  · rw [if_neg (by exact h), List.filter_cons_of_neg (by rw [decide_eq_true_eq]; exact h)]; rfl
theorem certU_len {n : Nat} {L : List Eqn} (U : List Nat) : (certU n L U).length ≤ U.length := by unfold certU natI; rw [List.length_map]; exact List.length_filter_le _ _
set_option maxRecDepth 10000 in
set_option maxHeartbeats 16000000 in
theorem certain_spec (A : Option Addr) (c : Nat) (l : List EqR) (n : Nat) (I : PH) (hl : Eqs I A c l) (hg : ∀ q ∈ l, GoodE n q) (hn1 : 1 ≤ n) (hn : n ≤ 4096) (h9 : (allC l).length ≤ 1000000) :
    FnSpec Try.prog 34 [.int .i64 (n : Int), .slice A l.length c] I [] (fun u R' => ∃ (A' : Option Addr) (c' : Nat), u = .tuple #[.slice A' (certF n (eqns l)).1.length c', .int .i64 (certF n (eqns l)).2] ∧ R' = [iR A' c' (certF n (eqns l)).1]) := by
  have hV := values_spec A c l n I hl hg hn1 hn h9
  unfold ValsPost at hV
  have hlen := hl.len
  refine FnSpec.enterP Try.func34 rfl Try.ntmps34 rfl fun w F => ?_
  unfold certF
  by_cases hS : solsOf n (eqns l) = []
  · rw [if_pos hS] at hV ⊢
    repeat' first
      | ((with_reducible refine Nx.is_wp ?_); first | refine Nx.wo ?_ | refine Nx.zp (fun hc => ?_) (fun hc => ?_))
      | (refine Nx.zo ?_; first | refine Nx.opr rfl rfl ?_ | (refine Nx.call (Rpre := []) rfl rfl rfl (by kernel_rfl) rfl hV (Ent.refl _) ?_; rintro _ _ ⟨Av, cv, o, ho, rfl, rfl⟩; obtain rfl : o = [] := List.map_eq_nil_iff.1 ho) | refine Nx.so ?_ | refine Nx.sb (fun bx => ?_) | refine Nx.sa (fun A2 c2 => ?_))
      | ((with_reducible refine Nx.is_at ?_); first | refine Nx.a ?_ | refine Nx.zd ?_ | refine Nx.zs (fun hc => ?_) (fun hc => ?_))
      | ((with_reducible refine Nx.is_mix ?_); first | refine Nx.m ?_ | refine Nx.zm ?_ | refine Nx.zt (fun hc => ?_) (fun hc => ?_))
      | refine Nx.zx ?_ | fail
    exact Nx.ret_fn rfl [_] ⟨none, 0, rfl, rfl⟩ ((Ent.vec_nil 3 1 _).trans (by (exact Ent.auto)))
  rw [if_neg hS] at hV ⊢
  repeat' first
    | ((with_reducible refine Nx.is_wp ?_); first | refine Nx.p_stopr 4 rfl ?_ | refine Nx.wo ?_ | refine Nx.zp (fun hc => ?_) (fun hc => ?_))
    | (refine Nx.zo ?_; first | refine Nx.opr rfl rfl ?_ | (refine Nx.call (Rpre := []) rfl rfl rfl (by kernel_rfl) rfl hV (Ent.refl _) ?_; rintro _ _ ⟨Av, cv, o, ho, rfl, rfl⟩; obtain ⟨hol, hov⟩ := rows_vals ho) | refine Nx.so ?_ | refine Nx.sb (fun bx => ?_) | refine Nx.sa (fun A2 c2 => ?_))
    | ((with_reducible refine Nx.is_at ?_); first | refine Nx.a ?_ | refine Nx.zd ?_ | refine Nx.zs (fun hc => ?_) (fun hc => ?_))
    | ((with_reducible refine Nx.is_mix ?_); first | refine Nx.m ?_ | refine Nx.zm ?_ | refine Nx.zt (fun hc => ?_) (fun hc => ?_))
    | refine Nx.zx ?_ | fail
  refine Nx.unstop ?_
  refine Nx.giveRows (A := Av) (c := cv) (o := o) (RR := [F]) (Ent.stars) fun I1 hI1 hro => ?_
  have hT := Touched_spec A c l n I1 (hl.mono hI1) hg h9
  have hmem := fun k (hk : k < (touch n (eqns l)).length) => (mem_touch.1 (idx_at (touch_nd n (eqns l)) hk).1).1
  have hul : (touch n (eqns l)).length ≤ n := touch_len n (eqns l)
  unfold certL
  generalize touch n (eqns l) = U at hT hmem hul
  repeat' first
    | ((with_reducible refine Nx.is_wp ?_); first | refine Nx.wo ?_ | refine Nx.zp (fun hc => ?_) (fun hc => ?_))
    | (refine Nx.zo ?_; first | refine Nx.opr rfl rfl ?_ | (refine Nx.call (Rpre := []) rfl rfl rfl (by kernel_rfl) rfl hT (Ent.refl _) ?_; rintro _ _ ⟨At, ct, rfl, rfl⟩) | refine Nx.so ?_ | refine Nx.sb (fun bx => ?_) | refine Nx.sa (fun A2 c2 => ?_))
    | ((with_reducible refine Nx.is_at ?_); first | refine Nx.a ?_ | refine Nx.zd ?_ | refine Nx.zs (fun hc => ?_) (fun hc => ?_))
    | ((with_reducible refine Nx.is_mix ?_); first | refine Nx.m ?_ | refine Nx.zm ?_ | refine Nx.zt (fun hc => ?_) (fun hc => ?_))
    | refine Nx.zx ?_ | fail
  refine Nx.p_loop (σ := Nat × Option Addr × Nat) (fun s => [(6, .slice Av o.length cv), (7, .slice s.2.1 (certU n (eqns l) (U.take s.1)).length s.2.2), (18, .slice At U.length ct), (19, .int .i64 U.length), (20, .int .i64 (s.1 : Int))])
    (fun s => [iR At ct (natI U), iR s.2.1 s.2.2 (certU n (eqns l) (U.take s.1)), F]) (fun s => s.1 ≤ U.length) (fun s => U.length - s.1) (0, none, 0) rfl (Nat.zero_le _) ⟨rfl, rfl, rfl, rfl, rfl, trivial⟩ ((Ent.vec_nil 3 1 _).trans (by (exact Ent.auto))) ?_
  rintro ⟨k, A1, c1⟩ hk
  dsimp only at hk ⊢
  by_cases hkl : k < U.length
  case neg =>
    rw [List.take_of_length_le (by omega)]
    repeat' first
      | ((with_reducible refine Nx.is_wp ?_); first | refine Nx.wo ?_ | refine Nx.zp (fun hc => ?_) (fun hc => ?_))
      | (refine Nx.zo ?_; first | refine Nx.opr rfl rfl ?_ | refine Nx.so ?_ | refine Nx.sb (fun bx => ?_) | refine Nx.sa (fun A2 c2 => ?_))
      | ((with_reducible refine Nx.is_at ?_); first | refine Nx.a ?_ | refine Nx.zd ?_ | refine Nx.zs (fun hc => ?_) (fun hc => ?_))
      | ((with_reducible refine Nx.is_mix ?_); first | refine Nx.m ?_ | refine Nx.zm ?_ | refine Nx.zt (fun hc => ?_) (fun hc => ?_))
      | refine Nx.zx ?_ | fail
    exact Nx.imm_le hI1 (Nx.ret_fn rfl [_] ⟨A1, c1, rfl, rfl⟩ (by (exact Ent.auto)))
  have hyn := hmem k hkl
  have hcr : ∀ (W : World) (R : List Res), Rd W I1 (iR At ct (natI U) :: R) ((ad At).add (k * 1)) (.int .i64 ((U.getD k 0 : Nat) : Int)) := fun W R => by
    have h := Rd.vecEl (W := W) (I := I1) (R := iR At ct (natI U) :: R) 0 (f := Value.int .i64) (l := natI U) (i := k) rfl (by rw [List.length_map]; exact hkl)
    rw [nat_at hkl] at h
    exact h
  have hsn := certU_snoc (n := n) (L := eqns l) hkl
  have hcl := certU_len (n := n) (L := eqns l) (U.take k)
  rw [List.length_take] at hcl
  generalize U.getD k 0 = y at hyn hcr hsn
  have hoy := hov y hyn
  have hrr : ∀ (W : World) (R : List Res), Rd W I1 R ((ad Av).add (y * 1)) (rowV (o.getD y default)) := fun W R => hro.outer.rd (by omega)
  generalize o.getD y default = rw' at hoy hrr
  obtain ⟨Ay, cy, row⟩ := rw'
  dsimp only at hoy
  replace hrr : ∀ (W : World) (R : List Res), Rd W I1 R ((ad Av).add (y * 1)) (.slice Ay row.length cy) := hrr
  subst hoy
  generalize valsOf n (eqns l) y = vy at hrr hsn
  generalize certU n (eqns l) (U.take k) = ac at hsn hcl ⊢
  refine Nx.vec_fact fun _ hv2 _ hAt => ?_
  rw [List.length_map] at hv2 hAt
  by_cases h1 : vy.length = 1
  · rw [if_pos h1] at hsn
    repeat' first
      | ((with_reducible refine Nx.is_wp ?_); first | refine Nx.wo ?_ | refine Nx.zp (fun hc => ?_) (fun hc => ?_))
      | (refine Nx.zo ?_; first | refine Nx.opr rfl rfl ?_ | refine Nx.indexAddr_nat (A := At) (i := k) (sz := 1) rfl rfl rfl rfl rfl hkl (hAt (by omega)) ?_ | refine Nx.load rfl rfl rfl (hcr _ _) ?_ | refine Nx.indexAddr_nat (A := Av) (i := y) (sz := 1) rfl rfl rfl rfl rfl (by omega) (hro.outer.isSome (by omega)) ?_ | refine Nx.load rfl rfl rfl (hrr _ _) ?_ | refine Nx.so ?_ | refine Nx.sb (fun bx => ?_) | refine Nx.sa (fun A2 c2 => ?_))
      | ((with_reducible refine Nx.is_at ?_); first | refine Nx.a ?_ | refine Nx.zd ?_ | refine Nx.zs (fun hc => ?_) (fun hc => ?_))
      | ((with_reducible refine Nx.is_mix ?_); first | refine Nx.m ?_ | refine Nx.zm ?_ | refine Nx.zt (fun hc => ?_) (fun hc => ?_))
      | refine Nx.zx ?_ | fail
    refine Nx.again (k + 1, A2, c2) hkl (by dsimp only; omega) ⟨rfl, by dsimp only; rw [hsn, List.length_append]; rfl, rfl, rfl, rfl, trivial⟩ ?_
    dsimp only
    rw [hsn]
    unfold iR
    rw [List.length_append (bs := [_]), List.length_singleton, List.map_append]
    (exact Ent.auto)
  · rw [if_neg h1, List.append_nil] at hsn
    repeat' first
      | ((with_reducible refine Nx.is_wp ?_); first | refine Nx.wo ?_ | refine Nx.zp (fun hc => ?_) (fun hc => ?_))
      | (refine Nx.zo ?_; first | refine Nx.opr rfl rfl ?_ | refine Nx.indexAddr_nat (A := At) (i := k) (sz := 1) rfl rfl rfl rfl rfl hkl (hAt (by omega)) ?_ | refine Nx.load rfl rfl rfl (hcr _ _) ?_ | refine Nx.indexAddr_nat (A := Av) (i := y) (sz := 1) rfl rfl rfl rfl rfl (by omega) (hro.outer.isSome (by omega)) ?_ | refine Nx.load rfl rfl rfl (hrr _ _) ?_ | refine Nx.so ?_ | refine Nx.sb (fun bx => ?_) | refine Nx.sa (fun A2 c2 => ?_))
      | ((with_reducible refine Nx.is_at ?_); first | refine Nx.a ?_ | refine Nx.zd ?_ | refine Nx.zs (fun hc => ?_) (fun hc => ?_))
      | ((with_reducible refine Nx.is_mix ?_); first | refine Nx.m ?_ | refine Nx.zm ?_ | refine Nx.zt (fun hc => ?_) (fun hc => ?_))
      | refine Nx.zx ?_ | fail
    exact Nx.again (k + 1, A1, c1) hkl (by dsimp only; omega) ⟨rfl, by dsimp only; rw [hsn]; rfl, rfl, rfl, rfl, trivial⟩ (by dsimp only; rw [hsn]; (exact Ent.auto))
end Go.Proofs.Ytcmdemfhbekabaa
/- Contracts of functions of the given program, and lemmas about plain lists and numbers: what the laws of this seat lean on. -/
namespace Go.Proofs.Ytcmdemfhbekabaa
open Go.Eng Go.Sol
attribute [local irreducible] opK wpList Code.wp Exit.then Exit.inBlock fnPost bodyPost Nx Calls Oper.wp Rd Rds Wr Ent Stars Blk Again Vec FnSpec wpMix QRun Stop Upto wpAt
/-! Certain, Values -/
def cerD (l : List Int) (rs : List Rel) : List Int × Int := if tolE l rs = 0 then certF (prod l).toNat (eqns (qsOf l rs)) else ([], tolE l rs)
def valF (n : Nat) (L : List Eqn) (k : Int) : List Int × Int := if k < 0 ∨ (n : Int) ≤ k then ([], 2) else if solsOf n L = [] then ([], 52) else if k.toNat ∈ touch n L then (valsOf n L k.toNat, 0) else ([], 21)
def valD (l : List Int) (rs : List Rel) (k : Int) : List Int × Int := if tolE l rs = 0 then valF (prod l).toNat (eqns (qsOf l rs)) k else ([], tolE l rs)
theorem Nx.giveE {C : Cx} {e : Env} {I : PH} {R : List Res} {K : Act → World → Prop} {A : Option Addr} {c : Nat} {qs : List EqR} {RR : List Res}
    (hR : Ent R (eqsR A c qs ++ RR)) (h : ∀ I', PH.le I I' → Eqs I' A c qs → Nx C e I' RR K) : Nx C e I R K := by
  refine Nx.ent (hR.trans Ent.stars) ?_
  refine Nx.freezeAt 0 rfl fun I1 m1 hI1 hm1 h1 => ?_
  obtain ⟨a0, ha0, b0⟩ := Stars.get 0 h1 rfl
  obtain ⟨a1, ha1, b1⟩ := Stars.get 1 h1 rfl
  exact h I1 hI1 (eqs_of hm1 b0 ha0 b1 ha1)
/-- What is known of equations that releases tell. -/
structure ToldQ (l : List Int) (rs : List Rel) (qs : List EqR) : Prop where
  good : ∀ q ∈ qs, GoodE (prod l).toNat q
  all : (allC qs).length ≤ 100000
  eq : eqns qs = eqns (qsOf l rs)
theorem told_q {l : List Int} {rs : List Rel} {qs : List EqR} (hs : Sizes l) (hw : ∀ r ∈ rs, Viewed l r.v) (h0 : tolE l rs = 0) (h : qs.map cont = rs.flatMap (told l)) : ToldQ l rs qs := by
  have hV := (relsE_iff hs hw).1 (tolE_ok h0).1
  exact ⟨cont_good h (told_good hs hV), allC_told hs hV h, cont_eqns h⟩
set_option maxRecDepth 10000 in
set_option maxHeartbeats 8000000 in
theorem Certain_spec (A As : Option Addr) (c cs : Nat) (l : List Int) (rs : List Rel) (I : PH) (hl : Ints I A c l) (hs : Sizes l) (hr : Rels I As cs rs) (hw : ∀ r ∈ rs, Viewed l r.v) :
    FnSpec Try.prog 16 [.agg #[.slice A l.length c], .slice As rs.length cs] I [] (fun u R' => ∃ (A' : Option Addr) (c' : Nat), u = .tuple #[.slice A' (cerD l rs).1.length c', .int .i64 (cerD l rs).2] ∧ R' = [iR A' c' (cerD l rs).1]) := by
  have hT := atold_spec A As c cs l rs I hl hs hr hw
  unfold ToldPost at hT
  have hz := size_ok hs
  have hq := fun qs (h0 : tolE l rs = 0) => told_q (qs := qs) hs hw h0
  refine FnSpec.enterP Try.func16 rfl Try.ntmps16 rfl fun w F => ?_
  unfold cerD
  by_cases h0 : tolE l rs = 0
  · rw [if_pos h0]
    rw [h0] at hT
    rw [if_pos rfl] at hT
    repeat' first
      | ((with_reducible refine Nx.is_wp ?_); first | refine Nx.p_stopr 4 rfl ?_ | refine Nx.wo ?_ | refine Nx.zp (fun hc => ?_) (fun hc => ?_))
      | (refine Nx.zo ?_; first | refine Nx.opr rfl rfl ?_ | (refine Nx.call (Rpre := []) rfl rfl rfl (by kernel_rfl) rfl hT (Ent.refl _) ?_; rintro _ _ ⟨Am, cm, qs, rfl, hqs, -, rfl⟩) | refine Nx.so ?_ | refine Nx.sb (fun bx => ?_) | refine Nx.sa (fun A2 c2 => ?_))
      | ((with_reducible refine Nx.is_at ?_); first | refine Nx.a ?_ | refine Nx.zd ?_ | refine Nx.zs (fun hc => ?_) (fun hc => ?_))
      | ((with_reducible refine Nx.is_mix ?_); first | refine Nx.m ?_ | refine Nx.zm ?_ | refine Nx.zt (fun hc => ?_) (fun hc => ?_))
      | refine Nx.zx ?_ | fail
    refine Nx.unstop ?_
    obtain ⟨hg, ha, he⟩ := hq qs h0 (hqs rfl)
    refine Nx.giveE (A := Am) (c := cm) (qs := qs) (RR := [F]) (by (exact Ent.auto)) fun I1 hI1 hE => ?_
    have hC := certain_spec Am cm qs (prod l).toNat I1 hE hg hz.1 (by omega) (by omega)
    rw [he, hz.2.2] at hC
    repeat' first
      | ((with_reducible refine Nx.is_wp ?_); first | refine Nx.wo ?_ | refine Nx.zp (fun hc => ?_) (fun hc => ?_))
      | (refine Nx.zo ?_; first | refine Nx.opr rfl rfl ?_ | (refine Nx.call (Rpre := []) rfl rfl rfl (by kernel_rfl) rfl hC (Ent.refl _) ?_; rintro _ _ ⟨A', c', rfl, rfl⟩) | refine Nx.so ?_ | refine Nx.sb (fun bx => ?_) | refine Nx.sa (fun A2 c2 => ?_))
      | ((with_reducible refine Nx.is_at ?_); first | refine Nx.a ?_ | refine Nx.zd ?_ | refine Nx.zs (fun hc => ?_) (fun hc => ?_))
      | ((with_reducible refine Nx.is_mix ?_); first | refine Nx.m ?_ | refine Nx.zm ?_ | refine Nx.zt (fun hc => ?_) (fun hc => ?_))
      | refine Nx.zx ?_ | fail
    exact Nx.imm_le hI1 (Nx.ret_fn rfl [_] ⟨A', c', rfl, rfl⟩ (by (exact Ent.auto)))
  · rw [if_neg h0]
    rw [if_neg h0] at hT
    generalize tolE l rs = er at h0 hT
    repeat' first
      | ((with_reducible refine Nx.is_wp ?_); first | refine Nx.wo ?_ | refine Nx.zp (fun hc => ?_) (fun hc => ?_))
      | (refine Nx.zo ?_; first | refine Nx.opr rfl rfl ?_ | (refine Nx.call (Rpre := []) rfl rfl rfl (by kernel_rfl) rfl hT (Ent.refl _) ?_; rintro _ _ ⟨Am, cm, qs, rfl, -, hqs, rfl⟩) | refine Nx.so ?_ | refine Nx.sb (fun bx => ?_) | refine Nx.sa (fun A2 c2 => ?_))
      | ((with_reducible refine Nx.is_at ?_); first | refine Nx.a ?_ | refine Nx.zd ?_ | refine Nx.zs (fun hc => ?_) (fun hc => ?_))
      | ((with_reducible refine Nx.is_mix ?_); first | refine Nx.m ?_ | refine Nx.zm ?_ | refine Nx.zt (fun hc => ?_) (fun hc => ?_))
      | refine Nx.zx ?_ | fail
    exact Nx.ret_fn rfl [_] ⟨none, 0, rfl, rfl⟩ ((Ent.vec_nil 3 1 _).trans (by (exact Ent.auto)))
set_option maxRecDepth 10000 in
set_option maxHeartbeats 16000000 in
theorem Values_spec (A As : Option Addr) (c cs : Nat) (l : List Int) (rs : List Rel) (k : Int) (I : PH) (hl : Ints I A c l) (hs : Sizes l) (hr : Rels I As cs rs) (hw : ∀ r ∈ rs, Viewed l r.v) :
    FnSpec Try.prog 38 [.agg #[.slice A l.length c], .slice As rs.length cs, .int .i64 k] I [] (fun u R' => ∃ (A' : Option Addr) (c' : Nat), u = .tuple #[.slice A' (valD l rs k).1.length c', .int .i64 (valD l rs k).2] ∧ R' = [iR A' c' (valD l rs k).1]) := by
  have hT := atold_spec A As c cs l rs I hl hs hr hw
  unfold ToldPost at hT
  have hz := size_ok hs
  have hq := fun qs (h0 : tolE l rs = 0) => told_q (qs := qs) hs hw h0
  refine FnSpec.enterP Try.func38 rfl Try.ntmps38 rfl fun w F => ?_
  unfold valD
  by_cases h0 : tolE l rs = 0
  case neg =>
    rw [if_neg h0]
    rw [if_neg h0] at hT
    generalize tolE l rs = er at h0 hT
    repeat' first
      | ((with_reducible refine Nx.is_wp ?_); first | refine Nx.wo ?_ | refine Nx.zp (fun hc => ?_) (fun hc => ?_))
      | (refine Nx.zo ?_; first | refine Nx.opr rfl rfl ?_ | (refine Nx.call (Rpre := []) rfl rfl rfl (by kernel_rfl) rfl hT (Ent.refl _) ?_; rintro _ _ ⟨Am, cm, qs, rfl, -, hqs, rfl⟩) | refine Nx.so ?_ | refine Nx.sb (fun bx => ?_) | refine Nx.sa (fun A2 c2 => ?_))
      | ((with_reducible refine Nx.is_at ?_); first | refine Nx.a ?_ | refine Nx.zd ?_ | refine Nx.zs (fun hc => ?_) (fun hc => ?_))
      | ((with_reducible refine Nx.is_mix ?_); first | refine Nx.m ?_ | refine Nx.zm ?_ | refine Nx.zt (fun hc => ?_) (fun hc => ?_))
      | refine Nx.zx ?_ | fail
    exact Nx.ret_fn rfl [_] ⟨none, 0, rfl, rfl⟩ ((Ent.vec_nil 3 1 _).trans (by (exact Ent.auto)))
  rw [if_pos h0]
  rw [h0] at hT
  rw [if_pos rfl] at hT
  repeat' first
    | ((with_reducible refine Nx.is_wp ?_); first | refine Nx.p_stopr 4 rfl ?_ | refine Nx.wo ?_ | refine Nx.zp (fun hc => ?_) (fun hc => ?_))
    | (refine Nx.zo ?_; first | refine Nx.opr rfl rfl ?_ | (refine Nx.call (Rpre := []) rfl rfl rfl (by kernel_rfl) rfl hT (Ent.refl _) ?_; rintro _ _ ⟨Am, cm, qs, rfl, hqs, -, rfl⟩) | refine Nx.so ?_ | refine Nx.sb (fun bx => ?_) | refine Nx.sa (fun A2 c2 => ?_))
    | ((with_reducible refine Nx.is_at ?_); first | refine Nx.a ?_ | refine Nx.zd ?_ | refine Nx.zs (fun hc => ?_) (fun hc => ?_))
    | ((with_reducible refine Nx.is_mix ?_); first | refine Nx.m ?_ | refine Nx.zm ?_ | refine Nx.zt (fun hc => ?_) (fun hc => ?_))
    | refine Nx.zx ?_ | fail
  refine Nx.unstop ?_
  obtain ⟨hg, ha, he⟩ := hq qs h0 (hqs rfl)
  refine Nx.ent (R' := eqsR Am cm qs ++ [F]) (by (exact Ent.auto)) ?_
  refine Nx.giveE (A := Am) (c := cm) (qs := qs) (RR := [F]) (Ent.refl _) fun I1 hI1 hE => ?_
  have hVs := values_spec Am cm qs (prod l).toNat I1 hE hg hz.1 (by omega) (by omega)
  have hTo := Touched_spec Am cm qs (prod l).toNat I1 hE hg (by omega)
  unfold ValsPost at hVs
  rw [he] at hVs hTo
  have hnN := hz.2.2
  have hz1 := hz.1
  have hz2 := hz.2.1
  clear hz hq hT hqs hg ha
  generalize (prod l).toNat = n at hVs hTo hz1 hz2 hnN ⊢
  rw [← hnN]
  generalize eqns (qsOf l rs) = L at hVs hTo ⊢
  unfold valF
  by_cases hk0 : k < 0
  · rw [if_pos (.inl hk0)]
    repeat' first
      | ((with_reducible refine Nx.is_wp ?_); first | refine Nx.wo ?_ | refine Nx.zp (fun hc => ?_) (fun hc => ?_))
      | (refine Nx.zo ?_; first | refine Nx.opr rfl rfl ?_ | refine Nx.so ?_ | refine Nx.sb (fun bx => ?_) | refine Nx.sa (fun A2 c2 => ?_))
      | ((with_reducible refine Nx.is_at ?_); first | refine Nx.a ?_ | refine Nx.zd ?_ | refine Nx.zs (fun hc => ?_) (fun hc => ?_))
      | ((with_reducible refine Nx.is_mix ?_); first | refine Nx.m ?_ | refine Nx.zm ?_ | refine Nx.zt (fun hc => ?_) (fun hc => ?_))
      | refine Nx.zx ?_ | fail
    exact Nx.imm_le hI1 (Nx.ret_fn rfl [_] ⟨none, 0, rfl, rfl⟩ ((Ent.vec_nil 3 1 _).trans (by (exact Ent.auto))))
  by_cases hkn : (n : Int) ≤ k
  · rw [if_pos (.inr hkn)]
    repeat' first
      | ((with_reducible refine Nx.is_wp ?_); first | refine Nx.wo ?_ | refine Nx.zp (fun hc => ?_) (fun hc => ?_))
      | (refine Nx.zo ?_; first | refine Nx.opr rfl rfl ?_ | refine Nx.so ?_ | refine Nx.sb (fun bx => ?_) | refine Nx.sa (fun A2 c2 => ?_))
      | ((with_reducible refine Nx.is_at ?_); first | refine Nx.a ?_ | refine Nx.zd ?_ | refine Nx.zs (fun hc => ?_) (fun hc => ?_))
      | ((with_reducible refine Nx.is_mix ?_); first | refine Nx.m ?_ | refine Nx.zm ?_ | refine Nx.zt (fun hc => ?_) (fun hc => ?_))
      | refine Nx.zx ?_ | fail
    exact Nx.imm_le hI1 (Nx.ret_fn rfl [_] ⟨none, 0, rfl, rfl⟩ ((Ent.vec_nil 3 1 _).trans (by (exact Ent.auto))))
  rw [if_neg (by omega)]
  obtain ⟨y, rfl⟩ : ∃ y : Nat, k = y := ⟨k.toNat, by omega⟩
  rw [Int.toNat_natCast]
  have hyn : y < n := by omega
  by_cases hS : solsOf n L = []
  · rw [if_pos hS] at hVs ⊢
    repeat' first
      | ((with_reducible refine Nx.is_wp ?_); first | refine Nx.wo ?_ | refine Nx.zp (fun hc => ?_) (fun hc => ?_))
      | (refine Nx.zo ?_; first | refine Nx.opr rfl rfl ?_ | (refine Nx.call (Rpre := []) rfl rfl rfl (by kernel_rfl) rfl hVs (Ent.refl _) ?_; rintro _ _ ⟨Av, cv, o, ho, rfl, rfl⟩; obtain rfl : o = [] := List.map_eq_nil_iff.1 ho) | refine Nx.so ?_ | refine Nx.sb (fun bx => ?_) | refine Nx.sa (fun A2 c2 => ?_))
      | ((with_reducible refine Nx.is_at ?_); first | refine Nx.a ?_ | refine Nx.zd ?_ | refine Nx.zs (fun hc => ?_) (fun hc => ?_))
      | ((with_reducible refine Nx.is_mix ?_); first | refine Nx.m ?_ | refine Nx.zm ?_ | refine Nx.zt (fun hc => ?_) (fun hc => ?_))
      | refine Nx.zx ?_ | fail
    exact Nx.imm_le hI1 (Nx.ret_fn rfl [_] ⟨none, 0, rfl, rfl⟩ ((Ent.vec_nil 3 1 _).trans (by (exact Ent.auto))))
  rw [if_neg hS] at hVs ⊢
  have hCn := fun (At : Option Addr) (ct : Nat) (m I' : PH) (_ : PH.le I1 I') (hm : PH.le m I') (hv : Stars [iR At ct ((touch n L).map Int.ofNat)] m) => (by
    obtain ⟨a0, ha0, b0⟩ := Stars.get 0 hv rfl
    have := ContainsI_spec At ct ((touch n L).map Int.ofNat) (y : Int) I' (Vec.sliceOf (ha0.trans hm) b0)
    rw [List.length_map, show decide ((y : Int) ∈ (touch n L).map Int.ofNat) = decide (y ∈ touch n L) from decide_eq_decide.2 ⟨fun h => by
      obtain ⟨x, hx, he⟩ := List.mem_map.1 h
      have he : (x : Int) = y := he
      rw [show y = x by omega]; exact hx, fun h => List.mem_map.2 ⟨y, h, rfl⟩⟩] at this
    exact this : FnSpec Try.prog 37 [.slice At (touch n L).length ct, .int .i64 (y : Int)] I' [] (fun v R' => v = .bool (decide (y ∈ touch n L)) ∧ R' = []))
  by_cases hy : y ∈ touch n L
  · rw [if_pos hy]
    rw [decide_eq_true hy] at hCn
    repeat' first
      | ((with_reducible refine Nx.is_wp ?_); first | refine Nx.p_stopr 11 rfl ?_ | refine Nx.wo ?_ | refine Nx.zp (fun hc => ?_) (fun hc => ?_))
      | (refine Nx.zo ?_; first | refine Nx.opr rfl rfl ?_ | (refine Nx.call (Rpre := []) rfl rfl rfl (by kernel_rfl) rfl hVs (Ent.refl _) ?_; rintro _ _ ⟨Av, cv, o, ho, rfl, rfl⟩; obtain ⟨hol, hov⟩ := rows_vals ho) | (refine Nx.call (Rpre := []) rfl rfl rfl (by kernel_rfl) rfl hTo (Ent.refl _) ?_; rintro _ _ ⟨At, ct, rfl, rfl⟩) | (refine Nx.call rfl rfl rfl (by kernel_rfl) rfl (FnSpec.keep [iR _ _ ((touch n L).map Int.ofNat)] (hCn _ _)) (by (exact Ent.auto)) ?_; rintro _ _ ⟨_, ⟨rfl, rfl⟩, rfl⟩) | refine Nx.so ?_ | refine Nx.sb (fun bx => ?_) | refine Nx.sa (fun A2 c2 => ?_))
      | ((with_reducible refine Nx.is_at ?_); first | refine Nx.a ?_ | refine Nx.zd ?_ | refine Nx.zs (fun hc => ?_) (fun hc => ?_))
      | ((with_reducible refine Nx.is_mix ?_); first | refine Nx.m ?_ | refine Nx.zm ?_ | refine Nx.zt (fun hc => ?_) (fun hc => ?_))
      | refine Nx.zx ?_ | fail
    refine Nx.unstop ?_
    have hoy := hov y hyn
    have hgt := row_getw (o := o) (k := y) (by omega)
    refine Nx.ent (R' := [Stars (o.map rwR), Vec 25 1 Av o.length cv (o.map rowV), F]) (by (exact Ent.auto)) ?_
    refine Nx.ent (Ent.takeOut y hgt) ?_
    refine Nx.ent (R' := [Vec 25 1 Av o.length cv (o.map rowV), rwR (o.getD y default), F]) (by (exact Ent.auto)) ?_
    refine Nx.vec_fact fun _ _ _ hAv => ?_
    have hrr : ∀ (W : World) (R : List Res), Rd W I1 (Vec 25 1 Av o.length cv (o.map rowV) :: R) ((ad Av).add (y * 1)) (rowV (o.getD y default)) := fun W R => Rd.vecEl 0 (f := rowV) (l := o) (i := y) rfl (by omega)
    generalize o.getD y default = rw' at hoy hrr
    obtain ⟨Ay, cy, row⟩ := rw'
    dsimp only at hoy
    replace hrr : ∀ (W : World) (R : List Res), Rd W I1 (Vec 25 1 Av o.length cv (o.map rowV) :: R) ((ad Av).add (y * 1)) (.slice Ay row.length cy) := hrr
    subst hoy
    repeat' first
      | ((with_reducible refine Nx.is_wp ?_); first | refine Nx.wo ?_ | refine Nx.zp (fun hc => ?_) (fun hc => ?_))
      | (refine Nx.zo ?_; first | refine Nx.opr rfl rfl ?_ | refine Nx.indexAddr_nat (A := Av) (i := y) (sz := 1) rfl rfl rfl rfl rfl (by omega) (hAv (by omega)) ?_ | refine Nx.load rfl rfl rfl (hrr _ _) ?_ | refine Nx.so ?_ | refine Nx.sb (fun bx => ?_) | refine Nx.sa (fun A2 c2 => ?_))
      | ((with_reducible refine Nx.is_at ?_); first | refine Nx.a ?_ | refine Nx.zd ?_ | refine Nx.zs (fun hc => ?_) (fun hc => ?_))
      | ((with_reducible refine Nx.is_mix ?_); first | refine Nx.m ?_ | refine Nx.zm ?_ | refine Nx.zt (fun hc => ?_) (fun hc => ?_))
      | refine Nx.zx ?_ | fail
    exact Nx.imm_le hI1 (Nx.ret_fn rfl [_] ⟨Ay, cy, rfl, rfl⟩ (by unfold rwR; (exact Ent.auto)))
  · rw [if_neg hy]
    rw [decide_eq_false hy] at hCn
    repeat' first
      | ((with_reducible refine Nx.is_wp ?_); first | refine Nx.wo ?_ | refine Nx.zp (fun hc => ?_) (fun hc => ?_))
      | (refine Nx.zo ?_; first | refine Nx.opr rfl rfl ?_ | (refine Nx.call (Rpre := []) rfl rfl rfl (by kernel_rfl) rfl hVs (Ent.refl _) ?_; rintro _ _ ⟨Av, cv, o, ho, rfl, rfl⟩; obtain ⟨hol, hov⟩ := rows_vals ho) | (refine Nx.call (Rpre := []) rfl rfl rfl (by kernel_rfl) rfl hTo (Ent.refl _) ?_; rintro _ _ ⟨At, ct, rfl, rfl⟩) | (refine Nx.call rfl rfl rfl (by kernel_rfl) rfl (FnSpec.keep [iR _ _ ((touch n L).map Int.ofNat)] (hCn _ _)) (by (exact Ent.auto)) ?_; rintro _ _ ⟨_, ⟨rfl, rfl⟩, rfl⟩) | refine Nx.so ?_ | refine Nx.sb (fun bx => ?_) | refine Nx.sa (fun A2 c2 => ?_))
      | ((with_reducible refine Nx.is_at ?_); first | refine Nx.a ?_ | refine Nx.zd ?_ | refine Nx.zs (fun hc => ?_) (fun hc => ?_))
      | ((with_reducible refine Nx.is_mix ?_); first | refine Nx.m ?_ | refine Nx.zm ?_ | refine Nx.zt (fun hc => ?_) (fun hc => ?_))
      | refine Nx.zx ?_ | fail
    exact Nx.imm_le hI1 (Nx.ret_fn rfl [_] ⟨none, 0, rfl, rfl⟩ ((Ent.vec_nil 3 1 _).trans (by (exact Ent.auto))))
end Go.Proofs.Ytcmdemfhbekabaa
/- Contracts of functions of the given program, and lemmas about plain lists and numbers: what the laws of this seat lean on. -/
namespace Go.Proofs.Ytcmdemfhbekabaa
open Go.Eng Go.Sol
attribute [local irreducible] opK wpList Code.wp Exit.then Exit.inBlock fnPost bodyPost Nx Calls Oper.wp Rd Rds Wr Ent Stars Blk Again Vec FnSpec wpMix QRun Stop Upto wpAt
/-! Differencing: checks, narrow reaches -/
def narrowB (x : Rch) (m : Int) : Bool := !x.2.2 && decide (x.2.1 - x.1 < m)
end Go.Proofs.Ytcmdemfhbekabaa
/- Contracts of functions of the given program, and lemmas about plain lists and numbers: what the laws of this seat lean on. -/
namespace Go.Proofs.Ytcmdemfhbekabaa
open Go.Eng Go.Sol
attribute [local irreducible] opK wpList Code.wp Exit.then Exit.inBlock fnPost bodyPost Nx Calls Oper.wp Rd Rds Wr Ent Stars Blk Again Vec FnSpec wpMix QRun Stop Upto wpAt
/-! Exposed cells -/
abbrev Exp := Int × Rch × Int
end Go.Proofs.Ytcmdemfhbekabaa
/- Contracts of functions of the given program, and lemmas about plain lists and numbers: what the laws of this seat lean on. -/
namespace Go.Proofs.Ytcmdemfhbekabaa
open Go.Eng Go.Sol
attribute [local irreducible] opK wpList Code.wp Exit.then Exit.inBlock fnPost bodyPost Nx Calls Oper.wp Rd Rds Wr Ent Stars Blk Again Vec FnSpec wpMix QRun Stop Upto wpAt
/-! The first release of each exposed cell -/
def hitB (l : List Int) (rs : List Rel) (m cell : Int) (i : Nat) : Bool := decide ((rchD l (rs.take (i + 1))).2 = 0) && narrowB ((rchD l (rs.take (i + 1))).1.getD cell.toNat default) m
def firstN (l : List Int) (rs : List Rel) (m cell : Int) : Nat → Int
  | 0 => -1
  | i + 1 => if firstN l rs m cell i < 0 ∧ hitB l rs m cell i = true then (rs.getD i default).num else firstN l rs m cell i
/-- The exposed cells after i releases. -/
def expK (l : List Int) (rs : List Rel) (m : Int) (i : Nat) (e : Exp) : Exp := (e.1, e.2.1, firstN l rs m e.1 i)
theorem map_atX {f : Exp → Exp} {l : List Exp} {k : Nat} (h : k < l.length) : (l.map f).getD k default = f (l.getD k default) := by
  rw [List.getD_eq_getElem?_getD, List.getElem?_map, List.getD_eq_getElem?_getD, List.getElem?_eq_getElem h]; rfl
theorem RelsV.take {l : List Int} {rs : List Rel} (h : RelsV l rs) (k : Nat) : RelsV l (rs.take k) := by
  have hat : ∀ i, i < (rs.take k).length → (rs.take k).getD i default = rs.getD i default ∧ i < rs.length := fun i hi => by
    rw [List.length_take] at hi
    exact ⟨by rw [List.getD_eq_getElem?_getD, List.getD_eq_getElem?_getD, List.getElem?_take_of_lt (by omega)], by omega⟩
  refine ⟨by have := h.len; rw [List.length_take]; omega, fun i hi => ?_, fun i hi => ?_⟩
  · obtain ⟨e, hl⟩ := hat i hi
    rw [e]; exact h.each i hl
  · obtain ⟨e1, _⟩ := hat i (by omega)
    obtain ⟨e2, hl⟩ := hat (i + 1) hi
    rw [e1, e2]; exact h.asc i hl
theorem Rels.take {I : PH} {A : Option Addr} {c : Nat} {l : List Rel} (h : Rels I A c l) (k : Nat) : Rels I A c (l.take k) := by
  refine ⟨⟨fun j u hj => ?_, by have := h.outer.cap; rw [List.length_take]; omega, h.outer.max, fun x hx => h.outer.cells x (List.mem_of_mem_take hx)⟩, fun r hr => h.view r (List.mem_of_mem_take hr), fun r hr => h.val r (List.mem_of_mem_take hr)⟩
  refine h.outer.arr j u ?_
  have e : l.flatMap relC = (l.take k).flatMap relC ++ (l.drop k).flatMap relC := by rw [← List.flatMap_append, List.take_append_drop]
  rw [e, List.getElem?_append_left (List.getElem?_eq_some_iff.1 hj).1]
  exact hj
/-- Those before k are as after a further release. -/
structure Mid (l : List Int) (rs : List Rel) (m : Int) (base : List Exp) (i k : Nat) (os : List Exp) : Prop where
  len : os.length = base.length
  at_ : ∀ j, j < base.length → os.getD j default = expK l rs m (if j < k then i + 1 else i) (base.getD j default)
theorem Mid.start (l : List Int) (rs : List Rel) (m : Int) (base : List Exp) (i : Nat) : Mid l rs m base i 0 (base.map (expK l rs m i)) :=
  ⟨by rw [List.length_map], fun j hj => by rw [map_atX hj, if_neg (Nat.not_lt_zero _)]⟩
theorem ext_X {a b : List Exp} (hl : a.length = b.length) (h : ∀ j, j < a.length → a.getD j default = b.getD j default) : a = b := list_ext_d hl h
theorem Mid.done {l : List Int} {rs : List Rel} {m : Int} {base : List Exp} {i : Nat} {os : List Exp} (h : Mid l rs m base i base.length os) : os = base.map (expK l rs m (i + 1)) :=
  ext_X (by rw [h.len, List.length_map]) fun j hj => by rw [h.len] at hj; rw [h.at_ j hj, map_atX hj, if_pos hj]
theorem Mid.same {l : List Int} {rs : List Rel} {m : Int} {base : List Exp} {i k : Nat} {os : List Exp} (h : Mid l rs m base i k os) (hk : k < base.length) (he : firstN l rs m (base.getD k default).1 (i + 1) = firstN l rs m (base.getD k default).1 i) : Mid l rs m base i (k + 1) os :=
  ⟨h.len, fun j hj => by
    rw [h.at_ j hj]
    rcases Nat.lt_trichotomy j k with h1 | h1 | h1
    · rw [if_pos h1, if_pos (by omega)]
    · subst h1
      rw [if_neg (by omega), if_pos (by omega)]
      unfold expK
      rw [he]
    · rw [if_neg (by omega), if_neg (by omega)]⟩
theorem Mid.put {l : List Int} {rs : List Rel} {m : Int} {base : List Exp} {i k : Nat} {os : List Exp} (h : Mid l rs m base i k os) (hk : k < base.length) : Mid l rs m base i (k + 1) (os.set k (expK l rs m (i + 1) (base.getD k default))) :=
  ⟨by rw [List.length_set]; exact h.len, fun j hj => by
    rw [List.getD_eq_getElem?_getD]
    rcases Nat.lt_trichotomy j k with h1 | h1 | h1
    · rw [List.getElem?_set_ne (by omega), ← List.getD_eq_getElem?_getD, h.at_ j hj, if_pos h1, if_pos (by omega)]
    · subst h1
      rw [List.getElem?_set_self (by rw [h.len]; exact hj), if_pos (by omega)]; rfl
    · rw [List.getElem?_set_ne (by omega), ← List.getD_eq_getElem?_getD, h.at_ j hj, if_neg (by omega), if_neg (by omega)]⟩
end Go.Proofs.Ytcmdemfhbekabaa
/- Contracts of functions of the given program, and lemmas about plain lists and numbers: what the laws of this seat lean on. -/
namespace Go.Proofs.Ytcmdemfhbekabaa
open Go.Eng Go.Sol
attribute [local irreducible] opK wpList Code.wp Exit.then Exit.inBlock fnPost bodyPost Nx Calls Oper.wp Rd Rds Wr Ent Stars Blk Again Vec FnSpec wpMix QRun Stop Upto wpAt
/-! Fewer equations -/
theorem touch_mono {N : Nat} {l r : List EqR} (h : ∀ q ∈ l, q ∈ r) {c : Nat} (hc : c ∈ touch N (eqns l)) : c ∈ touch N (eqns r) := by
  obtain ⟨h1, q, hq, h2⟩ := mem_touch.1 hc
  obtain ⟨p, hp, rfl⟩ := List.mem_map.1 hq
  exact mem_touch.2 ⟨h1, eqn p, List.mem_map.2 ⟨p, h p hp, rfl⟩, h2⟩
theorem sols_fewer {N : Nat} {l r : List EqR} (hr : ∀ q ∈ r, GoodE N q) (h : ∀ q ∈ l, q ∈ r) {s : List Int} (hs : s ∈ solsOf N (eqns r)) : wantL N (touch N (eqns l)) s ∈ solsOf N (eqns l) :=
  want_sol (fun q hq => hr q (h q hq)) (fun c hc => ((mem_sols hr).1 hs).pos c (touch_mono h hc)) fun q hq => sols_sum hr hs q (h q hq)
theorem EqsOk.take {N : Nat} {t : List Int} {most : Int} {qs : List EqR} (h : EqsOk N t most qs) (k : Nat) : EqsOk N t most (qs.take k) :=
  ⟨h.n, h.len, h.tab, by have := h.few; rw [List.length_take]; omega, fun q hq => h.good q (List.mem_of_mem_take hq), fun q hq => h.sum q (List.mem_of_mem_take hq)⟩
theorem Eqs.take {I : PH} {A : Option Addr} {c : Nat} {l : List EqR} (h : Eqs I A c l) (k : Nat) : Eqs I A c (l.take k) := by
  refine ⟨⟨fun j u hj => ?_, by have := h.outer.cap; rw [List.length_take]; omega, h.outer.max, fun x hx => h.outer.cells x (List.mem_of_mem_take hx)⟩, fun q hq => h.inner q (List.mem_of_mem_take hq)⟩
  refine h.outer.arr j u ?_
  have e : l.flatMap eqC = (l.take k).flatMap eqC ++ (l.drop k).flatMap eqC := by rw [← List.flatMap_append, List.take_append_drop]
  rw [e, List.getElem?_append_left (List.getElem?_eq_some_iff.1 hj).1]
  exact hj
end Go.Proofs.Ytcmdemfhbekabaa
/- Contracts of functions of the given program, and lemmas about plain lists and numbers: what the laws of this seat lean on. -/
namespace Go.Proofs.Ytcmdemfhbekabaa
open Go.Eng Go.Sol
attribute [local irreducible] opK wpList Code.wp Exit.then Exit.inBlock fnPost bodyPost Nx Calls Oper.wp Rd Rds Wr Ent Stars Blk Again Vec FnSpec wpMix QRun Stop Upto wpAt
/-! Plain: a further release -/
theorem getD_appR {rs : List Rel} {r : Rel} {i : Nat} (h : i < rs.length) : (rs ++ [r]).getD i default = rs.getD i default := by
  rw [List.getD_eq_getElem?_getD, List.getElem?_append_left h, ← List.getD_eq_getElem?_getD]
theorem getD_lastR {rs : List Rel} {r : Rel} : (rs ++ [r]).getD rs.length default = r := by
  rw [List.getD_eq_getElem?_getD, List.getElem?_append_right (Nat.le_refl _), Nat.sub_self]; rfl
theorem rels_snoc {l t : List Int} {rs : List Rel} {r : Rel} (h : RelsOk l t rs) (hr : RelOk l t r) (hn : r.num = rs.length) : RelsOk l t (rs ++ [r]) :=
  ⟨fun i hi => by
    by_cases hir : i < rs.length
    · rw [getD_appR hir]; exact h.each i hir
    · rw [List.length_append, List.length_singleton] at hi
      obtain rfl : i = rs.length := by omega
      rw [getD_lastR]
      exact ⟨hr, hn⟩⟩
theorem views_of {l t : List Int} {rs : List Rel} (h : RelsOk l t rs) : ∀ r ∈ rs, Viewed l r.v := fun r hr => by
  obtain ⟨i, hi, he⟩ := List.mem_iff_getElem.1 hr
  have := (h.each i hi).1.view
  rwa [List.getD_eq_getElem?_getD, List.getElem?_eq_getElem hi, show (some rs[i]).getD default = r from he] at this
theorem told_hid {l : List Int} {r : Rel} (h : ∀ z ∈ r.val.2.2, z = -1) : told l r = [] := by
  unfold told
  have : ∀ n, n ≤ r.val.2.2.length → toldK l r.v r.val.2.2 n = [] := by
    intro n
    induction n with
    | zero => intro _; rfl
    | succ n ih =>
      intro hn
      rw [toldK, ih (by omega), if_pos (h _ (getD_memI (by omega)))]; rfl
  exact this _ (Nat.le_refl _)
theorem qsOf_snoc (l : List Int) (rs : List Rel) (r : Rel) : qsOf l (rs ++ [r]) = qsOf l rs ++ (told l r).map canonE := by
  unfold qsOf
  rw [List.flatMap_append, List.map_append, List.flatMap_cons, List.flatMap_nil, List.append_nil]
end Go.Proofs.Ytcmdemfhbekabaa
/- Contracts of functions of the given program, and lemmas about plain lists and numbers: what the laws of this seat lean on. -/
namespace Go.Proofs.Ytcmdemfhbekabaa
open Go.Eng Go.Sol
attribute [local irreducible] opK wpList Code.wp Exit.then Exit.inBlock fnPost bodyPost Nx Calls Oper.wp Rd Rds Wr Ent Stars Blk Again Vec FnSpec wpMix QRun Stop Upto wpAt
attribute [local irreducible] wpFork
theorem rel_one (l : List Rel) : ∀ u ∈ l.flatMap relC, u.oneCell' = true := fun u hu => by
  obtain ⟨x, _, hx⟩ := List.mem_flatMap.1 hu
  simp only [relC, List.mem_cons, List.not_mem_nil, or_false] at hx
  rcases hx with rfl | rfl | rfl <;> rfl
end Go.Proofs.Ytcmdemfhbekabaa
/-
  The proof engine, part I: the end of an owned list is cleared.
-/
namespace Go.Eng
theorem setsAt_some : ∀ (vs cs : List Value) (i : Nat), i + vs.length ≤ cs.length → ∃ cs', setsAt cs i vs = some cs' ∧ cs'.length = cs.length ∧ cs'.take i = cs.take i
  | [], cs, i, _ => ⟨cs, rfl, rfl, rfl⟩
  | v :: vs, cs, i, h => by
    simp only [List.length_cons] at h
    have hset : ∀ (cs : List Value) (i : Nat), i < cs.length → setAt cs i v = some (cs.set i v) := by
      intro cs
      induction cs with
      | nil => intro i hi; simp at hi
      | cons c r ih =>
        intro i hi
        cases i with
        | zero => rfl
        | succ i =>
          simp only [setAt]
          rw [ih i (by simpa using hi)]
          rfl
    obtain ⟨cs', h1, h2, h3⟩ := setsAt_some vs (cs.set i v) (i + 1) (by rw [List.length_set]; omega)
    refine ⟨cs', ?_, by rw [h2, List.length_set], ?_⟩
    · unfold setsAt
      rw [hset cs i (by omega)]
      exact h1
    · have := congrArg (List.take i) h3
      rw [List.take_take, List.take_take, Nat.min_eq_left (by omega), List.take_set_of_le (Nat.le_refl _)] at this
      exact this
section
variable {C : Cx} {e : Env} {I : PH} {R : List Res} {K : Act → World → Prop} {Q : Exit → Act → World → Prop}
variable {ty t el : TypeId} {pos : String} {after : Array Edge} {g : Option (Nat × Bool)} {x : Operand} {A : Option Addr} {n c k : Nat}
theorem Nx.clear_tail {tys : Array TypeId} {xs : List Value} {z : Value} (hx : evo e x = some (.slice (offA A c k 1) (n - k) (c - k))) (hty : tys = #[t]) (ht : C.P.underlying t = some (.slice el)) (hz : ∀ w, (zeroValue el).run C.P w = .ok z w)
    (h1 : z.oneCell' = true) (hzc : z.cells = #[z]) (hk : k ≤ n) (h : Nx C e I (Vec el 1 A k c (xs.take k) :: R) K) : Nx C e I (Vec el 1 A n c xs :: R) (opK C.P ⟨none, .call { callee := .builtin .clear, args := #[x], argTypes := tys }, ty, pos, after, g⟩ K Q) := by
  subst hty
  intro a w ha hw
  have hrunb : ∀ w', (Builtin.clear_ #[t] ty #[.slice (offA A c k 1) (n - k) (c - k)]).run C.P w = .ok (.tuple #[]) w' → (execOp a.eval ⟨none, .call { callee := .builtin .clear, args := #[x], argTypes := #[t] }, ty, pos, after, g⟩).run C.P w = .ok (.value (.tuple #[])) w' := fun w' hr => by
    obtain ⟨cs, hcs⟩ := run_builtin (P := C.P) (w := w) (ρ := a.eval) (b := .clear) (args := #[x]) (dst := none) (ty := ty) (pos := pos) (after := after) (g := g) (tys := #[t]) (show [x].map a.eval = [Value.slice (offA A c k 1) (n - k) (c - k)] from by simp only [List.map_cons, List.map_nil, ha.eval hx])
    rw [hcs]
    exact run_v hr
  have shrink : ∀ m, Vec el 1 A n c xs m → n = k → Vec el 1 A k c (xs.take k) m := fun m hm he => by
    subst he
    have hl := hm.1
    rw [List.take_of_length_le (by omega)]
    exact hm
  unfold opK Oper.wp
  by_cases hkn : n = k
  · have hr : (Builtin.clear_ #[t] ty #[.slice (offA A c k 1) (n - k) (c - k)]).run C.P w = .ok (.tuple #[]) w := by
      rw [show n - k = 0 by omega]
      cases hA : offA A c k 1 with
      | none => simp [Builtin.clear_, run_underlying ht]
      | some ad0 => simp [Builtin.clear_, run_underlying ht]
    rw [hrunb w hr]
    exact h a w ha (hw.ent (Ent.head fun m hm => shrink m hm hkn))
  · obtain ⟨⟨m, ⟨m1, m2, hd, rfl, hv, h2⟩, hs⟩, hst⟩ := id hw
    rcases hv.2 with ⟨_, h0, _⟩ | ⟨b, cur, rfl, hb, hnc, hcm, hsz, htake⟩
    · omega
    have hb0 : w.heap[b]? = some (.cells cur el (0, 0)) := hs.own _ _ (PH.le_or_left _ _ _ _ hb)
    have hlz : (Builtin.zeroCells z.cells (n - k)).toList.length = n - k := by rw [Array.length_toList, size_zeroCells, hzc]; simp
    have hoz : ∀ v ∈ (Builtin.zeroCells z.cells (n - k)).toList, v.oneCell' = true := fun v hv => by
      rw [hzc] at hv
      simp only [Builtin.zeroCells, Array.toList_map, List.mem_map] at hv
      obtain ⟨i, _, rfl⟩ := hv
      have : (#[z] : Array Value)[i % (#[z] : Array Value).size]! = z := by simp [Nat.mod_one]
      rw [this]; exact h1
    obtain ⟨cs', hs1, hs2, hs3⟩ := setsAt_some (Builtin.zeroCells z.cells (n - k)).toList cur.toList k (by rw [hlz, Array.length_toList]; omega)
    obtain ⟨w', hr, hb', hk', hst'⟩ := storeCells_from (P := C.P) (Builtin.zeroCells z.cells (n - k)).toList cur.toList cs' k 0 w (by simpa using hb0) (by simpa using hs1) hoz
    have hoff : offA (some (⟨b, 0, none⟩ : Addr)) c k 1 = some ⟨b, k, none⟩ := by
      unfold offA
      rw [if_neg (by omega), Option.map_some, Addr.add_lit]
      simp
    have hrun : (Builtin.clear_ #[t] ty #[.slice (offA (some ⟨b, 0, none⟩) c k 1) (n - k) (c - k)]).run C.P w = .ok (.tuple #[]) w' := by
      rw [hoff]
      obtain ⟨m, hm⟩ : ∃ m, n - k = m + 1 := ⟨n - k - 1, by omega⟩
      rw [hm] at hr ⊢
      simp only [Builtin.clear_, List.getElem?_toArray, List.getElem?_cons_zero]
      rw [Sem.run_bind, run_underlying ht, Result.andThen_ok]
      simp only [Sem.run_bind, hz, Result.andThen_ok]
      rw [hr]
      rfl
    rw [hrunb w' hrun]
    refine h a w' ha (hw.upd (o := .cells cs'.toArray el (0, 0)) (b := b) (fun mm hm => ?_) hb' (fun i hne o' ho => (hk' i hne).trans ho) hst')
    rcases hm.2 with ⟨he, _, _⟩ | ⟨b', cur', he, hb1, _, _, _, _⟩
    · cases he
    cases he
    refine ⟨by rw [hb1]; rfl, by rw [List.length_take, hv.1]; omega, .inr ⟨b, cs'.toArray, rfl, by simp, by omega, hcm, by simp [hs2]; omega, ?_⟩⟩
    rw [Nat.mul_one, List.toList_toArray, hs3, ← htake, List.take_take, Nat.mul_one, Nat.min_eq_left hk]
end
end Go.Eng
/- Contracts of functions of the given program, and lemmas about plain lists and numbers: what the laws of this seat lean on. -/
namespace Go.Proofs.Ytcmdemfhbekabaa
open Go.Eng Go.Sol
attribute [local irreducible] opK wpList Code.wp Exit.then Exit.inBlock fnPost bodyPost Nx Calls Oper.wp Rd Rds Wr Ent Stars Blk Again Vec FnSpec wpMix QRun Stop Upto wpAt
theorem zero_runR {t : TypeId} {z : Value} {P : Program} (h : (P.info? t).bind (·.zero) = some z) (w : World) : (zeroValue t).run P w = .ok z w := by
  cases hi : P.info? t with
  | none => rw [hi] at h; cases h
  | some i =>
    rw [hi] at h
    have h : i.zero = some z := h
    simp [zeroValue, typeInfo, hi, h]
/-! Lists of releases: cloned, one deleted -/
abbrev rlR (A : Option Addr) (c : Nat) (rs : List Rel) : Res := Vec 44 3 A rs.length c (rs.flatMap relC)
set_option maxHeartbeats 8000000 in
set_option maxRecDepth 10000 in
theorem CloneR_spec (A : Option Addr) (c : Nat) (l : List Rel) (I : PH) (hl : SliceN relC 3 I A c l) (h9 : l.length ≤ 1000000) :
    FnSpec Try.prog 30 [.slice A l.length c] I [] (fun v R' => ∃ A' c', v = .slice A' l.length c' ∧ R' = [rlR A' c' l]) := by
  cases A with
  | none =>
    have h0 : l = [] := by
      rcases Nat.eq_zero_or_pos l.length with h | h
      · exact List.eq_nil_of_length_eq_zero h
      · have := hl.isSome h (by decide); cases this
    subst h0
    refine FnSpec.enterP Try.func30 rfl Try.ntmps30 rfl fun w F => ?_
    repeat' first
      | ((with_reducible refine Nx.is_wp ?_); first | refine Nx.wo ?_ | refine Nx.zp (fun hc => ?_) (fun hc => ?_))
      | (refine Nx.zo ?_; first | refine Nx.opr rfl rfl ?_ | refine Nx.so ?_ | refine Nx.sb (fun bx => ?_) | refine Nx.sa (fun A2 c2 => ?_))
      | ((with_reducible refine Nx.is_at ?_); first | refine Nx.a ?_ | refine Nx.zd ?_ | refine Nx.zs (fun hc => ?_) (fun hc => ?_))
      | ((with_reducible refine Nx.is_mix ?_); first | refine Nx.m ?_ | refine Nx.zm ?_ | refine Nx.zt (fun hc => ?_) (fun hc => ?_))
      | refine Nx.zx ?_ | fail
    refine Nx.ret_fn rfl [rlR none 0 []] ⟨none, 0, rfl, rfl⟩ (Ent.vec_nil _ _ _)
  | some a =>
    refine FnSpec.enterP Try.func30 rfl Try.ntmps30 rfl fun w F => ?_
    repeat' first
      | ((with_reducible refine Nx.is_wp ?_); first | refine Nx.wo ?_ | refine Nx.zp (fun hc => ?_) (fun hc => ?_))
      | (refine Nx.zo ?_; first | refine Nx.opr rfl rfl ?_ | refine Nx.so ?_ | refine Nx.sb (fun bx => ?_) | refine Nx.sa (fun A2 c2 => ?_))
      | ((with_reducible refine Nx.is_at ?_); first | refine Nx.a ?_ | refine Nx.zd ?_ | refine Nx.zs (fun hc => ?_) (fun hc => ?_))
      | ((with_reducible refine Nx.is_mix ?_); first | refine Nx.m ?_ | refine Nx.zm ?_ | refine Nx.zt (fun hc => ?_) (fun hc => ?_))
      | refine Nx.zx ?_ | fail
    refine Nx.blk_vec 0 0 3 rfl rfl (by omega) ?_
    refine Nx.at_op rfl rfl ?_
    refine Nx.append rfl rfl rfl rfl (by kernel_rfl) rfl (Src.arr hl.arr (flat_len relC_len l) (by omega) (rel_one l)) (by omega) fun A' c' => ?_
    rw [Nat.zero_add, List.nil_append]
    repeat' first
      | ((with_reducible refine Nx.is_wp ?_); first | refine Nx.wo ?_ | refine Nx.zp (fun hc => ?_) (fun hc => ?_))
      | (refine Nx.zo ?_; first | refine Nx.opr rfl rfl ?_ | refine Nx.so ?_ | refine Nx.sb (fun bx => ?_) | refine Nx.sa (fun A2 c2 => ?_))
      | ((with_reducible refine Nx.is_at ?_); first | refine Nx.a ?_ | refine Nx.zd ?_ | refine Nx.zs (fun hc => ?_) (fun hc => ?_))
      | ((with_reducible refine Nx.is_mix ?_); first | refine Nx.m ?_ | refine Nx.zm ?_ | refine Nx.zt (fun hc => ?_) (fun hc => ?_))
      | refine Nx.zx ?_ | fail
    exact Nx.ret_fn rfl [_] ⟨A', c', rfl, rfl⟩ (by unfold rlR; (exact Ent.auto))
end Go.Proofs.Ytcmdemfhbekabaa
/- Contracts of functions of the given program, and lemmas about plain lists and numbers: what the laws of this seat lean on. -/
namespace Go.Proofs.Ytcmdemfhbekabaa
open Go.Eng Go.Sol
attribute [local irreducible] opK wpList Code.wp Exit.then Exit.inBlock fnPost bodyPost Nx Calls Oper.wp Rd Rds Wr Ent Stars Blk Again Vec FnSpec wpMix QRun Stop Upto wpAt
/-! slices.DeleteFunc at ints, with a closure that reads frozen memory -/
theorem gx_at {l : List Int} {k : Nat} (h : k < l.length) : l.getD k default = l[k] := by rw [List.getD_eq_getElem?_getD, List.getElem?_eq_getElem h]; rfl
set_option maxHeartbeats 8000000 in
set_option maxRecDepth 10000 in
theorem IndexFI_spec (f : FuncId) (cap : List Value) (p : Int → Bool) (A : Option Addr) (cp : Nat) (l : List Int) (I : PH) (hl : Ints I A cp l) (hcall : callable Try.prog f = true)
    (hp : ∀ x, FnSpec Try.prog f (Value.int .i64 x :: cap) I [] (fun v R' => v = .bool (p x) ∧ R' = [])) :
    FnSpec Try.prog 49 [.slice A l.length cp, .func (.func f) #[] cap.toArray] I []
      (fun v R' => (∃ i : Int, v = .int .i64 i ∧ ((i = -1 ∧ l.any p = false) ∨ ∃ k : Nat, k < l.length ∧ i = k ∧ p (l.getD k default) = true ∧ (l.take k).any p = false)) ∧ R' = []) := by
  refine FnSpec.enterP Try.func49 rfl Try.ntmps49 rfl fun w F => ?_
  repeat' first
    | ((with_reducible refine Nx.is_wp ?_); first | refine Nx.wo ?_ | refine Nx.zp (fun hc => ?_) (fun hc => ?_))
    | (refine Nx.zo ?_; first | refine Nx.opr rfl rfl ?_ | refine Nx.so ?_ | refine Nx.sb (fun bx => ?_) | refine Nx.sa (fun A2 c2 => ?_))
    | ((with_reducible refine Nx.is_at ?_); first | refine Nx.a ?_ | refine Nx.zd ?_ | refine Nx.zs (fun hc => ?_) (fun hc => ?_))
    | ((with_reducible refine Nx.is_mix ?_); first | refine Nx.m ?_ | refine Nx.zm ?_ | refine Nx.zt (fun hc => ?_) (fun hc => ?_))
    | refine Nx.zx ?_ | fail
  have hlen := hl.len
  refine Nx.p_loop (σ := Nat) (fun k => [(0, .slice A l.length cp), (1, .func (.func f) #[] cap.toArray), (7, .int .i64 l.length), (8, .int .i64 (k : Int))])
    (fun _ => [F]) (fun k => k ≤ l.length ∧ (l.take k).any p = false) (fun k => l.length - k) 0 rfl ⟨Nat.zero_le _, by simp⟩ ⟨rfl, rfl, rfl, rfl, trivial⟩ (Ent.refl _) ?_
  rintro k ⟨hk, hnone⟩
  by_cases hlt : k < l.length
  · repeat' first
      | ((with_reducible refine Nx.is_wp ?_); first | refine Nx.wo ?_ | refine Nx.zp (fun hc => ?_) (fun hc => ?_))
      | (refine Nx.zo ?_; first | refine Nx.opr rfl rfl ?_ | refine Nx.indexAddr_nat rfl rfl rfl rfl rfl (by omega) (hl.isSome (by omega)) ?_ | refine Nx.load rfl rfl rfl (hl.rd (by omega)) ?_ | refine Nx.callv rfl rfl rfl hcall rfl (hp _) ?_ | refine Nx.so ?_ | refine Nx.sb (fun bx => ?_) | refine Nx.sa (fun A2 c2 => ?_))
      | ((with_reducible refine Nx.is_at ?_); first | refine Nx.a ?_ | refine Nx.zd ?_ | refine Nx.zs (fun hc => ?_) (fun hc => ?_))
      | ((with_reducible refine Nx.is_mix ?_); first | refine Nx.m ?_ | refine Nx.zm ?_ | refine Nx.zt (fun hc => ?_) (fun hc => ?_))
      | refine Nx.zx ?_ | fail
    · exact Nx.ret_fn rfl [] ⟨⟨_, rfl, .inr ⟨k, hlt, rfl, hc, hnone⟩⟩, rfl⟩ (Ent.refl _)
    · refine Nx.again (k + 1) ⟨by omega, ?_⟩ (by omega) ⟨rfl, rfl, rfl, rfl, trivial⟩ (Ent.refl _)
      rw [List.take_succ_eq_append_getElem (by omega), List.any_append, hnone]
      rw [← gx_at hlt]
      simp only [List.any_cons, List.any_nil, hc, Bool.or_self]
  · obtain rfl : k = l.length := by omega
    repeat' first
      | ((with_reducible refine Nx.is_wp ?_); first | refine Nx.wo ?_ | refine Nx.zp (fun hc => ?_) (fun hc => ?_))
      | (refine Nx.zo ?_; first | refine Nx.opr rfl rfl ?_ | refine Nx.so ?_ | refine Nx.sb (fun bx => ?_) | refine Nx.sa (fun A2 c2 => ?_))
      | ((with_reducible refine Nx.is_at ?_); first | refine Nx.a ?_ | refine Nx.zd ?_ | refine Nx.zs (fun hc => ?_) (fun hc => ?_))
      | ((with_reducible refine Nx.is_mix ?_); first | refine Nx.m ?_ | refine Nx.zm ?_ | refine Nx.zt (fun hc => ?_) (fun hc => ?_))
      | refine Nx.zx ?_ | fail
    rw [List.take_length] at hnone
    exact Nx.ret_fn rfl [] ⟨⟨_, rfl, .inl ⟨rfl, hnone⟩⟩, rfl⟩ (Ent.refl _)
/-- A list while some are taken out of it. -/
structure DelI (p : Int → Bool) (l : List Int) (s : Nat × List Int) : Prop where
  le : s.1 ≤ l.length
  len : s.2.length = l.length
  head : s.2.take ((l.take s.1).filter fun x => !(p x)).length = (l.take s.1).filter fun x => !(p x)
  tail : ∀ j, s.1 ≤ j → s.2.getD j default = l.getD j default
  lt : ((l.take s.1).filter fun x => !(p x)).length < s.1
theorem take_snocF {l : List Int} {p : Int → Bool} {k : Nat} (h : k < l.length) : (l.take (k + 1)).filter (fun x => !(p x)) = (l.take k).filter (fun x => !(p x)) ++ (if p (l.getD k default) = true then [] else [l.getD k default]) := by
  rw [List.take_succ_eq_append_getElem h, List.filter_append, gx_at h]
  congr 1
  cases hp : p l[k] <;> simp [hp]
theorem DelI.del {p : Int → Bool} {l xs : List Int} {k : Nat} (h : DelI p l (k, xs)) (hk : k < l.length) (hp : p (l.getD k default) = true) : DelI p l (k + 1, xs) := by
  have e := take_snocF (p := p) hk
  rw [if_pos hp, List.append_nil] at e
  exact ⟨hk, h.len, by dsimp only; rw [e]; exact h.head, fun j hj => h.tail j (by dsimp only at hj ⊢; omega), by dsimp only; rw [e]; have := h.lt; dsimp only at this; omega⟩
theorem DelI.keep {p : Int → Bool} {l xs : List Int} {k : Nat} (h : DelI p l (k, xs)) (hk : k < l.length) (hp : p (l.getD k default) = false) : DelI p l (k + 1, xs.set ((l.take k).filter fun x => !(p x)).length (l.getD k default)) := by
  have e := take_snocF (p := p) hk
  rw [if_neg (by rw [hp]; decide)] at e
  have hlt := h.lt
  have hlen := h.len
  have hh := h.head
  dsimp only at hlt hlen hh
  refine ⟨hk, by dsimp only; rw [List.length_set]; exact hlen, ?_, fun j hj => ?_, by dsimp only; rw [e]; simp only [List.length_append, List.length_singleton]; omega⟩
  · dsimp only
    rw [e, List.length_append, List.length_singleton, List.take_succ_eq_append_getElem (by rw [List.length_set]; omega), List.take_set_of_le (Nat.le_refl _), hh]
    simp
  · dsimp only at hj ⊢
    rw [List.getD_eq_getElem?_getD, List.getElem?_set_ne (by omega), ← List.getD_eq_getElem?_getD]
    exact h.tail j (by dsimp only; omega)
set_option maxHeartbeats 8000000 in
set_option maxRecDepth 10000 in
theorem DeleteFI_spec (f : FuncId) (cap : List Value) (p : Int → Bool) (A : Option Addr) (c : Nat) (l : List Int) (I : PH) (hcall : callable Try.prog f = true) (h9 : l.length ≤ 1000000)
    (hp : ∀ I', PH.le I I' → ∀ x, FnSpec Try.prog f (Value.int .i64 x :: cap) I' [] (fun v R' => v = .bool (p x) ∧ R' = [])) :
    FnSpec Try.prog 35 [.slice A l.length c, .func (.func f) #[] cap.toArray] I [iR A c l]
      (fun v R' => v = .slice A (l.filter fun x => !(p x)).length c ∧ R' = [iR A c (l.filter fun x => !(p x))]) := by
  refine FnSpec.enterP Try.func35 rfl Try.ntmps35 rfl fun w F => ?_
  repeat' first
    | ((with_reducible refine Nx.is_wp ?_); first | refine Nx.wo ?_ | refine Nx.zp (fun hc => ?_) (fun hc => ?_))
    | (refine Nx.zo ?_; first | refine Nx.opr rfl rfl ?_ | refine Nx.so ?_ | refine Nx.sb (fun bx => ?_) | refine Nx.sa (fun A2 c2 => ?_))
    | ((with_reducible refine Nx.is_at ?_); first | refine Nx.a ?_ | refine Nx.zd ?_ | refine Nx.zs (fun hc => ?_) (fun hc => ?_))
    | ((with_reducible refine Nx.is_mix ?_); first | refine Nx.m ?_ | refine Nx.zm ?_ | refine Nx.zt (fun hc => ?_) (fun hc => ?_))
    | refine Nx.zx ?_ | fail
  refine Nx.at_op rfl rfl ?_
  refine Nx.call_lendR 0 rfl rfl rfl (by kernel_rfl) rfl rfl (fun m I' hI hm h => IndexFI_spec f cap p A c l I' (Vec.sliceOf hm h) hcall (hp I' hI)) ?_
  rintro _ R' ⟨⟨i, rfl, hi⟩, rfl⟩
  rcases hi with ⟨rfl, hnone⟩ | ⟨k0, hk0, rfl, hpk, hnone⟩
  · have e : (l.filter fun x => !(p x)) = l := by
      rw [List.filter_eq_self]
      intro x hx
      rw [List.any_eq_false] at hnone
      simpa using hnone x hx
    rw [e]
    repeat' first
      | ((with_reducible refine Nx.is_wp ?_); first | refine Nx.wo ?_ | refine Nx.zp (fun hc => ?_) (fun hc => ?_))
      | (refine Nx.zo ?_; first | refine Nx.opr rfl rfl ?_ | refine Nx.so ?_ | refine Nx.sb (fun bx => ?_) | refine Nx.sa (fun A2 c2 => ?_))
      | ((with_reducible refine Nx.is_at ?_); first | refine Nx.a ?_ | refine Nx.zd ?_ | refine Nx.zs (fun hc => ?_) (fun hc => ?_))
      | ((with_reducible refine Nx.is_mix ?_); first | refine Nx.m ?_ | refine Nx.zm ?_ | refine Nx.zt (fun hc => ?_) (fun hc => ?_))
      | refine Nx.zx ?_ | fail
    exact Nx.ret_fn rfl [iR A c l] ⟨rfl, rfl⟩ (by (exact Ent.auto))
  · have e0 : (l.take k0).filter (fun x => !(p x)) = l.take k0 := by
      rw [List.filter_eq_self]
      intro x hx
      rw [List.any_eq_false] at hnone
      simpa using hnone x hx
    have e1 := take_snocF (p := p) hk0
    rw [if_pos hpk, List.append_nil, e0] at e1
    have hl0 : (l.take k0).length = k0 := by rw [List.length_take]; omega
    repeat' first
      | ((with_reducible refine Nx.is_wp ?_); first | refine Nx.wo ?_ | refine Nx.zp (fun hc => ?_) (fun hc => ?_))
      | (refine Nx.zo ?_; first | refine Nx.opr rfl rfl ?_ | refine Nx.so ?_ | refine Nx.sb (fun bx => ?_) | refine Nx.sa (fun A2 c2 => ?_))
      | ((with_reducible refine Nx.is_at ?_); first | refine Nx.a ?_ | refine Nx.zd ?_ | refine Nx.zs (fun hc => ?_) (fun hc => ?_))
      | ((with_reducible refine Nx.is_mix ?_); first | refine Nx.m ?_ | refine Nx.zm ?_ | refine Nx.zt (fun hc => ?_) (fun hc => ?_))
      | refine Nx.zx ?_ | fail
    refine Nx.vec_fact fun _ hnc _ hA => ?_
    have hA := hA (by omega)
    refine Nx.p_loop (σ := Nat × List Int) (fun s => [(0, .slice A l.length c), (1, .func (.func f) #[] cap.toArray), (5, .int .i64 ((l.take s.1).filter fun x => !(p x)).length), (6, .int .i64 (s.1 : Int))])
      (fun s => [Vec 3 1 A l.length c (s.2.map (Value.int .i64)), F]) (DelI p l) (fun s => l.length - s.1) (k0 + 1, l) rfl
      ⟨hk0, rfl, by dsimp only; rw [e1, hl0], fun j _ => rfl, by dsimp only; rw [e1, hl0]; omega⟩ ⟨rfl, rfl, by dsimp only; rw [e1, hl0]; rfl, rfl, trivial⟩ (by (exact Ent.auto)) ?_
    rintro ⟨j, xs⟩ hS
    have hj := hS.le
    have hlen := hS.len
    have hlt := hS.lt
    dsimp only at hj hlen hlt ⊢
    by_cases hjl : j < l.length
    · have ht := hS.tail j (Nat.le_refl _)
      dsimp only at ht
      cases hpj : p (l.getD j default) with
      | true =>
        have hn := hS.del hjl hpj
        have e := take_snocF (p := p) hjl
        rw [if_pos hpj, List.append_nil] at e
        have hcallp := hp I (PH.le_refl I) (l.getD j default)
        rw [hpj] at hcallp
        repeat' first
          | ((with_reducible refine Nx.is_wp ?_); first | refine Nx.wo ?_ | refine Nx.zp (fun hc => ?_) (fun hc => ?_))
          | (refine Nx.zo ?_; first | refine Nx.opr rfl rfl ?_ | refine Nx.indexAddr_nat rfl rfl rfl rfl rfl (by omega) hA ?_ | (refine Nx.load rfl rfl rfl (Rd.vecEl 0 rfl (by omega)) ?_; rw [ht]) | refine Nx.callv rfl rfl rfl hcall rfl hcallp ?_ | refine Nx.so ?_ | refine Nx.sb (fun bx => ?_) | refine Nx.sa (fun A2 c2 => ?_))
          | ((with_reducible refine Nx.is_at ?_); first | refine Nx.a ?_ | refine Nx.zd ?_ | refine Nx.zs (fun hc => ?_) (fun hc => ?_))
          | ((with_reducible refine Nx.is_mix ?_); first | refine Nx.m ?_ | refine Nx.zm ?_ | refine Nx.zt (fun hc => ?_) (fun hc => ?_))
          | refine Nx.zx ?_ | fail
        exact Nx.again (j + 1, xs) hn (by dsimp only; omega) ⟨rfl, rfl, by dsimp only; rw [e]; rfl, rfl, trivial⟩ (by (exact Ent.auto))
      | false =>
        have hn := hS.keep hjl hpj
        have e := take_snocF (p := p) hjl
        rw [if_neg (by rw [hpj]; decide)] at e
        have hcallp := hp I (PH.le_refl I) (l.getD j default)
        rw [hpj] at hcallp
        repeat' first
          | ((with_reducible refine Nx.is_wp ?_); first | refine Nx.wo ?_ | refine Nx.zp (fun hc => ?_) (fun hc => ?_))
          | (refine Nx.zo ?_; first | refine Nx.opr rfl rfl ?_ | refine Nx.indexAddr_nat rfl rfl rfl rfl rfl (by omega) hA ?_ | (refine Nx.load rfl rfl rfl (Rd.vecEl 0 rfl (by omega)) ?_; rw [ht]) | refine Nx.callv rfl rfl rfl hcall rfl hcallp ?_ | refine Nx.store_of 0 (Value.int .i64) rfl rfl rfl rfl rfl rfl (by omega) ?_ | refine Nx.so ?_ | refine Nx.sb (fun bx => ?_) | refine Nx.sa (fun A2 c2 => ?_))
          | ((with_reducible refine Nx.is_at ?_); first | refine Nx.a ?_ | refine Nx.zd ?_ | refine Nx.zs (fun hc => ?_) (fun hc => ?_))
          | ((with_reducible refine Nx.is_mix ?_); first | refine Nx.m ?_ | refine Nx.zm ?_ | refine Nx.zt (fun hc => ?_) (fun hc => ?_))
          | refine Nx.zx ?_ | fail
        exact Nx.again (j + 1, _) hn (by dsimp only; omega) ⟨rfl, rfl, by dsimp only; rw [e, List.length_append]; rfl, rfl, trivial⟩ (by (exact Ent.auto))
    · obtain rfl : j = l.length := by omega
      have hh := hS.head
      dsimp only at hh
      rw [List.take_length] at hh hlt ⊢
      repeat' first
        | ((with_reducible refine Nx.is_wp ?_); first | refine Nx.wo ?_ | refine Nx.zp (fun hc => ?_) (fun hc => ?_))
        | (refine Nx.zo ?_; first | refine Nx.opr rfl rfl ?_ | refine Nx.slice_lo rfl rfl rfl rfl rfl (by omega) ?_ | refine Nx.clear_tail (z := .int .i64 0) rfl rfl rfl (zero_runR (by kernel_rfl)) rfl rfl (by omega) ?_ | refine Nx.slice_hi rfl rfl rfl rfl rfl (by omega) ?_ | refine Nx.so ?_ | refine Nx.sb (fun bx => ?_) | refine Nx.sa (fun A2 c2 => ?_))
        | ((with_reducible refine Nx.is_at ?_); first | refine Nx.a ?_ | refine Nx.zd ?_ | refine Nx.zs (fun hc => ?_) (fun hc => ?_))
        | ((with_reducible refine Nx.is_mix ?_); first | refine Nx.m ?_ | refine Nx.zm ?_ | refine Nx.zt (fun hc => ?_) (fun hc => ?_))
        | refine Nx.zx ?_ | fail
      refine Nx.ret_fn rfl [iR A c (l.filter fun x => !(p x))] ⟨rfl, rfl⟩ ?_
      refine Ent.pickE 0 rfl ?_ (by (exact Ent.auto))
      unfold iR
      rw [← List.map_take, hh]
end Go.Proofs.Ytcmdemfhbekabaa
/- Contracts of functions of the given program, and lemmas about plain lists and numbers: what the laws of this seat lean on. -/
namespace Go.Proofs.Ytcmdemfhbekabaa
open Go.Eng Go.Sol
attribute [local irreducible] opK wpList Code.wp Exit.then Exit.inBlock fnPost bodyPost Nx Calls Oper.wp Rd Rds Wr Ent Stars Blk Again Vec FnSpec wpMix QRun Stop Upto wpAt
theorem Nx.giveTold {C : Cx} {e : Env} {I : PH} {R : List Res} {K : Act → World → Prop} {B At As : Option Addr} {c' ct ca : Nat} {s t : List Int} {rs : List Rel} {RR : List Res}
    (hR : Ent R (Stars (toldR B c' s At ct t As ca rs) :: RR)) (h : ∀ I', PH.le I I' → Ints I' B c' s → Ints I' At ct t → Rels I' As ca rs → Nx C e I' RR K) : Nx C e I R K := by
  refine Nx.ent hR ?_
  refine Nx.freezeAt 0 rfl fun I1 m1 hI1 hm1 h1 => ?_
  obtain ⟨a0, ha0, b0⟩ := Stars.get 0 h1 rfl
  obtain ⟨a1, ha1, b1⟩ := Stars.get 1 h1 rfl
  obtain ⟨a2, ha2, b2⟩ := Stars.get 2 h1 rfl
  obtain ⟨a3, ha3, b3⟩ := Stars.get 3 h1 rfl
  exact h I1 hI1 (Vec.sliceOf (ha0.trans hm1) b0) (Vec.sliceOf (ha1.trans hm1) b1) (rels_of hm1 b2 ha2 b3 ha3)
theorem rels_app {I I' q : PH} {As A3 : Option Addr} {ca c3 : Nat} {rs : List Rel} {r : Rel} (hr : Rels I As ca rs) (hle : PH.le I I') (hq : PH.le q I') (hv : Stars [Vec 44 3 A3 (rs.length + 1) c3 (rs.flatMap relC ++ relC r)] q) (h1 : RowsOf I r.va r.vc r.v) (h2 : Ints I r.val.1 r.val.2.1 r.val.2.2) : Rels I' A3 c3 (rs ++ [r]) := by
  obtain ⟨a0, ha0, b0⟩ := Stars.get 0 hv rfl
  refine ⟨?_, fun x hx => ?_, fun x hx => ?_⟩
  · have hl : (rs ++ [r]).length = rs.length + 1 := by rw [List.length_append]; rfl
    have hf : (rs ++ [r]).flatMap relC = rs.flatMap relC ++ relC r := by rw [List.flatMap_append, List.flatMap_cons, List.flatMap_nil, List.append_nil]
    refine Vec.sliceN (ha0.trans hq) (t := 44) ?_ fun x _ => relC_len x
    rw [hl, hf]; exact b0
  · rcases List.mem_append.1 hx with h | h
    · exact (hr.view x h).mono hle
    · rw [List.mem_singleton.1 h]; exact h1.mono hle
  · rcases List.mem_append.1 hx with h | h
    · exact (hr.val x h).mono hle
    · rw [List.mem_singleton.1 h]; exact h2.mono hle
end Go.Proofs.Ytcmdemfhbekabaa
/- Contracts of functions of the given program, and lemmas about plain lists and numbers: what the laws of this seat lean on. -/
namespace Go.Proofs.Ytcmdemfhbekabaa
open Go.Eng Go.Sol
attribute [local irreducible] opK wpList Code.wp Exit.then Exit.inBlock fnPost bodyPost Nx Calls Oper.wp Rd Rds Wr Ent Stars Blk Again Vec FnSpec wpMix QRun Stop Upto wpAt
attribute [local irreducible] wpFork
/-! Learns -/
set_option maxRecDepth 10000 in
set_option maxHeartbeats 8000000 in
theorem learn1 (B As va D : Option Addr) (c' ca sn b3 b5 vn vc dn cd : Nat) (num : Int) (es : List Rel) (s : List Int) (es2 : List Rel) (I : PH) (hes : SliceN relC 3 I As ca es) (h9 : es.length ≤ 1000) (w : World) (F : Res) (Q : Exit → Act → World → Prop) (hQ : PanicOk Q)
    (spec : ∀ A3 c3 q I', PH.le I I' → PH.le q I' → Stars [Vec 44 3 A3 (es.length + 1) c3 (es.flatMap relC ++ [.int .i64 num, .slice va vn vc, .slice D dn cd])] q → FnSpec Try.prog 33 [.agg #[.slice B sn c'], .slice A3 (es.length + 1) c3] I' [] (ToldPost s es2))
    (h : ∀ (Am : Option Addr) (cm : Nat) (qs : List EqR), (tolE s es2 = 0 → qs.map cont = es2.flatMap (told s)) → Nx ⟨Try.prog, 60, w⟩ [(8, .slice Am qs.length cm), (9, .int .i64 (if tolE s es2 = 0 then prod s else 0)), (10, .int .i64 (tolE s es2)), (1, .slice As es.length ca), (3, .pointer (some ⟨b3, 0, none⟩)), (5, .pointer (some ⟨b5, 0, none⟩))] I (eqsR Am cm qs ++ [Blk b3 27 [.slice B sn c'], Blk b5 44 [.int .i64 num, .slice va vn vc, .slice D dn cd], F]) (Q .normal)) :
    Nx ⟨Try.prog, 60, w⟩ [(1, .slice As es.length ca), (3, .pointer (some ⟨b3, 0, none⟩)), (5, .pointer (some ⟨b5, 0, none⟩))] I [Blk b3 27 [.slice B sn c'], Blk b5 44 [.int .i64 num, .slice va vn vc, .slice D dn cd], F] (Code.wp Try.prog (cl (cr (bodyOf Try.f17))) Q) := by
  have hcap := hes.cap
  have hCl := CloneR_spec As ca es I hes (by omega)
  unfold ToldPost at spec
  refine Nx.p_fork (id := 1) rfl [0, 1, 3] [7, 8, 9, 10, 11, 12, 13] [2, 4, 5, 6] [Blk b3 27 [.slice B sn c'], Blk b5 44 [.int .i64 num, .slice va vn vc, .slice D dn cd]] 11 rfl rfl (by kernel_rfl) (by kernel_rfl) (by kernel_rfl) hQ (by (exact Ent.auto)) ?_
  repeat' first
    | ((with_reducible refine Nx.is_wp ?_); first | refine Nx.wo ?_ | refine Nx.zp (fun hc => ?_) (fun hc => ?_))
    | (refine Nx.zo ?_; first | refine Nx.opr rfl rfl ?_ | refine Nx.so ?_ | refine Nx.sb (fun bx => ?_) | refine Nx.sa (fun A2 c2 => ?_))
    | ((with_reducible refine Nx.is_at ?_); first | refine Nx.a ?_ | refine Nx.zd ?_ | refine Nx.zs (fun hc => ?_) (fun hc => ?_))
    | ((with_reducible refine Nx.is_mix ?_); first | refine Nx.m ?_ | refine Nx.zm ?_ | refine Nx.zt (fun hc => ?_) (fun hc => ?_))
    | refine Nx.zx ?_ | fail
  refine Nx.fork2 (i := 2) (j := 4) (by kernel_rfl) rfl rfl rfl rfl ?_ ?_
  · refine Nx.call (Rpre := []) rfl rfl rfl (by kernel_rfl) rfl hCl (Ent.refl _) ?_
    rintro _ _ ⟨A2, c2, rfl, rfl⟩
    refine Nx.mix_S (by (exact Ent.auto)) ?_
    refine Nx.fork1 (i := 4) (by kernel_rfl) rfl rfl ?_
    refine Nx.sb (fun b4 => ?_)
    refine Nx.mix_S (by (exact Ent.auto)) ?_
    refine Nx.fork1 (i := 5) (by kernel_rfl) rfl rfl ?_
    refine Nx.ent (R' := [Blk b4 44 [.int .i64 num, .slice va vn vc, .slice D dn cd], Vec 44 3 A2 es.length c2 (es.flatMap relC), Blk b3 27 [.slice B sn c'], Blk b5 44 [.int .i64 num, .slice va vn vc, .slice D dn cd], F]) (by (exact Ent.auto)) ?_
    refine Nx.append_lit 0 rfl rfl rfl rfl (by kernel_rfl) rfl rfl rfl rfl (by omega) fun A3 c3 => ?_
    refine Nx.mix_S (by (exact Ent.auto)) ?_
    refine Nx.fork1 (i := 6) (by kernel_rfl) rfl rfl ?_
    refine Nx.call rfl rfl rfl (by kernel_rfl) rfl (FnSpec.keep [Vec 44 3 A3 (es.length + 1) c3 (es.flatMap relC ++ [.int .i64 num, .slice va vn vc, .slice D dn cd])] (spec A3 c3)) (by (exact Ent.auto)) ?_
    rintro _ _ ⟨_, ⟨Am, cm, qs, rfl, q1, q2, rfl⟩, rfl⟩
    refine Nx.mix_S (by (exact Ent.auto)) ?_
    refine Nx.fork_fin (by kernel_rfl) rfl ?_
    repeat' first
      | ((with_reducible refine Nx.is_wp ?_); first | refine Nx.wo ?_ | refine Nx.zp (fun hc => ?_) (fun hc => ?_))
      | (refine Nx.zo ?_; first | refine Nx.opr rfl rfl ?_ | refine Nx.so ?_ | refine Nx.sb (fun bx => ?_) | refine Nx.sa (fun A2 c2 => ?_))
      | ((with_reducible refine Nx.is_at ?_); first | refine Nx.a ?_ | refine Nx.zd ?_ | refine Nx.zs (fun hc => ?_) (fun hc => ?_))
      | ((with_reducible refine Nx.is_mix ?_); first | refine Nx.m ?_ | refine Nx.zm ?_ | refine Nx.zt (fun hc => ?_) (fun hc => ?_))
      | refine Nx.zx ?_ | fail
    refine Nx.weak ?_ ?_ (h Am cm qs q1)
    · exact ⟨rfl, rfl, rfl, rfl, rfl, rfl, trivial⟩
    · (exact Ent.auto)
  · refine Nx.sb (fun b4 => ?_)
    refine Nx.mix_S (by (exact Ent.auto)) ?_
    refine Nx.fork1 (i := 2) (by kernel_rfl) rfl rfl ?_
    refine Nx.call (Rpre := []) rfl rfl rfl (by kernel_rfl) rfl hCl (Ent.refl _) ?_
    rintro _ _ ⟨A2, c2, rfl, rfl⟩
    refine Nx.mix_S (by (exact Ent.auto)) ?_
    refine Nx.fork1 (i := 5) (by kernel_rfl) rfl rfl ?_
    refine Nx.ent (R' := [Blk b4 44 [.int .i64 num, .slice va vn vc, .slice D dn cd], Vec 44 3 A2 es.length c2 (es.flatMap relC), Blk b3 27 [.slice B sn c'], Blk b5 44 [.int .i64 num, .slice va vn vc, .slice D dn cd], F]) (by (exact Ent.auto)) ?_
    refine Nx.append_lit 0 rfl rfl rfl rfl (by kernel_rfl) rfl rfl rfl rfl (by omega) fun A3 c3 => ?_
    refine Nx.mix_S (by (exact Ent.auto)) ?_
    refine Nx.fork1 (i := 6) (by kernel_rfl) rfl rfl ?_
    refine Nx.call rfl rfl rfl (by kernel_rfl) rfl (FnSpec.keep [Vec 44 3 A3 (es.length + 1) c3 (es.flatMap relC ++ [.int .i64 num, .slice va vn vc, .slice D dn cd])] (spec A3 c3)) (by (exact Ent.auto)) ?_
    rintro _ _ ⟨_, ⟨Am, cm, qs, rfl, q1, q2, rfl⟩, rfl⟩
    refine Nx.mix_S (by (exact Ent.auto)) ?_
    refine Nx.fork_fin (by kernel_rfl) rfl ?_
    repeat' first
      | ((with_reducible refine Nx.is_wp ?_); first | refine Nx.wo ?_ | refine Nx.zp (fun hc => ?_) (fun hc => ?_))
      | (refine Nx.zo ?_; first | refine Nx.opr rfl rfl ?_ | refine Nx.so ?_ | refine Nx.sb (fun bx => ?_) | refine Nx.sa (fun A2 c2 => ?_))
      | ((with_reducible refine Nx.is_at ?_); first | refine Nx.a ?_ | refine Nx.zd ?_ | refine Nx.zs (fun hc => ?_) (fun hc => ?_))
      | ((with_reducible refine Nx.is_mix ?_); first | refine Nx.m ?_ | refine Nx.zm ?_ | refine Nx.zt (fun hc => ?_) (fun hc => ?_))
      | refine Nx.zx ?_ | fail
    refine Nx.weak ?_ ?_ (h Am cm qs q1)
    · exact ⟨rfl, rfl, rfl, rfl, rfl, rfl, trivial⟩
    · (exact Ent.auto)
/-- What is learned from a release. -/
def lrnD (l : List Int) (rs : List Rel) (r : Rel) : List Int × Int :=
  if tolE l (rs ++ [r]) ≠ 0 then ([], tolE l (rs ++ [r])) else if tolE l rs ≠ 0 then ([], tolE l rs) else
  if (cerD l (rs ++ [r])).2 ≠ 0 then ([], (cerD l (rs ++ [r])).2) else if (cerD l rs).2 ≠ 0 then ([], (cerD l rs).2) else ((cerD l (rs ++ [r])).1.filter fun x => !decide (x ∈ (cerD l rs).1), 0)
set_option maxHeartbeats 8000000 in
set_option maxRecDepth 10000 in
theorem known_spec (b : Nat) (A : Option Addr) (c : Nat) (L : List Int) (I : PH) (hb : ∀ (W : World) (R : List Res), Rd W I R ⟨b, 0, none⟩ (.slice A L.length c)) (hL : Ints I A c L) (x : Int) :
    FnSpec Try.prog 36 [.int .i64 x, .pointer (some ⟨b, 0, none⟩)] I [] (fun v R' => v = .bool (decide (x ∈ L)) ∧ R' = []) := by
  have hC := ContainsI_spec A c L x I hL
  refine FnSpec.enterP Try.func36 rfl Try.ntmps36 rfl fun w F => ?_
  repeat' first
    | ((with_reducible refine Nx.is_wp ?_); first | refine Nx.wo ?_ | refine Nx.zp (fun hc => ?_) (fun hc => ?_))
    | (refine Nx.zo ?_; first | refine Nx.opr rfl rfl ?_ | refine Nx.load rfl rfl rfl (hb _ _) ?_ | refine Nx.callv rfl rfl rfl (by kernel_rfl) rfl hC ?_ | refine Nx.so ?_ | refine Nx.sb (fun bx => ?_) | refine Nx.sa (fun A2 c2 => ?_))
    | ((with_reducible refine Nx.is_at ?_); first | refine Nx.a ?_ | refine Nx.zd ?_ | refine Nx.zs (fun hc => ?_) (fun hc => ?_))
    | ((with_reducible refine Nx.is_mix ?_); first | refine Nx.m ?_ | refine Nx.zm ?_ | refine Nx.zt (fun hc => ?_) (fun hc => ?_))
    | refine Nx.zx ?_ | fail
  exact Nx.ret_fn rfl [] ⟨rfl, rfl⟩ (by (exact Ent.auto))
end Go.Proofs.Ytcmdemfhbekabaa
/- Contracts of functions of the given program, and lemmas about plain lists and numbers: what the laws of this seat lean on. -/
namespace Go.Proofs.Ytcmdemfhbekabaa
open Go.Eng Go.Sol
attribute [local irreducible] opK wpList Code.wp Exit.then Exit.inBlock fnPost bodyPost Nx Calls Oper.wp Rd Rds Wr Ent Stars Blk Again Vec FnSpec wpMix QRun Stop Upto wpAt
/-! Learns -/
theorem certF_len {n : Nat} {L : List Eqn} : (certF n L).1.length ≤ n := by
  unfold certF
  split
  · exact Nat.zero_le _
  · exact Nat.le_trans (certU_len _) (touch_len n L)
set_option maxRecDepth 10000 in
set_option maxHeartbeats 16000000 in
theorem Learns_spec (A As : Option Addr) (c cs : Nat) (l : List Int) (rs : List Rel) (r : Rel) (I : PH) (hl : Ints I A c l) (hs : Sizes l) (hr : Rels I As cs rs) (hw : ∀ x ∈ rs, Viewed l x.v) (h9 : rs.length ≤ 1000) (hv : RowsOf I r.va r.vc r.v) (hd : Ints I r.val.1 r.val.2.1 r.val.2.2) (hrw : Viewed l r.v) :
    FnSpec Try.prog 17 [.agg #[.slice A l.length c], .slice As rs.length cs, .agg #[.int .i64 r.num, .slice r.va r.v.length r.vc, .slice r.val.1 r.val.2.2.length r.val.2.1]] I [] (fun u R' => ∃ (A' : Option Addr) (c' : Nat), u = .tuple #[.slice A' (lrnD l rs r).1.length c', .int .i64 (lrnD l rs r).2] ∧ R' = [iR A' c' (lrnD l rs r).1]) := by
  have hw2 : ∀ x ∈ rs ++ [r], Viewed l x.v := fun x hx => (List.mem_append.1 hx).elim (hw x) fun h => by rw [List.mem_singleton.1 h]; exact hrw
  have spec : ∀ A3 c3 q I', PH.le I I' → PH.le q I' → Stars [Vec 44 3 A3 (rs.length + 1) c3 (rs.flatMap relC ++ [.int .i64 r.num, .slice r.va r.v.length r.vc, .slice r.val.1 r.val.2.2.length r.val.2.1])] q → FnSpec Try.prog 33 [.agg #[.slice A l.length c], .slice A3 (rs.length + 1) c3] I' [] (ToldPost l (rs ++ [r])) := fun A3 c3 q I' hle hq hvq => by
    have hra := rels_app (r := r) hr hle hq hvq hv hd
    have := atold_spec A A3 c c3 l (rs ++ [r]) I' (hl.mono hle) hs hra hw2
    rw [show (rs ++ [r]).length = rs.length + 1 by rw [List.length_append]; rfl] at this
    exact this
  have hT := fun I' (hle : PH.le I I') => atold_spec A As c cs l rs I' (hl.mono hle) hs (hr.mono hle) hw
  unfold ToldPost at hT
  have hz := size_ok hs
  have hq1 := fun qs (h0 : tolE l (rs ++ [r]) = 0) => told_q (qs := qs) hs hw2 h0
  have hq2 := fun qs (h0 : tolE l rs = 0) => told_q (qs := qs) hs hw h0
  refine FnSpec.enterP Try.func17 rfl Try.ntmps17 rfl fun w F => ?_
  repeat' first
    | ((with_reducible refine Nx.is_wp ?_); first | refine Nx.p_stopr 1 rfl ?_ | refine Nx.wo ?_ | refine Nx.zp (fun hc => ?_) (fun hc => ?_))
    | (refine Nx.zo ?_; first | refine Nx.opr rfl rfl ?_ | refine Nx.so ?_ | refine Nx.sb (fun bx => ?_) | refine Nx.sa (fun A2 c2 => ?_))
    | ((with_reducible refine Nx.is_at ?_); first | refine Nx.a ?_ | refine Nx.zd ?_ | refine Nx.zs (fun hc => ?_) (fun hc => ?_))
    | ((with_reducible refine Nx.is_mix ?_); first | refine Nx.m ?_ | refine Nx.zm ?_ | refine Nx.zt (fun hc => ?_) (fun hc => ?_))
    | refine Nx.zx ?_ | fail
  refine Nx.unstop ?_
  rename_i b3
  revert bx; intro b5
  refine Nx.p_seq rfl ?_
  refine Nx.weak ?_ ?_ (learn1 A As r.va r.val.1 c cs l.length b3 b5 r.v.length r.vc r.val.2.2.length r.val.2.1 r.num rs l (rs ++ [r]) I hr.outer h9 w F _ (by repeat first | exact PanicOk.fn | refine PanicOk.then_ ?_ | refine PanicOk.inB ?_) spec ?_)
  · exact ⟨rfl, rfl, rfl, trivial⟩
  · (exact Ent.auto)
  intro Am cm qs hqs
  unfold lrnD
  by_cases h1 : tolE l (rs ++ [r]) = 0
  case neg =>
    rw [if_pos h1]
    rw [if_neg h1]
    generalize tolE l (rs ++ [r]) = er at h1
    repeat' first
      | ((with_reducible refine Nx.is_wp ?_); first | refine Nx.wo ?_ | refine Nx.zp (fun hc => ?_) (fun hc => ?_))
      | (refine Nx.zo ?_; first | refine Nx.opr rfl rfl ?_ | refine Nx.so ?_ | refine Nx.sb (fun bx => ?_) | refine Nx.sa (fun A2 c2 => ?_))
      | ((with_reducible refine Nx.is_at ?_); first | refine Nx.a ?_ | refine Nx.zd ?_ | refine Nx.zs (fun hc => ?_) (fun hc => ?_))
      | ((with_reducible refine Nx.is_mix ?_); first | refine Nx.m ?_ | refine Nx.zm ?_ | refine Nx.zt (fun hc => ?_) (fun hc => ?_))
      | refine Nx.zx ?_ | fail
    exact Nx.ret_fn rfl [_] ⟨none, 0, rfl, rfl⟩ ((Ent.vec_nil 3 1 _).trans (by (exact Ent.auto)))
  obtain ⟨hg1, ha1, he1⟩ := hq1 qs h1 (hqs h1)
  rw [if_neg (show ¬ tolE l (rs ++ [r]) ≠ 0 from fun h => h h1), if_pos h1, h1]
  refine Nx.giveE (A := Am) (c := cm) (qs := qs) (RR := [Blk b3 27 [.slice A l.length c], Blk b5 44 [.int .i64 r.num, .slice r.va r.v.length r.vc, .slice r.val.1 r.val.2.2.length r.val.2.1], F]) (by (exact Ent.auto)) fun I1 hI1 hE1 => ?_
  have hT1 := hT I1 hI1
  by_cases h2 : tolE l rs = 0
  case neg =>
    rw [if_pos h2]
    rw [if_neg h2] at hT1
    generalize tolE l rs = er at h2 hT1
    repeat' first
      | ((with_reducible refine Nx.is_wp ?_); first | refine Nx.wo ?_ | refine Nx.zp (fun hc => ?_) (fun hc => ?_))
      | (refine Nx.zo ?_; first | refine Nx.opr rfl rfl ?_ | (refine Nx.call (Rpre := []) rfl rfl rfl (by kernel_rfl) rfl hT1 (Ent.refl _) ?_; rintro _ _ ⟨Am2, cm2, qs2, rfl, -, hqs2, rfl⟩) | refine Nx.so ?_ | refine Nx.sb (fun bx => ?_) | refine Nx.sa (fun A2 c2 => ?_))
      | ((with_reducible refine Nx.is_at ?_); first | refine Nx.a ?_ | refine Nx.zd ?_ | refine Nx.zs (fun hc => ?_) (fun hc => ?_))
      | ((with_reducible refine Nx.is_mix ?_); first | refine Nx.m ?_ | refine Nx.zm ?_ | refine Nx.zt (fun hc => ?_) (fun hc => ?_))
      | refine Nx.zx ?_ | fail
    exact Nx.imm_le hI1 (Nx.ret_fn rfl [_] ⟨none, 0, rfl, rfl⟩ ((Ent.vec_nil 3 1 _).trans (by (exact Ent.auto))))
  rw [h2] at hT1
  rw [if_neg (show ¬ tolE l rs ≠ 0 from fun h => h h2)]
  rw [if_pos rfl] at hT1
  repeat' first
    | ((with_reducible refine Nx.is_wp ?_); first | refine Nx.p_stopr 7 rfl ?_ | refine Nx.wo ?_ | refine Nx.zp (fun hc => ?_) (fun hc => ?_))
    | (refine Nx.zo ?_; first | refine Nx.opr rfl rfl ?_ | (refine Nx.call (Rpre := []) rfl rfl rfl (by kernel_rfl) rfl hT1 (Ent.refl _) ?_; rintro _ _ ⟨Am2, cm2, qs2, rfl, hqs2, -, rfl⟩) | refine Nx.so ?_ | refine Nx.sb (fun bx => ?_) | refine Nx.sa (fun A2 c2 => ?_))
    | ((with_reducible refine Nx.is_at ?_); first | refine Nx.a ?_ | refine Nx.zd ?_ | refine Nx.zs (fun hc => ?_) (fun hc => ?_))
    | ((with_reducible refine Nx.is_mix ?_); first | refine Nx.m ?_ | refine Nx.zm ?_ | refine Nx.zt (fun hc => ?_) (fun hc => ?_))
    | refine Nx.zx ?_ | fail
  refine Nx.unstop ?_
  obtain ⟨hg2, ha2, he2⟩ := hq2 qs2 h2 (hqs2 rfl)
  refine Nx.giveE (A := Am2) (c := cm2) (qs := qs2) (RR := [F]) (by (exact Ent.auto)) fun I2 hI2 hE2 => ?_
  have hC1 := certain_spec Am cm qs (prod l).toNat I2 (hE1.mono hI2) hg1 hz.1 (by omega) (by omega)
  have hC2 := fun I' (hle : PH.le I2 I') => certain_spec Am2 cm2 qs2 (prod l).toNat I' (hE2.mono hle) hg2 hz.1 (by omega) (by omega)
  rw [he1, hz.2.2] at hC1
  rw [he2, hz.2.2] at hC2
  unfold cerD
  rw [if_pos h1, if_pos h2]
  have hlb := certF_len (n := (prod l).toNat) (L := eqns (qsOf l (rs ++ [r])))
  have hn48 := hz.2.1
  generalize certF (prod l).toNat (eqns (qsOf l (rs ++ [r]))) = fb at hC1 hlb
  generalize certF (prod l).toNat (eqns (qsOf l rs)) = fa at hC2
  generalize (prod l).toNat = N at hlb hn48
  obtain ⟨xb, eb⟩ := fb
  obtain ⟨xa, ea⟩ := fa
  dsimp only at hC1 hC2 hlb
  dsimp only
  by_cases h3 : eb = 0
  case neg =>
    rw [if_pos h3]
    repeat' first
      | ((with_reducible refine Nx.is_wp ?_); first | refine Nx.wo ?_ | refine Nx.zp (fun hc => ?_) (fun hc => ?_))
      | (refine Nx.zo ?_; first | refine Nx.opr rfl rfl ?_ | (refine Nx.call (Rpre := []) rfl rfl rfl (by kernel_rfl) rfl hC1 (Ent.refl _) ?_; rintro _ _ ⟨A13, c13, rfl, rfl⟩) | refine Nx.so ?_ | refine Nx.sb (fun bx => ?_) | refine Nx.sa (fun A2 c2 => ?_))
      | ((with_reducible refine Nx.is_at ?_); first | refine Nx.a ?_ | refine Nx.zd ?_ | refine Nx.zs (fun hc => ?_) (fun hc => ?_))
      | ((with_reducible refine Nx.is_mix ?_); first | refine Nx.m ?_ | refine Nx.zm ?_ | refine Nx.zt (fun hc => ?_) (fun hc => ?_))
      | refine Nx.zx ?_ | fail
    exact Nx.imm_le (hI1.trans hI2) (Nx.ret_fn rfl [_] ⟨none, 0, rfl, rfl⟩ ((Ent.vec_nil 3 1 _).trans (by (exact Ent.auto))))
  subst h3
  rw [if_neg (show ¬ (0 : Int) ≠ 0 from fun h => h rfl)]
  by_cases h4 : ea = 0
  case neg =>
    rw [if_pos h4]
    repeat' first
      | ((with_reducible refine Nx.is_wp ?_); first | refine Nx.wo ?_ | refine Nx.zp (fun hc => ?_) (fun hc => ?_))
      | (refine Nx.zo ?_; first | refine Nx.opr rfl rfl ?_ | (refine Nx.call (Rpre := []) rfl rfl rfl (by kernel_rfl) rfl hC1 (Ent.refl _) ?_; rintro _ _ ⟨A13, c13, rfl, rfl⟩) | (refine Nx.call (Rpre := []) rfl rfl rfl (by kernel_rfl) rfl (hC2 I2 (PH.le_refl _)) (Ent.refl _) ?_; rintro _ _ ⟨A12, c12, rfl, rfl⟩) | refine Nx.so ?_ | refine Nx.sb (fun bx => ?_) | refine Nx.sa (fun A2 c2 => ?_))
      | ((with_reducible refine Nx.is_at ?_); first | refine Nx.a ?_ | refine Nx.zd ?_ | refine Nx.zs (fun hc => ?_) (fun hc => ?_))
      | ((with_reducible refine Nx.is_mix ?_); first | refine Nx.m ?_ | refine Nx.zm ?_ | refine Nx.zt (fun hc => ?_) (fun hc => ?_))
      | refine Nx.zx ?_ | fail
    exact Nx.imm_le (hI1.trans hI2) (Nx.ret_fn rfl [_] ⟨none, 0, rfl, rfl⟩ ((Ent.vec_nil 3 1 _).trans (by (exact Ent.auto))))
  subst h4
  rw [if_neg (show ¬ (0 : Int) ≠ 0 from fun h => h rfl)]
  repeat' first
    | ((with_reducible refine Nx.is_wp ?_); first | refine Nx.p_stopr 13 rfl ?_ | refine Nx.wo ?_ | refine Nx.zp (fun hc => ?_) (fun hc => ?_))
    | (refine Nx.zo ?_; first | refine Nx.opr rfl rfl ?_ | (refine Nx.call (Rpre := []) rfl rfl rfl (by kernel_rfl) rfl hC1 (Ent.refl _) ?_; rintro _ _ ⟨A13, c13, rfl, rfl⟩) | (refine Nx.call (Rpre := []) rfl rfl rfl (by kernel_rfl) rfl (hC2 I2 (PH.le_refl _)) (Ent.refl _) ?_; rintro _ _ ⟨A12, c12, rfl, rfl⟩) | refine Nx.so ?_ | refine Nx.sb (fun bx => ?_) | refine Nx.sa (fun A2 c2 => ?_))
    | ((with_reducible refine Nx.is_at ?_); first | refine Nx.a ?_ | refine Nx.zd ?_ | refine Nx.zs (fun hc => ?_) (fun hc => ?_))
    | ((with_reducible refine Nx.is_mix ?_); first | refine Nx.m ?_ | refine Nx.zm ?_ | refine Nx.zt (fun hc => ?_) (fun hc => ?_))
    | refine Nx.zx ?_ | fail
  refine Nx.unstop ?_
  revert bx; intro b14
  refine Nx.ent (R' := [iR A12 c12 xa, Blk b14 25 [.slice A12 xa.length c12], iR A13 c13 xb, F]) (by (exact Ent.auto)) ?_
  refine Nx.freezeAt 0 rfl fun I3 m3 hI3 hm3 h3 => ?_
  refine Nx.freezeAt 0 rfl fun I4 m4 hI4 hm4 h4 => ?_
  have hxa : Ints I4 A12 c12 xa := (Vec.sliceOf hm3 h3).mono hI4
  have hD := DeleteFI_spec 36 [.pointer (some ⟨b14, 0, none⟩)] (fun x => decide (x ∈ xa)) A13 c13 xb I4 (by kernel_rfl) (by omega) fun I' hI' x => known_spec b14 A12 c12 xa I' (fun _ _ => Rd.imm (cellH_mono (hm4.trans hI') (Blk.cell h4 rfl))) (hxa.mono hI') x
  repeat' first
    | ((with_reducible refine Nx.is_wp ?_); first | refine Nx.wo ?_ | refine Nx.zp (fun hc => ?_) (fun hc => ?_))
    | (refine Nx.zo ?_; first | refine Nx.opr rfl rfl ?_ | (refine Nx.call rfl rfl rfl (by kernel_rfl) rfl hD (by (exact Ent.auto)) ?_; rintro _ _ ⟨rfl, rfl⟩) | refine Nx.so ?_ | refine Nx.sb (fun bx => ?_) | refine Nx.sa (fun A2 c2 => ?_))
    | ((with_reducible refine Nx.is_at ?_); first | refine Nx.a ?_ | refine Nx.zd ?_ | refine Nx.zs (fun hc => ?_) (fun hc => ?_))
    | ((with_reducible refine Nx.is_mix ?_); first | refine Nx.m ?_ | refine Nx.zm ?_ | refine Nx.zt (fun hc => ?_) (fun hc => ?_))
    | refine Nx.zx ?_ | fail
  exact Nx.imm_le (((hI1.trans hI2).trans hI3).trans hI4) (Nx.ret_fn rfl [_] ⟨A13, c13, rfl, rfl⟩ (by (exact Ent.auto)))
end Go.Proofs.Ytcmdemfhbekabaa
/- Contracts of functions of the given program, and lemmas about plain lists and numbers: what the laws of this seat lean on. -/
namespace Go.Proofs.Ytcmdemfhbekabaa
open Go.Eng Go.Sol
attribute [local irreducible] opK wpList Code.wp Exit.then Exit.inBlock fnPost bodyPost Nx Calls Oper.wp Rd Rds Wr Ent Stars Blk Again Vec FnSpec wpMix QRun Stop Upto wpAt
/-! The example of the chapter on an attacker -/
def exA (v1 g1 x1 : Nat) : List Rel := [⟨0, some ⟨v1, 0, none⟩, 1, [(some ⟨g1, 0, none⟩, 2, [0, 0])], (some ⟨x1, 0, none⟩, 1, [1])⟩]
def exB (v2 g2 x2 : Nat) : Rel := ⟨1, some ⟨v2, 0, none⟩, 1, [(some ⟨g2, 0, none⟩, 2, [0, 1])], (some ⟨x2, 0, none⟩, 2, [0, -1])⟩
theorem exQ1 (v1 g1 x1 : Nat) : eqns (qsOf [2] (exA v1 g1 x1)) = [([0, 1], 1)] := by kernel_rfl
theorem exQ2 (v1 g1 x1 v2 g2 x2 : Nat) : eqns (qsOf [2] (exA v1 g1 x1 ++ [exB v2 g2 x2])) = [([0, 1], 1), ([0], 0)] := by kernel_rfl
theorem exT1 (v1 g1 x1 : Nat) : tolE [2] (exA v1 g1 x1) = 0 := by kernel_rfl
theorem exT2 (v1 g1 x1 v2 g2 x2 : Nat) : tolE [2] (exA v1 g1 x1 ++ [exB v2 g2 x2]) = 0 := by kernel_rfl
theorem exO1 : solsOf 2 [([0, 1], 1)] = [[0, 1], [1, 0]] := by kernel_rfl
theorem exO2 : solsOf 2 [([0, 1], 1), ([0], 0)] = [[0, 1]] := by kernel_rfl
theorem exU1 : touch 2 [([0, 1], 1)] = [0, 1] := by kernel_rfl
theorem exU2 : touch 2 [([0, 1], 1), ([0], 0)] = [0, 1] := by kernel_rfl
theorem vals_of {n k : Nat} {L : List Eqn} {S : List (List Int)} {r : List Int} (hS : solsOf n L = S) (hr : r.Pairwise (· < ·)) (h : ∀ z, z ∈ r ↔ z ∈ S.map fun s => s.getD k 0) : valsOf n L k = r :=
  (vals_set n L k).same (q := fun z => z ∈ r) ⟨hr, fun _ => Iff.rfl⟩ fun z => by rw [h, hS, List.mem_map]
theorem exV10 : valsOf 2 [([0, 1], 1)] 0 = [0, 1] := vals_of exO1 (by decide) fun _ => Iff.rfl
theorem exV11 : valsOf 2 [([0, 1], 1)] 1 = [0, 1] := vals_of exO1 (by decide) fun z => by simp [or_comm]
theorem exV20 : valsOf 2 [([0, 1], 1), ([0], 0)] 0 = [0] := vals_of exO2 (by decide) fun _ => Iff.rfl
theorem exV21 : valsOf 2 [([0, 1], 1), ([0], 0)] 1 = [1] := vals_of exO2 (by decide) fun _ => Iff.rfl
theorem exC1 : certF 2 [([0, 1], 1)] = ([], 0) := by
  unfold certF certL certU
  rw [exO1, exU1, if_neg (by decide), List.filter_cons_of_neg (by rw [exV10]; decide), List.filter_cons_of_neg (by rw [exV11]; decide)]
  rfl
theorem exC2 : certF 2 [([0, 1], 1), ([0], 0)] = ([0, 1], 0) := by
  unfold certF certL certU
  rw [exO2, exU2, if_neg (by decide), List.filter_cons_of_pos (by rw [exV20]; decide), List.filter_cons_of_pos (by rw [exV21]; decide)]
  rfl
theorem exAC (v1 g1 x1 : Nat) : cerD [2] (exA v1 g1 x1) = ([], 0) := by
  unfold cerD
  rw [exT1, if_pos rfl, exQ1]
  exact exC1
theorem exAC2 (v1 g1 x1 v2 g2 x2 : Nat) : cerD [2] (exA v1 g1 x1 ++ [exB v2 g2 x2]) = ([0, 1], 0) := by
  unfold cerD
  rw [exT2, if_pos rfl, exQ2]
  exact exC2
theorem exAV (v1 g1 x1 : Nat) : valD [2] (exA v1 g1 x1) 0 = ([0, 1], 0) := by
  unfold valD
  rw [exT1, if_pos rfl, exQ1]
  show valF 2 [([0, 1], 1)] 0 = _
  unfold valF
  rw [if_neg (by decide), exO1, if_neg (by decide), show (0 : Int).toNat = 0 from rfl, exU1, if_pos (by decide), exV10]
theorem exAL (v1 g1 x1 v2 g2 x2 : Nat) : lrnD [2] (exA v1 g1 x1) (exB v2 g2 x2) = ([0, 1], 0) := by
  unfold lrnD
  rw [exT1, exT2, exAC, exAC2, if_neg (by decide), if_neg (by decide), if_neg (by decide), if_neg (by decide)]
  rfl
theorem exS2 : Sizes [2] := ⟨by decide, by decide, by decide⟩
set_option maxRecDepth 10000 in
set_option maxHeartbeats 16000000 in
theorem awakeA_spec (I : PH) : FnSpec Try.prog 18 [] I [] (fun v R' => v = .bool true ∧ R' = []) := by
  refine FnSpec.enterP Try.func18 rfl Try.ntmps18 rfl fun w F => ?_
  repeat' first
    | ((with_reducible refine Nx.is_wp ?_); first | refine Nx.p_stopr 3 rfl ?_ | refine Nx.wo ?_ | refine Nx.zp (fun hc => ?_) (fun hc => ?_))
    | (refine Nx.zo ?_; first | refine Nx.opr rfl rfl ?_ | refine Nx.so ?_ | refine Nx.sb (fun bx => ?_) | refine Nx.sa (fun A2 c2 => ?_))
    | ((with_reducible refine Nx.is_at ?_); first | refine Nx.a ?_ | refine Nx.zd ?_ | refine Nx.zs (fun hc => ?_) (fun hc => ?_))
    | ((with_reducible refine Nx.is_mix ?_); first | refine Nx.m ?_ | refine Nx.zm ?_ | refine Nx.zt (fun hc => ?_) (fun hc => ?_))
    | refine Nx.zx ?_ | fail
  refine Nx.unstop ?_
  rename_i bsz b1 g1 v1 x1
  revert bx; intro brl
  refine Nx.ent (R' := Stars [Blk brl 44 [.int .i64 0, .slice (some ⟨v1, 0, none⟩) 1 1, .slice (some ⟨x1, 0, none⟩) 1 1], Blk x1 3 [.int .i64 1], Blk v1 25 [.slice (some ⟨g1, 0, none⟩) 2 2], Blk g1 3 [.int .i64 0, .int .i64 0], Blk bsz 3 [.int .i64 2]] :: [Blk b1 27 [.slice (some ⟨bsz, 0, none⟩) 1 1], F]) (Ent.trans (R' := [Blk brl 44 [.int .i64 0, .slice (some ⟨v1, 0, none⟩) 1 1, .slice (some ⟨x1, 0, none⟩) 1 1], Blk x1 3 [.int .i64 1], Blk v1 25 [.slice (some ⟨g1, 0, none⟩) 2 2], Blk g1 3 [.int .i64 0, .int .i64 0], Blk bsz 3 [.int .i64 2]] ++ [Blk b1 27 [.slice (some ⟨bsz, 0, none⟩) 1 1], F]) (by (exact Ent.auto)) Ent.stars) ?_
  refine Nx.freezeAt 0 rfl fun I1 m1 hI1 hm1 h1 => ?_
  obtain ⟨k0, l0, c0⟩ := Stars.get 0 h1 rfl
  obtain ⟨k1, l1, c1⟩ := Stars.get 1 h1 rfl
  obtain ⟨k2, l2, c2⟩ := Stars.get 2 h1 rfl
  obtain ⟨k3, l3, c3⟩ := Stars.get 3 h1 rfl
  obtain ⟨k4, l4, c4⟩ := Stars.get 4 h1 rfl
  have hsz : Ints I1 (some ⟨bsz, 0, none⟩) 1 [2] := Blk.sliceOf (t := 3) (l := [2]) (l4.trans hm1) c4 (by decide)
  have hG1 : Ints I1 (some ⟨g1, 0, none⟩) 2 [0, 0] := Blk.sliceOf (t := 3) (l := [0, 0]) (l3.trans hm1) c3 (by decide)
  have hR1 : RowsOf I1 (some ⟨v1, 0, none⟩) 1 [(some ⟨g1, 0, none⟩, 2, [0, 0])] := ⟨Blk.sliceOf (t := 25) (l := [((some ⟨g1, 0, none⟩, 2, [0, 0]) : Row)]) (l2.trans hm1) c2 (by unfold maxLen; simp), fun r hr => by rw [List.mem_singleton.1 hr]; exact hG1⟩
  have hX1 : Ints I1 (some ⟨x1, 0, none⟩) 1 [1] := Blk.sliceOf (t := 3) (l := [1]) (l1.trans hm1) c1 (by decide)
  have hRs : Rels I1 (some ⟨brl, 0, none⟩) 1 (exA v1 g1 x1) := ⟨Blk.sliceN (t := 44) (l := exA v1 g1 x1) (l0.trans hm1) c0 (fun _ _ => rfl) (by unfold maxLen exA; simp), fun r hr => by
      rw [List.mem_singleton.1 hr]
      exact hR1, fun r hr => by
      rw [List.mem_singleton.1 hr]
      exact hX1⟩
  have hw1 : Viewed [2] [(some ⟨g1, 0, none⟩, 2, [0, 0])] := ⟨rfl, fun k hk => by
    obtain rfl : k = 0 := by simpa using hk
    exact ⟨rfl, rfl⟩⟩
  have hw : ∀ r ∈ exA v1 g1 x1, Viewed [2] r.v := fun r hr => by
    rw [List.mem_singleton.1 hr]
    exact hw1
  have hh1 : (exA v1 g1 x1).length ≤ 1000 := show 1 ≤ 1000 by decide
  have hC : FnSpec Try.prog 16 [.agg #[.slice (some ⟨bsz, 0, none⟩) 1 1], .slice (some ⟨brl, 0, none⟩) 1 1] I1 [] (fun u R' => ∃ (A' : Option Addr) (c' : Nat), u = .tuple #[.slice A' 0 c', .int .i64 0] ∧ R' = [iR A' c' []]) := by
    have h := Certain_spec (some ⟨bsz, 0, none⟩) (some ⟨brl, 0, none⟩) 1 1 [2] (exA v1 g1 x1) I1 hsz exS2 hRs hw
    rw [exAC] at h
    exact h
  have hV : FnSpec Try.prog 38 [.agg #[.slice (some ⟨bsz, 0, none⟩) 1 1], .slice (some ⟨brl, 0, none⟩) 1 1, .int .i64 0] I1 [] (fun u R' => ∃ (A' : Option Addr) (c' : Nat), u = .tuple #[.slice A' 2 c', .int .i64 0] ∧ R' = [iR A' c' [0, 1]]) := by
    have h := Values_spec (some ⟨bsz, 0, none⟩) (some ⟨brl, 0, none⟩) 1 1 [2] (exA v1 g1 x1) 0 I1 hsz exS2 hRs hw
    rw [exAV] at h
    exact h
  have hL := fun (v2 g2 x2 : Nat) (m I' : PH) (hle : PH.le I1 I') (hm : PH.le m I') (hv : Stars [Blk g2 3 [.int .i64 0, .int .i64 1], Blk v2 25 [.slice (some ⟨g2, 0, none⟩) 2 2], Blk x2 3 [.int .i64 0, .int .i64 (-1)]] m) => (by
    obtain ⟨q1, z1, y1⟩ := Stars.get 0 hv rfl
    obtain ⟨q2, z2, y2⟩ := Stars.get 1 hv rfl
    obtain ⟨q3, z3, y3⟩ := Stars.get 2 hv rfl
    have hG2 : Ints I' (some ⟨g2, 0, none⟩) 2 [0, 1] := Blk.sliceOf (t := 3) (l := [0, 1]) (z1.trans hm) y1 (by decide)
    have hR2 : RowsOf I' (some ⟨v2, 0, none⟩) 1 [(some ⟨g2, 0, none⟩, 2, [0, 1])] := ⟨Blk.sliceOf (t := 25) (l := [((some ⟨g2, 0, none⟩, 2, [0, 1]) : Row)]) (z2.trans hm) y2 (by unfold maxLen; simp), fun r hr => by rw [List.mem_singleton.1 hr]; exact hG2⟩
    have hX2 : Ints I' (some ⟨x2, 0, none⟩) 2 [0, -1] := Blk.sliceOf (t := 3) (l := [0, -1]) (z3.trans hm) y3 (by decide)
    have hw2 : Viewed [2] [(some ⟨g2, 0, none⟩, 2, [0, 1])] := ⟨rfl, fun k hk => by
      obtain rfl : k = 0 := by simpa using hk
      exact ⟨rfl, rfl⟩⟩
    have h := Learns_spec (some ⟨bsz, 0, none⟩) (some ⟨brl, 0, none⟩) 1 1 [2] (exA v1 g1 x1) (exB v2 g2 x2) I' (hsz.mono hle) exS2 (hRs.mono hle) hw hh1 hR2 hX2 hw2
    rw [exAL] at h
    exact h :
    FnSpec Try.prog 17 [.agg #[.slice (some ⟨bsz, 0, none⟩) 1 1], .slice (some ⟨brl, 0, none⟩) 1 1, .agg #[.int .i64 1, .slice (some ⟨v2, 0, none⟩) 1 1, .slice (some ⟨x2, 0, none⟩) 2 2]] I' [] (fun u R' => ∃ (A' : Option Addr) (c' : Nat), u = .tuple #[.slice A' 2 c', .int .i64 0] ∧ R' = [iR A' c' [0, 1]]))
  have hIn := fun (A' : Option Addr) (c' bq : Nat) (m I' : PH) (_ : PH.le I1 I') (hm : PH.le m I') (hv : Stars [iR A' c' [0, 1], Blk bq 3 [.int .i64 0, .int .i64 1]] m) => (by
    obtain ⟨q1, z1, y1⟩ := Stars.get 0 hv rfl
    obtain ⟨q2, z2, y2⟩ := Stars.get 1 hv rfl
    have h := Ints_spec A' (some ⟨bq, 0, none⟩) c' 2 [0, 1] [0, 1] I' (Vec.sliceOf (z1.trans hm) y1) (Blk.sliceOf (t := 3) (l := [0, 1]) (z2.trans hm) y2 (by decide))
    rw [decide_eq_true rfl] at h
    exact h :
    FnSpec Try.prog 39 [.slice A' 2 c', .slice (some ⟨bq, 0, none⟩) 2 2] I' [] (fun u R' => u = .bool true ∧ R' = []))
  repeat' first
    | ((with_reducible refine Nx.is_wp ?_); first | refine Nx.wo ?_ | refine Nx.zp (fun hc => ?_) (fun hc => ?_))
    | (refine Nx.zo ?_; first | refine Nx.opr rfl rfl ?_ | (refine Nx.call (Rpre := []) rfl rfl rfl (by kernel_rfl) rfl hC (Ent.refl _) ?_; rintro _ _ ⟨Ac, cc, rfl, rfl⟩) | (refine Nx.call (Rpre := []) rfl rfl rfl (by kernel_rfl) rfl hV (Ent.refl _) ?_; rintro _ _ ⟨Av, cv, rfl, rfl⟩) | (rename_i g2 v2; refine Nx.call rfl rfl rfl (by kernel_rfl) rfl (FnSpec.keep [Blk g2 3 [.int .i64 0, .int .i64 1], Blk v2 25 [.slice (some ⟨g2, 0, none⟩) 2 2], Blk bx 3 [.int .i64 0, .int .i64 (-1)]] fun m I' hle hm' hv => hL v2 g2 bx m I' hle hm' hv) (by (exact Ent.auto)) ?_; rintro _ _ ⟨_, ⟨Al, cl, rfl, rfl⟩, rfl⟩) | (refine Nx.call rfl rfl rfl (by kernel_rfl) rfl (FnSpec.keep [iR _ _ [0, 1], Blk _ 3 [.int .i64 0, .int .i64 1]] fun m I' hle hm' hv => hIn _ _ _ m I' hle hm' hv) (by (exact Ent.auto)) ?_; rintro _ _ ⟨_, ⟨rfl, rfl⟩, rfl⟩) | refine Nx.so ?_ | refine Nx.sb (fun bx => ?_) | refine Nx.sa (fun A2 c2 => ?_))
    | ((with_reducible refine Nx.is_at ?_); first | refine Nx.a ?_ | refine Nx.zd ?_ | refine Nx.zs (fun hc => ?_) (fun hc => ?_))
    | ((with_reducible refine Nx.is_mix ?_); first | refine Nx.m ?_ | refine Nx.zm ?_ | refine Nx.zt (fun hc => ?_) (fun hc => ?_))
    | refine Nx.zx ?_ | fail
  exact Nx.imm_le hI1 (Nx.ret_fn rfl [] ⟨rfl, rfl⟩ (by (exact Ent.auto)))
end Go.Proofs.Ytcmdemfhbekabaa
/- Contracts of functions of the given program, and lemmas about plain lists and numbers: what the laws of this seat lean on. -/
namespace Go.Proofs.Ytcmdemfhbekabaa
open Go.Eng Go.Sol
attribute [local irreducible] opK wpList Code.wp Exit.then Exit.inBlock fnPost bodyPost Nx Calls Oper.wp Rd Rds Wr Ent Stars Blk Again Vec FnSpec wpMix QRun Stop Upto wpAt
/-! The same equations in another order; each solution by itself -/
theorem touch_same {N : Nat} {l r : List EqR} (h : ∀ q, q ∈ l ↔ q ∈ r) : touch N (eqns l) = touch N (eqns r) := by
  unfold touch
  refine List.filter_congr fun c _ => ?_
  rw [Bool.eq_iff_iff, List.any_eq_true, List.any_eq_true]
  constructor
  · rintro ⟨q, hq, hc⟩
    obtain ⟨p, hp, rfl⟩ := List.mem_map.1 hq
    exact ⟨eqn p, List.mem_map.2 ⟨p, (h p).1 hp, rfl⟩, hc⟩
  · rintro ⟨q, hq, hc⟩
    obtain ⟨p, hp, rfl⟩ := List.mem_map.1 hq
    exact ⟨eqn p, List.mem_map.2 ⟨p, (h p).2 hp, rfl⟩, hc⟩
theorem sols_same {N : Nat} {l r : List EqR} (hl : ∀ q ∈ l, GoodE N q) (h : ∀ q, q ∈ l ↔ q ∈ r) : solsOf N (eqns l) = solsOf N (eqns r) := by
  have hr : ∀ q ∈ r, GoodE N q := fun q hq => hl q ((h q).2 hq)
  have ht := touch_same (N := N) h
  refine sorted_same (r := ltU false (touch N (eqns l))) (fun a => ltU_irrefl) (fun a b => ltU_asymm) (sols_sorted hl) (by rw [ht]; exact sols_sorted hr) fun s => ?_
  rw [mem_sols hl, mem_sols hr, ht]
  refine ⟨fun g => ⟨g.len, g.same, g.pos, fun q hq => ?_⟩, fun g => ⟨g.len, g.same, g.pos, fun q hq => ?_⟩⟩
  · obtain ⟨p, hp, rfl⟩ := List.mem_map.1 hq
    exact g.sum _ (List.mem_map.2 ⟨p, (h p).2 hp, rfl⟩)
  · obtain ⟨p, hp, rfl⟩ := List.mem_map.1 hq
    exact g.sum _ (List.mem_map.2 ⟨p, (h p).1 hp, rfl⟩)
theorem room_le {l r : List EqR} (h : ∀ q ∈ l, q ∈ r) (c : Nat) : roomOf (eqns r) c ≤ roomOf (eqns l) c := by
  have h1 := (le_roomOf (c := c) (eqns r)).1 (Int.le_refl _)
  refine (le_roomOf (eqns l)).2 ⟨h1.1, fun q hq hc => ?_⟩
  obtain ⟨p, hp, rfl⟩ := List.mem_map.1 hq
  exact h1.2 _ (List.mem_map.2 ⟨p, h p hp, rfl⟩) hc
theorem small_same {N : Nat} {l r : List EqR} (h : ∀ q, q ∈ l ↔ q ∈ r) : smallB N (eqns l) = smallB N (eqns r) := by
  unfold smallB roomsOf
  rw [touch_same h]
  congr 1
  refine List.map_congr_left fun c _ => Int.le_antisymm (room_le (fun q hq => (h q).2 hq) c) (room_le (fun q hq => (h q).1 hq) c)
end Go.Proofs.Ytcmdemfhbekabaa
