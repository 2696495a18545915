/- Contracts of functions of the given program, and lemmas about plain lists and numbers: what the laws of this seat lean on. -/
import Derived.Test.YtcmdemfhbekabaaGreatDa9
namespace Go.Proofs.YtcmdemfhbekabaaGreat
open Go.Eng Go.Sol
attribute [local irreducible] opK wpList Code.wp Exit.then Exit.inBlock fnPost bodyPost Nx Calls Oper.wp Rd Rds Wr Ent Stars Blk Again Vec FnSpec wpMix QRun Stop Upto wpAt
/-! The references of releases and of differencing, for any releases with right views -/
set_option maxRecDepth 10000 in
set_option maxHeartbeats 8000000 in
theorem rrel_spec (A : Option Addr) (c : Nat) (l : List Int) (r : Rel) (before : Int) (I : PH) (hb : -1 ≤ before) (hl : Ints I A c l) (hs : Sizes l) (hv : RowsOf I r.va r.vc r.v) (hd : Ints I r.val.1 r.val.2.1 r.val.2.2) (hw : Viewed l r.v) :
    FnSpec Tryz.prog 104 [.agg #[.slice A l.length c], .agg #[.int .i64 r.num, .slice r.va r.v.length r.vc, .slice r.val.1 r.val.2.2.length r.val.2.1], .int .i64 before] I [] (fun u R' => u = .int .i64 (relE l r before) ∧ R' = []) := by
  obtain ⟨num, B, cv, v, D, cd, vs⟩ := r
  dsimp only at hv hd hw ⊢
  have hvl := hd.len
  have hP := RPublished_spec A B c cv l v I hl hs hv hw
  unfold relE
  dsimp only
  generalize prod (szs v) = P at hP
  refine FnSpec.enterP Tryz.func104 rfl Tryz.ntmps104 rfl fun w F => ?_
  by_cases h1 : num ≤ before
  · rw [if_pos (.inl h1)]
    repeat' first
      | ((with_reducible refine Nx.is_wp ?_); first | refine Nx.wo ?_ | refine Nx.zp (fun hc => ?_) (fun hc => ?_))
      | (refine Nx.zo ?_; first | refine Nx.opr rfl rfl ?_ | refine Nx.so ?_ | refine Nx.sb (fun bx => ?_) | refine Nx.sa (fun A2 c2 => ?_))
      | ((with_reducible refine Nx.is_at ?_); first | refine Nx.a ?_ | refine Nx.zd ?_ | refine Nx.zs (fun hc => ?_) (fun hc => ?_))
      | ((with_reducible refine Nx.is_mix ?_); first | refine Nx.m ?_ | refine Nx.zm ?_ | refine Nx.zt (fun hc => ?_) (fun hc => ?_))
      | refine Nx.zx ?_ | fail
    exact Nx.ret_fn rfl [] ⟨rfl, rfl⟩ (by (exact Ent.auto))
  by_cases h2 : 24 ≤ num
  · rw [if_pos (.inr h2)]
    repeat' first
      | ((with_reducible refine Nx.is_wp ?_); first | refine Nx.wo ?_ | refine Nx.zp (fun hc => ?_) (fun hc => ?_))
      | (refine Nx.zo ?_; first | refine Nx.opr rfl rfl ?_ | refine Nx.so ?_ | refine Nx.sb (fun bx => ?_) | refine Nx.sa (fun A2 c2 => ?_))
      | ((with_reducible refine Nx.is_at ?_); first | refine Nx.a ?_ | refine Nx.zd ?_ | refine Nx.zs (fun hc => ?_) (fun hc => ?_))
      | ((with_reducible refine Nx.is_mix ?_); first | refine Nx.m ?_ | refine Nx.zm ?_ | refine Nx.zt (fun hc => ?_) (fun hc => ?_))
      | refine Nx.zx ?_ | fail
    exact Nx.ret_fn rfl [] ⟨rfl, rfl⟩ (by (exact Ent.auto))
  rw [if_neg (by omega)]
  by_cases h3 : (vs.length : Int) ≠ P
  · rw [if_pos h3]
    repeat' first
      | ((with_reducible refine Nx.is_wp ?_); first | refine Nx.wo ?_ | refine Nx.p_draw (id := 6) rfl [0, 1, 2, 3, 4, 5, 6, 7] [6] _ rfl rfl (by kernel_rfl) (by kernel_rfl) rfl (by repeat first | exact PanicOk.fn | refine PanicOk.then_ ?_ | refine PanicOk.inB ?_) (Ent.refl _) ?_ | refine Nx.zp (fun hc => ?_) (fun hc => ?_))
      | (refine Nx.zo ?_; first | refine Nx.opr rfl rfl ?_ | refine Nx.loads rfl rfl rfl rfl (Rds.cut 0 1 rfl rfl) rfl ?_ | refine Nx.callv rfl rfl rfl (by kernel_rfl) rfl (RView_spec _ _ _ _ _ _ _ hl hs hv hw) ?_ | refine Nx.callv rfl rfl rfl (by kernel_rfl) rfl hP ?_ | refine Nx.so ?_ | refine Nx.sb (fun bx => ?_) | refine Nx.sa (fun A2 c2 => ?_))
      | ((with_reducible refine Nx.is_at ?_); first | refine Nx.a ?_ | refine Nx.zd ?_ | refine Nx.zs (fun hc => ?_) (fun hc => ?_))
      | ((with_reducible refine Nx.is_mix ?_); first | refine Nx.m_quiet rfl rfl rfl rfl rfl (by first | exact QRun.opr rfl | exact QRun.loads rfl rfl rfl (Rds.cut 0 1 rfl rfl) rfl) ?_ | refine Nx.m_quiet_do rfl rfl rfl rfl rfl rfl rfl (by first | exact QRun.opr rfl | exact QRun.loads rfl rfl rfl (Rds.cut 0 1 rfl rfl) rfl) ?_ | refine Nx.m ?_ | refine Nx.zm ?_ | refine Nx.zt (fun hc => ?_) (fun hc => ?_))
      | refine Nx.zx ?_ | fail
    exact Nx.ret_fn rfl [] ⟨rfl, rfl⟩ (by (exact Ent.auto))
  rw [if_neg h3]
  have h3 : (vs.length : Int) = P := Decidable.byContradiction h3
  obtain ⟨er, her⟩ : ∃ er, er = if vs.any badV = true then (2 : Int) else 0 := ⟨_, rfl⟩
  rw [← her]
  repeat' first
    | ((with_reducible refine Nx.is_wp ?_); first | refine Nx.wo ?_ | refine Nx.p_draw (id := 6) rfl [0, 1, 2, 3, 4, 5, 6, 7] [6] _ rfl rfl (by kernel_rfl) (by kernel_rfl) rfl (by repeat first | exact PanicOk.fn | refine PanicOk.then_ ?_ | refine PanicOk.inB ?_) (Ent.refl _) ?_ | refine Nx.zp (fun hc => ?_) (fun hc => ?_))
    | (refine Nx.zo ?_; first | refine Nx.opr rfl rfl ?_ | refine Nx.loads rfl rfl rfl rfl (Rds.cut 0 1 rfl rfl) rfl ?_ | refine Nx.callv rfl rfl rfl (by kernel_rfl) rfl (RView_spec _ _ _ _ _ _ _ hl hs hv hw) ?_ | refine Nx.callv rfl rfl rfl (by kernel_rfl) rfl hP ?_ | refine Nx.so ?_ | refine Nx.sb (fun bx => ?_) | refine Nx.sa (fun A2 c2 => ?_))
    | ((with_reducible refine Nx.is_at ?_); first | refine Nx.a ?_ | refine Nx.zd ?_ | refine Nx.zs (fun hc => ?_) (fun hc => ?_))
    | ((with_reducible refine Nx.is_mix ?_); first | refine Nx.m_quiet rfl rfl rfl rfl rfl (by first | exact QRun.opr rfl | exact QRun.loads rfl rfl rfl (Rds.cut 0 1 rfl rfl) rfl) ?_ | refine Nx.m_quiet_do rfl rfl rfl rfl rfl rfl rfl (by first | exact QRun.opr rfl | exact QRun.loads rfl rfl rfl (Rds.cut 0 1 rfl rfl) rfl) ?_ | refine Nx.m ?_ | refine Nx.zm ?_ | refine Nx.zt (fun hc => ?_) (fun hc => ?_))
    | refine Nx.zx ?_ | fail
  refine Nx.p_loop (σ := Nat) (fun i => [(40, .slice D vs.length cd), (41, .int .i64 vs.length), (42, .int .i64 (i : Int))])
    (fun _ => [F]) (fun i => i ≤ vs.length ∧ er = if (vs.drop i).any badV = true then (2 : Int) else 0) (fun i => vs.length - i) 0 rfl ⟨Nat.zero_le _, by rw [List.drop_zero]; exact her⟩ ⟨rfl, rfl, rfl, trivial⟩ (by (exact Ent.auto)) ?_
  rintro i ⟨hi, he⟩
  by_cases hiv : i < vs.length
  case neg =>
    rw [List.drop_eq_nil_of_le (by omega), List.any_nil, if_neg (by decide)] at he
    subst he
    repeat' first
      | ((with_reducible refine Nx.is_wp ?_); first | refine Nx.wo ?_ | refine Nx.zp (fun hc => ?_) (fun hc => ?_))
      | (refine Nx.zo ?_; first | refine Nx.opr rfl rfl ?_ | refine Nx.so ?_ | refine Nx.sb (fun bx => ?_) | refine Nx.sa (fun A2 c2 => ?_))
      | ((with_reducible refine Nx.is_at ?_); first | refine Nx.a ?_ | refine Nx.zd ?_ | refine Nx.zs (fun hc => ?_) (fun hc => ?_))
      | ((with_reducible refine Nx.is_mix ?_); first | refine Nx.m ?_ | refine Nx.zm ?_ | refine Nx.zt (fun hc => ?_) (fun hc => ?_))
      | refine Nx.zx ?_ | fail
    exact Nx.ret_fn rfl [] ⟨rfl, rfl⟩ (by (exact Ent.auto))
  have hrd : ∀ (W : World) (R : List Res), Rd W I R ((ad D).add (i * 1)) (.int .i64 (vs.getD i default)) := fun W R => hd.rd hiv
  rw [show vs.drop i = vs.getD i default :: vs.drop (i + 1) by rw [List.drop_eq_getElem_cons hiv, List.getD_eq_getElem?_getD, List.getElem?_eq_getElem hiv]; rfl, List.any_cons] at he
  generalize vs.getD i default = z at he hrd
  by_cases hz : z = -1
  · subst hz
    rw [show badV (-1) = false from rfl, Bool.false_or] at he
    repeat' first
      | ((with_reducible refine Nx.is_wp ?_); first | refine Nx.wo ?_ | refine Nx.zp (fun hc => ?_) (fun hc => ?_))
      | (refine Nx.zo ?_; first | refine Nx.opr rfl rfl ?_ | refine Nx.indexAddr_nat (A := D) (i := i) (sz := 1) rfl rfl rfl rfl rfl (by omega) (hd.isSome (by omega)) ?_ | refine Nx.load rfl rfl rfl (hrd _ _) ?_ | refine Nx.so ?_ | refine Nx.sb (fun bx => ?_) | refine Nx.sa (fun A2 c2 => ?_))
      | ((with_reducible refine Nx.is_at ?_); first | refine Nx.a ?_ | refine Nx.zd ?_ | refine Nx.zs (fun hc => ?_) (fun hc => ?_))
      | ((with_reducible refine Nx.is_mix ?_); first | refine Nx.m ?_ | refine Nx.zm ?_ | refine Nx.zt (fun hc => ?_) (fun hc => ?_))
      | refine Nx.zx ?_ | fail
    exact Nx.again (i + 1) ⟨hiv, he⟩ (by omega) ⟨rfl, rfl, rfl, trivial⟩ (by (exact Ent.auto))
  by_cases hz1 : 0 ≤ z ∧ z ≤ 1000000
  · rw [show badV z = false by unfold badV; rw [decide_eq_true hz1]; simp, Bool.false_or] at he
    repeat' first
      | ((with_reducible refine Nx.is_wp ?_); first | refine Nx.wo ?_ | refine Nx.zp (fun hc => ?_) (fun hc => ?_))
      | (refine Nx.zo ?_; first | refine Nx.opr rfl rfl ?_ | refine Nx.indexAddr_nat (A := D) (i := i) (sz := 1) rfl rfl rfl rfl rfl (by omega) (hd.isSome (by omega)) ?_ | refine Nx.load rfl rfl rfl (hrd _ _) ?_ | refine Nx.so ?_ | refine Nx.sb (fun bx => ?_) | refine Nx.sa (fun A2 c2 => ?_))
      | ((with_reducible refine Nx.is_at ?_); first | refine Nx.a ?_ | refine Nx.zd ?_ | refine Nx.zs (fun hc => ?_) (fun hc => ?_))
      | ((with_reducible refine Nx.is_mix ?_); first | refine Nx.m ?_ | refine Nx.zm ?_ | refine Nx.zt (fun hc => ?_) (fun hc => ?_))
      | refine Nx.zx ?_ | fail
    exact Nx.again (i + 1) ⟨hiv, he⟩ (by omega) ⟨rfl, rfl, rfl, trivial⟩ (by (exact Ent.auto))
  · rw [show badV z = true by unfold badV; rw [decide_eq_true (show z ≠ -1 from hz), decide_eq_false hz1]; rfl, Bool.true_or, if_pos rfl] at he
    subst he
    by_cases hz0 : z < 0
    · repeat' first
        | ((with_reducible refine Nx.is_wp ?_); first | refine Nx.wo ?_ | refine Nx.zp (fun hc => ?_) (fun hc => ?_))
        | (refine Nx.zo ?_; first | refine Nx.opr rfl rfl ?_ | refine Nx.indexAddr_nat (A := D) (i := i) (sz := 1) rfl rfl rfl rfl rfl (by omega) (hd.isSome (by omega)) ?_ | refine Nx.load rfl rfl rfl (hrd _ _) ?_ | refine Nx.so ?_ | refine Nx.sb (fun bx => ?_) | refine Nx.sa (fun A2 c2 => ?_))
        | ((with_reducible refine Nx.is_at ?_); first | refine Nx.a ?_ | refine Nx.zd ?_ | refine Nx.zs (fun hc => ?_) (fun hc => ?_))
        | ((with_reducible refine Nx.is_mix ?_); first | refine Nx.m ?_ | refine Nx.zm ?_ | refine Nx.zt (fun hc => ?_) (fun hc => ?_))
        | refine Nx.zx ?_ | fail
      exact Nx.ret_fn rfl [] ⟨rfl, rfl⟩ (by (exact Ent.auto))
    · repeat' first
        | ((with_reducible refine Nx.is_wp ?_); first | refine Nx.wo ?_ | refine Nx.zp (fun hc => ?_) (fun hc => ?_))
        | (refine Nx.zo ?_; first | refine Nx.opr rfl rfl ?_ | refine Nx.indexAddr_nat (A := D) (i := i) (sz := 1) rfl rfl rfl rfl rfl (by omega) (hd.isSome (by omega)) ?_ | refine Nx.load rfl rfl rfl (hrd _ _) ?_ | refine Nx.so ?_ | refine Nx.sb (fun bx => ?_) | refine Nx.sa (fun A2 c2 => ?_))
        | ((with_reducible refine Nx.is_at ?_); first | refine Nx.a ?_ | refine Nx.zd ?_ | refine Nx.zs (fun hc => ?_) (fun hc => ?_))
        | ((with_reducible refine Nx.is_mix ?_); first | refine Nx.m ?_ | refine Nx.zm ?_ | refine Nx.zt (fun hc => ?_) (fun hc => ?_))
        | refine Nx.zx ?_ | fail
      exact Nx.ret_fn rfl [] ⟨rfl, rfl⟩ (by (exact Ent.auto))
theorem relE_zero {l : List Int} {r : Rel} {b : Int} (h : relE l r b = 0) : b < r.num := by
  unfold relE at h
  split at h
  · cases h
  · omega
set_option maxRecDepth 10000 in
set_option maxHeartbeats 8000000 in
theorem RECheckE_spec (A As : Option Addr) (c cs : Nat) (l : List Int) (rs : List Rel) (I : PH) (hl : Ints I A c l) (hs : Sizes l) (hr : Rels I As cs rs) (hw : ∀ r ∈ rs, Viewed l r.v) :
    FnSpec Tryz.prog 58 [.agg #[.slice A l.length c], .slice As rs.length cs] I [] (fun u R' => u = .int .i64 (relsE l rs) ∧ R' = []) := by
  have hrl := hr.outer.len
  refine FnSpec.enterP Tryz.func58 rfl Tryz.ntmps58 rfl fun w F => ?_
  unfold relsE
  by_cases h24 : 24 < rs.length
  · rw [if_pos h24]
    repeat' first
      | ((with_reducible refine Nx.is_wp ?_); first | refine Nx.wo ?_ | refine Nx.zp (fun hc => ?_) (fun hc => ?_))
      | (refine Nx.zo ?_; first | refine Nx.opr rfl rfl ?_ | refine Nx.callv rfl rfl rfl (by kernel_rfl) rfl (RCheck_spec _ _ _ _ hl hs) ?_ | refine Nx.so ?_ | refine Nx.sb (fun bx => ?_) | refine Nx.sa (fun A2 c2 => ?_))
      | ((with_reducible refine Nx.is_at ?_); first | refine Nx.a ?_ | refine Nx.zd ?_ | refine Nx.zs (fun hc => ?_) (fun hc => ?_))
      | ((with_reducible refine Nx.is_mix ?_); first | refine Nx.m ?_ | refine Nx.zm ?_ | refine Nx.zt (fun hc => ?_) (fun hc => ?_))
      | refine Nx.zx ?_ | fail
    exact Nx.ret_fn rfl [] ⟨rfl, rfl⟩ (by (exact Ent.auto))
  rw [if_neg h24]
  repeat' first
    | ((with_reducible refine Nx.is_wp ?_); first | refine Nx.wo ?_ | refine Nx.zp (fun hc => ?_) (fun hc => ?_))
    | (refine Nx.zo ?_; first | refine Nx.opr rfl rfl ?_ | refine Nx.callv rfl rfl rfl (by kernel_rfl) rfl (RCheck_spec _ _ _ _ hl hs) ?_ | refine Nx.so ?_ | refine Nx.sb (fun bx => ?_) | refine Nx.sa (fun A2 c2 => ?_))
    | ((with_reducible refine Nx.is_at ?_); first | refine Nx.a ?_ | refine Nx.zd ?_ | refine Nx.zs (fun hc => ?_) (fun hc => ?_))
    | ((with_reducible refine Nx.is_mix ?_); first | refine Nx.m ?_ | refine Nx.zm ?_ | refine Nx.zt (fun hc => ?_) (fun hc => ?_))
    | refine Nx.zx ?_ | fail
  revert bx; intro b2
  refine Nx.p_loop (σ := Nat × Int) (fun s => [(2, .pointer (some ⟨b2, 0, none⟩)), (6, .int .i64 s.2), (18, .slice As rs.length cs), (19, .int .i64 rs.length), (20, .int .i64 (s.1 : Int))])
    (fun _ => [Blk b2 27 [.slice A l.length c], F]) (fun s => s.1 ≤ rs.length ∧ -1 ≤ s.2 ∧ relsF l (-1) rs = relsF l s.2 (rs.drop s.1)) (fun s => rs.length - s.1) (0, -1) rfl ⟨Nat.zero_le _, Int.le_refl _, rfl⟩ ⟨rfl, rfl, rfl, rfl, rfl, trivial⟩ (by (exact Ent.auto)) ?_
  rintro ⟨i, b⟩ ⟨hi, hb, he⟩
  dsimp only at hi hb he ⊢
  by_cases hiv : i < rs.length
  case neg =>
    rw [List.drop_eq_nil_of_le (by omega), relsF] at he
    rw [he]
    repeat' first
      | ((with_reducible refine Nx.is_wp ?_); first | refine Nx.wo ?_ | refine Nx.zp (fun hc => ?_) (fun hc => ?_))
      | (refine Nx.zo ?_; first | refine Nx.opr rfl rfl ?_ | refine Nx.so ?_ | refine Nx.sb (fun bx => ?_) | refine Nx.sa (fun A2 c2 => ?_))
      | ((with_reducible refine Nx.is_at ?_); first | refine Nx.a ?_ | refine Nx.zd ?_ | refine Nx.zs (fun hc => ?_) (fun hc => ?_))
      | ((with_reducible refine Nx.is_mix ?_); first | refine Nx.m ?_ | refine Nx.zm ?_ | refine Nx.zt (fun hc => ?_) (fun hc => ?_))
      | refine Nx.zx ?_ | fail
    exact Nx.ret_fn rfl [] ⟨rfl, rfl⟩ (by (exact Ent.auto))
  rw [relsF_at hiv] at he
  have hwi := hw _ (getD_memR hiv)
  have hS := rrel_spec A c l (rs.getD i default) b I hb hl hs (hr.view _ (getD_memR hiv)) (hr.val _ (getD_memR hiv)) hwi
  have hz := relE_zero (l := l) (r := rs.getD i default) (b := b)
  have hrds : ∀ (W : World) (R : List Res), Rds W I R ((ad As).add (i * 3)) (relC (rs.getD i default)) := fun W R => hr.outer.rds hiv
  generalize rs.getD i default = r at he hS hrds hz
  obtain ⟨num, va, vc, v, D, cd, vs⟩ := r
  dsimp only at he hS hz
  replace hrds : ∀ (W : World) (R : List Res), Rds W I R ((ad As).add (i * 3)) [.int .i64 num, .slice va v.length vc, .slice D vs.length cd] := hrds
  generalize relE l ⟨num, va, vc, v, (D, cd, vs)⟩ b = er at he hS hz
  by_cases h0 : er = 0
  · rw [if_neg (by omega)] at he
    have hz := hz h0
    subst h0
    repeat' first
      | ((with_reducible refine Nx.is_wp ?_); first | refine Nx.wo ?_ | refine Nx.zp (fun hc => ?_) (fun hc => ?_))
      | (refine Nx.zo ?_; first | refine Nx.opr rfl rfl ?_ | refine Nx.indexAddr_nat rfl rfl rfl rfl rfl hiv (hr.outer.isSome (by omega) (by omega)) ?_ | refine Nx.loads rfl rfl rfl rfl (hrds _ _) rfl ?_ | refine Nx.callv rfl rfl rfl (by kernel_rfl) rfl hS ?_ | refine Nx.so ?_ | refine Nx.sb (fun bx => ?_) | refine Nx.sa (fun A2 c2 => ?_))
      | ((with_reducible refine Nx.is_at ?_); first | refine Nx.a ?_ | refine Nx.zd ?_ | refine Nx.zs (fun hc => ?_) (fun hc => ?_))
      | ((with_reducible refine Nx.is_mix ?_); first | refine Nx.m ?_ | refine Nx.zm ?_ | refine Nx.zt (fun hc => ?_) (fun hc => ?_))
      | refine Nx.zx ?_ | fail
    exact Nx.again (i + 1, num) ⟨hiv, by dsimp only; omega, he⟩ (by dsimp only; omega) ⟨rfl, rfl, rfl, rfl, rfl, trivial⟩ (by (exact Ent.auto))
  · rw [if_pos h0] at he
    rw [he]
    repeat' first
      | ((with_reducible refine Nx.is_wp ?_); first | refine Nx.wo ?_ | refine Nx.zp (fun hc => ?_) (fun hc => ?_))
      | (refine Nx.zo ?_; first | refine Nx.opr rfl rfl ?_ | refine Nx.indexAddr_nat rfl rfl rfl rfl rfl hiv (hr.outer.isSome (by omega) (by omega)) ?_ | refine Nx.loads rfl rfl rfl rfl (hrds _ _) rfl ?_ | refine Nx.callv rfl rfl rfl (by kernel_rfl) rfl hS ?_ | refine Nx.so ?_ | refine Nx.sb (fun bx => ?_) | refine Nx.sa (fun A2 c2 => ?_))
      | ((with_reducible refine Nx.is_at ?_); first | refine Nx.a ?_ | refine Nx.zd ?_ | refine Nx.zs (fun hc => ?_) (fun hc => ?_))
      | ((with_reducible refine Nx.is_mix ?_); first | refine Nx.m ?_ | refine Nx.zm ?_ | refine Nx.zt (fun hc => ?_) (fun hc => ?_))
      | refine Nx.zx ?_ | fail
    exact Nx.ret_fn rfl [] ⟨rfl, rfl⟩ (by (exact Ent.auto))
set_option maxHeartbeats 8000000 in
set_option maxRecDepth 10000 in
theorem REAllN_spec (A As : Option Addr) (c cs : Nat) (l : List Int) (rs : List Rel) (I : PH) (hl : Ints I A c l) (hs : Sizes l) (hr : Rels I As cs rs) (hw : ∀ r ∈ rs, Viewed l r.v) (h0 : relsE l rs ≠ 0) :
    FnSpec Tryz.prog 14 [.agg #[.slice A l.length c], .slice As rs.length cs] I [] (fun u R' => u = .tuple #[.slice none 0 0, .int .i64 (relsE l rs)] ∧ R' = []) := by
  have hEC := RECheckE_spec A As c cs l rs I hl hs hr hw
  generalize relsE l rs = er at h0 hEC
  refine FnSpec.enterP Tryz.func14 rfl Tryz.ntmps14 rfl fun w F => ?_
  repeat' first
    | ((with_reducible refine Nx.is_wp ?_); first | refine Nx.wo ?_ | refine Nx.zp (fun hc => ?_) (fun hc => ?_))
    | (refine Nx.zo ?_; first | refine Nx.opr rfl rfl ?_ | refine Nx.callv rfl rfl rfl (by kernel_rfl) rfl hEC ?_ | refine Nx.so ?_ | refine Nx.sb (fun bx => ?_) | refine Nx.sa (fun A2 c2 => ?_))
    | ((with_reducible refine Nx.is_at ?_); first | refine Nx.a ?_ | refine Nx.zd ?_ | refine Nx.zs (fun hc => ?_) (fun hc => ?_))
    | ((with_reducible refine Nx.is_mix ?_); first | refine Nx.m ?_ | refine Nx.zm ?_ | refine Nx.zt (fun hc => ?_) (fun hc => ?_))
    | refine Nx.zx ?_ | fail
  exact Nx.ret_fn rfl [] ⟨rfl, rfl⟩ (by (exact Ent.auto))
set_option maxRecDepth 10000 in
set_option maxHeartbeats 8000000 in
theorem rreaches_spec (A As : Option Addr) (c cs : Nat) (l : List Int) (rs : List Rel) (I : PH) (hl : Ints I A c l) (hs : Sizes l) (hr : Rels I As cs rs) (hw : ∀ r ∈ rs, Viewed l r.v) :
    FnSpec Tryz.prog 122 [.agg #[.slice A l.length c], .slice As rs.length cs] I []
      (fun u R' => ∃ (A' : Option Addr) (c' : Nat), u = .tuple #[.slice A' (rchD l rs).1.length c', .int .i64 (rchD l rs).2] ∧ R' = [rcR A' c' (rchD l rs).1]) := by
  have hN := REAllN_spec A As c cs l rs I hl hs hr hw
  have hiff := relsE_iff hs hw
  refine FnSpec.enterP Tryz.func122 rfl Tryz.ntmps122 rfl fun w F => ?_
  unfold rchD
  by_cases h0 : relsE l rs = 0
  case neg =>
    rw [if_neg h0]
    have hN := hN h0
    generalize relsE l rs = er at h0 hN
    repeat' first
      | ((with_reducible refine Nx.is_wp ?_); first | refine Nx.wo ?_ | refine Nx.zp (fun hc => ?_) (fun hc => ?_))
      | (refine Nx.zo ?_; first | refine Nx.opr rfl rfl ?_ | refine Nx.callv rfl rfl rfl (by kernel_rfl) rfl hN ?_ | refine Nx.so ?_ | refine Nx.sb (fun bx => ?_) | refine Nx.sa (fun A2 c2 => ?_))
      | ((with_reducible refine Nx.is_at ?_); first | refine Nx.a ?_ | refine Nx.zd ?_ | refine Nx.zs (fun hc => ?_) (fun hc => ?_))
      | ((with_reducible refine Nx.is_mix ?_); first | refine Nx.m ?_ | refine Nx.zm ?_ | refine Nx.zt (fun hc => ?_) (fun hc => ?_))
      | refine Nx.zx ?_ | fail
    exact Nx.ret_fn rfl [_] ⟨none, 0, rfl, rfl⟩ ((Ent.vec_nil 42 3 _).trans (by (exact Ent.auto)))
  have hV := hiff.1 h0
  have hA := REAll_spec A As c cs l rs I hl hs hr hV
  rw [if_pos h0]
  repeat' first
    | ((with_reducible refine Nx.is_wp ?_); first | refine Nx.p_stopr 4 rfl ?_ | refine Nx.wo ?_ | refine Nx.zp (fun hc => ?_) (fun hc => ?_))
    | (refine Nx.zo ?_; first | refine Nx.opr rfl rfl ?_ | (refine Nx.call (Rpre := []) rfl rfl rfl (by kernel_rfl) rfl hA (Ent.refl _) ?_; rintro _ _ ⟨Am, cm, qs, rfl, hqs, hql, rfl⟩) | refine Nx.so ?_ | refine Nx.sb (fun bx => ?_) | refine Nx.sa (fun A2 c2 => ?_))
    | ((with_reducible refine Nx.is_at ?_); first | refine Nx.a ?_ | refine Nx.zd ?_ | refine Nx.zs (fun hc => ?_) (fun hc => ?_))
    | ((with_reducible refine Nx.is_mix ?_); first | refine Nx.m ?_ | refine Nx.zm ?_ | refine Nx.zt (fun hc => ?_) (fun hc => ?_))
    | refine Nx.zx ?_ | fail
  refine Nx.unstop ?_
  refine Nx.freezeAt 0 rfl fun I1 m1 hI1 hm1 h1 => ?_
  refine Nx.freezeAt 0 rfl fun I2 m2 hI2 hm2 h2 => ?_
  have hq : Eqs I2 Am cm qs := ⟨(Vec.sliceN hm1 h1 fun x _ => eqC_len x).mono hI2, fun q hq => by
    obtain ⟨k, hk, he⟩ := List.mem_iff_getElem.1 hq
    obtain ⟨m3, h3le, h3⟩ := Stars.get k (r := rowR q.1) h2 (by rw [nthL_eq, List.getElem?_map, List.getElem?_eq_getElem hk, he]; rfl)
    exact Vec.sliceOf (h3le.trans hm2) h3⟩
  have hR := RReaches_spec (prod l) Am cm qs I2 hq
  rw [show reachR (prod l) qs = reachR (prod l) (qsOf l rs) from cont_reach hqs _] at hR
  repeat' first
    | ((with_reducible refine Nx.is_wp ?_); first | refine Nx.wo ?_ | refine Nx.zp (fun hc => ?_) (fun hc => ?_))
    | (refine Nx.zo ?_; first | refine Nx.opr rfl rfl ?_ | refine Nx.callv rfl rfl rfl (by kernel_rfl) rfl (RCount_spec A c l I2 (hl.mono (hI1.trans hI2)) hs) ?_ | (refine Nx.call (Rpre := []) rfl rfl rfl (by kernel_rfl) rfl hR (Ent.refl _) ?_; rintro _ _ ⟨A', c', rfl, rfl⟩) | refine Nx.so ?_ | refine Nx.sb (fun bx => ?_) | refine Nx.sa (fun A2 c2 => ?_))
    | ((with_reducible refine Nx.is_at ?_); first | refine Nx.a ?_ | refine Nx.zd ?_ | refine Nx.zs (fun hc => ?_) (fun hc => ?_))
    | ((with_reducible refine Nx.is_mix ?_); first | refine Nx.m ?_ | refine Nx.zm ?_ | refine Nx.zt (fun hc => ?_) (fun hc => ?_))
    | refine Nx.zx ?_ | fail
  exact Nx.imm_le (hI1.trans hI2) (Nx.ret_fn rfl [_] ⟨A', c', rfl, rfl⟩ (by (exact Ent.auto)))
set_option maxHeartbeats 8000000 in
set_option maxRecDepth 10000 in
theorem near_spec (x : Rch) (m : Int) (I : PH) (hx : rchOk x) : FnSpec Tryz.prog 78 [.agg #[.int .i64 x.1, .int .i64 x.2.1, .bool x.2.2], .int .i64 m] I [] (fun v R' => v = .bool (narrowB x m) ∧ R' = []) := by
  obtain ⟨lo, hi, op⟩ := x
  unfold rchOk at hx
  unfold narrowB
  dsimp only at hx ⊢
  obtain ⟨⟨h1, h2⟩, h3, h4⟩ := hx
  refine FnSpec.enterP Tryz.func78 rfl Tryz.ntmps78 rfl fun w F => ?_
  cases op with
  | true =>
    repeat' first
      | ((with_reducible refine Nx.is_wp ?_); first | refine Nx.wo ?_ | refine Nx.zp (fun hc => ?_) (fun hc => ?_))
      | (refine Nx.zo ?_; first | refine Nx.opr rfl rfl ?_ | refine Nx.so ?_ | refine Nx.sb (fun bx => ?_) | refine Nx.sa (fun A2 c2 => ?_))
      | ((with_reducible refine Nx.is_at ?_); first | refine Nx.a ?_ | refine Nx.zd ?_ | refine Nx.zs (fun hc => ?_) (fun hc => ?_))
      | ((with_reducible refine Nx.is_mix ?_); first | refine Nx.m ?_ | refine Nx.zm ?_ | refine Nx.zt (fun hc => ?_) (fun hc => ?_))
      | refine Nx.zx ?_ | fail
    exact Nx.ret_fn rfl [] ⟨rfl, rfl⟩ (by (exact Ent.auto))
  | false =>
    repeat' first
      | ((with_reducible refine Nx.is_wp ?_); first | refine Nx.wo ?_ | refine Nx.zp (fun hc => ?_) (fun hc => ?_))
      | (refine Nx.zo ?_; first | refine Nx.opr rfl rfl ?_ | refine Nx.so ?_ | refine Nx.sb (fun bx => ?_) | refine Nx.sa (fun A2 c2 => ?_))
      | ((with_reducible refine Nx.is_at ?_); first | refine Nx.a ?_ | refine Nx.zd ?_ | refine Nx.zs (fun hc => ?_) (fun hc => ?_))
      | ((with_reducible refine Nx.is_mix ?_); first | refine Nx.m ?_ | refine Nx.zm ?_ | refine Nx.zt (fun hc => ?_) (fun hc => ?_))
      | refine Nx.zx ?_ | fail
    exact Nx.ret_fn rfl [] ⟨rfl, rfl⟩ (by (exact Ent.auto))
end Go.Proofs.YtcmdemfhbekabaaGreat
/- Contracts of functions of the given program, and lemmas about plain lists and numbers: what the laws of this seat lean on. -/
namespace Go.Proofs.YtcmdemfhbekabaaGreat
open Go.Eng Go.Sol
attribute [local irreducible] opK wpList Code.wp Exit.then Exit.inBlock fnPost bodyPost Nx Calls Oper.wp Rd Rds Wr Ent Stars Blk Again Vec FnSpec wpMix QRun Stop Upto wpAt
/-! The reference of differencing: check, exposes, Safe -/
def chkR (l : List Int) (rs : List Rel) (prot : List Int) (m : Int) : List Rch × Int := if chkD l rs prot m ≠ 0 then ([], chkD l rs prot m) else rchD l rs
set_option maxRecDepth 10000 in
set_option maxHeartbeats 8000000 in
theorem rcheckD_spec (A As Ap : Option Addr) (c cs cp : Nat) (l : List Int) (rs : List Rel) (prot : List Int) (m : Int) (I : PH) (hl : Ints I A c l) (hs : Sizes l) (hr : Rels I As cs rs) (hw : ∀ r ∈ rs, Viewed l r.v) (hp : Ints I Ap cp prot) :
    FnSpec Tryz.prog 77 [.agg #[.slice A l.length c], .slice As rs.length cs, .slice Ap prot.length cp, .int .i64 m] I []
      (fun u R' => ∃ (A' : Option Addr) (c' : Nat), u = .tuple #[.slice A' (chkR l rs prot m).1.length c', .int .i64 (chkR l rs prot m).2] ∧ R' = [rcR A' c' (chkR l rs prot m).1]) := by
  have hEC := RECheckE_spec A As c cs l rs I hl hs hr hw
  have hRc := rreaches_spec A As c cs l rs I hl hs hr hw
  have hCt := RCount_spec A c l I hl hs
  have hpl := hp.len
  unfold chkR chkD
  refine FnSpec.enterP Tryz.func77 rfl Tryz.ntmps77 rfl fun w F => ?_
  by_cases h0 : relsE l rs = 0
  case neg =>
    rw [if_pos h0, if_pos h0]
    generalize relsE l rs = er at h0 hEC
    repeat' first
      | ((with_reducible refine Nx.is_wp ?_); first | refine Nx.wo ?_ | refine Nx.zp (fun hc => ?_) (fun hc => ?_))
      | (refine Nx.zo ?_; first | refine Nx.opr rfl rfl ?_ | refine Nx.callv rfl rfl rfl (by kernel_rfl) rfl hEC ?_ | refine Nx.so ?_ | refine Nx.sb (fun bx => ?_) | refine Nx.sa (fun A2 c2 => ?_))
      | ((with_reducible refine Nx.is_at ?_); first | refine Nx.a ?_ | refine Nx.zd ?_ | refine Nx.zs (fun hc => ?_) (fun hc => ?_))
      | ((with_reducible refine Nx.is_mix ?_); first | refine Nx.m ?_ | refine Nx.zm ?_ | refine Nx.zt (fun hc => ?_) (fun hc => ?_))
      | refine Nx.zx ?_ | fail
    exact Nx.ret_fn rfl [_] ⟨none, 0, rfl, rfl⟩ ((Ent.vec_nil 42 3 _).trans (by (exact Ent.auto)))
  rw [if_neg (c := relsE l rs ≠ 0) (by omega)]
  rw [h0] at hEC
  by_cases h1 : m < 1 ∨ 100 < m
  · rw [if_pos h1, if_pos (by decide)]
    by_cases h2 : m < 1
    · repeat' first
        | ((with_reducible refine Nx.is_wp ?_); first | refine Nx.wo ?_ | refine Nx.zp (fun hc => ?_) (fun hc => ?_))
        | (refine Nx.zo ?_; first | refine Nx.opr rfl rfl ?_ | refine Nx.callv rfl rfl rfl (by kernel_rfl) rfl hEC ?_ | refine Nx.callv rfl rfl rfl (by kernel_rfl) rfl hCt ?_ | refine Nx.so ?_ | refine Nx.sb (fun bx => ?_) | refine Nx.sa (fun A2 c2 => ?_))
        | ((with_reducible refine Nx.is_at ?_); first | refine Nx.a ?_ | refine Nx.zd ?_ | refine Nx.zs (fun hc => ?_) (fun hc => ?_))
        | ((with_reducible refine Nx.is_mix ?_); first | refine Nx.m ?_ | refine Nx.zm ?_ | refine Nx.zt (fun hc => ?_) (fun hc => ?_))
        | refine Nx.zx ?_ | fail
      exact Nx.ret_fn rfl [_] ⟨none, 0, rfl, rfl⟩ ((Ent.vec_nil 42 3 _).trans (by (exact Ent.auto)))
    · repeat' first
        | ((with_reducible refine Nx.is_wp ?_); first | refine Nx.wo ?_ | refine Nx.zp (fun hc => ?_) (fun hc => ?_))
        | (refine Nx.zo ?_; first | refine Nx.opr rfl rfl ?_ | refine Nx.callv rfl rfl rfl (by kernel_rfl) rfl hEC ?_ | refine Nx.callv rfl rfl rfl (by kernel_rfl) rfl hCt ?_ | refine Nx.so ?_ | refine Nx.sb (fun bx => ?_) | refine Nx.sa (fun A2 c2 => ?_))
        | ((with_reducible refine Nx.is_at ?_); first | refine Nx.a ?_ | refine Nx.zd ?_ | refine Nx.zs (fun hc => ?_) (fun hc => ?_))
        | ((with_reducible refine Nx.is_mix ?_); first | refine Nx.m ?_ | refine Nx.zm ?_ | refine Nx.zt (fun hc => ?_) (fun hc => ?_))
        | refine Nx.zx ?_ | fail
      exact Nx.ret_fn rfl [_] ⟨none, 0, rfl, rfl⟩ ((Ent.vec_nil 42 3 _).trans (by (exact Ent.auto)))
  rw [if_neg h1]
  repeat' first
    | ((with_reducible refine Nx.is_wp ?_); first | refine Nx.wo ?_ | refine Nx.zp (fun hc => ?_) (fun hc => ?_))
    | (refine Nx.zo ?_; first | refine Nx.opr rfl rfl ?_ | refine Nx.callv rfl rfl rfl (by kernel_rfl) rfl hEC ?_ | refine Nx.callv rfl rfl rfl (by kernel_rfl) rfl hCt ?_ | refine Nx.so ?_ | refine Nx.sb (fun bx => ?_) | refine Nx.sa (fun A2 c2 => ?_))
    | ((with_reducible refine Nx.is_at ?_); first | refine Nx.a ?_ | refine Nx.zd ?_ | refine Nx.zs (fun hc => ?_) (fun hc => ?_))
    | ((with_reducible refine Nx.is_mix ?_); first | refine Nx.m ?_ | refine Nx.zm ?_ | refine Nx.zt (fun hc => ?_) (fun hc => ?_))
    | refine Nx.zx ?_ | fail
  revert bx; intro b4
  obtain ⟨an, han⟩ : ∃ an, an = prot.any (outP (prod l)) := ⟨_, rfl⟩
  rw [← han]
  refine Nx.p_loop (σ := Nat) (fun i => [(1, .slice As rs.length cs), (2, .slice Ap prot.length cp), (4, .pointer (some ⟨b4, 0, none⟩)), (11, .int .i64 (prod l)), (29, .slice Ap prot.length cp), (30, .int .i64 prot.length), (31, .int .i64 (i : Int))])
    (fun _ => [Blk b4 27 [.slice A l.length c], F]) (fun i => i ≤ prot.length ∧ an = (prot.drop i).any (outP (prod l))) (fun i => prot.length - i) 0 rfl ⟨Nat.zero_le _, by rw [List.drop_zero]; exact han⟩ ⟨rfl, rfl, rfl, rfl, rfl, rfl, rfl, trivial⟩ (by (exact Ent.auto)) ?_
  rintro i ⟨hi, he⟩
  by_cases hiv : i < prot.length
  · have hrd : ∀ (W : World) (R : List Res), Rd W I R ((ad Ap).add (i * 1)) (.int .i64 (prot.getD i default)) := fun W R => hp.rd hiv
    rw [show prot.drop i = prot.getD i default :: prot.drop (i + 1) by rw [List.drop_eq_getElem_cons hiv, List.getD_eq_getElem?_getD, List.getElem?_eq_getElem hiv]; rfl, List.any_cons] at he
    generalize prot.getD i default = z at he hrd
    by_cases hz : 0 ≤ z ∧ z < prod l
    · rw [show outP (prod l) z = false by unfold outP; exact decide_eq_false (by omega), Bool.false_or] at he
      repeat' first
        | ((with_reducible refine Nx.is_wp ?_); first | refine Nx.wo ?_ | refine Nx.zp (fun hc => ?_) (fun hc => ?_))
        | (refine Nx.zo ?_; first | refine Nx.opr rfl rfl ?_ | refine Nx.indexAddr_nat (A := Ap) (i := i) (sz := 1) rfl rfl rfl rfl rfl hiv (hp.isSome (by omega)) ?_ | refine Nx.load rfl rfl rfl (hrd _ _) ?_ | refine Nx.so ?_ | refine Nx.sb (fun bx => ?_) | refine Nx.sa (fun A2 c2 => ?_))
        | ((with_reducible refine Nx.is_at ?_); first | refine Nx.a ?_ | refine Nx.zd ?_ | refine Nx.zs (fun hc => ?_) (fun hc => ?_))
        | ((with_reducible refine Nx.is_mix ?_); first | refine Nx.m ?_ | refine Nx.zm ?_ | refine Nx.zt (fun hc => ?_) (fun hc => ?_))
        | refine Nx.zx ?_ | fail
      exact Nx.again (i + 1) ⟨hiv, he⟩ (by omega) ⟨rfl, rfl, rfl, rfl, rfl, rfl, rfl, trivial⟩ (by (exact Ent.auto))
    · rw [show outP (prod l) z = true by unfold outP; exact decide_eq_true (by omega), Bool.true_or] at he
      rw [he, if_pos rfl, if_pos (by decide)]
      by_cases hz0 : z < 0
      · repeat' first
          | ((with_reducible refine Nx.is_wp ?_); first | refine Nx.wo ?_ | refine Nx.zp (fun hc => ?_) (fun hc => ?_))
          | (refine Nx.zo ?_; first | refine Nx.opr rfl rfl ?_ | refine Nx.indexAddr_nat (A := Ap) (i := i) (sz := 1) rfl rfl rfl rfl rfl hiv (hp.isSome (by omega)) ?_ | refine Nx.load rfl rfl rfl (hrd _ _) ?_ | refine Nx.so ?_ | refine Nx.sb (fun bx => ?_) | refine Nx.sa (fun A2 c2 => ?_))
          | ((with_reducible refine Nx.is_at ?_); first | refine Nx.a ?_ | refine Nx.zd ?_ | refine Nx.zs (fun hc => ?_) (fun hc => ?_))
          | ((with_reducible refine Nx.is_mix ?_); first | refine Nx.m ?_ | refine Nx.zm ?_ | refine Nx.zt (fun hc => ?_) (fun hc => ?_))
          | refine Nx.zx ?_ | fail
        exact Nx.ret_fn rfl [_] ⟨none, 0, rfl, rfl⟩ ((Ent.vec_nil 42 3 _).trans (by (exact Ent.auto)))
      · repeat' first
          | ((with_reducible refine Nx.is_wp ?_); first | refine Nx.wo ?_ | refine Nx.zp (fun hc => ?_) (fun hc => ?_))
          | (refine Nx.zo ?_; first | refine Nx.opr rfl rfl ?_ | refine Nx.indexAddr_nat (A := Ap) (i := i) (sz := 1) rfl rfl rfl rfl rfl hiv (hp.isSome (by omega)) ?_ | refine Nx.load rfl rfl rfl (hrd _ _) ?_ | refine Nx.so ?_ | refine Nx.sb (fun bx => ?_) | refine Nx.sa (fun A2 c2 => ?_))
          | ((with_reducible refine Nx.is_at ?_); first | refine Nx.a ?_ | refine Nx.zd ?_ | refine Nx.zs (fun hc => ?_) (fun hc => ?_))
          | ((with_reducible refine Nx.is_mix ?_); first | refine Nx.m ?_ | refine Nx.zm ?_ | refine Nx.zt (fun hc => ?_) (fun hc => ?_))
          | refine Nx.zx ?_ | fail
        exact Nx.ret_fn rfl [_] ⟨none, 0, rfl, rfl⟩ ((Ent.vec_nil 42 3 _).trans (by (exact Ent.auto)))
  rw [List.drop_eq_nil_of_le (by omega), List.any_nil] at he
  rw [he, if_neg (c := false = true) (by decide)]
  repeat' first
    | ((with_reducible refine Nx.is_wp ?_); first | refine Nx.wo ?_ | refine Nx.zp (fun hc => ?_) (fun hc => ?_))
    | (refine Nx.zo ?_; first | refine Nx.opr rfl rfl ?_ | refine Nx.so ?_ | refine Nx.sb (fun bx => ?_) | refine Nx.sa (fun A2 c2 => ?_))
    | ((with_reducible refine Nx.is_at ?_); first | refine Nx.a ?_ | refine Nx.zd ?_ | refine Nx.zs (fun hc => ?_) (fun hc => ?_))
    | ((with_reducible refine Nx.is_mix ?_); first | refine Nx.m ?_ | refine Nx.zm ?_ | refine Nx.zt (fun hc => ?_) (fun hc => ?_))
    | refine Nx.zx ?_ | fail
  refine Nx.p_loop (σ := Nat) (fun i => [(1, .slice As rs.length cs), (2, .slice Ap prot.length cp), (4, .pointer (some ⟨b4, 0, none⟩)), (14, .int .i64 ((i + 1 : Nat) : Int))])
    (fun _ => [Blk b4 27 [.slice A l.length c], F]) (fun i => i ≤ prot.length ∧ ∀ j, j < i → j + 1 < prot.length → prot.getD j default < prot.getD (j + 1) default) (fun i => prot.length - i) 0 rfl ⟨Nat.zero_le _, fun j hj => absurd hj (Nat.not_lt_zero _)⟩ ⟨rfl, rfl, rfl, rfl, trivial⟩ (by (exact Ent.auto)) ?_
  rintro i ⟨hi, hall⟩
  by_cases hlt : i + 1 < prot.length
  case neg =>
    rw [if_pos (pairwise_adj fun j hj => hall j (by omega) hj), if_neg (by decide)]
    repeat' first
      | ((with_reducible refine Nx.is_wp ?_); first | refine Nx.wo ?_ | refine Nx.zp (fun hc => ?_) (fun hc => ?_))
      | (refine Nx.zo ?_; first | refine Nx.opr rfl rfl ?_ | (refine Nx.call (Rpre := []) rfl rfl rfl (by kernel_rfl) rfl hRc (Ent.refl _) ?_; rintro _ _ ⟨Am, cm, rfl, rfl⟩) | refine Nx.so ?_ | refine Nx.sb (fun bx => ?_) | refine Nx.sa (fun A2 c2 => ?_))
      | ((with_reducible refine Nx.is_at ?_); first | refine Nx.a ?_ | refine Nx.zd ?_ | refine Nx.zs (fun hc => ?_) (fun hc => ?_))
      | ((with_reducible refine Nx.is_mix ?_); first | refine Nx.m ?_ | refine Nx.zm ?_ | refine Nx.zt (fun hc => ?_) (fun hc => ?_))
      | refine Nx.zx ?_ | fail
    exact Nx.ret_fn rfl [_] ⟨Am, cm, rfl, rfl⟩ (by (exact Ent.auto))
  have hadj := fun h : prot.Pairwise (· < ·) => adj_of h hlt
  have r1 := fun (W : World) (R : List Res) => hp.rd (W := W) (R := R) (k := i) (by omega)
  have r2 := fun (W : World) (R : List Res) => hp.rd (W := W) (R := R) hlt
  have hnx : ∀ j, j < i + 1 → prot.getD i default < prot.getD (i + 1) default → j + 1 < prot.length → prot.getD j default < prot.getD (j + 1) default := fun j hj hx h => by
    rcases Nat.lt_or_ge j i with h' | h'
    · exact hall j h' h
    · rw [show j = i by omega]; exact hx
  generalize prot.getD i default = x at hadj r1 hnx
  generalize prot.getD (i + 1) default = y at hadj r2 hnx
  have hi1 : (((i + 1 : Nat) : Int) - 1).toNat = i := by omega
  have r1' : ∀ (W : World) (R : List Res), Rd W I R ((ad Ap).add ((((i + 1 : Nat) : Int) - 1).toNat * 1)) (.int .i64 x) := fun W R => by rw [hi1]; exact r1 W R
  by_cases hxy : x < y
  · repeat' first
      | ((with_reducible refine Nx.is_wp ?_); first | refine Nx.wo ?_ | refine Nx.p_draw (id := 16) rfl [0, 1, 2, 3, 4, 5, 6, 7, 8, 9] [] _ rfl rfl (by kernel_rfl) (by kernel_rfl) rfl (by repeat first | exact PanicOk.fn | refine PanicOk.then_ ?_ | refine PanicOk.inB ?_) (Ent.refl _) ?_ | refine Nx.zp (fun hc => ?_) (fun hc => ?_))
      | (refine Nx.zo ?_; first | refine Nx.opr rfl rfl ?_ | refine Nx.so ?_ | refine Nx.sb (fun bx => ?_) | refine Nx.sa (fun A2 c2 => ?_))
      | ((with_reducible refine Nx.is_at ?_); first | refine Nx.a ?_ | refine Nx.zd ?_ | refine Nx.zs (fun hc => ?_) (fun hc => ?_))
      | ((with_reducible refine Nx.is_mix ?_); first | refine Nx.m_quiet rfl rfl rfl rfl rfl (by first | exact QRun.opr rfl | exact QRun.idxi (A := Ap) (i := ((i + 1 : Nat) : Int) - 1) (sz := 1) rfl rfl rfl rfl (by omega) (by omega) (hp.isSome (by omega)) | exact QRun.idx (A := Ap) (i := i + 1) (sz := 1) rfl rfl rfl rfl (by omega) (hp.isSome (by omega)) | exact QRun.load rfl rfl (r1' _ _) | exact QRun.load rfl rfl (r2 _ _)) ?_ | refine Nx.m_quiet_do rfl rfl rfl rfl rfl rfl rfl (by first | exact QRun.opr rfl | exact QRun.idxi (A := Ap) (i := ((i + 1 : Nat) : Int) - 1) (sz := 1) rfl rfl rfl rfl (by omega) (by omega) (hp.isSome (by omega)) | exact QRun.idx (A := Ap) (i := i + 1) (sz := 1) rfl rfl rfl rfl (by omega) (hp.isSome (by omega)) | exact QRun.load rfl rfl (r1' _ _) | exact QRun.load rfl rfl (r2 _ _)) ?_ | refine Nx.m ?_ | refine Nx.zm ?_ | refine Nx.zt (fun hc => ?_) (fun hc => ?_))
      | refine Nx.zx ?_ | fail
    exact Nx.again (i + 1) ⟨by omega, fun j hj h => hnx j hj hxy h⟩ (by omega) ⟨rfl, rfl, rfl, rfl, trivial⟩ (by (exact Ent.auto))
  · rw [if_neg fun h => hxy (hadj h), if_pos (by decide)]
    repeat' first
      | ((with_reducible refine Nx.is_wp ?_); first | refine Nx.wo ?_ | refine Nx.p_draw (id := 16) rfl [0, 1, 2, 3, 4, 5, 6, 7, 8, 9] [] _ rfl rfl (by kernel_rfl) (by kernel_rfl) rfl (by repeat first | exact PanicOk.fn | refine PanicOk.then_ ?_ | refine PanicOk.inB ?_) (Ent.refl _) ?_ | refine Nx.zp (fun hc => ?_) (fun hc => ?_))
      | (refine Nx.zo ?_; first | refine Nx.opr rfl rfl ?_ | refine Nx.so ?_ | refine Nx.sb (fun bx => ?_) | refine Nx.sa (fun A2 c2 => ?_))
      | ((with_reducible refine Nx.is_at ?_); first | refine Nx.a ?_ | refine Nx.zd ?_ | refine Nx.zs (fun hc => ?_) (fun hc => ?_))
      | ((with_reducible refine Nx.is_mix ?_); first | refine Nx.m_quiet rfl rfl rfl rfl rfl (by first | exact QRun.opr rfl | exact QRun.idxi (A := Ap) (i := ((i + 1 : Nat) : Int) - 1) (sz := 1) rfl rfl rfl rfl (by omega) (by omega) (hp.isSome (by omega)) | exact QRun.idx (A := Ap) (i := i + 1) (sz := 1) rfl rfl rfl rfl (by omega) (hp.isSome (by omega)) | exact QRun.load rfl rfl (r1' _ _) | exact QRun.load rfl rfl (r2 _ _)) ?_ | refine Nx.m_quiet_do rfl rfl rfl rfl rfl rfl rfl (by first | exact QRun.opr rfl | exact QRun.idxi (A := Ap) (i := ((i + 1 : Nat) : Int) - 1) (sz := 1) rfl rfl rfl rfl (by omega) (by omega) (hp.isSome (by omega)) | exact QRun.idx (A := Ap) (i := i + 1) (sz := 1) rfl rfl rfl rfl (by omega) (hp.isSome (by omega)) | exact QRun.load rfl rfl (r1' _ _) | exact QRun.load rfl rfl (r2 _ _)) ?_ | refine Nx.m ?_ | refine Nx.zm ?_ | refine Nx.zt (fun hc => ?_) (fun hc => ?_))
      | refine Nx.zx ?_ | fail
    exact Nx.ret_fn rfl [_] ⟨none, 0, rfl, rfl⟩ ((Ent.vec_nil 42 3 _).trans (by (exact Ent.auto)))
set_option maxRecDepth 10000 in
set_option maxHeartbeats 8000000 in
theorem rexposes_spec (A As : Option Addr) (c cs : Nat) (l : List Int) (rs : List Rel) (k : Nat) (m : Int) (I : PH) (hl : Ints I A c l) (hs : Sizes l) (hr : Rels I As cs rs) (hw : ∀ r ∈ rs, Viewed l r.v) (hk : k < (prod l).toNat) :
    FnSpec Tryz.prog 79 [.agg #[.slice A l.length c], .slice As rs.length cs, .int .i64 (k : Int), .int .i64 m] I [] (fun v R' => v = .bool (exposesB l rs k m) ∧ R' = []) := by
  have hR := rreaches_spec A As c cs l rs I hl hs hr hw
  have hok := fun h => rchD_ok (l := l) (rs := rs) h
  unfold exposesB
  generalize rchD l rs = rq at hR hok
  obtain ⟨rc, er⟩ := rq
  dsimp only at hR hok ⊢
  refine FnSpec.enterP Tryz.func79 rfl Tryz.ntmps79 rfl fun w F => ?_
  by_cases h0 : er = 0
  case neg =>
    rw [decide_eq_false h0, Bool.false_and]
    repeat' first
      | ((with_reducible refine Nx.is_wp ?_); first | refine Nx.wo ?_ | refine Nx.zp (fun hc => ?_) (fun hc => ?_))
      | (refine Nx.zo ?_; first | refine Nx.opr rfl rfl ?_ | (refine Nx.call (Rpre := []) rfl rfl rfl (by kernel_rfl) rfl hR (Ent.refl _) ?_; rintro _ _ ⟨Am, cm, rfl, rfl⟩) | refine Nx.so ?_ | refine Nx.sb (fun bx => ?_) | refine Nx.sa (fun A2 c2 => ?_))
      | ((with_reducible refine Nx.is_at ?_); first | refine Nx.a ?_ | refine Nx.zd ?_ | refine Nx.zs (fun hc => ?_) (fun hc => ?_))
      | ((with_reducible refine Nx.is_mix ?_); first | refine Nx.m ?_ | refine Nx.zm ?_ | refine Nx.zt (fun hc => ?_) (fun hc => ?_))
      | refine Nx.zx ?_ | fail
    exact Nx.ret_fn rfl [] ⟨rfl, rfl⟩ (by (exact Ent.auto))
  subst h0
  obtain ⟨hrl, hrk⟩ := hok rfl
  rw [decide_eq_true rfl, Bool.true_and]
  have hkl : k < rc.length := by omega
  have hxo := (hrk k hk).2
  repeat' first
    | ((with_reducible refine Nx.is_wp ?_); first | refine Nx.p_stopr 2 rfl ?_ | refine Nx.wo ?_ | refine Nx.zp (fun hc => ?_) (fun hc => ?_))
    | (refine Nx.zo ?_; first | refine Nx.opr rfl rfl ?_ | (refine Nx.call (Rpre := []) rfl rfl rfl (by kernel_rfl) rfl hR (Ent.refl _) ?_; rintro _ _ ⟨Am, cm, rfl, rfl⟩) | refine Nx.so ?_ | refine Nx.sb (fun bx => ?_) | refine Nx.sa (fun A2 c2 => ?_))
    | ((with_reducible refine Nx.is_at ?_); first | refine Nx.a ?_ | refine Nx.zd ?_ | refine Nx.zs (fun hc => ?_) (fun hc => ?_))
    | ((with_reducible refine Nx.is_mix ?_); first | refine Nx.m ?_ | refine Nx.zm ?_ | refine Nx.zt (fun hc => ?_) (fun hc => ?_))
    | refine Nx.zx ?_ | fail
  refine unstopN ?_
  refine Nx.freezeAt 0 rfl fun I2 m2 hI2 hm2 h2 => ?_
  have hRc : SliceN rcC 3 I2 Am cm rc := Vec.sliceN hm2 h2 fun x _ => rcC_len x
  have hrds : ∀ (W : World) (R : List Res), Rds W I2 R ((ad Am).add (k * 3)) (rcC (rc.getD k default)) := fun W R => hRc.rds hkl
  have hAm := hRc.isSome (show 0 < rc.length by omega) (by omega)
  generalize rc.getD k default = x at hxo hrds
  have hN := near_spec x m I2 hxo
  obtain ⟨lo, hi', op⟩ := x
  dsimp only at hN
  replace hrds : ∀ (W : World) (R : List Res), Rds W I2 R ((ad Am).add (k * 3)) [.int .i64 lo, .int .i64 hi', .bool op] := hrds
  repeat' first
    | ((with_reducible refine Nx.is_wp ?_); first | refine Nx.wo ?_ | refine Nx.zp (fun hc => ?_) (fun hc => ?_))
    | (refine Nx.zo ?_; first | refine Nx.opr rfl rfl ?_ | refine Nx.indexAddr_nat (A := Am) (i := k) (sz := 3) rfl rfl rfl rfl rfl hkl hAm ?_ | refine Nx.loads rfl rfl rfl rfl (hrds _ _) rfl ?_ | refine Nx.callv rfl rfl rfl (by kernel_rfl) rfl hN ?_ | refine Nx.so ?_ | refine Nx.sb (fun bx => ?_) | refine Nx.sa (fun A2 c2 => ?_))
    | ((with_reducible refine Nx.is_at ?_); first | refine Nx.a ?_ | refine Nx.zd ?_ | refine Nx.zs (fun hc => ?_) (fun hc => ?_))
    | ((with_reducible refine Nx.is_mix ?_); first | refine Nx.m ?_ | refine Nx.zm ?_ | refine Nx.zt (fun hc => ?_) (fun hc => ?_))
    | refine Nx.zx ?_ | fail
  exact Nx.imm_le hI2 (Nx.ret_fn rfl [] ⟨rfl, rfl⟩ (by (exact Ent.auto)))
end Go.Proofs.YtcmdemfhbekabaaGreat
/- Contracts of functions of the given program, and lemmas about plain lists and numbers: what the laws of this seat lean on. -/
namespace Go.Proofs.YtcmdemfhbekabaaGreat
open Go.Eng Go.Sol
attribute [local irreducible] opK wpList Code.wp Exit.then Exit.inBlock fnPost bodyPost Nx Calls Oper.wp Rd Rds Wr Ent Stars Blk Again Vec FnSpec wpMix QRun Stop Upto wpAt
/-! The reference of differencing: Witness -/
theorem wit_ref {l : List Int} {rs : List Rel} {x : Int} : witD l rs x = if (chkR l rs [x] 1).2 ≠ 0 then ([], [], (chkR l rs [x] 1).2) else pairR (prod l) (qsOf l rs) x := by
  unfold witD chkR
  by_cases h0 : chkD l rs [x] 1 = 0
  · rw [if_neg (c := chkD l rs [x] 1 ≠ 0) (by omega), if_neg (c := chkD l rs [x] 1 ≠ 0) (by omega)]
    obtain ⟨hre, _, hin, _⟩ := chkD_ok h0
    have hx := hin x List.mem_cons_self
    by_cases h1 : (rchD l rs).2 = 0
    · rw [if_neg (by omega)]
    · rw [if_pos h1]
      unfold rchD at h1 ⊢
      rw [if_pos hre] at h1 ⊢
      unfold reachR at h1 ⊢
      unfold pairR
      by_cases h2 : chkQ (prod l) (qsOf l rs) = 0
      · rw [if_pos h2] at h1 ⊢
        by_cases h3 : solsOf (prod l).toNat (eqns (qsOf l rs)) = []
        · rw [if_pos h3, if_pos h2, if_neg (by omega), if_pos h3]
        · rw [if_neg h3] at h1; exact absurd rfl h1
      · rw [if_neg h2, if_neg h2]
  · rw [if_pos h0, if_pos h0, if_pos h0]
def RWitPost (l : List Int) (rs : List Rel) (x : Int) (v : Value) (R' : List Res) : Prop :=
  ∃ (r1 r2 : Row) (o : List Row), v = .tuple #[rowV r1, rowV r2, .int .i64 (witD l rs x).2.2] ∧ r1.2.2 = (witD l rs x).1 ∧ r2.2.2 = (witD l rs x).2.1 ∧ (r1 ∈ o ∨ r1 = nilRow) ∧ (r2 ∈ o ∨ r2 = nilRow) ∧ R' = [Stars (o.map rwR)]
set_option maxRecDepth 10000 in
set_option maxHeartbeats 8000000 in
theorem RWitness_spec (A As : Option Addr) (c cs : Nat) (l : List Int) (rs : List Rel) (x : Int) (I : PH) (hl : Ints I A c l) (hs : Sizes l) (hr : Rels I As cs rs) (hw : ∀ r ∈ rs, Viewed l r.v) :
    FnSpec Tryz.prog 33 [.agg #[.slice A l.length c], .slice As rs.length cs, .int .i64 x] I [] (RWitPost l rs x) := by
  have hK := fun (bp : Nat) (I' : PH) (hle : PH.le I I') (hp : Ints I' (some ⟨bp, 0, none⟩) 1 [x]) => rcheckD_spec A As (some ⟨bp, 0, none⟩) c cs 1 l rs [x] 1 I' (hl.mono hle) hs (hr.mono hle) hw hp
  have hk0 : (chkR l rs [x] 1).2 = 0 → relsE l rs = 0 := fun h => by
    unfold chkR at h
    by_cases h0 : chkD l rs [x] 1 = 0
    · exact (chkD_ok h0).1
    · rw [if_pos h0] at h; exact absurd h h0
  unfold RWitPost
  rw [wit_ref]
  refine FnSpec.enterP Tryz.func33 rfl Tryz.ntmps33 rfl fun w F => ?_
  generalize chkR l rs [x] 1 = fq at hK hk0
  obtain ⟨rc, er⟩ := fq
  dsimp only at hK hk0 ⊢
  by_cases h0 : er = 0
  case neg =>
    rw [if_pos h0]
    repeat' first
      | ((with_reducible refine Nx.is_wp ?_); first | refine Nx.wo ?_ | refine Nx.zp (fun hc => ?_) (fun hc => ?_))
      | (refine Nx.zo ?_; first | refine Nx.opr rfl rfl ?_ | (refine Nx.call rfl rfl rfl (by kernel_rfl) rfl (FnSpec.keep [Blk _ 3 [.int .i64 x]] fun m I' hle hm' hv => hK _ I' hle (by obtain ⟨q1, z1, y1⟩ := Stars.get 0 hv rfl; exact Blk.sliceOf (t := 3) (l := [x]) (z1.trans hm') y1 (by unfold maxLen; simp))) (by (exact Ent.auto)) ?_; rintro _ _ ⟨_, ⟨A3, c3, rfl, rfl⟩, rfl⟩) | refine Nx.so ?_ | refine Nx.sb (fun bx => ?_) | refine Nx.sa (fun A2 c2 => ?_))
      | ((with_reducible refine Nx.is_at ?_); first | refine Nx.a ?_ | refine Nx.zd ?_ | refine Nx.zs (fun hc => ?_) (fun hc => ?_))
      | ((with_reducible refine Nx.is_mix ?_); first | refine Nx.m ?_ | refine Nx.zm ?_ | refine Nx.zt (fun hc => ?_) (fun hc => ?_))
      | refine Nx.zx ?_ | fail
    exact Nx.ret_fn rfl [_] ⟨nilRow, nilRow, [], rfl, rfl, rfl, .inr rfl, .inr rfl, rfl⟩ ((Ent.stars_nil _).trans (by (exact Ent.auto)))
  rw [if_neg (by omega)]
  have hV := (relsE_iff hs hw).1 (hk0 h0)
  subst h0
  have hA := fun (I' : PH) (hle : PH.le I I') => REAll_spec A As c cs l rs I' (hl.mono hle) hs (hr.mono hle) hV
  repeat' first
    | ((with_reducible refine Nx.is_wp ?_); first | refine Nx.p_stopr 5 rfl ?_ | refine Nx.wo ?_ | refine Nx.zp (fun hc => ?_) (fun hc => ?_))
    | (refine Nx.zo ?_; first | refine Nx.opr rfl rfl ?_ | (refine Nx.call rfl rfl rfl (by kernel_rfl) rfl (FnSpec.keep [Blk _ 3 [.int .i64 x]] fun m I' hle hm' hv => hK _ I' hle (by obtain ⟨q1, z1, y1⟩ := Stars.get 0 hv rfl; exact Blk.sliceOf (t := 3) (l := [x]) (z1.trans hm') y1 (by unfold maxLen; simp))) (by (exact Ent.auto)) ?_; rintro _ _ ⟨_, ⟨A3, c3, rfl, rfl⟩, rfl⟩) | (refine Nx.call (Rpre := []) rfl rfl rfl (by kernel_rfl) rfl (hA _ (PH.le_refl _)) (Ent.refl _) ?_; rintro _ _ ⟨Am, cm, qs, rfl, hqs, hql, rfl⟩) | refine Nx.so ?_ | refine Nx.sb (fun bx => ?_) | refine Nx.sa (fun A2 c2 => ?_))
    | ((with_reducible refine Nx.is_at ?_); first | refine Nx.a ?_ | refine Nx.zd ?_ | refine Nx.zs (fun hc => ?_) (fun hc => ?_))
    | ((with_reducible refine Nx.is_mix ?_); first | refine Nx.m ?_ | refine Nx.zm ?_ | refine Nx.zt (fun hc => ?_) (fun hc => ?_))
    | refine Nx.zx ?_ | fail
  refine Nx.unstop ?_
  refine Nx.freezeAt 0 rfl fun I1 m1 hI1 hm1 h1 => ?_
  refine Nx.freezeAt 0 rfl fun I2 m2 hI2 hm2 h2 => ?_
  have hq : Eqs I2 Am cm qs := ⟨(Vec.sliceN hm1 h1 fun x _ => eqC_len x).mono hI2, fun q hq => by
    obtain ⟨k, hk, he⟩ := List.mem_iff_getElem.1 hq
    obtain ⟨m3, h3le, h3⟩ := Stars.get k (r := rowR q.1) h2 (by rw [nthL_eq, List.getElem?_map, List.getElem?_eq_getElem hk, he]; rfl)
    exact Vec.sliceOf (h3le.trans hm2) h3⟩
  have hP := RPair_spec (prod l) x Am cm qs I2 hq
  unfold RPairPost at hP
  rw [show pairR (prod l) qs x = pairR (prod l) (qsOf l rs) x from cont_pair hqs _ _] at hP
  repeat' first
    | ((with_reducible refine Nx.is_wp ?_); first | refine Nx.wo ?_ | refine Nx.zp (fun hc => ?_) (fun hc => ?_))
    | (refine Nx.zo ?_; first | refine Nx.opr rfl rfl ?_ | refine Nx.callv rfl rfl rfl (by kernel_rfl) rfl (RCount_spec A c l I2 (hl.mono (hI1.trans hI2)) hs) ?_ | (refine Nx.call (Rpre := []) rfl rfl rfl (by kernel_rfl) rfl hP (Ent.refl _) ?_; rintro _ _ ⟨r1, r2, o, rfl, e1, e2, o1, o2, rfl⟩) | refine Nx.so ?_ | refine Nx.sb (fun bx => ?_) | refine Nx.sa (fun A2 c2 => ?_))
    | ((with_reducible refine Nx.is_at ?_); first | refine Nx.a ?_ | refine Nx.zd ?_ | refine Nx.zs (fun hc => ?_) (fun hc => ?_))
    | ((with_reducible refine Nx.is_mix ?_); first | refine Nx.m ?_ | refine Nx.zm ?_ | refine Nx.zt (fun hc => ?_) (fun hc => ?_))
    | refine Nx.zx ?_ | fail
  exact Nx.imm_le (hI1.trans hI2) (Nx.ret_fn rfl [_] ⟨r1, r2, o, rfl, e1, e2, o1, o2, rfl⟩ (by (exact Ent.auto)))
end Go.Proofs.YtcmdemfhbekabaaGreat
/- Contracts of functions of the given program, and lemmas about plain lists and numbers: what the laws of this seat lean on. -/
namespace Go.Proofs.YtcmdemfhbekabaaGreat
open Go.Eng Go.Sol
attribute [local irreducible] opK wpList Code.wp Exit.then Exit.inBlock fnPost bodyPost Nx Calls Oper.wp Rd Rds Wr Ent Stars Blk Again Vec FnSpec wpMix QRun Stop Upto wpAt
/-! The causes as a function: the greedy list -/
def greedyC (l : List Int) (k : Nat) (m : Int) : Nat → List Rel → Nat → List Rel
  | 0, ls, _ => ls
  | _ + 1, ls, 0 => ls
  | f + 1, ls, i + 1 => if exposesB l (dropR ls i) k m = true then greedyC l k m f (dropR ls i) (dropR ls i).length else greedyC l k m f ls i
theorem greedy_zero {l : List Int} {k : Nat} {m : Int} {ls : List Rel} : ∀ f, greedyC l k m f ls 0 = ls
  | 0 => rfl
  | _ + 1 => rfl
def cauD (l : List Int) (rs : List Rel) (x m : Int) : List Int × Int :=
  if (findD l rs [x] m).2 ≠ 0 then ([], (findD l rs [x] m).2) else if (findD l rs [x] m).1.length = 0 then ([], 21) else ((greedyC l x.toNat m (rs.length * 1002 + rs.length) rs rs.length).map (·.num), 0)
theorem cau_cases (l : List Int) (rs : List Rel) (x m : Int) : ((findD l rs [x] m).2 ≠ 0 → cauD l rs x m = ([], (findD l rs [x] m).2)) ∧ ((findD l rs [x] m).2 = 0 → (findD l rs [x] m).1.length = 0 → cauD l rs x m = ([], 21)) ∧
    ((findD l rs [x] m).2 = 0 → (findD l rs [x] m).1.length ≠ 0 → ∃ k : Nat, x = k ∧ k < (prod l).toNat ∧ exposesB l rs k m = true ∧ cauD l rs x m = ((greedyC l k m (rs.length * 1002 + rs.length) rs rs.length).map (·.num), 0)) := by
  refine ⟨fun h => by unfold cauD; rw [if_pos h], fun h h1 => by unfold cauD; rw [if_neg (by omega), if_pos h1], fun h h1 => ?_⟩
  have hk : chkD l rs [x] m = 0 := by
    refine Decidable.byContradiction fun hn => ?_
    unfold findD at h
    rw [if_pos hn] at h
    exact hn h
  have hx := (chkD_ok hk).2.2.1 x List.mem_cons_self
  refine ⟨x.toNat, by omega, by omega, ?_, ?_⟩
  · obtain ⟨y, rfl⟩ : ∃ y : Nat, x = y := ⟨x.toNat, by omega⟩
    rw [Int.toNat_natCast]
    exact (find_exposes h h1).2
  · unfold cauD
    rw [if_neg (by omega), if_neg h1]
end Go.Proofs.YtcmdemfhbekabaaGreat
/- Contracts of functions of the given program, and lemmas about plain lists and numbers: what the laws of this seat lean on. -/
namespace Go.Proofs.YtcmdemfhbekabaaGreat
open Go.Eng Go.Sol
attribute [local irreducible] opK wpList Code.wp Exit.then Exit.inBlock fnPost bodyPost Nx Calls Oper.wp Rd Rds Wr Ent Stars Blk Again Vec FnSpec wpMix QRun Stop Upto wpAt
/-- The search for causes goes on to the list G. -/
def GInv (l : List Int) (rs ls : List Rel) (k : Nat) (m : Int) (i : Int) (G : List Rel) : Prop :=
  ls.Sublist rs ∧ -1 ≤ i ∧ i < ls.length ∧ ∃ f, ls.length * 1002 + (i + 1).toNat ≤ f ∧ greedyC l k m f ls (i + 1).toNat = G
set_option maxRecDepth 10000 in
set_option maxHeartbeats 16000000 in
theorem CausesE_spec (A As : Option Addr) (c cs : Nat) (l : List Int) (rs : List Rel) (x m : Int) (I : PH) (hl : Ints I A c l) (hs : Sizes l) (hr : Rels I As cs rs) (hw : ∀ r ∈ rs, Viewed l r.v) (h9 : rs.length ≤ 1000) :
    FnSpec Tryz.prog 31 [.agg #[.slice A l.length c], .slice As rs.length cs, .int .i64 x, .int .i64 m] I []
      (fun u R' => ∃ (A' : Option Addr) (c' : Nat), u = .tuple #[.slice A' (cauD l rs x m).1.length c', .int .i64 (cauD l rs x m).2] ∧ R' = [iR A' c' (cauD l rs x m).1]) := by
  have hF := fun (bp : Nat) (I' : PH) (hle : PH.le I I') (hp : Ints I' (some ⟨bp, 0, none⟩) 1 [x]) => find_spec A As (some ⟨bp, 0, none⟩) c cs 1 l rs [x] m I' (hl.mono hle) hs (hr.mono hle) hw hp (by simp)
  obtain ⟨hc1, hc2, hc3⟩ := cau_cases l rs x m
  generalize findD l rs [x] m = fq at hF hc1 hc2 hc3
  obtain ⟨base, er⟩ := fq
  dsimp only at hF hc1 hc2 hc3
  refine FnSpec.enterP Tryz.func31 rfl Tryz.ntmps31 rfl fun w F => ?_
  by_cases h0 : er = 0
  case neg =>
    repeat' first
      | ((with_reducible refine Nx.is_wp ?_); first | refine Nx.wo ?_ | refine Nx.zp (fun hc => ?_) (fun hc => ?_))
      | (refine Nx.zo ?_; first | refine Nx.opr rfl rfl ?_ | (refine Nx.call rfl rfl rfl (by kernel_rfl) rfl (FnSpec.keep [Blk _ 3 [.int .i64 x]] fun m' I' hle hm' hv => hF _ I' hle (by obtain ⟨q1, z1, y1⟩ := Stars.get 0 hv rfl; exact Blk.sliceOf (t := 3) (l := [x]) (z1.trans hm') y1 (by unfold maxLen; simp))) (by (exact Ent.auto)) ?_; rintro _ _ ⟨_, ⟨Ao, co, rfl, rfl⟩, rfl⟩) | refine Nx.so ?_ | refine Nx.sb (fun bx => ?_) | refine Nx.sa (fun A2 c2 => ?_))
      | ((with_reducible refine Nx.is_at ?_); first | refine Nx.a ?_ | refine Nx.zd ?_ | refine Nx.zs (fun hc => ?_) (fun hc => ?_))
      | ((with_reducible refine Nx.is_mix ?_); first | refine Nx.m ?_ | refine Nx.zm ?_ | refine Nx.zt (fun hc => ?_) (fun hc => ?_))
      | refine Nx.zx ?_ | fail
    rw [hc1 h0]
    exact Nx.ret_fn rfl [_] ⟨none, 0, rfl, rfl⟩ ((Ent.vec_nil 3 1 _).trans (by (exact Ent.auto)))
  subst h0
  by_cases h1 : base.length = 0
  · repeat' first
      | ((with_reducible refine Nx.is_wp ?_); first | refine Nx.wo ?_ | refine Nx.zp (fun hc => ?_) (fun hc => ?_))
      | (refine Nx.zo ?_; first | refine Nx.opr rfl rfl ?_ | (refine Nx.call rfl rfl rfl (by kernel_rfl) rfl (FnSpec.keep [Blk _ 3 [.int .i64 x]] fun m' I' hle hm' hv => hF _ I' hle (by obtain ⟨q1, z1, y1⟩ := Stars.get 0 hv rfl; exact Blk.sliceOf (t := 3) (l := [x]) (z1.trans hm') y1 (by unfold maxLen; simp))) (by (exact Ent.auto)) ?_; rintro _ _ ⟨_, ⟨Ao, co, rfl, rfl⟩, rfl⟩) | refine Nx.so ?_ | refine Nx.sb (fun bx => ?_) | refine Nx.sa (fun A2 c2 => ?_))
      | ((with_reducible refine Nx.is_at ?_); first | refine Nx.a ?_ | refine Nx.zd ?_ | refine Nx.zs (fun hc => ?_) (fun hc => ?_))
      | ((with_reducible refine Nx.is_mix ?_); first | refine Nx.m ?_ | refine Nx.zm ?_ | refine Nx.zt (fun hc => ?_) (fun hc => ?_))
      | refine Nx.zx ?_ | fail
    rw [hc2 rfl h1]
    exact Nx.ret_fn rfl [_] ⟨none, 0, rfl, rfl⟩ ((Ent.vec_nil 3 1 _).trans (by (exact Ent.auto)))
  obtain ⟨k, rfl, hk, hex, hce⟩ := hc3 rfl h1
  rw [hce]
  obtain ⟨G, hG⟩ : ∃ G, G = greedyC l k m (rs.length * 1002 + rs.length) rs rs.length := ⟨_, rfl⟩
  rw [← hG]
  dsimp only
  repeat' first
    | ((with_reducible refine Nx.is_wp ?_); first | refine Nx.wo ?_ | refine Nx.zp (fun hc => ?_) (fun hc => ?_))
    | (refine Nx.zo ?_; first | refine Nx.opr rfl rfl ?_ | (refine Nx.call rfl rfl rfl (by kernel_rfl) rfl (FnSpec.keep [Blk _ 3 [.int .i64 (k : Int)]] fun m' I' hle hm' hv => hF _ I' hle (by obtain ⟨q1, z1, y1⟩ := Stars.get 0 hv rfl; exact Blk.sliceOf (t := 3) (l := [(k : Int)]) (z1.trans hm') y1 (by unfold maxLen; simp))) (by (exact Ent.auto)) ?_; rintro _ _ ⟨_, ⟨Ao, co, rfl, rfl⟩, rfl⟩) | (refine Nx.call (Rpre := []) rfl rfl rfl (by kernel_rfl) rfl (CloneR_spec As cs rs I hr.outer (by omega)) (Ent.refl _) ?_; rintro _ _ ⟨Al, cl', rfl, rfl⟩) | refine Nx.so ?_ | refine Nx.sb (fun bx => ?_) | refine Nx.sa (fun A2 c2 => ?_))
    | ((with_reducible refine Nx.is_at ?_); first | refine Nx.a ?_ | refine Nx.zd ?_ | refine Nx.zs (fun hc => ?_) (fun hc => ?_))
    | ((with_reducible refine Nx.is_mix ?_); first | refine Nx.m ?_ | refine Nx.zm ?_ | refine Nx.zt (fun hc => ?_) (fun hc => ?_))
    | refine Nx.zx ?_ | fail
  rename_i b4
  have hsubR : ∀ (I' m' : PH) (A3 : Option Addr) (c3 : Nat) (ls : List Rel), ls.Sublist rs → PH.le I I' → PH.le m' I' → Stars [rlR A3 c3 ls] m' → Rels I' A3 c3 ls := fun I' m' A3 c3 ls hsub hle hm' hv => by
    obtain ⟨q1, z1, y1⟩ := Stars.get 0 hv rfl
    exact ⟨Vec.sliceN (z1.trans hm') y1 fun x _ => relC_len x, fun r hr' => (hr.view r (hsub.subset hr')).mono hle, fun r hr' => (hr.val r (hsub.subset hr')).mono hle⟩
  refine Nx.p_loop (σ := Int × Option Addr × Nat × List Rel) (fun s => [(2, .int .i64 (k : Int)), (3, .int .i64 m), (4, .pointer (some ⟨b4, 0, none⟩)), (12, .slice s.2.1 s.2.2.2.length s.2.2.1), (13, .int .i64 s.1)])
    (fun s => [rlR s.2.1 s.2.2.1 s.2.2.2, Blk b4 27 [.slice A l.length c], F]) (fun s => GInv l rs s.2.2.2 k m s.1 G) (fun s => s.2.2.2.length * 1002 + (s.1 + 1).toNat) ((rs.length : Int) - 1, Al, cl', rs) rfl
    ⟨List.Sublist.refl _, by dsimp only; omega, by dsimp only; omega, rs.length * 1002 + rs.length, by dsimp only; omega, by dsimp only; rw [show ((rs.length : Int) - 1 + 1).toNat = rs.length by omega]; exact hG.symm⟩ ⟨rfl, rfl, rfl, rfl, rfl, trivial⟩ (by (exact Ent.auto)) ?_
  rintro ⟨i, A1, c1, ls⟩ ⟨hsub, hlo, hhi, f, hf, hgr⟩
  dsimp only at hsub hlo hhi hf hgr ⊢
  have hll := hsub.length_le
  by_cases hi0 : 0 ≤ i
  · obtain ⟨q, rfl⟩ : ∃ q : Nat, i = q := ⟨i.toNat, by omega⟩
    have hq : q < ls.length := by omega
    have hdl := dropR_len hq
    obtain ⟨f, rfl⟩ : ∃ f', f = f' + 1 := ⟨f - 1, by omega⟩
    rw [show ((q : Int) + 1).toNat = q + 1 by omega, greedyC] at hgr
    have hds := (dropR_sub ls q).trans hsub
    have hCl := fun (I' m' : PH) (hle : PH.le I I') (hm' : PH.le m' I') (hv : Stars [rlR A1 c1 ls] m') => CloneR_spec A1 c1 ls I' (hsubR I' m' A1 c1 ls hsub hle hm' hv).outer (by omega)
    have hDel := fun (A3 : Option Addr) (c3 : Nat) => DeleteR_spec A3 c3 ls q I hq (by omega)
    have hEx := fun (A3 : Option Addr) (c3 : Nat) (m' I' : PH) (hle : PH.le I I') (hm' : PH.le m' I') (hv : Stars [rlR A3 c3 (dropR ls q)] m') => exposes_spec A A3 c c3 l (dropR ls q) k m I' (hl.mono hle) hs (hsubR I' m' A3 c3 _ hds hle hm' hv) (fun r hr' => hw r (hds.subset hr')) hk
    cases hb : exposesB l (dropR ls q) k m with
    | true =>
      rw [hb] at hEx
      repeat' first
        | ((with_reducible refine Nx.is_wp ?_); first | refine Nx.wo ?_ | refine Nx.zp (fun hc => ?_) (fun hc => ?_))
        | (refine Nx.zo ?_; first | refine Nx.opr rfl rfl ?_ | (refine Nx.call rfl rfl rfl (by kernel_rfl) rfl (FnSpec.keep [rlR A1 c1 ls] fun m' I' hle hm' hv => hCl I' m' hle hm' hv) (by (exact Ent.auto)) ?_; rintro _ _ ⟨_, ⟨A3, c3, rfl, rfl⟩, rfl⟩) | (refine Nx.call rfl rfl rfl (by kernel_rfl) rfl (hDel _ _) (by (exact Ent.auto)) ?_; rintro _ _ ⟨rfl, rfl⟩) | (refine Nx.call rfl rfl rfl (by kernel_rfl) rfl (FnSpec.keep [rlR _ _ (dropR ls q)] fun m' I' hle hm' hv => hEx _ _ m' I' hle hm' hv) (by (exact Ent.auto)) ?_; rintro _ _ ⟨_, ⟨rfl, rfl⟩, rfl⟩) | refine Nx.so ?_ | refine Nx.sb (fun bx => ?_) | refine Nx.sa (fun A2 c2 => ?_))
        | ((with_reducible refine Nx.is_at ?_); first | refine Nx.a ?_ | refine Nx.zd ?_ | refine Nx.zs (fun hc => ?_) (fun hc => ?_))
        | ((with_reducible refine Nx.is_mix ?_); first | refine Nx.m ?_ | refine Nx.zm ?_ | refine Nx.zt (fun hc => ?_) (fun hc => ?_))
        | refine Nx.zx ?_ | fail
      exact Nx.again (((dropR ls q).length : Int) - 1, A3, c3, dropR ls q) ⟨hds, by dsimp only; omega, by dsimp only; omega, f, by dsimp only; omega, by dsimp only; rw [hb, if_pos rfl] at hgr; rw [show (((dropR ls q).length : Int) - 1 + 1).toNat = (dropR ls q).length by omega]; exact hgr⟩ (by dsimp only; omega) ⟨rfl, rfl, rfl, rfl, rfl, trivial⟩ (by (exact Ent.auto))
    | false =>
      rw [hb] at hEx
      repeat' first
        | ((with_reducible refine Nx.is_wp ?_); first | refine Nx.wo ?_ | refine Nx.zp (fun hc => ?_) (fun hc => ?_))
        | (refine Nx.zo ?_; first | refine Nx.opr rfl rfl ?_ | (refine Nx.call rfl rfl rfl (by kernel_rfl) rfl (FnSpec.keep [rlR A1 c1 ls] fun m' I' hle hm' hv => hCl I' m' hle hm' hv) (by (exact Ent.auto)) ?_; rintro _ _ ⟨_, ⟨A3, c3, rfl, rfl⟩, rfl⟩) | (refine Nx.call rfl rfl rfl (by kernel_rfl) rfl (hDel _ _) (by (exact Ent.auto)) ?_; rintro _ _ ⟨rfl, rfl⟩) | (refine Nx.call rfl rfl rfl (by kernel_rfl) rfl (FnSpec.keep [rlR _ _ (dropR ls q)] fun m' I' hle hm' hv => hEx _ _ m' I' hle hm' hv) (by (exact Ent.auto)) ?_; rintro _ _ ⟨_, ⟨rfl, rfl⟩, rfl⟩) | refine Nx.so ?_ | refine Nx.sb (fun bx => ?_) | refine Nx.sa (fun A2 c2 => ?_))
        | ((with_reducible refine Nx.is_at ?_); first | refine Nx.a ?_ | refine Nx.zd ?_ | refine Nx.zs (fun hc => ?_) (fun hc => ?_))
        | ((with_reducible refine Nx.is_mix ?_); first | refine Nx.m ?_ | refine Nx.zm ?_ | refine Nx.zt (fun hc => ?_) (fun hc => ?_))
        | refine Nx.zx ?_ | fail
      exact Nx.again ((q : Int) - 1, A1, c1, ls) ⟨hsub, by dsimp only; omega, by dsimp only; omega, f, by dsimp only; omega, by dsimp only; rw [hb, if_neg (by decide)] at hgr; rw [show ((q : Int) - 1 + 1).toNat = q by omega]; exact hgr⟩ (by dsimp only; omega) ⟨rfl, rfl, rfl, rfl, rfl, trivial⟩ (by (exact Ent.auto))
  obtain rfl : i = -1 := by omega
  rw [show (-1 + 1 : Int).toNat = 0 from rfl, greedy_zero] at hgr
  subst hgr
  repeat' first
    | ((with_reducible refine Nx.is_wp ?_); first | refine Nx.wo ?_ | refine Nx.zp (fun hc => ?_) (fun hc => ?_))
    | (refine Nx.zo ?_; first | refine Nx.opr rfl rfl ?_ | refine Nx.so ?_ | refine Nx.sb (fun bx => ?_) | refine Nx.sa (fun A2 c2 => ?_))
    | ((with_reducible refine Nx.is_at ?_); first | refine Nx.a ?_ | refine Nx.zd ?_ | refine Nx.zs (fun hc => ?_) (fun hc => ?_))
    | ((with_reducible refine Nx.is_mix ?_); first | refine Nx.m ?_ | refine Nx.zm ?_ | refine Nx.zt (fun hc => ?_) (fun hc => ?_))
    | refine Nx.zx ?_ | fail
  refine Nx.p_loop (σ := Nat × Option Addr × Nat) (fun s => [(15, .slice s.2.1 ((ls.take s.1).map (·.num)).length s.2.2), (58, .slice A1 ls.length c1), (59, .int .i64 ls.length), (60, .int .i64 (s.1 : Int))])
    (fun s => [iR s.2.1 s.2.2 ((ls.take s.1).map (·.num)), rlR A1 c1 ls, F]) (fun s => s.1 ≤ ls.length) (fun s => ls.length - s.1) (0, none, 0) rfl (Nat.zero_le _) ⟨rfl, rfl, rfl, rfl, trivial⟩ ((Ent.vec_nil 3 1 _).trans (by (exact Ent.auto))) ?_
  rintro ⟨j, Ap, cp⟩ hj
  dsimp only at hj ⊢
  by_cases hjl : j < ls.length
  case neg =>
    obtain rfl : j = ls.length := by omega
    rw [List.take_length]
    repeat' first
      | ((with_reducible refine Nx.is_wp ?_); first | refine Nx.wo ?_ | refine Nx.zp (fun hc => ?_) (fun hc => ?_))
      | (refine Nx.zo ?_; first | refine Nx.opr rfl rfl ?_ | refine Nx.so ?_ | refine Nx.sb (fun bx => ?_) | refine Nx.sa (fun A2 c2 => ?_))
      | ((with_reducible refine Nx.is_at ?_); first | refine Nx.a ?_ | refine Nx.zd ?_ | refine Nx.zs (fun hc => ?_) (fun hc => ?_))
      | ((with_reducible refine Nx.is_mix ?_); first | refine Nx.m ?_ | refine Nx.zm ?_ | refine Nx.zt (fun hc => ?_) (fun hc => ?_))
      | refine Nx.zx ?_ | fail
    exact Nx.ret_fn rfl [_] ⟨Ap, cp, rfl, rfl⟩ (by (exact Ent.auto))
  have htk := take_snocR hjl
  have hnl : ((ls.take j).map (·.num)).length ≤ 1000 := by rw [List.length_map, List.length_take]; omega
  have hmp : (ls.take (j + 1)).map (·.num) = (ls.take j).map (·.num) ++ [(ls.getD j default).num] := by rw [htk, List.map_append]; rfl
  have hrc5 : relC (ls.getD j default) = [.int .i64 (ls.getD j default).num, .slice (ls.getD j default).va (ls.getD j default).v.length (ls.getD j default).vc, rowV (ls.getD j default).val] := rfl
  generalize (ls.take j).map (·.num) = nm at hnl hmp
  refine Nx.ent (R' := [rlR A1 c1 ls, iR Ap cp nm, F]) (by (exact Ent.auto)) ?_
  refine Nx.vec_fact fun _ _ _ hA1 => ?_
  repeat' first
    | ((with_reducible refine Nx.is_wp ?_); first | refine Nx.wo ?_ | refine Nx.zp (fun hc => ?_) (fun hc => ?_))
    | (refine Nx.zo ?_; first | refine Nx.opr rfl rfl ?_ | refine Nx.indexAddr_nat (A := A1) (i := j) (sz := 3) rfl rfl rfl rfl rfl hjl (hA1 (by omega)) ?_ | refine Nx.loads (vs := [.int .i64 (ls.getD j default).num, .slice (ls.getD j default).va (ls.getD j default).v.length (ls.getD j default).vc, rowV (ls.getD j default).val]) rfl rfl rfl rfl (by rw [← hrc5]; first | exact Rds.vecN 0 relC_len rfl hjl | exact Rds.vecN 1 relC_len rfl hjl) rfl ?_ | refine Nx.so ?_ | refine Nx.sb (fun bx => ?_) | refine Nx.sa (fun A2 c2 => ?_))
    | ((with_reducible refine Nx.is_at ?_); first | refine Nx.a ?_ | refine Nx.zd ?_ | refine Nx.zs (fun hc => ?_) (fun hc => ?_))
    | ((with_reducible refine Nx.is_mix ?_); first | refine Nx.m ?_ | refine Nx.zm ?_ | refine Nx.zt (fun hc => ?_) (fun hc => ?_))
    | refine Nx.zx ?_ | fail
  exact Nx.again (j + 1, A2, c2) hjl (by dsimp only; omega) ⟨by dsimp only; rw [hmp, List.length_append]; rfl, rfl, rfl, rfl, trivial⟩ (by dsimp only; unfold iR; rw [hmp, List.length_append, List.map_append]; (exact Ent.auto))
end Go.Proofs.YtcmdemfhbekabaaGreat
/- Contracts of functions of the given program, and lemmas about plain lists and numbers: what the laws of this seat lean on. -/
namespace Go.Proofs.YtcmdemfhbekabaaGreat
open Go.Eng Go.Sol
attribute [local irreducible] opK wpList Code.wp Exit.then Exit.inBlock fnPost bodyPost Nx Calls Oper.wp Rd Rds Wr Ent Stars Blk Again Vec FnSpec wpMix QRun Stop Upto wpAt
/-! The reference of differencing: Safe, Exposed -/
theorem exOf_cons (rc : List Rch) (p : List Int) (k m : Int) : exOf rc (k :: p) m = (if narrowB (rc.getD k.toNat default) m = true then [(k, rc.getD k.toNat default, -1)] else []) ++ exOf rc p m := by
  have := exOf_snoc rc [] k m
  unfold exOf
  rw [List.filter_cons]
  split <;> simp
theorem drop_atI {l : List Int} {k : Nat} (hk : k < l.length) : l.drop k = l.getD k default :: l.drop (k + 1) := by
  rw [List.drop_eq_getElem_cons hk, List.getD_eq_getElem?_getD, List.getElem?_eq_getElem hk]; rfl
theorem chkR_find (l : List Int) (rs : List Rel) (prot : List Int) (m : Int) : (chkR l rs prot m).2 = (findD l rs prot m).2 ∧ ((chkR l rs prot m).2 = 0 → chkD l rs prot m = 0 ∧ (rchD l rs).2 = 0 ∧ (chkR l rs prot m).1 = (rchD l rs).1 ∧ (findD l rs prot m).1 = exOf (rchD l rs).1 prot m) := by
  unfold chkR findD
  by_cases h0 : chkD l rs prot m = 0
  · rw [if_neg (by omega), if_neg (by omega)]
    by_cases h1 : (rchD l rs).2 = 0
    · rw [if_neg (by omega)]
      exact ⟨h1, fun _ => ⟨h0, h1, rfl, rfl⟩⟩
    · rw [if_pos h1]
      exact ⟨rfl, fun h => absurd h h1⟩
  · rw [if_pos h0, if_pos h0]
    exact ⟨rfl, fun h => absurd h h0⟩
set_option maxRecDepth 10000 in
set_option maxHeartbeats 8000000 in
theorem RSafe_spec (A As Ap : Option Addr) (c cs cp : Nat) (l : List Int) (rs : List Rel) (prot : List Int) (m : Int) (I : PH) (hl : Ints I A c l) (hs : Sizes l) (hr : Rels I As cs rs) (hw : ∀ r ∈ rs, Viewed l r.v) (hp : Ints I Ap cp prot) :
    FnSpec Tryz.prog 29 [.agg #[.slice A l.length c], .slice As rs.length cs, .slice Ap prot.length cp, .int .i64 m] I []
      (fun u R' => u = .tuple #[.bool (safeB l rs prot m), .int .i64 (findD l rs prot m).2] ∧ R' = []) := by
  have hC := rcheckD_spec A As Ap c cs cp l rs prot m I hl hs hr hw hp
  have hpl := hp.len
  obtain ⟨hf1, hf2⟩ := chkR_find l rs prot m
  have hok := fun h => rchD_ok (l := l) (rs := rs) h
  have hcd := fun h => chkD_ok (l := l) (rs := rs) (prot := prot) (m := m) h
  unfold safeB
  rw [← hf1]
  refine FnSpec.enterP Tryz.func29 rfl Tryz.ntmps29 rfl fun w F => ?_
  generalize chkR l rs prot m = fq at hC hf1 hf2
  obtain ⟨rc, er⟩ := fq
  dsimp only at hC hf1 hf2 ⊢
  by_cases h0 : er = 0
  case neg =>
    rw [decide_eq_false h0, Bool.false_and]
    repeat' first
      | ((with_reducible refine Nx.is_wp ?_); first | refine Nx.wo ?_ | refine Nx.zp (fun hc => ?_) (fun hc => ?_))
      | (refine Nx.zo ?_; first | refine Nx.opr rfl rfl ?_ | (refine Nx.call (Rpre := []) rfl rfl rfl (by kernel_rfl) rfl hC (Ent.refl _) ?_; rintro _ _ ⟨Am, cm, rfl, rfl⟩) | refine Nx.so ?_ | refine Nx.sb (fun bx => ?_) | refine Nx.sa (fun A2 c2 => ?_))
      | ((with_reducible refine Nx.is_at ?_); first | refine Nx.a ?_ | refine Nx.zd ?_ | refine Nx.zs (fun hc => ?_) (fun hc => ?_))
      | ((with_reducible refine Nx.is_mix ?_); first | refine Nx.m ?_ | refine Nx.zm ?_ | refine Nx.zt (fun hc => ?_) (fun hc => ?_))
      | refine Nx.zx ?_ | fail
    exact Nx.ret_fn rfl [] ⟨rfl, rfl⟩ (by (exact Ent.auto))
  subst h0
  obtain ⟨hk0, hr0, rfl, hfx⟩ := hf2 rfl
  rw [decide_eq_true rfl, Bool.true_and, hfx]
  obtain ⟨_, _, hin, _⟩ := hcd hk0
  obtain ⟨hrl, hrk⟩ := hok hr0
  have hz := size_ok hs
  generalize (rchD l rs).1 = rc at hC hrl hrk
  repeat' first
    | ((with_reducible refine Nx.is_wp ?_); first | refine Nx.wo ?_ | refine Nx.zp (fun hc => ?_) (fun hc => ?_))
    | (refine Nx.zo ?_; first | refine Nx.opr rfl rfl ?_ | (refine Nx.call (Rpre := []) rfl rfl rfl (by kernel_rfl) rfl hC (Ent.refl _) ?_; rintro _ _ ⟨Am, cm, rfl, rfl⟩) | refine Nx.so ?_ | refine Nx.sb (fun bx => ?_) | refine Nx.sa (fun A2 c2 => ?_))
    | ((with_reducible refine Nx.is_at ?_); first | refine Nx.a ?_ | refine Nx.zd ?_ | refine Nx.zs (fun hc => ?_) (fun hc => ?_))
    | ((with_reducible refine Nx.is_mix ?_); first | refine Nx.m ?_ | refine Nx.zm ?_ | refine Nx.zt (fun hc => ?_) (fun hc => ?_))
    | refine Nx.zx ?_ | fail
  refine Nx.freezeAt 0 rfl fun I2 m2 hI2 hm2 h2 => ?_
  have hRc : SliceN rcC 3 I2 Am cm rc := Vec.sliceN hm2 h2 fun x _ => rcC_len x
  replace hp := hp.mono hI2
  have hAm := hRc.isSome (show 0 < rc.length by omega) (by omega)
  obtain ⟨sb, hsb⟩ : ∃ sb, sb = decide ((exOf rc prot m).length = 0) := ⟨_, rfl⟩
  rw [← hsb]
  refine Nx.p_loop (σ := Nat) (fun i => [(3, .int .i64 m), (10, .slice Am rc.length cm), (25, .slice Ap prot.length cp), (26, .int .i64 prot.length), (27, .int .i64 (i : Int))])
    (fun _ => [F]) (fun i => i ≤ prot.length ∧ sb = decide ((exOf rc (prot.drop i) m).length = 0)) (fun i => prot.length - i) 0 rfl ⟨Nat.zero_le _, by rw [List.drop_zero]; exact hsb⟩ ⟨rfl, rfl, rfl, rfl, rfl, trivial⟩ (by (exact Ent.auto)) ?_
  rintro i ⟨hi, he⟩
  by_cases hiv : i < prot.length
  case neg =>
    rw [List.drop_eq_nil_of_le (by omega), show (exOf rc [] m).length = 0 from rfl, decide_eq_true rfl] at he
    rw [he]
    repeat' first
      | ((with_reducible refine Nx.is_wp ?_); first | refine Nx.wo ?_ | refine Nx.zp (fun hc => ?_) (fun hc => ?_))
      | (refine Nx.zo ?_; first | refine Nx.opr rfl rfl ?_ | refine Nx.so ?_ | refine Nx.sb (fun bx => ?_) | refine Nx.sa (fun A2 c2 => ?_))
      | ((with_reducible refine Nx.is_at ?_); first | refine Nx.a ?_ | refine Nx.zd ?_ | refine Nx.zs (fun hc => ?_) (fun hc => ?_))
      | ((with_reducible refine Nx.is_mix ?_); first | refine Nx.m ?_ | refine Nx.zm ?_ | refine Nx.zt (fun hc => ?_) (fun hc => ?_))
      | refine Nx.zx ?_ | fail
    exact Nx.imm_le hI2 (Nx.ret_fn rfl [] ⟨rfl, rfl⟩ (by (exact Ent.auto)))
  have hrd : ∀ (W : World) (R : List Res), Rd W I2 R ((ad Ap).add (i * 1)) (.int .i64 (prot.getD i default)) := fun W R => hp.rd hiv
  rw [drop_atI hiv, exOf_cons] at he
  have hki := hin _ (getD_memI hiv)
  generalize prot.getD i default = k at he hki hrd
  obtain ⟨y, rfl⟩ : ∃ y : Nat, k = y := ⟨k.toNat, by omega⟩
  rw [Int.toNat_natCast] at he
  have hyl : y < rc.length := by omega
  have hxo := (hrk y (by omega)).2
  have hrds : ∀ (W : World) (R : List Res), Rds W I2 R ((ad Am).add (y * 3)) (rcC (rc.getD y default)) := fun W R => hRc.rds hyl
  generalize rc.getD y default = x at he hxo hrds
  have hN := near_spec x m I2 hxo
  obtain ⟨lo, hi', op⟩ := x
  dsimp only at hN
  replace hrds : ∀ (W : World) (R : List Res), Rds W I2 R ((ad Am).add (y * 3)) [.int .i64 lo, .int .i64 hi', .bool op] := hrds
  cases hb : narrowB (lo, hi', op) m with
  | false =>
    rw [hb] at hN he
    rw [if_neg (by decide), List.nil_append] at he
    repeat' first
      | ((with_reducible refine Nx.is_wp ?_); first | refine Nx.wo ?_ | refine Nx.zp (fun hc => ?_) (fun hc => ?_))
      | (refine Nx.zo ?_; first | refine Nx.opr rfl rfl ?_ | refine Nx.indexAddr_nat (A := Ap) rfl rfl rfl rfl rfl hiv (hp.isSome (by omega)) ?_ | refine Nx.load rfl rfl rfl (hrd _ _) ?_ | refine Nx.indexAddr_nat (A := Am) (i := y) (sz := 3) rfl rfl rfl rfl rfl hyl hAm ?_ | refine Nx.loads rfl rfl rfl rfl (hrds _ _) rfl ?_ | refine Nx.callv rfl rfl rfl (by kernel_rfl) rfl hN ?_ | refine Nx.so ?_ | refine Nx.sb (fun bx => ?_) | refine Nx.sa (fun A2 c2 => ?_))
      | ((with_reducible refine Nx.is_at ?_); first | refine Nx.a ?_ | refine Nx.zd ?_ | refine Nx.zs (fun hc => ?_) (fun hc => ?_))
      | ((with_reducible refine Nx.is_mix ?_); first | refine Nx.m ?_ | refine Nx.zm ?_ | refine Nx.zt (fun hc => ?_) (fun hc => ?_))
      | refine Nx.zx ?_ | fail
    exact Nx.again (i + 1) ⟨hiv, he⟩ (by omega) ⟨rfl, rfl, rfl, rfl, rfl, trivial⟩ (by (exact Ent.auto))
  | true =>
    rw [hb] at hN he
    rw [if_pos rfl, List.length_append, List.length_singleton, decide_eq_false (by omega)] at he
    rw [he]
    repeat' first
      | ((with_reducible refine Nx.is_wp ?_); first | refine Nx.wo ?_ | refine Nx.zp (fun hc => ?_) (fun hc => ?_))
      | (refine Nx.zo ?_; first | refine Nx.opr rfl rfl ?_ | refine Nx.indexAddr_nat (A := Ap) rfl rfl rfl rfl rfl hiv (hp.isSome (by omega)) ?_ | refine Nx.load rfl rfl rfl (hrd _ _) ?_ | refine Nx.indexAddr_nat (A := Am) (i := y) (sz := 3) rfl rfl rfl rfl rfl hyl hAm ?_ | refine Nx.loads rfl rfl rfl rfl (hrds _ _) rfl ?_ | refine Nx.callv rfl rfl rfl (by kernel_rfl) rfl hN ?_ | refine Nx.so ?_ | refine Nx.sb (fun bx => ?_) | refine Nx.sa (fun A2 c2 => ?_))
      | ((with_reducible refine Nx.is_at ?_); first | refine Nx.a ?_ | refine Nx.zd ?_ | refine Nx.zs (fun hc => ?_) (fun hc => ?_))
      | ((with_reducible refine Nx.is_mix ?_); first | refine Nx.m ?_ | refine Nx.zm ?_ | refine Nx.zt (fun hc => ?_) (fun hc => ?_))
      | refine Nx.zx ?_ | fail
    exact Nx.imm_le hI2 (Nx.ret_fn rfl [] ⟨rfl, rfl⟩ (by (exact Ent.auto)))
end Go.Proofs.YtcmdemfhbekabaaGreat
/- Contracts of functions of the given program, and lemmas about plain lists and numbers: what the laws of this seat lean on. -/
namespace Go.Proofs.YtcmdemfhbekabaaGreat
open Go.Eng Go.Sol
attribute [local irreducible] opK wpList Code.wp Exit.then Exit.inBlock fnPost bodyPost Nx Calls Oper.wp Rd Rds Wr Ent Stars Blk Again Vec FnSpec wpMix QRun Stop Upto wpAt
theorem hit_last {l : List Int} {rs : List Rel} {m : Int} {y : Nat} (hr0 : (rchD l rs).2 = 0) (hy : y < (prod l).toNat) (hn : narrowB ((rchD l rs).1.getD y default) m = true) : 0 < rs.length ∧ hitB l rs m (y : Int) (rs.length - 1) = true := by
  have h1 : 0 < rs.length := by
    rcases Nat.eq_zero_or_pos rs.length with h | h
    · exfalso
      obtain rfl := List.eq_nil_of_length_eq_zero h
      rw [((rchD_ok hr0).2 y hy).1] at hn
      have : y ∉ touch (prod l).toNat (eqns (qsOf l [])) := by
        intro hm
        obtain ⟨_, hb⟩ := List.mem_filter.1 hm
        cases hb
      unfold reachAt at hn
      rw [if_neg this] at hn
      cases hn
    · exact h
  refine ⟨h1, ?_⟩
  unfold hitB
  rw [show rs.length - 1 + 1 = rs.length by omega, List.take_length, decide_eq_true hr0, Bool.true_and, Int.toNat_natCast]
  exact hn
set_option maxRecDepth 10000 in
set_option maxHeartbeats 16000000 in
theorem RExposed_spec (A As Ap : Option Addr) (c cs cp : Nat) (l : List Int) (rs : List Rel) (prot : List Int) (m : Int) (I : PH) (hl : Ints I A c l) (hs : Sizes l) (hr : Rels I As cs rs) (hw : ∀ r ∈ rs, Viewed l r.v) (hp : Ints I Ap cp prot) (hp9 : prot.length ≤ 1000000) :
    FnSpec Tryz.prog 28 [.agg #[.slice A l.length c], .slice As rs.length cs, .slice Ap prot.length cp, .int .i64 m] I []
      (fun u R' => ∃ (A' : Option Addr) (c' : Nat), u = .tuple #[.slice A' (expD l rs prot m).1.length c', .int .i64 (expD l rs prot m).2] ∧ R' = [expR A' c' (expD l rs prot m).1]) := by
  have hC := rcheckD_spec A As Ap c cs cp l rs prot m I hl hs hr hw hp
  have hpl := hp.len
  obtain ⟨hf1, hf2⟩ := chkR_find l rs prot m
  have hok := fun h => rchD_ok (l := l) (rs := rs) h
  have hcd := fun h => chkD_ok (l := l) (rs := rs) (prot := prot) (m := m) h
  have hlast := fun (y : Nat) h0 h1 h2 => hit_last (l := l) (rs := rs) (m := m) (y := y) h0 h1 h2
  unfold expD
  rw [← hf1]
  refine FnSpec.enterP Tryz.func28 rfl Tryz.ntmps28 rfl fun w F => ?_
  by_cases h0 : (chkR l rs prot m).2 = 0
  case neg =>
    have hnil : (findD l rs prot m).1 = [] := by
      rw [hf1] at h0
      unfold findD at h0 ⊢
      split
      · rfl
      · rename_i h1
        rw [if_neg h1] at h0
        split
        · rfl
        · rename_i h2; rw [if_neg h2] at h0; exact absurd rfl h0
    rw [hnil]
    generalize chkR l rs prot m = fq at hC h0
    obtain ⟨rc, er⟩ := fq
    dsimp only at hC h0 ⊢
    repeat' first
      | ((with_reducible refine Nx.is_wp ?_); first | refine Nx.wo ?_ | refine Nx.zp (fun hc => ?_) (fun hc => ?_))
      | (refine Nx.zo ?_; first | refine Nx.opr rfl rfl ?_ | (refine Nx.call (Rpre := []) rfl rfl rfl (by kernel_rfl) rfl hC (Ent.refl _) ?_; rintro _ _ ⟨Am, cm, rfl, rfl⟩) | refine Nx.so ?_ | refine Nx.sb (fun bx => ?_) | refine Nx.sa (fun A2 c2 => ?_))
      | ((with_reducible refine Nx.is_at ?_); first | refine Nx.a ?_ | refine Nx.zd ?_ | refine Nx.zs (fun hc => ?_) (fun hc => ?_))
      | ((with_reducible refine Nx.is_mix ?_); first | refine Nx.m ?_ | refine Nx.zm ?_ | refine Nx.zt (fun hc => ?_) (fun hc => ?_))
      | refine Nx.zx ?_ | fail
    exact Nx.ret_fn rfl [_] ⟨none, 0, rfl, rfl⟩ ((Ent.vec_nil 99 5 _).trans (by (exact Ent.auto)))
  obtain ⟨hk0, hr0, hce, hfx⟩ := hf2 h0
  rw [hfx, h0]
  rw [hce, h0] at hC
  obtain ⟨hre0, _, hin, _⟩ := hcd hk0
  obtain ⟨hrl, hrk⟩ := hok hr0
  have hlast := fun (y : Nat) h1 h2 => hlast y hr0 h1 h2
  have hV := (relsE_iff hs hw).1 hre0
  have hz := size_ok hs
  have h24 := hV.len
  have hEx := fun (i y : Nat) (I' : PH) (hle : PH.le I I') (hy : y < (prod l).toNat) (hi : i < rs.length) => (by
    have := rexposes_spec A As c cs l (rs.take (i + 1)) y m I' (hl.mono hle) hs ((hr.mono hle).take _) (fun r hr' => hw r (List.mem_of_mem_take hr')) hy
    rw [List.length_take, show min (i + 1) rs.length = i + 1 by omega] at this
    exact this : FnSpec Tryz.prog 79 [.agg #[.slice A l.length c], .slice As (i + 1) cs, .int .i64 (y : Int), .int .i64 m] I' [] (fun v R' => v = .bool (exposesB l (rs.take (i + 1)) y m) ∧ R' = []))
  generalize (rchD l rs).1 = rc at hC hrl hrk hlast
  repeat' first
    | ((with_reducible refine Nx.is_wp ?_); first | refine Nx.wo ?_ | refine Nx.zp (fun hc => ?_) (fun hc => ?_))
    | (refine Nx.zo ?_; first | refine Nx.opr rfl rfl ?_ | (refine Nx.call (Rpre := []) rfl rfl rfl (by kernel_rfl) rfl hC (Ent.refl _) ?_; rintro _ _ ⟨Am, cm, rfl, rfl⟩) | refine Nx.so ?_ | refine Nx.sb (fun bx => ?_) | refine Nx.sa (fun A2 c2 => ?_))
    | ((with_reducible refine Nx.is_at ?_); first | refine Nx.a ?_ | refine Nx.zd ?_ | refine Nx.zs (fun hc => ?_) (fun hc => ?_))
    | ((with_reducible refine Nx.is_mix ?_); first | refine Nx.m ?_ | refine Nx.zm ?_ | refine Nx.zt (fun hc => ?_) (fun hc => ?_))
    | refine Nx.zx ?_ | fail
  refine Nx.freezeAt 0 rfl fun I2 m2 hI2 hm2 h2 => ?_
  have hRc : SliceN rcC 3 I2 Am cm rc := Vec.sliceN hm2 h2 fun x _ => rcC_len x
  replace hp := hp.mono hI2
  have hr2 := hr.mono hI2
  have hAm := hRc.isSome (show 0 < rc.length by omega) (by omega)
  have hAs := fun h : 0 < rs.length => hr2.outer.isSome h (by omega)
  revert bx; intro b4
  refine Nx.p_loop (σ := Nat × Option Addr × Nat) (fun s => [(1, .slice As rs.length cs), (3, .int .i64 m), (4, .pointer (some ⟨b4, 0, none⟩)), (10, .slice Am rc.length cm), (12, .slice s.2.1 ((exOf rc (prot.take s.1) m).map (expK l rs m rs.length)).length s.2.2), (27, .slice Ap prot.length cp), (28, .int .i64 prot.length), (29, .int .i64 (s.1 : Int))])
    (fun s => [expR s.2.1 s.2.2 ((exOf rc (prot.take s.1) m).map (expK l rs m rs.length)), Blk b4 27 [.slice A l.length c], F]) (fun s => s.1 ≤ prot.length) (fun s => prot.length - s.1) (0, none, 0) rfl (Nat.zero_le _) ⟨rfl, rfl, rfl, rfl, rfl, rfl, rfl, rfl, trivial⟩ ((Ent.vec_nil 99 5 _).trans (by (exact Ent.auto))) ?_
  rintro ⟨i, Ao, co⟩ hi
  dsimp only at hi ⊢
  by_cases hiv : i < prot.length
  case neg =>
    obtain rfl : i = prot.length := by omega
    rw [List.take_length]
    repeat' first
      | ((with_reducible refine Nx.is_wp ?_); first | refine Nx.wo ?_ | refine Nx.zp (fun hc => ?_) (fun hc => ?_))
      | (refine Nx.zo ?_; first | refine Nx.opr rfl rfl ?_ | refine Nx.so ?_ | refine Nx.sb (fun bx => ?_) | refine Nx.sa (fun A2 c2 => ?_))
      | ((with_reducible refine Nx.is_at ?_); first | refine Nx.a ?_ | refine Nx.zd ?_ | refine Nx.zs (fun hc => ?_) (fun hc => ?_))
      | ((with_reducible refine Nx.is_mix ?_); first | refine Nx.m ?_ | refine Nx.zm ?_ | refine Nx.zt (fun hc => ?_) (fun hc => ?_))
      | refine Nx.zx ?_ | fail
    exact Nx.imm_le hI2 (Nx.ret_fn rfl [_] ⟨Ao, co, rfl, rfl⟩ (by (exact Ent.auto)))
  have htk := take_snocJ hiv
  have hki := hin _ (getD_memI hiv)
  have hrd : ∀ (W : World) (R : List Res), Rd W I2 R ((ad Ap).add (i * 1)) (.int .i64 (prot.getD i default)) := fun W R => hp.rd hiv
  generalize prot.getD i default = k at htk hki hrd
  obtain ⟨y, rfl⟩ : ∃ y : Nat, k = y := ⟨k.toNat, by omega⟩
  have hyl : y < rc.length := by omega
  have hsn := exOf_snoc rc (prot.take i) (y : Int) m
  rw [← htk, Int.toNat_natCast] at hsn
  have hexl := exOf_len rc (prot.take i) m
  rw [List.length_take] at hexl
  have hxo := (hrk y (by omega)).2
  have hla := hlast y (by omega)
  have hrds : ∀ (W : World) (R : List Res), Rds W I2 R ((ad Am).add (y * 3)) (rcC (rc.getD y default)) := fun W R => hRc.rds hyl
  generalize rc.getD y default = x at hsn hxo hrds hla
  have hN := near_spec x m I2 hxo
  have hN5 := fun (I' : PH) (hle : PH.le I2 I') => near_spec x m I' hxo
  obtain ⟨lo, hi', op⟩ := x
  dsimp only at hN
  replace hrds : ∀ (W : World) (R : List Res), Rds W I2 R ((ad Am).add (y * 3)) [.int .i64 lo, .int .i64 hi', .bool op] := hrds
  generalize exOf rc (prot.take i) m = out at hsn hexl
  cases hb : narrowB (lo, hi', op) m with
  | false =>
    rw [hb] at hN hsn
    rw [if_neg (by decide), List.append_nil] at hsn
    repeat' first
      | ((with_reducible refine Nx.is_wp ?_); first | refine Nx.wo ?_ | refine Nx.zp (fun hc => ?_) (fun hc => ?_))
      | (refine Nx.zo ?_; first | refine Nx.opr rfl rfl ?_ | refine Nx.indexAddr_nat (A := Ap) rfl rfl rfl rfl rfl hiv (hp.isSome (by omega)) ?_ | refine Nx.load rfl rfl rfl (hrd _ _) ?_ | refine Nx.indexAddr_nat (A := Am) (i := y) (sz := 3) rfl rfl rfl rfl rfl hyl hAm ?_ | refine Nx.loads rfl rfl rfl rfl (hrds _ _) rfl ?_ | refine Nx.callv rfl rfl rfl (by kernel_rfl) rfl hN ?_ | refine Nx.so ?_ | refine Nx.sb (fun bx => ?_) | refine Nx.sa (fun A2 c2 => ?_))
      | ((with_reducible refine Nx.is_at ?_); first | refine Nx.a ?_ | refine Nx.zd ?_ | refine Nx.zs (fun hc => ?_) (fun hc => ?_))
      | ((with_reducible refine Nx.is_mix ?_); first | refine Nx.m ?_ | refine Nx.zm ?_ | refine Nx.zt (fun hc => ?_) (fun hc => ?_))
      | refine Nx.zx ?_ | fail
    exact Nx.again (i + 1, Ao, co) hiv (by dsimp only; omega) ⟨rfl, rfl, rfl, rfl, by dsimp only; rw [hsn]; rfl, rfl, rfl, rfl, trivial⟩ (by dsimp only; rw [hsn]; (exact Ent.auto))
  | true =>
    rw [hb] at hN hsn
    rw [if_pos rfl] at hsn
    obtain ⟨hpos, hhl⟩ := hla hb
    repeat' first
      | ((with_reducible refine Nx.is_wp ?_); first | refine Nx.wo ?_ | refine Nx.zp (fun hc => ?_) (fun hc => ?_))
      | (refine Nx.zo ?_; first | refine Nx.opr rfl rfl ?_ | refine Nx.indexAddr_nat (A := Ap) rfl rfl rfl rfl rfl hiv (hp.isSome (by omega)) ?_ | refine Nx.load rfl rfl rfl (hrd _ _) ?_ | refine Nx.indexAddr_nat (A := Am) (i := y) (sz := 3) rfl rfl rfl rfl rfl hyl hAm ?_ | refine Nx.loads rfl rfl rfl rfl (hrds _ _) rfl ?_ | refine Nx.callv rfl rfl rfl (by kernel_rfl) rfl hN ?_ | refine Nx.so ?_ | refine Nx.sb (fun bx => ?_) | refine Nx.sa (fun A2 c2 => ?_))
      | ((with_reducible refine Nx.is_at ?_); first | refine Nx.a ?_ | refine Nx.zd ?_ | refine Nx.zs (fun hc => ?_) (fun hc => ?_))
      | ((with_reducible refine Nx.is_mix ?_); first | refine Nx.m ?_ | refine Nx.zm ?_ | refine Nx.zt (fun hc => ?_) (fun hc => ?_))
      | refine Nx.zx ?_ | fail
    obtain ⟨g, hg⟩ : ∃ g, g = expK l rs m rs.length := ⟨_, rfl⟩
    rw [← hg]
    have hgl : (out.map g).length ≤ 1000000 := by rw [List.length_map]; omega
    refine Nx.p_loop (σ := Nat) (fun j => [(1, .slice As rs.length cs), (3, .int .i64 m), (4, .pointer (some ⟨b4, 0, none⟩)), (10, .slice Am rc.length cm), (12, .slice Ao (out.map g).length co), (14, .int .i64 (y : Int)), (15, .int .i64 ((j + 1 : Nat) : Int)), (27, .slice Ap prot.length cp), (28, .int .i64 prot.length), (29, .int .i64 (i : Int))])
      (fun _ => [expR Ao co (out.map g), Blk b4 27 [.slice A l.length c], F]) (fun j => j ≤ rs.length ∧ firstN l rs m (y : Int) j = -1 ∧ ∀ q, q < j → hitB l rs m (y : Int) q = false) (fun j => rs.length - j) 0 rfl ⟨Nat.zero_le _, rfl, fun q hq => absurd hq (Nat.not_lt_zero _)⟩ ⟨rfl, rfl, rfl, rfl, rfl, rfl, rfl, rfl, rfl, rfl, trivial⟩ (by (exact Ent.auto)) ?_
    rintro j ⟨hj, hfn, hnh⟩
    by_cases hjl : j < rs.length
    case neg =>
      exfalso
      have := hnh (rs.length - 1) (by omega)
      rw [hhl] at this; cases this
    have hEj := hEx j y I2 hI2 (by omega) hjl
    have hhe : hitB l rs m (y : Int) j = exposesB l (rs.take (j + 1)) y m := by unfold hitB exposesB; rw [Int.toNat_natCast]
    rw [← hhe] at hEj
    have hcap := hr2.outer.cap
    cases hh : hitB l rs m (y : Int) j with
    | false =>
      rw [hh] at hEj
      repeat' first
        | ((with_reducible refine Nx.is_wp ?_); first | refine Nx.wo ?_ | refine Nx.p_draw (id := 12) rfl [0, 1, 2, 3, 4, 5, 6] [6] _ rfl rfl (by kernel_rfl) (by kernel_rfl) rfl (by repeat first | exact PanicOk.fn | refine PanicOk.then_ ?_ | refine PanicOk.inB ?_) (Ent.refl _) ?_ | refine Nx.p_draw (id := 13) rfl [0, 1, 2, 3, 4, 5, 6, 7, 8, 9, 10, 11, 12, 13, 14, 15] [13, 14] _ rfl rfl (by kernel_rfl) (by kernel_rfl) rfl (by repeat first | exact PanicOk.fn | refine PanicOk.then_ ?_ | refine PanicOk.inB ?_) (Ent.refl _) ?_ | refine Nx.zp (fun hc => ?_) (fun hc => ?_))
        | (refine Nx.zo ?_; first | refine Nx.opr rfl rfl ?_ | refine Nx.callv rfl rfl rfl (by kernel_rfl) rfl hEj ?_ | refine Nx.so ?_ | refine Nx.sb (fun bx => ?_) | refine Nx.sa (fun A2 c2 => ?_))
        | ((with_reducible refine Nx.is_at ?_); first | refine Nx.a ?_ | refine Nx.zd ?_ | refine Nx.zs (fun hc => ?_) (fun hc => ?_))
        | ((with_reducible refine Nx.is_mix ?_); first | refine Nx.m_quiet rfl rfl rfl rfl rfl (by first | exact QRun.opr rfl | exact QRun.slice_hi (h := j + 1) rfl rfl rfl rfl (by omega)) ?_ | refine Nx.m_quiet_do rfl rfl rfl rfl rfl rfl rfl (by first | exact QRun.opr rfl | exact QRun.slice_hi (h := j + 1) rfl rfl rfl rfl (by omega)) ?_ | refine Nx.m ?_ | refine Nx.zm ?_ | refine Nx.zt (fun hc => ?_) (fun hc => ?_))
        | refine Nx.zx ?_ | fail
      exact Nx.again (j + 1) ⟨hjl, by rw [firstN, hfn, hh, if_neg (by simp)], fun q hq => by
        rcases Nat.lt_or_ge q j with h1 | h1
        · exact hnh q h1
        · rw [show q = j by omega]; exact hh⟩ (by omega) ⟨rfl, rfl, rfl, rfl, rfl, rfl, rfl, rfl, rfl, rfl, trivial⟩ (by (exact Ent.auto))
    | true =>
      rw [hh] at hEj
      have hn0 := (hV.each j hjl).2.1
      have hf1 : firstN l rs m (y : Int) (j + 1) = (rs.getD j default).num := by rw [firstN, hfn, hh, if_pos ⟨by decide, rfl⟩]
      have hfl : firstN l rs m (y : Int) rs.length = (rs.getD j default).num := by rw [firstN_stays (i := j + 1) (by omega) rs.length (by omega), hf1]
      have hgx : g ((y : Int), (lo, hi', op), -1) = ((y : Int), (lo, hi', op), (rs.getD j default).num) := by rw [hg]; unfold expK; rw [← hfl]
      have hj1 : (((j + 1 : Nat) : Int) - 1).toNat = j := by omega
      have rn : ∀ (W : World) (R : List Res), Rd W I2 R (((ad As).add ((((j + 1 : Nat) : Int) - 1).toNat * 3)).add 0) (.int .i64 (rs.getD j default).num) := fun W R => by
        rw [hj1]
        exact SliceN.fld (W := W) (R := R) (v := .int .i64 (rs.getD j default).num) hr2.outer hjl 0 rfl
      generalize (rs.getD j default).num = nm at *
      repeat' first
        | ((with_reducible refine Nx.is_wp ?_); first | refine Nx.wo ?_ | refine Nx.p_drawF (id := 12) rfl [0, 1, 2, 3, 4, 5] [] [6] _ rfl rfl (by kernel_rfl) (by kernel_rfl) rfl (by repeat first | exact PanicOk.fn | refine PanicOk.then_ ?_ | refine PanicOk.inB ?_) (Ent.refl _) ?_ | refine Nx.p_drawF (id := 13) rfl [0, 1, 2, 3, 4, 5, 6, 7, 8, 9, 10, 11, 12, 13] [13] [14, 15] _ rfl rfl (by kernel_rfl) (by kernel_rfl) rfl (by repeat first | exact PanicOk.fn | refine PanicOk.then_ ?_ | refine PanicOk.inB ?_) (Ent.refl _) ?_ | refine Nx.zp (fun hc => ?_) (fun hc => ?_))
        | (refine Nx.zo ?_; first | refine Nx.opr rfl rfl ?_ | refine Nx.callv rfl rfl rfl (by kernel_rfl) rfl hEj ?_ | refine Nx.append_lit 1 rfl rfl rfl rfl (by kernel_rfl) rfl rfl rfl rfl (by omega) (fun A4 c4 => ?_) | refine Nx.so ?_ | refine Nx.sb (fun bx => ?_) | refine Nx.sa (fun A2 c2 => ?_))
        | ((with_reducible refine Nx.is_at ?_); first | refine Nx.a ?_ | refine Nx.zd ?_ | refine Nx.zs (fun hc => ?_) (fun hc => ?_))
        | ((with_reducible refine Nx.is_mix ?_); first | refine Nx.m_quiet rfl rfl rfl rfl rfl (by first | exact QRun.fld (A := (ad As).add ((((j + 1 : Nat) : Int) - 1).toNat * 3)) rfl rfl | exact QRun.opr rfl | exact QRun.slice_hi (h := j + 1) rfl rfl rfl rfl (by omega) | exact QRun.idx (A := Am) (i := y) (sz := 3) rfl rfl rfl rfl hyl hAm | exact QRun.idxi (A := As) (i := ((j + 1 : Nat) : Int) - 1) (sz := 3) rfl rfl rfl rfl (by omega) (by omega) (hAs (by omega)) | exact QRun.loads rfl rfl rfl (hrds _ _) rfl | exact QRun.load rfl rfl (rn _ _)) ?_ | refine Nx.m_quiet_do rfl rfl rfl rfl rfl rfl rfl (by first | exact QRun.fld (A := (ad As).add ((((j + 1 : Nat) : Int) - 1).toNat * 3)) rfl rfl | exact QRun.opr rfl | exact QRun.slice_hi (h := j + 1) rfl rfl rfl rfl (by omega) | exact QRun.idx (A := Am) (i := y) (sz := 3) rfl rfl rfl rfl hyl hAm | exact QRun.idxi (A := As) (i := ((j + 1 : Nat) : Int) - 1) (sz := 3) rfl rfl rfl rfl (by omega) (by omega) (hAs (by omega)) | exact QRun.loads rfl rfl rfl (hrds _ _) rfl | exact QRun.load rfl rfl (rn _ _)) ?_ | refine Nx.m ?_ | refine Nx.zm ?_ | refine Nx.zt (fun hc => ?_) (fun hc => ?_))
        | refine Nx.zx ?_ | fail
      have e1 : (exOf rc (prot.take (i + 1)) m).map g = out.map g ++ [((y : Int), (lo, hi', op), nm)] := by rw [hsn, List.map_append, List.map_cons, List.map_nil, hgx]
      exact Nx.again (i + 1, A2, c2) hiv (by dsimp only; omega) ⟨rfl, rfl, rfl, rfl, by dsimp only; rw [e1, List.length_append (bs := [_])]; rfl, rfl, rfl, rfl, trivial⟩ (by dsimp only; unfold expR; rw [e1, List.length_append (bs := [_]), List.flatMap_append (ys := [_]), List.flatMap_cons, List.flatMap_nil, List.append_nil]; (exact Ent.auto))
end Go.Proofs.YtcmdemfhbekabaaGreat
/-
  The proof engine, part AT: a part of an owned list as what is appended.
-/
namespace Go.Eng
theorem Src.part {W : World} {I : PH} {R : List Res} {el : TypeId} {A : Option Addr} {n c sz i k : Nat} {xs ys : List Value} (q : Nat) (hq : nthL R q = some (Vec el sz A n c xs)) (hA : 0 < k → A.isSome = true) (hik : 0 < k → i < c) (hy : (xs.drop (i * sz)).take (k * sz) = ys) (hl : ys.length = k * sz) (h1 : ∀ u ∈ xs, u.oneCell' = true) : Src W I R (offA A c i sz) k sz ys := by
  refine ⟨hl, fun b hb => ?_, fun hb => ?_, fun u hu => ?_⟩
  · rcases Nat.eq_zero_or_pos k with h0 | h0
    · subst h0
      rw [Nat.zero_mul] at hl
      have := List.eq_nil_of_length_eq_zero hl
      rw [this]
      intro j u hj
      cases hj
    · have hc := hik h0
      unfold offA at hb
      rw [if_neg (by omega)] at hb
      obtain ⟨a, rfl⟩ := Option.isSome_iff_exists.1 (hA h0)
      cases hb
      intro j u hj
      rw [Addr.add_add]
      subst hy
      rw [List.getElem?_take] at hj
      split at hj
      · rw [List.getElem?_drop] at hj
        exact Rd.vecAt q hq (by rw [nthL_eq]; exact hj)
      · cases hj
  · rcases Nat.eq_zero_or_pos k with h0 | h0
    · exact h0
    · exfalso
      have hc := hik h0
      unfold offA at hb
      rw [if_neg (by omega)] at hb
      obtain ⟨a, rfl⟩ := Option.isSome_iff_exists.1 (hA h0)
      cases hb
  · subst hy
    exact h1 u (List.mem_of_mem_drop (List.mem_of_mem_take hu))
end Go.Eng
/- Contracts of functions of the given program, and lemmas about plain lists and numbers: what the laws of this seat lean on. -/
namespace Go.Proofs.YtcmdemfhbekabaaGreat
open Go.Eng Go.Sol
attribute [local irreducible] opK wpList Code.wp Exit.then Exit.inBlock fnPost bodyPost Nx Calls Oper.wp Rd Rds Wr Ent Stars Blk Again Vec FnSpec wpMix QRun Stop Upto wpAt
def RInv (l : List Int) (rs ls : List Rel) (k : Nat) (m : Int) (again : Bool) (G : List Rel) : Prop :=
  ls.Sublist rs ∧ (again = true → ∃ f, ls.length * 1002 + ls.length ≤ f ∧ greedyC l k m f ls ls.length = G) ∧ (again = false → ls = G)
set_option maxRecDepth 10000 in
set_option maxHeartbeats 16000000 in
theorem RCauses_spec (A As : Option Addr) (c cs : Nat) (l : List Int) (rs : List Rel) (x m : Int) (I : PH) (hl : Ints I A c l) (hs : Sizes l) (hr : Rels I As cs rs) (hw : ∀ r ∈ rs, Viewed l r.v) (h9 : rs.length ≤ 1000) :
    FnSpec Tryz.prog 32 [.agg #[.slice A l.length c], .slice As rs.length cs, .int .i64 x, .int .i64 m] I []
      (fun u R' => ∃ (A' : Option Addr) (c' : Nat), u = .tuple #[.slice A' (cauD l rs x m).1.length c', .int .i64 (cauD l rs x m).2] ∧ R' = [iR A' c' (cauD l rs x m).1]) := by
  have hF := fun (bp : Nat) (I' : PH) (hle : PH.le I I') (hp : Ints I' (some ⟨bp, 0, none⟩) 1 [x]) => rcheckD_spec A As (some ⟨bp, 0, none⟩) c cs 1 l rs [x] m I' (hl.mono hle) hs (hr.mono hle) hw hp
  obtain ⟨hc1, hc2, hc3⟩ := cau_cases l rs x m
  obtain ⟨hf1, hf2⟩ := chkR_find l rs [x] m
  have hok := fun h => rchD_ok (l := l) (rs := rs) h
  rw [← hf1] at hc1 hc2 hc3
  generalize hfx : chkR l rs [x] m = fq at hF hc1 hc2 hc3 hf2
  obtain ⟨rc, er⟩ := fq
  dsimp only at hF hc1 hc2 hc3 hf2
  refine FnSpec.enterP Tryz.func32 rfl Tryz.ntmps32 rfl fun w F => ?_
  by_cases h0 : er = 0
  case neg =>
    rw [hc1 h0]
    repeat' first
      | ((with_reducible refine Nx.is_wp ?_); first | refine Nx.wo ?_ | refine Nx.zp (fun hc => ?_) (fun hc => ?_))
      | (refine Nx.zo ?_; first | refine Nx.opr rfl rfl ?_ | (refine Nx.call rfl rfl rfl (by kernel_rfl) rfl (FnSpec.keep [Blk _ 3 [.int .i64 x]] fun m' I' hle hm' hv => hF _ I' hle (by obtain ⟨q1, z1, y1⟩ := Stars.get 0 hv rfl; exact Blk.sliceOf (t := 3) (l := [x]) (z1.trans hm') y1 (by unfold maxLen; simp))) (by (exact Ent.auto)) ?_; rintro _ _ ⟨_, ⟨Ao, co, rfl, rfl⟩, rfl⟩) | refine Nx.so ?_ | refine Nx.sb (fun bx => ?_) | refine Nx.sa (fun A2 c2 => ?_))
      | ((with_reducible refine Nx.is_at ?_); first | refine Nx.a ?_ | refine Nx.zd ?_ | refine Nx.zs (fun hc => ?_) (fun hc => ?_))
      | ((with_reducible refine Nx.is_mix ?_); first | refine Nx.m ?_ | refine Nx.zm ?_ | refine Nx.zt (fun hc => ?_) (fun hc => ?_))
      | refine Nx.zx ?_ | fail
    exact Nx.ret_fn rfl [_] ⟨none, 0, rfl, rfl⟩ ((Ent.vec_nil 3 1 _).trans (by (exact Ent.auto)))
  subst h0
  obtain ⟨hk0, hr0, rfl, hex⟩ := hf2 rfl
  have hx := (chkD_ok hk0).2.2.1 x List.mem_cons_self
  obtain ⟨k, rfl⟩ : ∃ k : Nat, x = k := ⟨x.toNat, by omega⟩
  obtain ⟨hrl, hrk⟩ := hok hr0
  have hz := size_ok hs
  have hk : k < (prod l).toNat := by omega
  have hxo := (hrk k hk).2
  have hkl : k < (rchD l rs).1.length := by omega
  rw [hex, exOf_oneD, Int.toNat_natCast] at hc2 hc3
  generalize (rchD l rs).1 = rc at hF hrl hkl hxo hc2 hc3
  repeat' first
    | ((with_reducible refine Nx.is_wp ?_); first | refine Nx.p_stopr 4 rfl ?_ | refine Nx.wo ?_ | refine Nx.zp (fun hc => ?_) (fun hc => ?_))
    | (refine Nx.zo ?_; first | refine Nx.opr rfl rfl ?_ | (refine Nx.call rfl rfl rfl (by kernel_rfl) rfl (FnSpec.keep [Blk _ 3 [.int .i64 (k : Int)]] fun m' I' hle hm' hv => hF _ I' hle (by obtain ⟨q1, z1, y1⟩ := Stars.get 0 hv rfl; exact Blk.sliceOf (t := 3) (l := [(k : Int)]) (z1.trans hm') y1 (by unfold maxLen; simp))) (by (exact Ent.auto)) ?_; rintro _ _ ⟨_, ⟨Am, cm, rfl, rfl⟩, rfl⟩) | refine Nx.so ?_ | refine Nx.sb (fun bx => ?_) | refine Nx.sa (fun A2 c2 => ?_))
    | ((with_reducible refine Nx.is_at ?_); first | refine Nx.a ?_ | refine Nx.zd ?_ | refine Nx.zs (fun hc => ?_) (fun hc => ?_))
    | ((with_reducible refine Nx.is_mix ?_); first | refine Nx.m ?_ | refine Nx.zm ?_ | refine Nx.zt (fun hc => ?_) (fun hc => ?_))
    | refine Nx.zx ?_ | fail
  refine Nx.unstop ?_
  rename_i b4
  refine Nx.ent (R' := [rcR Am cm rc, Blk b4 27 [.slice A l.length c], F]) (by (exact Ent.auto)) ?_
  refine Nx.freezeAt 0 rfl fun I2 m2 hI2 hm2 h2 => ?_
  have hRc : SliceN rcC 3 I2 Am cm rc := Vec.sliceN hm2 h2 fun x _ => rcC_len x
  have hrds : ∀ (W : World) (R : List Res), Rds W I2 R ((ad Am).add (k * 3)) (rcC (rc.getD k default)) := fun W R => hRc.rds hkl
  have hAm := hRc.isSome (show 0 < rc.length by omega) (by omega)
  generalize rc.getD k default = y at hxo hrds hc2 hc3
  have hN := near_spec y m I2 hxo
  obtain ⟨lo, hi', op⟩ := y
  dsimp only at hN
  replace hrds : ∀ (W : World) (R : List Res), Rds W I2 R ((ad Am).add (k * 3)) [.int .i64 lo, .int .i64 hi', .bool op] := hrds
  have hr2 := hr.mono hI2
  cases hb : narrowB (lo, hi', op) m with
  | false =>
    rw [hb] at hN hc2
    rw [hc2 rfl rfl]
    repeat' first
      | ((with_reducible refine Nx.is_wp ?_); first | refine Nx.wo ?_ | refine Nx.zp (fun hc => ?_) (fun hc => ?_))
      | (refine Nx.zo ?_; first | refine Nx.opr rfl rfl ?_ | refine Nx.indexAddr_nat (A := Am) (i := k) (sz := 3) rfl rfl rfl rfl rfl hkl hAm ?_ | refine Nx.loads rfl rfl rfl rfl (hrds _ _) rfl ?_ | refine Nx.callv rfl rfl rfl (by kernel_rfl) rfl hN ?_ | refine Nx.so ?_ | refine Nx.sb (fun bx => ?_) | refine Nx.sa (fun A2 c2 => ?_))
      | ((with_reducible refine Nx.is_at ?_); first | refine Nx.a ?_ | refine Nx.zd ?_ | refine Nx.zs (fun hc => ?_) (fun hc => ?_))
      | ((with_reducible refine Nx.is_mix ?_); first | refine Nx.m ?_ | refine Nx.zm ?_ | refine Nx.zt (fun hc => ?_) (fun hc => ?_))
      | refine Nx.zx ?_ | fail
    exact Nx.imm_le hI2 (Nx.ret_fn rfl [_] ⟨none, 0, rfl, rfl⟩ ((Ent.vec_nil 3 1 _).trans (by (exact Ent.auto))))
  | true =>
  rw [hb] at hN hc3
  obtain ⟨k', hkk, _, hexk, hce⟩ := hc3 rfl (by simp)
  obtain rfl : k' = k := by omega
  rw [hce]
  obtain ⟨G, hG⟩ : ∃ G, G = greedyC l k' m (rs.length * 1002 + rs.length) rs rs.length := ⟨_, rfl⟩
  rw [← hG]
  dsimp only
  repeat' first
    | ((with_reducible refine Nx.is_wp ?_); first | refine Nx.wo ?_ | refine Nx.zp (fun hc => ?_) (fun hc => ?_))
    | (refine Nx.zo ?_; first | refine Nx.opr rfl rfl ?_ | refine Nx.indexAddr_nat (A := Am) (i := k') (sz := 3) rfl rfl rfl rfl rfl hkl hAm ?_ | refine Nx.loads rfl rfl rfl rfl (hrds _ _) rfl ?_ | refine Nx.callv rfl rfl rfl (by kernel_rfl) rfl hN ?_ | refine Nx.so ?_ | refine Nx.sb (fun bx => ?_) | refine Nx.sa (fun A2 c2 => ?_))
    | ((with_reducible refine Nx.is_at ?_); first | refine Nx.a ?_ | refine Nx.zd ?_ | refine Nx.zs (fun hc => ?_) (fun hc => ?_))
    | ((with_reducible refine Nx.is_mix ?_); first | refine Nx.m ?_ | refine Nx.zm ?_ | refine Nx.zt (fun hc => ?_) (fun hc => ?_))
    | refine Nx.zx ?_ | fail
  refine Nx.blk_vec 0 0 3 rfl rfl (by omega) ?_
  refine Nx.at_op rfl rfl ?_
  refine Nx.append rfl rfl rfl rfl (by kernel_rfl) rfl (Src.arr hr2.outer.arr (flat_len relC_len rs) (by omega) (rel_one rs)) (by omega) fun Al cl' => ?_
  rw [Nat.zero_add, List.nil_append]
  repeat' first
    | ((with_reducible refine Nx.is_wp ?_); first | refine Nx.wo ?_ | refine Nx.zp (fun hc => ?_) (fun hc => ?_))
    | (refine Nx.zo ?_; first | refine Nx.opr rfl rfl ?_ | refine Nx.so ?_ | refine Nx.sb (fun bx => ?_) | refine Nx.sa (fun A2 c2 => ?_))
    | ((with_reducible refine Nx.is_at ?_); first | refine Nx.a ?_ | refine Nx.zd ?_ | refine Nx.zs (fun hc => ?_) (fun hc => ?_))
    | ((with_reducible refine Nx.is_mix ?_); first | refine Nx.m ?_ | refine Nx.zm ?_ | refine Nx.zt (fun hc => ?_) (fun hc => ?_))
    | refine Nx.zx ?_ | fail
  refine Nx.p_loop (σ := Bool × Option Addr × Nat × List Rel) (fun s => [(2, .int .i64 (k' : Int)), (3, .int .i64 m), (4, .pointer (some ⟨b4, 0, none⟩)), (12, .slice s.2.1 s.2.2.2.length s.2.2.1), (13, .bool s.1)])
    (fun s => [rlR s.2.1 s.2.2.1 s.2.2.2, Blk b4 27 [.slice A l.length c], F]) (fun s => RInv l rs s.2.2.2 k' m s.1 G) (fun s => s.2.2.2.length * 2 + (if s.1 then 1 else 0)) (true, Al, cl', rs) rfl
    ⟨List.Sublist.refl _, fun _ => ⟨_, Nat.le_refl _, hG.symm⟩, fun h => by cases h⟩ ⟨rfl, rfl, rfl, rfl, rfl, trivial⟩ (by unfold rlR; (exact Ent.auto)) ?_
  rintro ⟨ag, A1, c1, ls⟩ ⟨hsub, hg1, hg2⟩
  dsimp only at hsub hg1 hg2 ⊢
  have hll := hsub.length_le
  cases ag with
  | false =>
    obtain rfl := hg2 rfl
    repeat' first
      | ((with_reducible refine Nx.is_wp ?_); first | refine Nx.wo ?_ | refine Nx.zp (fun hc => ?_) (fun hc => ?_))
      | (refine Nx.zo ?_; first | refine Nx.opr rfl rfl ?_ | refine Nx.so ?_ | refine Nx.sb (fun bx => ?_) | refine Nx.sa (fun A2 c2 => ?_))
      | ((with_reducible refine Nx.is_at ?_); first | refine Nx.a ?_ | refine Nx.zd ?_ | refine Nx.zs (fun hc => ?_) (fun hc => ?_))
      | ((with_reducible refine Nx.is_mix ?_); first | refine Nx.m ?_ | refine Nx.zm ?_ | refine Nx.zt (fun hc => ?_) (fun hc => ?_))
      | refine Nx.zx ?_ | fail
    refine Nx.p_loop (σ := Nat × Option Addr × Nat) (fun s => [(16, .slice s.2.1 ((ls.take s.1).map (·.num)).length s.2.2), (69, .slice A1 ls.length c1), (70, .int .i64 ls.length), (71, .int .i64 (s.1 : Int))])
      (fun s => [iR s.2.1 s.2.2 ((ls.take s.1).map (·.num)), rlR A1 c1 ls, F]) (fun s => s.1 ≤ ls.length) (fun s => ls.length - s.1) (0, none, 0) rfl (Nat.zero_le _) ⟨rfl, rfl, rfl, rfl, trivial⟩ ((Ent.vec_nil 3 1 _).trans (by (exact Ent.auto))) ?_
    rintro ⟨j, Ap, cp⟩ hj
    dsimp only at hj ⊢
    by_cases hjl : j < ls.length
    case neg =>
      obtain rfl : j = ls.length := by omega
      rw [List.take_length]
      repeat' first
        | ((with_reducible refine Nx.is_wp ?_); first | refine Nx.wo ?_ | refine Nx.zp (fun hc => ?_) (fun hc => ?_))
        | (refine Nx.zo ?_; first | refine Nx.opr rfl rfl ?_ | refine Nx.so ?_ | refine Nx.sb (fun bx => ?_) | refine Nx.sa (fun A2 c2 => ?_))
        | ((with_reducible refine Nx.is_at ?_); first | refine Nx.a ?_ | refine Nx.zd ?_ | refine Nx.zs (fun hc => ?_) (fun hc => ?_))
        | ((with_reducible refine Nx.is_mix ?_); first | refine Nx.m ?_ | refine Nx.zm ?_ | refine Nx.zt (fun hc => ?_) (fun hc => ?_))
        | refine Nx.zx ?_ | fail
      exact Nx.imm_le hI2 (Nx.ret_fn rfl [_] ⟨Ap, cp, rfl, rfl⟩ (by (exact Ent.auto)))
    have htk := take_snocR hjl
    have hnl : ((ls.take j).map (·.num)).length ≤ 1000 := by rw [List.length_map, List.length_take]; omega
    have hmp : (ls.take (j + 1)).map (·.num) = (ls.take j).map (·.num) ++ [(ls.getD j default).num] := by rw [htk, List.map_append]; rfl
    have hrc5 : relC (ls.getD j default) = [.int .i64 (ls.getD j default).num, .slice (ls.getD j default).va (ls.getD j default).v.length (ls.getD j default).vc, rowV (ls.getD j default).val] := rfl
    generalize (ls.take j).map (·.num) = nm at hnl hmp
    refine Nx.ent (R' := [rlR A1 c1 ls, iR Ap cp nm, F]) (by (exact Ent.auto)) ?_
    refine Nx.vec_fact fun _ _ _ hA1 => ?_
    repeat' first
      | ((with_reducible refine Nx.is_wp ?_); first | refine Nx.wo ?_ | refine Nx.zp (fun hc => ?_) (fun hc => ?_))
      | (refine Nx.zo ?_; first | refine Nx.opr rfl rfl ?_ | refine Nx.indexAddr_nat (A := A1) (i := j) (sz := 3) rfl rfl rfl rfl rfl hjl (hA1 (by omega)) ?_ | refine Nx.loads (vs := [.int .i64 (ls.getD j default).num, .slice (ls.getD j default).va (ls.getD j default).v.length (ls.getD j default).vc, rowV (ls.getD j default).val]) rfl rfl rfl rfl (by rw [← hrc5]; first | exact Rds.vecN 0 relC_len rfl hjl | exact Rds.vecN 1 relC_len rfl hjl) rfl ?_ | refine Nx.so ?_ | refine Nx.sb (fun bx => ?_) | refine Nx.sa (fun A2 c2 => ?_))
      | ((with_reducible refine Nx.is_at ?_); first | refine Nx.a ?_ | refine Nx.zd ?_ | refine Nx.zs (fun hc => ?_) (fun hc => ?_))
      | ((with_reducible refine Nx.is_mix ?_); first | refine Nx.m ?_ | refine Nx.zm ?_ | refine Nx.zt (fun hc => ?_) (fun hc => ?_))
      | refine Nx.zx ?_ | fail
    exact Nx.again (j + 1, A2, c2) hjl (by dsimp only; omega) ⟨by dsimp only; rw [hmp, List.length_append]; rfl, rfl, rfl, rfl, trivial⟩ (by dsimp only; unfold iR; rw [hmp, List.length_append, List.map_append]; (exact Ent.auto))
  | true =>
  obtain ⟨f, hf, hgr⟩ := hg1 rfl
  repeat' first
    | ((with_reducible refine Nx.is_wp ?_); first | refine Nx.wo ?_ | refine Nx.zp (fun hc => ?_) (fun hc => ?_))
    | (refine Nx.zo ?_; first | refine Nx.opr rfl rfl ?_ | refine Nx.so ?_ | refine Nx.sb (fun bx => ?_) | refine Nx.sa (fun A2 c2 => ?_))
    | ((with_reducible refine Nx.is_at ?_); first | refine Nx.a ?_ | refine Nx.zd ?_ | refine Nx.zs (fun hc => ?_) (fun hc => ?_))
    | ((with_reducible refine Nx.is_mix ?_); first | refine Nx.m ?_ | refine Nx.zm ?_ | refine Nx.zt (fun hc => ?_) (fun hc => ?_))
    | refine Nx.zx ?_ | fail
  have hmin : ls.length * 1002 + ((ls.length : Int) - 1 + 1).toNat ≤ f := by omega
  refine Nx.p_loop (σ := Bool × Int × Option Addr × Nat × List Rel) (fun s => [(2, .int .i64 (k' : Int)), (3, .int .i64 m), (4, .pointer (some ⟨b4, 0, none⟩)), (12, .slice s.2.2.1 s.2.2.2.2.length s.2.2.2.1), (13, .bool s.1), (14, .int .i64 s.2.1)])
    (fun s => [rlR s.2.2.1 s.2.2.2.1 s.2.2.2.2, Blk b4 27 [.slice A l.length c], F])
    (fun s => s.2.2.2.2.Sublist rs ∧ (-1 ≤ s.2.1 ∧ s.2.1 < ls.length) ∧ (s.1 = true → s.2.2.2.2.length < ls.length ∧ ∃ f, s.2.2.2.2.length * 1002 + s.2.2.2.2.length ≤ f ∧ greedyC l k' m f s.2.2.2.2 s.2.2.2.2.length = G) ∧ (s.1 = false → s.2.2.2.2 = ls ∧ ∃ f, ls.length * 1002 + (s.2.1 + 1).toNat ≤ f ∧ greedyC l k' m f ls (s.2.1 + 1).toNat = G))
    (fun s => if s.1 then 0 else (s.2.1 + 1).toNat + 1) (false, (ls.length : Int) - 1, A1, c1, ls) rfl
    ⟨hsub, by dsimp only; omega, fun h => (by cases h), fun _ => ⟨rfl, f, hmin, by dsimp only; rw [show ((ls.length : Int) - 1 + 1).toNat = ls.length by omega]; exact hgr⟩⟩ ⟨rfl, rfl, rfl, rfl, rfl, rfl, trivial⟩ (by (exact Ent.auto)) ?_
  rintro ⟨ag, i, A3, c3, ms⟩ ⟨hms, hir, ht, hff⟩
  dsimp only at hms hir ht hff ⊢
  cases ag with
  | true =>
    obtain ⟨hml, hgg⟩ := ht rfl
    by_cases hi0 : 0 ≤ i
    · repeat' first
        | ((with_reducible refine Nx.is_wp ?_); first | refine Nx.wo ?_ | refine Nx.zp (fun hc => ?_) (fun hc => ?_))
        | (refine Nx.zo ?_; first | refine Nx.opr rfl rfl ?_ | refine Nx.so ?_ | refine Nx.sb (fun bx => ?_) | refine Nx.sa (fun A2 c2 => ?_))
        | ((with_reducible refine Nx.is_at ?_); first | refine Nx.a ?_ | refine Nx.zd ?_ | refine Nx.zs (fun hc => ?_) (fun hc => ?_))
        | ((with_reducible refine Nx.is_mix ?_); first | refine Nx.m ?_ | refine Nx.zm ?_ | refine Nx.zt (fun hc => ?_) (fun hc => ?_))
        | refine Nx.zx ?_ | fail
      exact Nx.again (true, A3, c3, ms) ⟨hms, fun _ => hgg, fun h => (by cases h)⟩ (by dsimp only; simp; omega) ⟨rfl, rfl, rfl, rfl, rfl, trivial⟩ (by (exact Ent.auto))
    · repeat' first
        | ((with_reducible refine Nx.is_wp ?_); first | refine Nx.wo ?_ | refine Nx.zp (fun hc => ?_) (fun hc => ?_))
        | (refine Nx.zo ?_; first | refine Nx.opr rfl rfl ?_ | refine Nx.so ?_ | refine Nx.sb (fun bx => ?_) | refine Nx.sa (fun A2 c2 => ?_))
        | ((with_reducible refine Nx.is_at ?_); first | refine Nx.a ?_ | refine Nx.zd ?_ | refine Nx.zs (fun hc => ?_) (fun hc => ?_))
        | ((with_reducible refine Nx.is_mix ?_); first | refine Nx.m ?_ | refine Nx.zm ?_ | refine Nx.zt (fun hc => ?_) (fun hc => ?_))
        | refine Nx.zx ?_ | fail
      exact Nx.again (true, A3, c3, ms) ⟨hms, fun _ => hgg, fun h => (by cases h)⟩ (by dsimp only; simp; omega) ⟨rfl, rfl, rfl, rfl, rfl, trivial⟩ (by (exact Ent.auto))
  | false =>
  obtain ⟨rfl, f2, hf2', hg2'⟩ := hff rfl
  by_cases hi0 : 0 ≤ i
  case neg =>
    obtain rfl : i = -1 := by omega
    rw [show (-1 + 1 : Int).toNat = 0 from rfl, greedy_zero] at hg2'
    repeat' first
      | ((with_reducible refine Nx.is_wp ?_); first | refine Nx.wo ?_ | refine Nx.zp (fun hc => ?_) (fun hc => ?_))
      | (refine Nx.zo ?_; first | refine Nx.opr rfl rfl ?_ | refine Nx.so ?_ | refine Nx.sb (fun bx => ?_) | refine Nx.sa (fun A2 c2 => ?_))
      | ((with_reducible refine Nx.is_at ?_); first | refine Nx.a ?_ | refine Nx.zd ?_ | refine Nx.zs (fun hc => ?_) (fun hc => ?_))
      | ((with_reducible refine Nx.is_mix ?_); first | refine Nx.m ?_ | refine Nx.zm ?_ | refine Nx.zt (fun hc => ?_) (fun hc => ?_))
      | refine Nx.zx ?_ | fail
    exact Nx.again (false, A3, c3, ms) ⟨hms, fun h => (by cases h), fun _ => hg2'⟩ (by dsimp only; simp) ⟨rfl, rfl, rfl, rfl, rfl, trivial⟩ (by (exact Ent.auto))
  obtain ⟨q, rfl⟩ : ∃ q : Nat, i = q := ⟨i.toNat, by omega⟩
  have hq : q < ms.length := by omega
  obtain ⟨f3, rfl⟩ : ∃ f', f2 = f' + 1 := ⟨f2 - 1, by omega⟩
  rw [show ((q : Int) + 1).toNat = q + 1 by omega, greedyC] at hg2'
  have hdl := dropR_len hq
  have hds := (dropR_sub ms q).trans hms
  refine Nx.vec_fact fun _ hnc _ hA3 => ?_
  repeat' first
    | ((with_reducible refine Nx.is_wp ?_); first | refine Nx.wo ?_ | refine Nx.p_drawF (id := 13) rfl [1, 2, 3, 5, 6, 7, 8, 0, 4] [0, 4] [9, 10] _ rfl rfl (by kernel_rfl) (by kernel_rfl) rfl (by repeat first | exact PanicOk.fn | refine PanicOk.then_ ?_ | refine PanicOk.inB ?_) (Ent.refl _) ?_ | refine Nx.zp (fun hc => ?_) (fun hc => ?_))
    | (refine Nx.zo ?_; first | refine Nx.opr rfl rfl ?_ | (refine Nx.blk_vec 0 0 3 rfl rfl (by omega) ?_; refine Nx.append (ys := (ms.take q).flatMap relC) rfl rfl rfl rfl (by kernel_rfl) rfl (by have := Src.part (i := 0) (k := q) (sz := 3) (ys := (ms.take q).flatMap relC) 1 rfl (fun _ => hA3 (by omega)) (fun _ => by omega) (by rw [Nat.zero_mul, List.drop_zero, flat_take]) (by rw [flat_len relC_len, List.length_take]; congr 1; omega) (rel_one ms); rwa [offA_zero] at this) (by omega) fun A5 c5 => ?_; rw [Nat.zero_add, List.nil_append]) | refine Nx.so ?_ | refine Nx.sb (fun bx => ?_) | refine Nx.sa (fun A2 c2 => ?_))
    | ((with_reducible refine Nx.is_at ?_); first | refine Nx.a ?_ | refine Nx.zd ?_ | refine Nx.zs (fun hc => ?_) (fun hc => ?_))
    | ((with_reducible refine Nx.is_mix ?_); first | refine Nx.m_quiet rfl rfl rfl rfl rfl (by first | exact QRun.opr rfl | exact QRun.slice_hi (h := q) rfl rfl rfl rfl (by omega) | exact QRun.slice_lo (l := q + 1) rfl rfl rfl rfl (by omega)) ?_ | refine Nx.m_quiet_do rfl rfl rfl rfl rfl rfl rfl (by first | exact QRun.opr rfl | exact QRun.slice_hi (h := q) rfl rfl rfl rfl (by omega) | exact QRun.slice_lo (l := q + 1) rfl rfl rfl rfl (by omega)) ?_ | refine Nx.m ?_ | refine Nx.zm ?_ | refine Nx.zt (fun hc => ?_) (fun hc => ?_))
    | refine Nx.zx ?_ | fail
  refine Nx.blk_vec 0 0 3 rfl rfl (by omega) ?_
  have hsrc : ∀ (W : World) (R : List Res), Src W I2 (Vec 62 3 (some ⟨bx, 0, none⟩) 0 0 [] :: Vec 62 3 A3 ms.length c3 (List.flatMap relC ms) :: R) A3 q 3 ((ms.take q).flatMap relC) := fun W R => by
    have := Src.part (W := W) (I := I2) (R := Vec 62 3 (some ⟨bx, 0, none⟩) 0 0 [] :: Vec 62 3 A3 ms.length c3 (List.flatMap relC ms) :: R) (i := 0) (k := q) (sz := 3) (ys := (ms.take q).flatMap relC) 1 rfl (fun _ => hA3 (by omega)) (fun _ => by omega) (by rw [Nat.zero_mul, List.drop_zero, flat_take]) (by rw [flat_len relC_len, List.length_take]; congr 1; omega) (rel_one ms)
    rwa [offA_zero] at this
  refine Nx.ent (R' := Vec 62 3 (some ⟨bx, 0, none⟩) 0 0 [] :: Vec 62 3 A3 ms.length c3 (List.flatMap relC ms) :: [Blk b4 27 [.slice A l.length c], F]) (by (exact Ent.auto)) ?_
  repeat' first
    | ((with_reducible refine Nx.is_wp ?_); first | refine Nx.wo ?_ | refine Nx.p_drawF (id := 13) rfl [1, 2, 3, 5, 6, 7, 8, 0, 4] [0, 4] [9, 10] _ rfl rfl (by kernel_rfl) (by kernel_rfl) rfl (by repeat first | exact PanicOk.fn | refine PanicOk.then_ ?_ | refine PanicOk.inB ?_) (Ent.refl _) ?_ | refine Nx.zp (fun hc => ?_) (fun hc => ?_))
    | (refine Nx.zo ?_; first | refine Nx.opr rfl rfl ?_ | (refine Nx.append (ys := (ms.take q).flatMap relC) rfl rfl rfl rfl (by kernel_rfl) rfl (hsrc _ _) (by omega) (fun A5 c5 => ?_); rw [Nat.zero_add, List.nil_append]) | refine Nx.so ?_ | refine Nx.sb (fun bx => ?_) | refine Nx.sa (fun A2 c2 => ?_))
    | ((with_reducible refine Nx.is_at ?_); first | refine Nx.a ?_ | refine Nx.zd ?_ | refine Nx.zs (fun hc => ?_) (fun hc => ?_))
    | ((with_reducible refine Nx.is_mix ?_); first | refine Nx.m ?_ | refine Nx.zm ?_ | refine Nx.zt (fun hc => ?_) (fun hc => ?_))
    | refine Nx.zx ?_ | fail
  have hsrc2 : ∀ (W : World) (R : List Res) (r0 : Res), Src W I2 (r0 :: Vec 62 3 A3 ms.length c3 (List.flatMap relC ms) :: R) (offA A3 c3 (q + 1) 3) (ms.length - (q + 1)) 3 ((ms.drop (q + 1)).flatMap relC) := fun W R r0 =>
    Src.part (i := q + 1) (k := ms.length - (q + 1)) (sz := 3) 1 rfl (fun _ => hA3 (by omega)) (fun _ => by omega) (by rw [flat_drop, List.take_of_length_le (by rw [flat_len relC_len, List.length_drop]; omega)]) (by rw [flat_len relC_len, List.length_drop]) (rel_one ms)
  repeat' first
    | ((with_reducible refine Nx.is_wp ?_); first | refine Nx.wo ?_ | refine Nx.p_drawF (id := 13) rfl [1, 2, 3, 5, 6, 7, 8, 0, 4] [0, 4] [9, 10] _ rfl rfl (by kernel_rfl) (by kernel_rfl) rfl (by repeat first | exact PanicOk.fn | refine PanicOk.then_ ?_ | refine PanicOk.inB ?_) (Ent.refl _) ?_ | refine Nx.zp (fun hc => ?_) (fun hc => ?_))
    | (refine Nx.zo ?_; first | refine Nx.opr rfl rfl ?_ | (refine Nx.append (ys := (ms.drop (q + 1)).flatMap relC) rfl rfl rfl rfl (by kernel_rfl) rfl (hsrc2 _ _ _) (by omega) (fun A6 c6 => ?_); rw [← List.flatMap_append]) | refine Nx.so ?_ | refine Nx.sb (fun bx => ?_) | refine Nx.sa (fun A2 c2 => ?_))
    | ((with_reducible refine Nx.is_at ?_); first | refine Nx.a ?_ | refine Nx.zd ?_ | refine Nx.zs (fun hc => ?_) (fun hc => ?_))
    | ((with_reducible refine Nx.is_mix ?_); first | refine Nx.m ?_ | refine Nx.zm ?_ | refine Nx.zt (fun hc => ?_) (fun hc => ?_))
    | refine Nx.zx ?_ | fail
  have hEx := fun (m' I' : PH) (hle : PH.le I2 I') (hm' : PH.le m' I') (hv : Stars [rlR A6 c6 (dropR ms q)] m') => (by
    obtain ⟨q1, z1, y1⟩ := Stars.get 0 hv rfl
    exact rexposes_spec A A6 c c6 l (dropR ms q) k' m I' (hl.mono (hI2.trans hle)) hs ⟨Vec.sliceN (z1.trans hm') y1 fun x _ => relC_len x, fun r hr' => (hr2.view r (hds.subset hr')).mono hle, fun r hr' => (hr2.val r (hds.subset hr')).mono hle⟩ (fun r hr' => hw r (hds.subset hr')) hk :
    FnSpec Tryz.prog 79 [.agg #[.slice A l.length c], .slice A6 (dropR ms q).length c6, .int .i64 (k' : Int), .int .i64 m] I' [] (fun v R' => v = .bool (exposesB l (dropR ms q) k' m) ∧ R' = []))
  rw [show List.take q ms ++ List.drop (q + 1) ms = dropR ms q from rfl, show q + (ms.length - (q + 1)) = (dropR ms q).length by omega]
  cases hb : exposesB l (dropR ms q) k' m with
  | true =>
    rw [hb] at hEx hg2'
    rw [if_pos rfl] at hg2'
    repeat' first
      | ((with_reducible refine Nx.is_wp ?_); first | refine Nx.wo ?_ | refine Nx.zp (fun hc => ?_) (fun hc => ?_))
      | (refine Nx.zo ?_; first | refine Nx.opr rfl rfl ?_ | (refine Nx.call rfl rfl rfl (by kernel_rfl) rfl (FnSpec.keep [rlR A6 c6 (dropR ms q)] fun m' I' hle hm' hv => hEx m' I' hle hm' hv) (by unfold rlR; (exact Ent.auto)) ?_; rintro _ _ ⟨_, ⟨rfl, rfl⟩, rfl⟩) | refine Nx.so ?_ | refine Nx.sb (fun bx => ?_) | refine Nx.sa (fun A2 c2 => ?_))
      | ((with_reducible refine Nx.is_at ?_); first | refine Nx.a ?_ | refine Nx.zd ?_ | refine Nx.zs (fun hc => ?_) (fun hc => ?_))
      | ((with_reducible refine Nx.is_mix ?_); first | refine Nx.m ?_ | refine Nx.zm ?_ | refine Nx.zt (fun hc => ?_) (fun hc => ?_))
      | refine Nx.zx ?_ | fail
    exact Nx.again (true, (q : Int) - 1, A6, c6, dropR ms q) ⟨hds, by dsimp only; omega, fun _ => ⟨by dsimp only; omega, f3, by dsimp only; omega, hg2'⟩, fun h => (by cases h)⟩ (by dsimp only; simp) ⟨rfl, rfl, rfl, rfl, rfl, rfl, trivial⟩ (by (exact Ent.auto))
  | false =>
    rw [hb] at hEx hg2'
    rw [if_neg (by decide)] at hg2'
    repeat' first
      | ((with_reducible refine Nx.is_wp ?_); first | refine Nx.wo ?_ | refine Nx.zp (fun hc => ?_) (fun hc => ?_))
      | (refine Nx.zo ?_; first | refine Nx.opr rfl rfl ?_ | (refine Nx.call rfl rfl rfl (by kernel_rfl) rfl (FnSpec.keep [rlR A6 c6 (dropR ms q)] fun m' I' hle hm' hv => hEx m' I' hle hm' hv) (by unfold rlR; (exact Ent.auto)) ?_; rintro _ _ ⟨_, ⟨rfl, rfl⟩, rfl⟩) | refine Nx.so ?_ | refine Nx.sb (fun bx => ?_) | refine Nx.sa (fun A2 c2 => ?_))
      | ((with_reducible refine Nx.is_at ?_); first | refine Nx.a ?_ | refine Nx.zd ?_ | refine Nx.zs (fun hc => ?_) (fun hc => ?_))
      | ((with_reducible refine Nx.is_mix ?_); first | refine Nx.m ?_ | refine Nx.zm ?_ | refine Nx.zt (fun hc => ?_) (fun hc => ?_))
      | refine Nx.zx ?_ | fail
    exact Nx.again (false, (q : Int) - 1, A3, c3, ms) ⟨hms, by dsimp only; omega, fun h => (by cases h), fun _ => ⟨rfl, f3, by dsimp only; omega, by dsimp only; rw [show ((q : Int) - 1 + 1).toNat = q by omega]; exact hg2'⟩⟩ (by dsimp only; first | (simp; done) | (simp; omega)) ⟨rfl, rfl, rfl, rfl, rfl, rfl, trivial⟩ (by (exact Ent.auto))
end Go.Proofs.YtcmdemfhbekabaaGreat
