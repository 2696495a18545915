/- Contracts of functions of the given program, and lemmas about plain lists and numbers: what the laws of this seat lean on. -/
import Derived.Laws.StructEq
import Derived.Test.YtpdgnjoideppjaaDoorProg
import Derived.Test.YtpdgnjoideppjaaDoorLk5
namespace Go.Proofs.YtpdgnjoideppjaaDoor
open Go.Eng Go.Det
attribute [local irreducible] opK wpList Code.wp Exit.then Exit.inBlock fnPost bodyPost Nx Calls Oper.wp Rd Rds Wr Ent Stars Blk Again Vec FnSpec wpMix QRun Stop Upto wpAt
/-- The fractions, in a list of their own. -/
abbrev frsR (b n : Nat) (l : List (Int × Int)) : Res := Vec 37 2 (some ⟨b, 0, none⟩) n n (l.flatMap frC)
theorem TabI.mono {I I' : PH} (hle : PH.le I I') (h : TabI I) : TabI I' := fun W w R hs => h W w R (hs.imm_le hle)
set_option maxRecDepth 10000 in
set_option maxHeartbeats 16000000 in
theorem Kernel_spec (A : Option Addr) (c : Nat) (v : List Row) (I : PH) (hm : Mat I A c v) (hT : TabI I) : FnSpec Tryd.prog 19 [.slice A v.length c] I [] (kerPost (matL v)) := by
  have hml := matL_len v
  have hZ := Zero_spec A c v I hm
  have hvl := hm.outer.len
  refine FnSpec.enterP Tryd.func19 rfl Tryd.ntmps19 rfl fun w F => ?_
  by_cases hzb : zeroB (matL v) = true
  case neg =>
    rw [Bool.not_eq_true] at hzb
    rw [hzb] at hZ
    repeat' first
      | ((with_reducible refine Nx.is_wp ?_); first | refine Nx.wo ?_ | refine Nx.p_dec rfl rfl (fun hc => ?_) (fun hc => ?_) | refine Nx.p_bool rfl rfl (fun hc => ?_) (fun hc => ?_))
      | ((first | refine Nx.at_op rfl rfl ?_ | refine Nx.m_loud rfl rfl rfl ?_ | refine Nx.at_do rfl rfl rfl rfl ?_ | refine Nx.m_loud_do rfl rfl rfl rfl rfl ?_); first | refine Nx.opr rfl rfl ?_ | refine Nx.callv rfl rfl rfl (by kernel_rfl) rfl hZ ?_ | refine Nx.so ?_ | refine Nx.sb (fun bx => ?_) | refine Nx.sa (fun A2 c2 => ?_))
      | ((with_reducible refine Nx.is_at ?_); first | refine Nx.a ?_ | ((fail_if_success refine Nx.at_do rfl rfl rfl rfl ?_); first | refine Nx.at_dec_t rfl rfl rfl rfl (by first | assumption | omega) ?_ | refine Nx.at_dec_f rfl rfl rfl rfl (by first | assumption | omega) ?_ | refine Nx.at_split rfl rfl rfl rfl (fun hc => ?_) (fun hc => ?_) | refine Nx.at_splitb rfl rfl rfl rfl (fun hc => ?_) (fun hc => ?_)))
      | ((with_reducible refine Nx.is_mix ?_); first | refine Nx.m ?_ | ((fail_if_success refine Nx.m_quiet_do rfl rfl rfl rfl rfl rfl rfl ?_ ?_); (fail_if_success refine Nx.m_loud_do rfl rfl rfl rfl rfl ?_); first | refine Nx.m_dec_t rfl rfl rfl rfl (by first | assumption | omega) ?_ | refine Nx.m_dec_f rfl rfl rfl rfl (by first | assumption | omega) ?_ | refine Nx.m_split rfl rfl rfl rfl (fun hc => ?_) (fun hc => ?_) | refine Nx.m_splitb rfl rfl rfl rfl (fun hc => ?_) (fun hc => ?_)))
      | ((fail_if_success (with_reducible refine Nx.is_at ?_)); (fail_if_success (with_reducible refine Nx.is_wp ?_)); (fail_if_success (with_reducible refine Nx.is_mix ?_)); first | refine Nx.ex ?_)
    exact Nx.ret_fn rfl [fracsR none 0 []] ⟨none, 0, [], rfl, fun _ => rfl, fun h => (by rw [hzb] at h; cases h), rfl⟩ ((Ent.vec_nil _ _ _).trans (by (exact Ent.auto)))
  rw [hzb] at hZ
  have hz9 : chkE (matL v) = 0 ∧ detM (matL v) = 0 := of_decide_eq_true hzb
  have hf := chk_ok.1 hz9.1
  have hfew := hf.few
  rw [hml] at hfew
  have hsq := hf.sq
  repeat' first
    | ((with_reducible refine Nx.is_wp ?_); first | refine Nx.wo ?_ | refine Nx.p_dec rfl rfl (fun hc => ?_) (fun hc => ?_) | refine Nx.p_bool rfl rfl (fun hc => ?_) (fun hc => ?_))
    | ((first | refine Nx.at_op rfl rfl ?_ | refine Nx.m_loud rfl rfl rfl ?_ | refine Nx.at_do rfl rfl rfl rfl ?_ | refine Nx.m_loud_do rfl rfl rfl rfl rfl ?_); first | refine Nx.opr rfl rfl ?_ | refine Nx.callv rfl rfl rfl (by kernel_rfl) rfl hZ ?_ | refine Nx.so ?_ | refine Nx.sb (fun bx => ?_) | refine Nx.sa (fun A2 c2 => ?_))
    | ((with_reducible refine Nx.is_at ?_); first | refine Nx.a ?_ | ((fail_if_success refine Nx.at_do rfl rfl rfl rfl ?_); first | refine Nx.at_dec_t rfl rfl rfl rfl (by first | assumption | omega) ?_ | refine Nx.at_dec_f rfl rfl rfl rfl (by first | assumption | omega) ?_ | refine Nx.at_split rfl rfl rfl rfl (fun hc => ?_) (fun hc => ?_) | refine Nx.at_splitb rfl rfl rfl rfl (fun hc => ?_) (fun hc => ?_)))
    | ((with_reducible refine Nx.is_mix ?_); first | refine Nx.m ?_ | ((fail_if_success refine Nx.m_quiet_do rfl rfl rfl rfl rfl rfl rfl ?_ ?_); (fail_if_success refine Nx.m_loud_do rfl rfl rfl rfl rfl ?_); first | refine Nx.m_dec_t rfl rfl rfl rfl (by first | assumption | omega) ?_ | refine Nx.m_dec_f rfl rfl rfl rfl (by first | assumption | omega) ?_ | refine Nx.m_split rfl rfl rfl rfl (fun hc => ?_) (fun hc => ?_) | refine Nx.m_splitb rfl rfl rfl rfl (fun hc => ?_) (fun hc => ?_)))
    | ((fail_if_success (with_reducible refine Nx.is_at ?_)); (fail_if_success (with_reducible refine Nx.is_wp ?_)); (fail_if_success (with_reducible refine Nx.is_mix ?_)); first | refine Nx.ex ?_)
  refine Nx.at_op rfl rfl ?_
  refine Nx.call (Rpre := []) rfl rfl rfl (by kernel_rfl) rfl (independent_spec A c v I hm hf) (Ent.refl _) ?_
  rintro _ _ ⟨A1, c1, R, rfl, hInd, hFull, rfl⟩
  refine Nx.freezeAt 0 rfl fun I1 m1 hI1 hm1 h1 => ?_
  have hN1 : Nats I1 A1 c1 R := Vec.sliceOf (t := 3) hm1 h1
  have hm := hm.mono hI1
  have hT := TabI.mono hI1 hT
  have hk := hInd.few hz9.2
  have hlt := hInd.lt
  have hkv : R.length < v.length := by rw [← hml]; exact hk
  have hltv : ∀ r ∈ R, r < v.length := fun r hr => by rw [← hml]; exact hlt r hr
  have hSq := square_spec A c v I1 hm hsq (by omega) A1 c1 R hN1 hltv (by omega)
  have hdet := fun (col : Int) (by_ : Nat) (hby : by_ < (matL v).length) (A3 : Option Addr) (c3 : Nat) (o3 : List Row) (ho3 : matL o3 = sqL (matL v) R col by_) (I' : PH) (h : Mat I' A3 c3 o3) =>
    det_spec A3 c3 o3 I' h (by rw [ho3]; exact sq_small hf hlt hInd.le hby) (sq_rows hf hlt hInd.le ho3).2 (by rw [(sq_rows hf hlt hInd.le ho3).1]; omega)
  have hD0 : denD (matL v) R R.length ≠ 0 := hInd.det
  have hDb := det_inw (den_bd hf hInd)
  have hDq : detM (sqL (matL v) R (-1) 0) = denD (matL v) R R.length := det_sq (matL v) R
  generalize hDe : denD (matL v) R R.length = D at hD0 hDb hDq
  repeat' first
    | ((with_reducible refine Nx.is_wp ?_); first | refine Nx.wo ?_ | refine Nx.p_dec rfl rfl (fun hc => ?_) (fun hc => ?_) | refine Nx.p_bool rfl rfl (fun hc => ?_) (fun hc => ?_))
    | ((first | refine Nx.at_op rfl rfl ?_ | refine Nx.m_loud rfl rfl rfl ?_ | refine Nx.at_do rfl rfl rfl rfl ?_ | refine Nx.m_loud_do rfl rfl rfl rfl rfl ?_); first | refine Nx.opr rfl rfl ?_ | (refine Nx.call (Rpre := []) rfl rfl rfl (by kernel_rfl) rfl (hSq (-1) (by omega) 0 (by omega)) (Ent.refl _) ?_; rintro _ _ ⟨A3, c3, o3, rfl, ho3, rfl⟩) | (refine Nx.call_lendR2 0 0 rfl rfl rfl (by kernel_rfl) rfl rfl rfl (fun m1 m2 I' hI hm1 h1 hm2 h2 => hdet (-1) 0 (by omega) _ _ _ ho3 I' (mat_given hm1 h1 hm2 h2)) ?_; rintro _ _ ⟨rfl, rfl⟩; rw [ho3, hDq]) | refine Nx.makeStructs (sz := 2) (by_ := 16) frC (0, 0) rfl rfl rfl rfl rfl rfl rfl rfl rfl rfl (by omega) (by unfold maxLen; omega) (fun bx => ?_) | refine Nx.so ?_ | refine Nx.sb (fun bx => ?_) | refine Nx.sa (fun A2 c2 => ?_))
    | ((with_reducible refine Nx.is_at ?_); first | refine Nx.a ?_ | ((fail_if_success refine Nx.at_do rfl rfl rfl rfl ?_); first | refine Nx.at_dec_t rfl rfl rfl rfl (by first | assumption | omega) ?_ | refine Nx.at_dec_f rfl rfl rfl rfl (by first | assumption | omega) ?_ | refine Nx.at_split rfl rfl rfl rfl (fun hc => ?_) (fun hc => ?_) | refine Nx.at_splitb rfl rfl rfl rfl (fun hc => ?_) (fun hc => ?_)))
    | ((with_reducible refine Nx.is_mix ?_); first | refine Nx.m ?_ | ((fail_if_success refine Nx.m_quiet_do rfl rfl rfl rfl rfl rfl rfl ?_ ?_); (fail_if_success refine Nx.m_loud_do rfl rfl rfl rfl rfl ?_); first | refine Nx.m_dec_t rfl rfl rfl rfl (by first | assumption | omega) ?_ | refine Nx.m_dec_f rfl rfl rfl rfl (by first | assumption | omega) ?_ | refine Nx.m_split rfl rfl rfl rfl (fun hc => ?_) (fun hc => ?_) | refine Nx.m_splitb rfl rfl rfl rfl (fun hc => ?_) (fun hc => ?_)))
    | ((fail_if_success (with_reducible refine Nx.is_at ?_)); (fail_if_success (with_reducible refine Nx.is_wp ?_)); (fail_if_success (with_reducible refine Nx.is_mix ?_)); first | refine Nx.ex ?_)
  rename_i b5
  revert bx; intro bm
  refine Nx.ent (R' := [frsR bm v.length (onesS 0 v.length), Blk b5 WT (wideL D), F]) (by rw [onesS_zero]; (exact Ent.auto)) ?_
  refine Nx.p_loop (σ := Nat) (fun j => [(0, .slice A v.length c), (3, .slice A1 R.length c1), (4, .int .i64 R.length), (5, .pointer (some ⟨b5, 0, none⟩)), (6, .slice (some ⟨bm, 0, none⟩) v.length v.length), (26, .int .i64 v.length), (27, .int .i64 (j : Int))])
    (fun j => [frsR bm v.length (onesS j v.length), Blk b5 WT (wideL D), F]) (fun j => j ≤ v.length) (fun j => v.length - j) 0 rfl (Nat.zero_le _) ⟨rfl, rfl, rfl, rfl, rfl, rfl, rfl, trivial⟩ (by (exact Ent.auto)) ?_
  intro j hj
  have hj : j ≤ v.length := hj
  by_cases hjl : j < v.length
  · repeat' first
      | ((with_reducible refine Nx.is_wp ?_); first | refine Nx.wo ?_ | refine Nx.p_dec rfl rfl (fun hc => ?_) (fun hc => ?_) | refine Nx.p_bool rfl rfl (fun hc => ?_) (fun hc => ?_))
      | ((first | refine Nx.at_op rfl rfl ?_ | refine Nx.m_loud rfl rfl rfl ?_ | refine Nx.at_do rfl rfl rfl rfl ?_ | refine Nx.m_loud_do rfl rfl rfl rfl rfl ?_); first | refine Nx.opr rfl rfl ?_ | refine Nx.indexAddr_nat (sz := 2) rfl rfl rfl rfl rfl (by omega) rfl ?_ | refine Nx.store_elt 0 frC (x' := (0, 1)) (sz := 2) rfl rfl rfl rfl rfl (fun _ => rfl) (by decide) (one_cells _) (by rw [onesS_len]; exact hjl) (onesS_len _ _) ?_ | refine Nx.so ?_ | refine Nx.sb (fun bx => ?_) | refine Nx.sa (fun A2 c2 => ?_))
      | ((with_reducible refine Nx.is_at ?_); first | refine Nx.a ?_ | ((fail_if_success refine Nx.at_do rfl rfl rfl rfl ?_); first | refine Nx.at_dec_t rfl rfl rfl rfl (by first | assumption | omega) ?_ | refine Nx.at_dec_f rfl rfl rfl rfl (by first | assumption | omega) ?_ | refine Nx.at_split rfl rfl rfl rfl (fun hc => ?_) (fun hc => ?_) | refine Nx.at_splitb rfl rfl rfl rfl (fun hc => ?_) (fun hc => ?_)))
      | ((with_reducible refine Nx.is_mix ?_); first | refine Nx.m ?_ | ((fail_if_success refine Nx.m_quiet_do rfl rfl rfl rfl rfl rfl rfl ?_ ?_); (fail_if_success refine Nx.m_loud_do rfl rfl rfl rfl rfl ?_); first | refine Nx.m_dec_t rfl rfl rfl rfl (by first | assumption | omega) ?_ | refine Nx.m_dec_f rfl rfl rfl rfl (by first | assumption | omega) ?_ | refine Nx.m_split rfl rfl rfl rfl (fun hc => ?_) (fun hc => ?_) | refine Nx.m_splitb rfl rfl rfl rfl (fun hc => ?_) (fun hc => ?_)))
      | ((fail_if_success (with_reducible refine Nx.is_at ?_)); (fail_if_success (with_reducible refine Nx.is_wp ?_)); (fail_if_success (with_reducible refine Nx.is_mix ?_)); first | refine Nx.ex ?_)
    exact Nx.again (j + 1) hjl (by omega) ⟨rfl, rfl, rfl, rfl, rfl, rfl, rfl, trivial⟩ (by rw [← onesS_set]; (exact Ent.auto))
  obtain rfl : j = v.length := by omega
  repeat' first
    | ((with_reducible refine Nx.is_wp ?_); first | refine Nx.wo ?_ | refine Nx.p_dec rfl rfl (fun hc => ?_) (fun hc => ?_) | refine Nx.p_bool rfl rfl (fun hc => ?_) (fun hc => ?_))
    | ((first | refine Nx.at_op rfl rfl ?_ | refine Nx.m_loud rfl rfl rfl ?_ | refine Nx.at_do rfl rfl rfl rfl ?_ | refine Nx.m_loud_do rfl rfl rfl rfl rfl ?_); first | refine Nx.opr rfl rfl ?_ | refine Nx.indexAddr_nat (i := R.length) (sz := 2) rfl rfl rfl rfl rfl (by omega) rfl ?_ | refine Nx.store_fld (A := some ⟨bm, 0, none⟩) (i := R.length) (j := 0) (sz := 2) 0 rfl rfl rfl rfl rfl rfl (by omega) ?_ | refine Nx.so ?_ | refine Nx.sb (fun bx => ?_) | refine Nx.sa (fun A2 c2 => ?_))
    | ((with_reducible refine Nx.is_at ?_); first | refine Nx.a ?_ | ((fail_if_success refine Nx.at_do rfl rfl rfl rfl ?_); first | refine Nx.at_dec_t rfl rfl rfl rfl (by first | assumption | omega) ?_ | refine Nx.at_dec_f rfl rfl rfl rfl (by first | assumption | omega) ?_ | refine Nx.at_split rfl rfl rfl rfl (fun hc => ?_) (fun hc => ?_) | refine Nx.at_splitb rfl rfl rfl rfl (fun hc => ?_) (fun hc => ?_)))
    | ((with_reducible refine Nx.is_mix ?_); first | refine Nx.m ?_ | ((fail_if_success refine Nx.m_quiet_do rfl rfl rfl rfl rfl rfl rfl ?_ ?_); (fail_if_success refine Nx.m_loud_do rfl rfl rfl rfl rfl ?_); first | refine Nx.m_dec_t rfl rfl rfl rfl (by first | assumption | omega) ?_ | refine Nx.m_dec_f rfl rfl rfl rfl (by first | assumption | omega) ?_ | refine Nx.m_split rfl rfl rfl rfl (fun hc => ?_) (fun hc => ?_) | refine Nx.m_splitb rfl rfl rfl rfl (fun hc => ?_) (fun hc => ?_)))
    | ((fail_if_success (with_reducible refine Nx.is_at ?_)); (fail_if_success (with_reducible refine Nx.is_wp ?_)); (fail_if_success (with_reducible refine Nx.is_mix ?_)); first | refine Nx.ex ?_)
  obtain ⟨x, hx⟩ : ∃ x : Nat → Rat, x = fun j => Rat.divInt (-numN (matL v) R R.length j) D := ⟨_, rfl⟩
  have hKer : Ker (matL v) R.length x := ⟨R, hInd, hFull, rfl, hk, fun j _ => by rw [hx, hDe]⟩
  have hpost : ∀ l, l = kerL x R.length v.length → (zeroB (matL v) = false → l = []) ∧ (zeroB (matL v) = true → ∃ k x, Ker (matL v) k x ∧ l = kerL x k (matL v).length) := fun l hl => ⟨fun h => (by rw [hzb] at h; cases h), fun _ => ⟨_, x, hKer, by rw [hml]; exact hl⟩⟩
  have hset : ((onesS v.length v.length).flatMap frC).set (R.length * 2 + 0) (.int .i64 1) = (kerS x R.length 0 v.length).flatMap frC := by
    rw [flat_set (f := frC) (sz := 2) (fun _ => rfl) (x' := (1, 1)) (by rw [onesS_len]; exact hkv) (by decide) (by rw [onesS_at hkv]; rfl), onesS_one]
  refine Nx.ent (R' := [frsR bm v.length (kerS x R.length 0 v.length), Blk b5 WT (wideL D), F]) (by rw [hset]; (exact Ent.auto)) ?_
  refine Nx.p_loop (σ := Nat) (fun j => [(0, .slice A v.length c), (3, .slice A1 R.length c1), (4, .int .i64 R.length), (5, .pointer (some ⟨b5, 0, none⟩)), (6, .slice (some ⟨bm, 0, none⟩) v.length v.length), (39, .int .i64 R.length), (40, .int .i64 (j : Int))])
    (fun j => [frsR bm v.length (kerS x R.length j v.length), Blk b5 WT (wideL D), F]) (fun j => j ≤ R.length ∧ ∀ i, i < j → redE (x i) = 0) (fun j => R.length - j) 0 rfl ⟨Nat.zero_le _, fun i hi => absurd hi (Nat.not_lt_zero _)⟩ ⟨rfl, rfl, rfl, rfl, rfl, rfl, rfl, trivial⟩ (by (exact Ent.auto)) ?_
  rintro j ⟨hj, hzero⟩
  have hj : j ≤ R.length := hj
  have hzero : ∀ i, i < j → redE (x i) = 0 := hzero
  by_cases hjl : j < R.length
  case neg =>
    obtain rfl : j = R.length := by omega
    have hkl : kerL x R.length v.length = kerS x R.length R.length v.length := by unfold kerL; rw [if_pos (firstE_zero.2 hzero)]
    obtain ⟨h5, h6⟩ := hpost _ hkl.symm
    repeat' first
      | ((with_reducible refine Nx.is_wp ?_); first | refine Nx.wo ?_ | refine Nx.p_dec rfl rfl (fun hc => ?_) (fun hc => ?_) | refine Nx.p_bool rfl rfl (fun hc => ?_) (fun hc => ?_))
      | ((first | refine Nx.at_op rfl rfl ?_ | refine Nx.m_loud rfl rfl rfl ?_ | refine Nx.at_do rfl rfl rfl rfl ?_ | refine Nx.m_loud_do rfl rfl rfl rfl rfl ?_); first | refine Nx.opr rfl rfl ?_ | refine Nx.so ?_ | refine Nx.sb (fun bx => ?_) | refine Nx.sa (fun A2 c2 => ?_))
      | ((with_reducible refine Nx.is_at ?_); first | refine Nx.a ?_ | ((fail_if_success refine Nx.at_do rfl rfl rfl rfl ?_); first | refine Nx.at_dec_t rfl rfl rfl rfl (by first | assumption | omega) ?_ | refine Nx.at_dec_f rfl rfl rfl rfl (by first | assumption | omega) ?_ | refine Nx.at_split rfl rfl rfl rfl (fun hc => ?_) (fun hc => ?_) | refine Nx.at_splitb rfl rfl rfl rfl (fun hc => ?_) (fun hc => ?_)))
      | ((with_reducible refine Nx.is_mix ?_); first | refine Nx.m ?_ | ((fail_if_success refine Nx.m_quiet_do rfl rfl rfl rfl rfl rfl rfl ?_ ?_); (fail_if_success refine Nx.m_loud_do rfl rfl rfl rfl rfl ?_); first | refine Nx.m_dec_t rfl rfl rfl rfl (by first | assumption | omega) ?_ | refine Nx.m_dec_f rfl rfl rfl rfl (by first | assumption | omega) ?_ | refine Nx.m_split rfl rfl rfl rfl (fun hc => ?_) (fun hc => ?_) | refine Nx.m_splitb rfl rfl rfl rfl (fun hc => ?_) (fun hc => ?_)))
      | ((fail_if_success (with_reducible refine Nx.is_at ?_)); (fail_if_success (with_reducible refine Nx.is_wp ?_)); (fail_if_success (with_reducible refine Nx.is_mix ?_)); first | refine Nx.ex ?_)
    exact Nx.imm_le hI1 (Nx.ret_fn rfl [fracsR (some ⟨bm, 0, none⟩) v.length (kerS x R.length R.length v.length)] ⟨some ⟨bm, 0, none⟩, v.length, _, by rw [kerS_len], h5, h6, rfl⟩ (by unfold fracsR; rw [kerS_len]; (exact Ent.auto)))
  have hSj := hSq (j : Int) (by omega) R.length hkv
  have hdj := hdet (j : Int) R.length hk
  have hNb := num_bd hf hInd hk hjl
  have hNq := sq_num hf hInd hjl
  have hxj : x j = Rat.divInt (-numN (matL v) R R.length j) D := by rw [hx]
  generalize numN (matL v) R R.length j = N at hNb hNq hxj
  have hOp := opposite_spec N I1
  have hR : FnSpec Tryd.prog 26 [wideV (-N), wideV D] I1 [] (fun u R' => u = .tuple #[.agg #[.int .i64 (redN (x j)), .int .i64 (redD (x j))], .int .i64 (redE (x j))] ∧ R' = []) := by
    have := Reduced_spec (-N) D (det_inw (by rw [Int.natAbs_neg]; exact hNb)).2 hD0 hDb.2 I1 hT
    rw [← hxj] at this
    exact this
  by_cases he : redE (x j) = 0
  · repeat' first
      | ((with_reducible refine Nx.is_wp ?_); first | refine Nx.wo ?_ | refine Nx.p_poolF (id := 15) rfl [0, 1, 2, 3, 7, 4, 5, 6, 8, 9, 10, 11] [4, 5, 6, 8] [11, 10] [13, 14] [13] [⟨12, 9, 37, _⟩] rfl rfl (by kernel_rfl) (by kernel_rfl) (by decide) (PoolFit.cons ⟨⟨_, _, _, rfl⟩, rfl, rfl⟩ PoolFit.nil) (by repeat first | exact PanicOk.fn | refine PanicOk.then_ ?_ | refine PanicOk.inB ?_) (Ent.refl _) ?_ | refine Nx.p_dec rfl rfl (fun hc => ?_) (fun hc => ?_) | refine Nx.p_bool rfl rfl (fun hc => ?_) (fun hc => ?_))
      | ((first | refine Nx.at_op rfl rfl ?_ | refine Nx.m_loud rfl rfl rfl ?_ | refine Nx.at_do rfl rfl rfl rfl ?_ | refine Nx.m_loud_do rfl rfl rfl rfl rfl ?_ | refine GoodF.loud_ rfl rfl rfl rfl (fun ex X => ?_)); first | refine Nx.opr rfl rfl ?_ | (refine Nx.call (Rpre := []) rfl rfl rfl (by kernel_rfl) rfl hSj (Ent.refl _) ?_; rintro _ _ ⟨A3, c3, o3, rfl, ho3, rfl⟩) | (refine Nx.call_lendR2 1 1 rfl rfl rfl (by kernel_rfl) rfl rfl rfl (fun m1 m2 I' hI hm1 h1 hm2 h2 => hdj _ _ _ ho3 I' (mat_given hm1 h1 hm2 h2)) ?_; rintro _ _ ⟨rfl, rfl⟩; rw [ho3, hNq]) | refine Nx.callv rfl rfl rfl (by kernel_rfl) rfl hOp ?_ | refine Nx.callv rfl rfl rfl (by kernel_rfl) rfl hR ?_ | refine Nx.indexAddr_nat (i := j) (sz := 2) rfl rfl rfl rfl rfl (by omega) rfl ?_ | (refine Nx.ent (R' := [frsR bm v.length (kerS x R.length j v.length), Blk b5 WT (wideL D), F]) (by (exact Ent.auto)) ?_; refine Nx.store_elt 0 frC (x' := fr1 (x j)) (sz := 2) rfl rfl rfl rfl rfl (fun _ => rfl) (by decide) (one_cells _) (by rw [kerS_len]; omega) (kerS_len _ _ _ _) ?_) | refine Nx.so ?_ | refine Nx.sb (fun bx => ?_) | refine Nx.sa (fun A2 c2 => ?_))
      | ((with_reducible refine Nx.is_at ?_); first | refine Nx.a ?_ | ((fail_if_success refine Nx.at_do rfl rfl rfl rfl ?_); first | refine Nx.at_dec_t rfl rfl rfl rfl (by first | assumption | omega) ?_ | refine Nx.at_dec_f rfl rfl rfl rfl (by first | assumption | omega) ?_ | refine Nx.at_split rfl rfl rfl rfl (fun hc => ?_) (fun hc => ?_) | refine Nx.at_splitb rfl rfl rfl rfl (fun hc => ?_) (fun hc => ?_)))
      | ((with_reducible refine Nx.is_mix ?_); first | refine Nx.m_quiet rfl rfl rfl rfl rfl (by first | exact QRun.opr rfl | exact QRun.loads rfl rfl rfl (Rds.at_ 1 rfl) rfl) ?_ | refine Nx.m_quiet_do rfl rfl rfl rfl rfl rfl rfl (by first | exact QRun.opr rfl | exact QRun.loads rfl rfl rfl (Rds.at_ 1 rfl) rfl) ?_ | refine Nx.m ?_ | ((fail_if_success refine Nx.m_quiet_do rfl rfl rfl rfl rfl rfl rfl ?_ ?_); (fail_if_success refine Nx.m_loud_do rfl rfl rfl rfl rfl ?_); first | refine Nx.m_dec_t rfl rfl rfl rfl (by first | assumption | omega) ?_ | refine Nx.m_dec_f rfl rfl rfl rfl (by first | assumption | omega) ?_ | refine Nx.m_split rfl rfl rfl rfl (fun hc => ?_) (fun hc => ?_) | refine Nx.m_splitb rfl rfl rfl rfl (fun hc => ?_) (fun hc => ?_)))
      | ((with_reducible refine GoodF.is ?_); first | refine GoodF.quiet rfl rfl rfl rfl rfl rfl (by first | exact QRun.opr rfl | exact QRun.loads rfl rfl rfl (Rds.at_ 1 rfl) rfl |  exact QRun.std) ?_ | refine GoodF.done1 rfl (fun bx => ?_) | refine GoodF.done2 rfl (fun bx by_ => ?_) | refine GoodF.done3 rfl (fun bx by_ bz => ?_))
      | ((fail_if_success (with_reducible refine Nx.is_at ?_)); (fail_if_success (with_reducible refine Nx.is_wp ?_)); (fail_if_success (with_reducible refine Nx.is_mix ?_)); first | refine Nx.ex ?_ | refine Nx.pool_nextF 0 rfl (by exact Ent.auto) ?_ | refine Nx.pool_nextF 1 rfl (by exact Ent.auto) ?_ | refine Nx.pool_nextF 2 rfl (by exact Ent.auto) ?_ | refine Nx.pool_nextF 3 rfl (by exact Ent.auto) ?_)
    exact Nx.again (j + 1) ⟨hjl, fun i hi => by
      by_cases hij : i = j
      · rw [hij]; exact he
      · exact hzero i (by omega)⟩ (by omega) ⟨rfl, rfl, rfl, rfl, rfl, rfl, rfl, trivial⟩ (by rw [← kerS_set]; (exact Ent.auto))
  · have hkl : kerL x R.length v.length = [] := by unfold kerL; rw [if_neg (by rw [firstE_at hzero he hjl]; exact he)]
    obtain ⟨h5, h6⟩ := hpost _ hkl.symm
    repeat' first
      | ((with_reducible refine Nx.is_wp ?_); first | refine Nx.wo ?_ | refine Nx.p_poolF (id := 15) rfl [0, 1, 2, 3, 7, 4, 5, 6, 8, 9, 10, 11] [4, 5, 6, 8] [11, 10] [13, 14] [13] [⟨12, 9, 37, _⟩] rfl rfl (by kernel_rfl) (by kernel_rfl) (by decide) (PoolFit.cons ⟨⟨_, _, _, rfl⟩, rfl, rfl⟩ PoolFit.nil) (by repeat first | exact PanicOk.fn | refine PanicOk.then_ ?_ | refine PanicOk.inB ?_) (Ent.refl _) ?_ | refine Nx.p_dec rfl rfl (fun hc => ?_) (fun hc => ?_) | refine Nx.p_bool rfl rfl (fun hc => ?_) (fun hc => ?_))
      | ((first | refine Nx.at_op rfl rfl ?_ | refine Nx.m_loud rfl rfl rfl ?_ | refine Nx.at_do rfl rfl rfl rfl ?_ | refine Nx.m_loud_do rfl rfl rfl rfl rfl ?_ | refine GoodF.loud_ rfl rfl rfl rfl (fun ex X => ?_)); first | refine Nx.opr rfl rfl ?_ | (refine Nx.call (Rpre := []) rfl rfl rfl (by kernel_rfl) rfl hSj (Ent.refl _) ?_; rintro _ _ ⟨A3, c3, o3, rfl, ho3, rfl⟩) | (refine Nx.call_lendR2 1 1 rfl rfl rfl (by kernel_rfl) rfl rfl rfl (fun m1 m2 I' hI hm1 h1 hm2 h2 => hdj _ _ _ ho3 I' (mat_given hm1 h1 hm2 h2)) ?_; rintro _ _ ⟨rfl, rfl⟩; rw [ho3, hNq]) | refine Nx.callv rfl rfl rfl (by kernel_rfl) rfl hOp ?_ | refine Nx.callv rfl rfl rfl (by kernel_rfl) rfl hR ?_ | refine Nx.so ?_ | refine Nx.sb (fun bx => ?_) | refine Nx.sa (fun A2 c2 => ?_))
      | ((with_reducible refine Nx.is_at ?_); first | refine Nx.a ?_ | ((fail_if_success refine Nx.at_do rfl rfl rfl rfl ?_); first | refine Nx.at_dec_t rfl rfl rfl rfl (by first | assumption | omega) ?_ | refine Nx.at_dec_f rfl rfl rfl rfl (by first | assumption | omega) ?_ | refine Nx.at_split rfl rfl rfl rfl (fun hc => ?_) (fun hc => ?_) | refine Nx.at_splitb rfl rfl rfl rfl (fun hc => ?_) (fun hc => ?_)))
      | ((with_reducible refine Nx.is_mix ?_); first | refine Nx.m_quiet rfl rfl rfl rfl rfl (by first | exact QRun.opr rfl | exact QRun.loads rfl rfl rfl (Rds.at_ 1 rfl) rfl) ?_ | refine Nx.m_quiet_do rfl rfl rfl rfl rfl rfl rfl (by first | exact QRun.opr rfl | exact QRun.loads rfl rfl rfl (Rds.at_ 1 rfl) rfl) ?_ | refine Nx.m ?_ | ((fail_if_success refine Nx.m_quiet_do rfl rfl rfl rfl rfl rfl rfl ?_ ?_); (fail_if_success refine Nx.m_loud_do rfl rfl rfl rfl rfl ?_); first | refine Nx.m_dec_t rfl rfl rfl rfl (by first | assumption | omega) ?_ | refine Nx.m_dec_f rfl rfl rfl rfl (by first | assumption | omega) ?_ | refine Nx.m_split rfl rfl rfl rfl (fun hc => ?_) (fun hc => ?_) | refine Nx.m_splitb rfl rfl rfl rfl (fun hc => ?_) (fun hc => ?_)))
      | ((with_reducible refine GoodF.is ?_); first | refine GoodF.quiet rfl rfl rfl rfl rfl rfl (by first | exact QRun.opr rfl | exact QRun.loads rfl rfl rfl (Rds.at_ 1 rfl) rfl |  exact QRun.std) ?_ | refine GoodF.done1 rfl (fun bx => ?_) | refine GoodF.done2 rfl (fun bx by_ => ?_) | refine GoodF.done3 rfl (fun bx by_ bz => ?_))
      | ((fail_if_success (with_reducible refine Nx.is_at ?_)); (fail_if_success (with_reducible refine Nx.is_wp ?_)); (fail_if_success (with_reducible refine Nx.is_mix ?_)); first | refine Nx.ex ?_ | refine Nx.pool_nextF 0 rfl (by exact Ent.auto) ?_ | refine Nx.pool_nextF 1 rfl (by exact Ent.auto) ?_ | refine Nx.pool_nextF 2 rfl (by exact Ent.auto) ?_ | refine Nx.pool_nextF 3 rfl (by exact Ent.auto) ?_)
    exact Nx.imm_le hI1 (Nx.ret_fn rfl [fracsR none 0 []] ⟨none, 0, [], rfl, h5, h6, rfl⟩ ((Ent.vec_nil _ _ _).trans (by (exact Ent.auto))))
end Go.Proofs.YtpdgnjoideppjaaDoor
/-
  The proof engine, part AH: one less than a number that counts.
-/
namespace Go.Eng
section
variable {C : Cx} {e : Env} {I : PH} {R : List Res} {K : Act → World → Prop} {Q : Exit → Act → World → Prop} {S : World → Prop} {d n : Nat} {t u ty : TypeId} {pos : String} {after : Array Edge} {g : Option (Nat × Bool)} {x y : Operand} {dst : Option Tmp}
theorem Nx.pred (hx : evo e x = some (.int .i64 ((n + 1 : Nat) : Int))) (hy : evo e y = some (.int .i64 1)) (hn : n ≤ 1000000) (hlt : Nat.blt d C.n = true)
    (h : Nx C ((d, .int .i64 (n : Int)) :: e) I R K) : Nx C e I R (opK C.P ⟨some d, .binOp .sub t x y u, ty, pos, after, g⟩ K Q) :=
  Nx.sub hx hy (by unfold I64; omega) hlt (by rw [show ((n + 1 : Nat) : Int) - 1 = n by omega]; exact h)
theorem QRun.pred (hx : evo e x = some (.int .i64 ((n + 1 : Nat) : Int))) (hy : evo e y = some (.int .i64 1)) (hn : n ≤ 1000000) : QRun C e S ⟨dst, .binOp .sub t x y u, ty, pos, after, g⟩ (.int .i64 (n : Int)) := by
  have e1 : (n : Int) = ((n + 1 : Nat) : Int) - 1 := by omega
  rw [e1]
  exact QRun.sub hx hy (by unfold I64; omega)
theorem QRun.less (k : Nat) (hx : evo e x = some (.int .i64 ((n + k : Nat) : Int))) (hy : evo e y = some (.int .i64 (k : Int))) (hn : n + k ≤ 1000000) : QRun C e S ⟨dst, .binOp .sub t x y u, ty, pos, after, g⟩ (.int .i64 (n : Int)) := by
  have e1 : (n : Int) = ((n + k : Nat) : Int) - (k : Int) := by omega
  rw [e1]
  exact QRun.sub hx hy (by unfold I64; omega)
end
end Go.Eng
/- Contracts of functions of the given program, and lemmas about plain lists and numbers: what the laws of this seat lean on. -/
namespace Go.Proofs.YtpdgnjoideppjaaDoor
open Go.Eng Go.Det
attribute [local irreducible] opK wpList Code.wp Exit.then Exit.inBlock fnPost bodyPost Nx Calls Oper.wp Rd Rds Wr Ent Stars Blk Again Vec FnSpec wpMix QRun Stop Upto wpAt
/-! The reference's Kernel -/
theorem rep_row {m : List (List Int)} {j i : Nat} {b : List Int} (hi : i < m.length) : (repL m j b).getD i [] = (m.getD i []).set j (b.getD i 0) := by
  unfold repL
  rw [List.getD_eq_getElem?_getD, List.getElem?_map, List.getElem?_range hi]
  rfl
end Go.Proofs.YtpdgnjoideppjaaDoor
/- Contracts of functions of the given program, and lemmas about plain lists and numbers: what the laws of this seat lean on. -/
namespace Go.Proofs.YtpdgnjoideppjaaDoor
open Go.Eng
/-! Fractions compared, and program and reference compared -/
theorem part_frac0 (a b : Int) (w : World) : (part 3 #[.int .i64 a, .int .i64 b] 0).run Tryd.prog w = .ok (.int .i64 a) w := run_of_pureRun (by kernel_rfl) w
theorem part_frac1 (a b : Int) (w : World) : (part 3 #[.int .i64 a, .int .i64 b] 1).run Tryd.prog w = .ok (.int .i64 b) w := run_of_pureRun (by kernel_rfl) w
theorem eqFields_frac (a b c d : Int) (w : World) (fs : List Field) (hf : fs.map (fun f => (f.name, f.type, f.offset)) = [("Num", 3, 0), ("Den", 3, 1)]) :
    (Op.eqFields 9999 #[.int .i64 a, .int .i64 b] #[.int .i64 c, .int .i64 d] fs).run Tryd.prog w = .ok (a == c && b == d) w := by
  obtain ⟨f, g, rfl⟩ : ∃ f g, fs = [f, g] := by
    rcases fs with _ | ⟨f, _ | ⟨g, _ | ⟨k, r⟩⟩⟩
    · simp at hf
    · simp at hf
    · exact ⟨f, g, rfl⟩
    · simp at hf
  · simp only [List.map_cons, List.map_nil, List.cons.injEq, Prod.mk.injEq, and_true] at hf
    obtain ⟨⟨h1, h2, h3⟩, h4, h5, h6⟩ := hf
    simp only [Op.eqFields, h1, h2, h3, h4, h5, h6]
    rw [if_pos (by decide), if_pos (by decide), Sem.run_bind, part_frac0, Result.andThen_ok, Sem.run_bind, part_frac0, Result.andThen_ok, Sem.run_bind, run_equalIn_int _ 9998 _ .i64 .i64 a c Tryd.underlying3, Result.andThen_ok]
    cases (a == c)
    · rfl
    · rw [if_neg (by decide), Sem.run_bind, part_frac1, Result.andThen_ok, Sem.run_bind, part_frac1, Result.andThen_ok, Sem.run_bind, run_equalIn_int _ 9998 _ .i64 .i64 b d Tryd.underlying3, Result.andThen_ok]
      cases (b == d) <;> rfl
theorem frac_bool (a b c d : Int) : (a == c && b == d) = decide (a = c ∧ b = d) := by
  rw [Bool.eq_iff_iff]
  simp
theorem eql_frac {x y : Operand} (a b c d : Int) (w : World) :
    (do eqGuard .eql 37 x y (.agg #[.int .i64 a, .int .i64 b]) (.agg #[.int .i64 c, .int .i64 d]); binOp .eql 37 (.agg #[.int .i64 a, .int .i64 b]) (.agg #[.int .i64 c, .int .i64 d])).run Tryd.prog w = .ok (.bool (decide (a = c ∧ b = d))) w := by
  rw [Sem.run_bind, run_eqGuard_agg _ _ _ _ _ _ _ Tryd.eqGuardType37, Result.andThen_ok, run_eql_struct, run_equalIn_struct _ 9999 37 _ _ (by kernel_rfl) Tryd.stoodInHeld37,
    eqFields_frac a b c d w _ (by kernel_rfl), frac_bool]
  rfl
theorem neq_frac {x y : Operand} (a b c d : Int) (w : World) :
    (do eqGuard .neq 37 x y (.agg #[.int .i64 a, .int .i64 b]) (.agg #[.int .i64 c, .int .i64 d]); binOp .neq 37 (.agg #[.int .i64 a, .int .i64 b]) (.agg #[.int .i64 c, .int .i64 d])).run Tryd.prog w = .ok (.bool (decide (¬(a = c ∧ b = d)))) w := by
  rw [Sem.run_bind, run_eqGuard_agg _ _ _ _ _ _ _ Tryd.eqGuardType37, Result.andThen_ok, run_neq_struct, run_equalIn_struct _ 9999 37 _ _ (by kernel_rfl) Tryd.stoodInHeld37,
    eqFields_frac a b c d w _ (by kernel_rfl), frac_bool, show decide (¬(a = c ∧ b = d)) = !decide (a = c ∧ b = d) by simp]
  rfl
theorem eql_same {x y : Operand} (a b : Int) (w : World) :
    (do eqGuard .eql 37 x y (.agg #[.int .i64 a, .int .i64 b]) (.agg #[.int .i64 a, .int .i64 b]); binOp .eql 37 (.agg #[.int .i64 a, .int .i64 b]) (.agg #[.int .i64 a, .int .i64 b])).run Tryd.prog w = .ok (.bool true) w := by
  rw [eql_frac, decide_eq_true ⟨rfl, rfl⟩]
theorem neq_same {x y : Operand} (a b : Int) (w : World) :
    (do eqGuard .neq 37 x y (.agg #[.int .i64 a, .int .i64 b]) (.agg #[.int .i64 a, .int .i64 b]); binOp .neq 37 (.agg #[.int .i64 a, .int .i64 b]) (.agg #[.int .i64 a, .int .i64 b])).run Tryd.prog w = .ok (.bool false) w := by
  rw [neq_frac, decide_eq_false fun h => h ⟨rfl, rfl⟩]
section
open Go.Det
attribute [local irreducible] opK wpList Code.wp Exit.then Exit.inBlock fnPost bodyPost Nx Calls Oper.wp Rd Rds Wr Ent Stars Blk Again Vec FnSpec wpMix QRun Stop Upto wpAt
/-- A list of fractions, given up. -/
abbrev Fracs (I : PH) (A : Option Addr) (c : Nat) (l : List (Int × Int)) : Prop := SliceN frC 2 I A c l
set_option maxRecDepth 10000 in
set_option maxHeartbeats 4000000 in
theorem Same_fr (A B : Option Addr) (c d : Nat) (l : List (Int × Int)) (I : PH) (h : Fracs I A c l) (h' : Fracs I B d l) : FnSpec Tryd.prog 27 [.slice A l.length c, .slice B l.length d] I [] (fun v R' => v = .bool true ∧ R' = []) := by
  have hlen := h.len
  refine FnSpec.enterP Tryd.func27 rfl Tryd.ntmps27 rfl fun w F => ?_
  repeat' first
    | ((with_reducible refine Nx.is_wp ?_); first | refine Nx.wo ?_ | refine Nx.p_dec rfl rfl (fun hc => ?_) (fun hc => ?_) | refine Nx.p_bool rfl rfl (fun hc => ?_) (fun hc => ?_))
    | ((first | refine Nx.at_op rfl rfl ?_ | refine Nx.m_loud rfl rfl rfl ?_ | refine Nx.at_do rfl rfl rfl rfl ?_ | refine Nx.m_loud_do rfl rfl rfl rfl rfl ?_); first | refine Nx.opr rfl rfl ?_ | refine Nx.so ?_ | refine Nx.sb (fun bx => ?_) | refine Nx.sa (fun A2 c2 => ?_))
    | ((with_reducible refine Nx.is_at ?_); first | refine Nx.a ?_ | ((fail_if_success refine Nx.at_do rfl rfl rfl rfl ?_); first | refine Nx.at_dec_t rfl rfl rfl rfl (by first | assumption | omega) ?_ | refine Nx.at_dec_f rfl rfl rfl rfl (by first | assumption | omega) ?_ | refine Nx.at_split rfl rfl rfl rfl (fun hc => ?_) (fun hc => ?_) | refine Nx.at_splitb rfl rfl rfl rfl (fun hc => ?_) (fun hc => ?_)))
    | ((with_reducible refine Nx.is_mix ?_); first | refine Nx.m ?_ | ((fail_if_success refine Nx.m_quiet_do rfl rfl rfl rfl rfl rfl rfl ?_ ?_); (fail_if_success refine Nx.m_loud_do rfl rfl rfl rfl rfl ?_); first | refine Nx.m_dec_t rfl rfl rfl rfl (by first | assumption | omega) ?_ | refine Nx.m_dec_f rfl rfl rfl rfl (by first | assumption | omega) ?_ | refine Nx.m_split rfl rfl rfl rfl (fun hc => ?_) (fun hc => ?_) | refine Nx.m_splitb rfl rfl rfl rfl (fun hc => ?_) (fun hc => ?_)))
    | ((fail_if_success (with_reducible refine Nx.is_at ?_)); (fail_if_success (with_reducible refine Nx.is_wp ?_)); (fail_if_success (with_reducible refine Nx.is_mix ?_)); first | refine Nx.ex ?_)
  refine Nx.p_loop (σ := Nat) (fun k => [(0, .slice A l.length c), (1, .slice B l.length d), (5, .int .i64 (k : Int))]) (fun _ => [F]) (fun k => k ≤ l.length) (fun k => l.length - k) 0 rfl (Nat.zero_le _) ⟨rfl, rfl, rfl, trivial⟩ (by (exact Ent.auto)) ?_
  intro k hk
  have hk : k ≤ l.length := hk
  by_cases hkl : k < l.length
  case neg =>
    repeat' first
      | ((with_reducible refine Nx.is_wp ?_); first | refine Nx.wo ?_ | refine Nx.p_dec rfl rfl (fun hc => ?_) (fun hc => ?_) | refine Nx.p_bool rfl rfl (fun hc => ?_) (fun hc => ?_))
      | ((first | refine Nx.at_op rfl rfl ?_ | refine Nx.m_loud rfl rfl rfl ?_ | refine Nx.at_do rfl rfl rfl rfl ?_ | refine Nx.m_loud_do rfl rfl rfl rfl rfl ?_); first | refine Nx.opr rfl rfl ?_ | refine Nx.so ?_ | refine Nx.sb (fun bx => ?_) | refine Nx.sa (fun A2 c2 => ?_))
      | ((with_reducible refine Nx.is_at ?_); first | refine Nx.a ?_ | ((fail_if_success refine Nx.at_do rfl rfl rfl rfl ?_); first | refine Nx.at_dec_t rfl rfl rfl rfl (by first | assumption | omega) ?_ | refine Nx.at_dec_f rfl rfl rfl rfl (by first | assumption | omega) ?_ | refine Nx.at_split rfl rfl rfl rfl (fun hc => ?_) (fun hc => ?_) | refine Nx.at_splitb rfl rfl rfl rfl (fun hc => ?_) (fun hc => ?_)))
      | ((with_reducible refine Nx.is_mix ?_); first | refine Nx.m ?_ | ((fail_if_success refine Nx.m_quiet_do rfl rfl rfl rfl rfl rfl rfl ?_ ?_); (fail_if_success refine Nx.m_loud_do rfl rfl rfl rfl rfl ?_); first | refine Nx.m_dec_t rfl rfl rfl rfl (by first | assumption | omega) ?_ | refine Nx.m_dec_f rfl rfl rfl rfl (by first | assumption | omega) ?_ | refine Nx.m_split rfl rfl rfl rfl (fun hc => ?_) (fun hc => ?_) | refine Nx.m_splitb rfl rfl rfl rfl (fun hc => ?_) (fun hc => ?_)))
      | ((fail_if_success (with_reducible refine Nx.is_at ?_)); (fail_if_success (with_reducible refine Nx.is_wp ?_)); (fail_if_success (with_reducible refine Nx.is_mix ?_)); first | refine Nx.ex ?_)
    exact Nx.ret_fn rfl [] ⟨rfl, rfl⟩ (by (exact Ent.auto))
  have hr1 : ∀ (W : World) (R : List Res), Rds W I R ((ad A).add (k * 2)) (frC (l.getD k default)) := fun W R => h.rds hkl
  have hr2 : ∀ (W : World) (R : List Res), Rds W I R ((ad B).add (k * 2)) (frC (l.getD k default)) := fun W R => h'.rds hkl
  generalize l.getD k default = x at hr1 hr2
  obtain ⟨a, b⟩ := x
  repeat' first
    | ((with_reducible refine Nx.is_wp ?_); first | refine Nx.wo ?_ | refine Nx.p_drawF (id := 6) rfl [0, 1, 2, 3, 4, 5, 6, 7, 8] [] [] _ rfl rfl (by kernel_rfl) (by kernel_rfl) rfl (by repeat first | exact PanicOk.fn | refine PanicOk.then_ ?_ | refine PanicOk.inB ?_) (Ent.refl _) ?_ | refine Nx.p_dec rfl rfl (fun hc => ?_) (fun hc => ?_) | refine Nx.p_bool rfl rfl (fun hc => ?_) (fun hc => ?_))
    | ((first | refine Nx.at_op rfl rfl ?_ | refine Nx.m_loud rfl rfl rfl ?_ | refine Nx.at_do rfl rfl rfl rfl ?_ | refine Nx.m_loud_do rfl rfl rfl rfl rfl ?_); first | refine Nx.opr rfl rfl ?_ | refine Nx.so ?_ | refine Nx.sb (fun bx => ?_) | refine Nx.sa (fun A2 c2 => ?_))
    | ((with_reducible refine Nx.is_at ?_); first | refine Nx.a ?_ | ((fail_if_success refine Nx.at_do rfl rfl rfl rfl ?_); first | refine Nx.at_dec_t rfl rfl rfl rfl (by first | assumption | omega) ?_ | refine Nx.at_dec_f rfl rfl rfl rfl (by first | assumption | omega) ?_ | refine Nx.at_split rfl rfl rfl rfl (fun hc => ?_) (fun hc => ?_) | refine Nx.at_splitb rfl rfl rfl rfl (fun hc => ?_) (fun hc => ?_)))
    | ((with_reducible refine Nx.is_mix ?_); first | refine Nx.m_quiet rfl rfl rfl rfl rfl (by first | exact QRun.opr rfl | exact QRun.idx (A := A) (c := c) (sz := 2) rfl rfl rfl rfl (by omega) (h.isSome (by omega) (by decide)) | exact QRun.idx (A := B) (c := d) (sz := 2) rfl rfl rfl rfl (by omega) (h'.isSome (by omega) (by decide)) | exact QRun.loads rfl rfl rfl (hr1 _ _) rfl | exact QRun.loads rfl rfl rfl (hr2 _ _) rfl | exact QRun.binr rfl rfl (neq_same _ _)) ?_ | refine Nx.m_quiet_do rfl rfl rfl rfl rfl rfl rfl (by first | exact QRun.opr rfl | exact QRun.idx (A := A) (c := c) (sz := 2) rfl rfl rfl rfl (by omega) (h.isSome (by omega) (by decide)) | exact QRun.idx (A := B) (c := d) (sz := 2) rfl rfl rfl rfl (by omega) (h'.isSome (by omega) (by decide)) | exact QRun.loads rfl rfl rfl (hr1 _ _) rfl | exact QRun.loads rfl rfl rfl (hr2 _ _) rfl | exact QRun.binr rfl rfl (neq_same _ _)) ?_ | refine Nx.m ?_ | ((fail_if_success refine Nx.m_quiet_do rfl rfl rfl rfl rfl rfl rfl ?_ ?_); (fail_if_success refine Nx.m_loud_do rfl rfl rfl rfl rfl ?_); first | refine Nx.m_dec_t rfl rfl rfl rfl (by first | assumption | omega) ?_ | refine Nx.m_dec_f rfl rfl rfl rfl (by first | assumption | omega) ?_ | refine Nx.m_split rfl rfl rfl rfl (fun hc => ?_) (fun hc => ?_) | refine Nx.m_splitb rfl rfl rfl rfl (fun hc => ?_) (fun hc => ?_)))
    | ((fail_if_success (with_reducible refine Nx.is_at ?_)); (fail_if_success (with_reducible refine Nx.is_wp ?_)); (fail_if_success (with_reducible refine Nx.is_mix ?_)); first | refine Nx.ex ?_)
  exact Nx.again (k + 1) hkl (by omega) ⟨rfl, rfl, rfl, trivial⟩ (by (exact Ent.auto))
end
end Go.Proofs.YtpdgnjoideppjaaDoor
/- Contracts of functions of the given program, and lemmas about plain lists and numbers: what the laws of this seat lean on. -/
namespace Go.Proofs.YtpdgnjoideppjaaDoor
open Go.Eng Go.Det
attribute [local irreducible] opK wpList Code.wp Exit.then Exit.inBlock fnPost bodyPost Nx Calls Oper.wp Rd Rds Wr Ent Stars Blk Again Vec FnSpec wpMix QRun Stop Upto wpAt
/-! The sanity check -/
theorem row_given {I : PH} {b : Nat} {l : List Int} {m1 : PH} {t : TypeId} (hm : PH.le m1 I) (h : Blk b t (l.map (Value.int .i64)) m1) (h9 : l.length ≤ 1000) : Ints I (some ⟨b, 0, none⟩) l.length l :=
  Blk.sliceOf hm h (by unfold maxLen; omega)
theorem mat_lit {I : PH} {b : Nat} {v : List Row} {m1 : PH} {t : TypeId} (hm : PH.le m1 I) (h : Blk b t (v.map rowV) m1) (hr : ∀ r ∈ v, Ints I r.1 r.2.1 r.2.2) (h9 : v.length ≤ 1000) : Mat I (some ⟨b, 0, none⟩) v.length v :=
  ⟨Blk.sliceOf hm h (by unfold maxLen; omega), hr⟩
theorem two_rows {I : PH} {r s : Row} (h1 : Ints I r.1 r.2.1 r.2.2) (h2 : Ints I s.1 s.2.1 s.2.2) : ∀ x ∈ [r, s], Ints I x.1 x.2.1 x.2.2 := fun x hx => by
  rcases List.mem_cons.1 hx with rfl | hx
  · exact h1
  · rw [List.mem_singleton.1 hx]; exact h2
theorem one_row {I : PH} {r : Row} (h1 : Ints I r.1 r.2.1 r.2.2) : ∀ x ∈ [r], Ints I x.1 x.2.1 x.2.2 := fun x hx => by
  rw [List.mem_singleton.1 hx]; exact h1
theorem aw_sol : solL [[2, 1], [1, -1]] [5, 1] = [(2, 1), (1, 1)] ∧ solE [[2, 1], [1, -1]] [5, 1] = 0 := by decide +kernel
theorem aw_ratio : ratioV [[3]] [[6]] = .tuple #[.agg #[.int .i64 1, .int .i64 2], .int .i64 0] := by
  unfold ratioV
  rw [if_neg (by decide +kernel), if_neg (by decide +kernel), if_neg (by decide +kernel), show detM [[3]] = 3 by decide +kernel, show detM [[6]] = 6 by decide +kernel, redV_pos (by decide +kernel)]
  unfold ratV fracV
  rw [show (Rat.divInt 3 6).num = 1 by decide +kernel, show (Rat.divInt 3 6).den = 2 by decide +kernel]
  rfl
theorem aw_ker : Ker [[1, 2], [2, 4]] 1 (fun _ => Rat.divInt (-2) 1) := by
  refine ⟨[0], ⟨by decide, fun r hr => ?_, by decide +kernel⟩, fun _ r hr => ?_, rfl, by decide, fun j hj => ?_⟩
  · rw [List.mem_singleton.1 hr]; decide
  · have : r = 0 ∨ r = 1 := by
      have : r < 2 := hr
      omega
    rcases this with rfl | rfl <;> decide +kernel
  · obtain rfl : j = 0 := by omega
    rw [show numN [[1, 2], [2, 4]] [0] 1 0 = 2 by decide +kernel, show denD [[1, 2], [2, 4]] [0] 1 = 1 by decide +kernel]
theorem aw_kerL : kerL (fun _ => Rat.divInt (-2) 1) 1 2 = [(-2, 1), (1, 1)] := by decide +kernel
theorem aw_zero : zeroB [[1, 2], [2, 4]] = true ∧ zeroB [[0]] = true := by decide +kernel
theorem aw_post {l : List (Int × Int)} (h : zeroB [[1, 2], [2, 4]] = true → ∃ k x, Ker [[1, 2], [2, 4]] k x ∧ l = kerL x k [[1, 2], [2, 4]].length) : l = [(-2, 1), (1, 1)] := by
  obtain ⟨k, x, hk, rfl⟩ := h aw_zero.1
  rw [← aw_kerL]
  exact hk.list aw_ker
set_option maxRecDepth 10000 in
set_option maxHeartbeats 8000000 in
theorem awake_spec (I : PH) (hT : TabI I) : FnSpec Tryd.prog 14 [] I [] (fun x R' => x = .bool true ∧ R' = []) := by
  refine FnSpec.enterP Tryd.func14 rfl Tryd.ntmps14 rfl fun w F => ?_
  repeat' first
    | ((with_reducible refine Nx.is_wp ?_); first | refine Nx.wo ?_ | refine Nx.p_dec rfl rfl (fun hc => ?_) (fun hc => ?_) | refine Nx.p_bool rfl rfl (fun hc => ?_) (fun hc => ?_))
    | ((first | refine Nx.at_op rfl rfl ?_ | refine Nx.m_loud rfl rfl rfl ?_ | refine Nx.at_do rfl rfl rfl rfl ?_ | refine Nx.m_loud_do rfl rfl rfl rfl rfl ?_); first | refine Nx.opr rfl rfl ?_ | refine Nx.so ?_ | refine Nx.sb (fun bx => ?_) | refine Nx.sa (fun A2 c2 => ?_))
    | ((with_reducible refine Nx.is_at ?_); first | refine Nx.a ?_ | ((fail_if_success refine Nx.at_do rfl rfl rfl rfl ?_); first | refine Nx.at_dec_t rfl rfl rfl rfl (by first | assumption | omega) ?_ | refine Nx.at_dec_f rfl rfl rfl rfl (by first | assumption | omega) ?_ | refine Nx.at_split rfl rfl rfl rfl (fun hc => ?_) (fun hc => ?_) | refine Nx.at_splitb rfl rfl rfl rfl (fun hc => ?_) (fun hc => ?_)))
    | ((with_reducible refine Nx.is_mix ?_); first | refine Nx.m ?_ | ((fail_if_success refine Nx.m_quiet_do rfl rfl rfl rfl rfl rfl rfl ?_ ?_); (fail_if_success refine Nx.m_loud_do rfl rfl rfl rfl rfl ?_); first | refine Nx.m_dec_t rfl rfl rfl rfl (by first | assumption | omega) ?_ | refine Nx.m_dec_f rfl rfl rfl rfl (by first | assumption | omega) ?_ | refine Nx.m_split rfl rfl rfl rfl (fun hc => ?_) (fun hc => ?_) | refine Nx.m_splitb rfl rfl rfl rfl (fun hc => ?_) (fun hc => ?_)))
    | ((fail_if_success (with_reducible refine Nx.is_at ?_)); (fail_if_success (with_reducible refine Nx.is_wp ?_)); (fail_if_success (with_reducible refine Nx.is_mix ?_)); first | refine Nx.ex ?_)
  rename_i b7 b8 b9
  revert bx; intro b10
  refine Nx.freezeAt 0 rfl fun I1 m1 hI1 hm1 h1 => ?_
  refine Nx.freezeAt 0 rfl fun I2 m2 hI2 hm2 h2 => ?_
  refine Nx.freezeAt 0 rfl fun I3 m3 hI3 hm3 h3 => ?_
  refine Nx.freezeAt 0 rfl fun I4 m4 hI4 hm4 h4 => ?_
  have hle4 : PH.le I I4 := ((hI1.trans hI2).trans hI3).trans hI4
  have hB : Ints I4 (some ⟨b10, 0, none⟩) 2 [5, 1] := row_given (l := [5, 1]) (((hm1.trans hI2).trans hI3).trans hI4) h1 (by decide)
  have hM : Mat I4 (some ⟨b9, 0, none⟩) 2 [(some ⟨b7, 0, none⟩, 2, [2, 1]), (some ⟨b8, 0, none⟩, 2, [1, -1])] :=
    mat_lit (v := [(some ⟨b7, 0, none⟩, 2, [2, 1]), (some ⟨b8, 0, none⟩, 2, [1, -1])]) ((hm2.trans hI3).trans hI4) h2 (two_rows (row_given (l := [2, 1]) hm4 h4 (by decide)) (row_given (l := [1, -1]) (hm3.trans hI4) h3 (by decide))) (by show (2 : Nat) ≤ 1000; decide)
  have hT4 := TabI.mono hle4 hT
  have hS : FnSpec Tryd.prog 12 [.slice (some ⟨b9, 0, none⟩) 2 2, .slice (some ⟨b10, 0, none⟩) 2 2] I4 [] (fracPost [(2, 1), (1, 1)] 0) := by
    have := Solve_spec _ 2 _ I4 hT4 hM _ 2 [5, 1] hB
    rw [show matL [((some ⟨b7, 0, none⟩, 2, [2, 1]) : Row), (some ⟨b8, 0, none⟩, 2, [1, -1])] = [[2, 1], [1, -1]] from rfl, aw_sol.1, aw_sol.2] at this
    exact this
  repeat' first
    | ((with_reducible refine Nx.is_wp ?_); first | refine Nx.wo ?_ | refine Nx.p_dec rfl rfl (fun hc => ?_) (fun hc => ?_) | refine Nx.p_bool rfl rfl (fun hc => ?_) (fun hc => ?_))
    | ((first | refine Nx.at_op rfl rfl ?_ | refine Nx.m_loud rfl rfl rfl ?_ | refine Nx.at_do rfl rfl rfl rfl ?_ | refine Nx.m_loud_do rfl rfl rfl rfl rfl ?_); first | refine Nx.opr rfl rfl ?_ | (refine Nx.call (Rpre := []) rfl rfl rfl (by kernel_rfl) rfl hS (Ent.refl _) ?_; rintro _ _ ⟨A1, c1, rfl, rfl⟩) | refine Nx.so ?_ | refine Nx.sb (fun bx => ?_) | refine Nx.sa (fun A2 c2 => ?_))
    | ((with_reducible refine Nx.is_at ?_); first | refine Nx.a ?_ | ((fail_if_success refine Nx.at_do rfl rfl rfl rfl ?_); first | refine Nx.at_dec_t rfl rfl rfl rfl (by first | assumption | omega) ?_ | refine Nx.at_dec_f rfl rfl rfl rfl (by first | assumption | omega) ?_ | refine Nx.at_split rfl rfl rfl rfl (fun hc => ?_) (fun hc => ?_) | refine Nx.at_splitb rfl rfl rfl rfl (fun hc => ?_) (fun hc => ?_)))
    | ((with_reducible refine Nx.is_mix ?_); first | refine Nx.m ?_ | ((fail_if_success refine Nx.m_quiet_do rfl rfl rfl rfl rfl rfl rfl ?_ ?_); (fail_if_success refine Nx.m_loud_do rfl rfl rfl rfl rfl ?_); first | refine Nx.m_dec_t rfl rfl rfl rfl (by first | assumption | omega) ?_ | refine Nx.m_dec_f rfl rfl rfl rfl (by first | assumption | omega) ?_ | refine Nx.m_split rfl rfl rfl rfl (fun hc => ?_) (fun hc => ?_) | refine Nx.m_splitb rfl rfl rfl rfl (fun hc => ?_) (fun hc => ?_)))
    | ((fail_if_success (with_reducible refine Nx.is_at ?_)); (fail_if_success (with_reducible refine Nx.is_wp ?_)); (fail_if_success (with_reducible refine Nx.is_mix ?_)); first | refine Nx.ex ?_)
  rename_i b14 b15
  revert bx; intro b16
  refine Nx.freezeAt 0 rfl fun I5 m5 hI5 hm5 h5 => ?_
  refine Nx.freezeAt 0 rfl fun I6 m6 hI6 hm6 h6 => ?_
  refine Nx.freezeAt 0 rfl fun I7 m7 hI7 hm7 h7 => ?_
  have hle7 : PH.le I I7 := ((hle4.trans hI5).trans hI6).trans hI7
  have hT7 := TabI.mono hle7 hT
  have hM7 : Mat I7 (some ⟨b16, 0, none⟩) 2 [(some ⟨b14, 0, none⟩, 2, [1, 2]), (some ⟨b15, 0, none⟩, 2, [2, 4])] :=
    mat_lit (v := [(some ⟨b14, 0, none⟩, 2, [1, 2]), (some ⟨b15, 0, none⟩, 2, [2, 4])]) ((hm5.trans hI6).trans hI7) h5 (two_rows (row_given (l := [1, 2]) hm7 h7 (by decide)) (row_given (l := [2, 4]) (hm6.trans hI7) h6 (by decide))) (by show (2 : Nat) ≤ 1000; decide)
  have hK : FnSpec Tryd.prog 19 [.slice (some ⟨b16, 0, none⟩) 2 2] I7 [] (fun u R' => ∃ A' c', u = .slice A' 2 c' ∧ R' = [fracsR A' c' [(-2, 1), (1, 1)]]) :=
    (Kernel_spec _ 2 _ I7 hM7 hT7).mono fun u R' ⟨A', c', l, e1, _, e3, e4⟩ => by
      have := aw_post e3
      subst this
      exact ⟨A', c', e1, e4⟩
  repeat' first
    | ((with_reducible refine Nx.is_wp ?_); first | refine Nx.wo ?_ | refine Nx.p_dec rfl rfl (fun hc => ?_) (fun hc => ?_) | refine Nx.p_bool rfl rfl (fun hc => ?_) (fun hc => ?_))
    | ((first | refine Nx.at_op rfl rfl ?_ | refine Nx.m_loud rfl rfl rfl ?_ | refine Nx.at_do rfl rfl rfl rfl ?_ | refine Nx.m_loud_do rfl rfl rfl rfl rfl ?_); first | refine Nx.opr rfl rfl ?_ | (refine Nx.call (Rpre := []) rfl rfl rfl (by kernel_rfl) rfl hK (Ent.refl _) ?_; rintro _ _ ⟨A2, c2, rfl, rfl⟩) | refine Nx.so ?_ | refine Nx.sb (fun bx => ?_) | refine Nx.sa (fun A2 c2 => ?_))
    | ((with_reducible refine Nx.is_at ?_); first | refine Nx.a ?_ | ((fail_if_success refine Nx.at_do rfl rfl rfl rfl ?_); first | refine Nx.at_dec_t rfl rfl rfl rfl (by first | assumption | omega) ?_ | refine Nx.at_dec_f rfl rfl rfl rfl (by first | assumption | omega) ?_ | refine Nx.at_split rfl rfl rfl rfl (fun hc => ?_) (fun hc => ?_) | refine Nx.at_splitb rfl rfl rfl rfl (fun hc => ?_) (fun hc => ?_)))
    | ((with_reducible refine Nx.is_mix ?_); first | refine Nx.m ?_ | ((fail_if_success refine Nx.m_quiet_do rfl rfl rfl rfl rfl rfl rfl ?_ ?_); (fail_if_success refine Nx.m_loud_do rfl rfl rfl rfl rfl ?_); first | refine Nx.m_dec_t rfl rfl rfl rfl (by first | assumption | omega) ?_ | refine Nx.m_dec_f rfl rfl rfl rfl (by first | assumption | omega) ?_ | refine Nx.m_split rfl rfl rfl rfl (fun hc => ?_) (fun hc => ?_) | refine Nx.m_splitb rfl rfl rfl rfl (fun hc => ?_) (fun hc => ?_)))
    | ((fail_if_success (with_reducible refine Nx.is_at ?_)); (fail_if_success (with_reducible refine Nx.is_wp ?_)); (fail_if_success (with_reducible refine Nx.is_mix ?_)); first | refine Nx.ex ?_)
  rename_i b19 b20 b21
  revert bx; intro b22
  refine Nx.freezeAt 0 rfl fun I8 m8 hI8 hm8 h8 => ?_
  refine Nx.freezeAt 0 rfl fun I9 m9 hI9 hm9 h9 => ?_
  refine Nx.freezeAt 0 rfl fun I10 m10 hI10 hm10 h10 => ?_
  refine Nx.freezeAt 0 rfl fun I11 m11 hI11 hm11 h11 => ?_
  have hle11 : PH.le I I11 := (((hle7.trans hI8).trans hI9).trans hI10).trans hI11
  have hT11 := TabI.mono hle11 hT
  have hA : Mat I11 (some ⟨b20, 0, none⟩) 1 [(some ⟨b19, 0, none⟩, 1, [3])] :=
    mat_lit (v := [(some ⟨b19, 0, none⟩, 1, [3])]) (hm10.trans hI11) h10 (one_row (row_given (l := [3]) hm11 h11 (by decide))) (by show (1 : Nat) ≤ 1000; decide)
  have hB2 : Mat I11 (some ⟨b22, 0, none⟩) 1 [(some ⟨b21, 0, none⟩, 1, [6])] :=
    mat_lit (v := [(some ⟨b21, 0, none⟩, 1, [6])]) (((hm8.trans hI9).trans hI10).trans hI11) h8 (one_row (row_given (l := [6]) ((hm9.trans hI10).trans hI11) h9 (by decide))) (by show (1 : Nat) ≤ 1000; decide)
  have hR : FnSpec Tryd.prog 16 [.slice (some ⟨b20, 0, none⟩) 1 1, .slice (some ⟨b22, 0, none⟩) 1 1] I11 [] (fun u R' => u = .tuple #[.agg #[.int .i64 1, .int .i64 2], .int .i64 0] ∧ R' = []) := by
    have := Ratio_spec _ _ 1 1 _ _ I11 hT11 hA hB2
    rw [show matL [((some ⟨b19, 0, none⟩, 1, [3]) : Row)] = [[3]] from rfl, show matL [((some ⟨b21, 0, none⟩, 1, [6]) : Row)] = [[6]] from rfl, aw_ratio] at this
    exact this
  have hZ : ∀ (b b' : Nat) (I' : PH), Mat I' (some ⟨b, 0, none⟩) 1 [(some ⟨b', 0, none⟩, 1, [0])] → FnSpec Tryd.prog 13 [.slice (some ⟨b, 0, none⟩) 1 1] I' [] (fun u R' => u = .bool true ∧ R' = []) := fun b b' I' h => by
    have := Zero_spec _ 1 _ I' h
    rw [show matL [((some ⟨b', 0, none⟩, 1, [0]) : Row)] = [[0]] from rfl, aw_zero.2] at this
    exact this
  repeat' first
    | ((with_reducible refine Nx.is_wp ?_); first | refine Nx.wo ?_ | refine Nx.p_dec rfl rfl (fun hc => ?_) (fun hc => ?_) | refine Nx.p_bool rfl rfl (fun hc => ?_) (fun hc => ?_))
    | ((first | refine Nx.at_op rfl rfl ?_ | refine Nx.m_loud rfl rfl rfl ?_ | refine Nx.at_do rfl rfl rfl rfl ?_ | refine Nx.m_loud_do rfl rfl rfl rfl rfl ?_); first | refine Nx.opr rfl rfl ?_ | refine Nx.callv rfl rfl rfl (by kernel_rfl) rfl hR ?_ | (refine Nx.call_lendR2 0 2 rfl rfl rfl (by kernel_rfl) rfl rfl rfl (fun m1 m2 I' hI hm1 h1 hm2 h2 => Same_fr A1 (some _) c1 2 [(2, 1), (1, 1)] I' (Vec.sliceN hm2 h2 fun _ _ => rfl) (Blk.sliceN (l := [(2, 1), (1, 1)]) hm1 h1 (fun _ _ => rfl) (by show (2 : Nat) ≤ maxLen; decide))) ?_; rintro _ _ ⟨rfl, rfl⟩) | (refine Nx.call_lendR2 0 3 rfl rfl rfl (by kernel_rfl) rfl rfl rfl (fun m1 m2 I' hI hm1 h1 hm2 h2 => Same_fr A2 (some _) c2 2 [(-2, 1), (1, 1)] I' (Vec.sliceN hm2 h2 fun _ _ => rfl) (Blk.sliceN (l := [(-2, 1), (1, 1)]) hm1 h1 (fun _ _ => rfl) (by show (2 : Nat) ≤ maxLen; decide))) ?_; rintro _ _ ⟨rfl, rfl⟩) | refine Nx.binr rfl rfl (eql_same _ _) rfl ?_ | (refine Nx.call_lendR2 0 0 rfl rfl rfl (by kernel_rfl) rfl rfl rfl (fun m1 m2 I' hI hm1 h1 hm2 h2 => hZ _ _ I' (mat_lit (v := [(some _, 1, [0])]) hm1 h1 (one_row (row_given (l := [0]) hm2 h2 (by decide))) (by show (1 : Nat) ≤ 1000; decide))) ?_; rintro _ _ ⟨rfl, rfl⟩) | refine Nx.so ?_ | refine Nx.sb (fun bx => ?_) | refine Nx.sa (fun A2 c2 => ?_))
    | ((with_reducible refine Nx.is_at ?_); first | refine Nx.a ?_ | ((fail_if_success refine Nx.at_do rfl rfl rfl rfl ?_); first | refine Nx.at_dec_t rfl rfl rfl rfl (by first | assumption | omega) ?_ | refine Nx.at_dec_f rfl rfl rfl rfl (by first | assumption | omega) ?_ | refine Nx.at_split rfl rfl rfl rfl (fun hc => ?_) (fun hc => ?_) | refine Nx.at_splitb rfl rfl rfl rfl (fun hc => ?_) (fun hc => ?_)))
    | ((with_reducible refine Nx.is_mix ?_); first | refine Nx.m ?_ | ((fail_if_success refine Nx.m_quiet_do rfl rfl rfl rfl rfl rfl rfl ?_ ?_); (fail_if_success refine Nx.m_loud_do rfl rfl rfl rfl rfl ?_); first | refine Nx.m_dec_t rfl rfl rfl rfl (by first | assumption | omega) ?_ | refine Nx.m_dec_f rfl rfl rfl rfl (by first | assumption | omega) ?_ | refine Nx.m_split rfl rfl rfl rfl (fun hc => ?_) (fun hc => ?_) | refine Nx.m_splitb rfl rfl rfl rfl (fun hc => ?_) (fun hc => ?_)))
    | ((fail_if_success (with_reducible refine Nx.is_at ?_)); (fail_if_success (with_reducible refine Nx.is_wp ?_)); (fail_if_success (with_reducible refine Nx.is_mix ?_)); first | refine Nx.ex ?_)
  exact Nx.imm_le hle11 (Nx.ret_fn rfl [] ⟨rfl, rfl⟩ (by (exact Ent.auto)))
end Go.Proofs.YtpdgnjoideppjaaDoor
/- Contracts of functions of the given program, and lemmas about plain lists and numbers: what the laws of this seat lean on. -/
namespace Go.Proofs.YtpdgnjoideppjaaDoor
open Go.Eng
attribute [local irreducible] opK wpList Code.wp Exit.then Exit.inBlock fnPost bodyPost Nx Calls Oper.wp Rd Rds Wr Ent Stars Blk Again Vec FnSpec wpMix QRun Stop Upto wpAt
/-! Codes, from which all made values are drawn -/
set_option maxRecDepth 10000 in
theorem New_spec (A : Option Addr) (c : Nat) (l : List Int) (I : PH) (hl : SliceOf (fun x : Int => Value.int .u8 x) I A c l) :
    FnSpec Tryd.prog 8 [.slice A l.length c] I [] (fun v R' => ∃ b, v = .pointer (some ⟨b, 0, none⟩) ∧ R' = [Blk b 53 [.slice A (l.take 400).length c, .int .i64 0]]) := by
  have hlen := hl.len
  have hcap := hl.cap
  have e1 : (min (l.length : Int) 400) = ((min l.length 400 : Nat) : Int) := by omega
  have e2 : (l.take 400).length = min l.length 400 := by rw [List.length_take]; omega
  refine FnSpec.enterP Tryd.func8 rfl Tryd.ntmps8 rfl fun w F => ?_
  repeat' first
    | ((with_reducible refine Nx.is_wp ?_); first | refine Nx.wo ?_ | refine Nx.p_dec rfl rfl (fun hc => ?_) (fun hc => ?_) | refine Nx.p_bool rfl rfl (fun hc => ?_) (fun hc => ?_))
    | ((first | refine Nx.at_op rfl rfl ?_ | refine Nx.m_loud rfl rfl rfl ?_ | refine Nx.at_do rfl rfl rfl rfl ?_ | refine Nx.m_loud_do rfl rfl rfl rfl rfl ?_); first | refine Nx.opr rfl rfl ?_ | refine Nx.so ?_ | refine Nx.sb (fun bx => ?_) | refine Nx.sa (fun A2 c2 => ?_))
    | ((with_reducible refine Nx.is_at ?_); first | refine Nx.a ?_ | ((fail_if_success refine Nx.at_do rfl rfl rfl rfl ?_); first | refine Nx.at_dec_t rfl rfl rfl rfl (by first | assumption | omega) ?_ | refine Nx.at_dec_f rfl rfl rfl rfl (by first | assumption | omega) ?_ | refine Nx.at_split rfl rfl rfl rfl (fun hc => ?_) (fun hc => ?_) | refine Nx.at_splitb rfl rfl rfl rfl (fun hc => ?_) (fun hc => ?_)))
    | ((with_reducible refine Nx.is_mix ?_); first | refine Nx.m ?_ | ((fail_if_success refine Nx.m_quiet_do rfl rfl rfl rfl rfl rfl rfl ?_ ?_); (fail_if_success refine Nx.m_loud_do rfl rfl rfl rfl rfl ?_); first | refine Nx.m_dec_t rfl rfl rfl rfl (by first | assumption | omega) ?_ | refine Nx.m_dec_f rfl rfl rfl rfl (by first | assumption | omega) ?_ | refine Nx.m_split rfl rfl rfl rfl (fun hc => ?_) (fun hc => ?_) | refine Nx.m_splitb rfl rfl rfl rfl (fun hc => ?_) (fun hc => ?_)))
    | ((fail_if_success (with_reducible refine Nx.is_at ?_)); (fail_if_success (with_reducible refine Nx.is_wp ?_)); (fail_if_success (with_reducible refine Nx.is_mix ?_)); first | refine Nx.ex ?_)
  rw [e1]
  repeat' first
    | ((with_reducible refine Nx.is_wp ?_); first | refine Nx.wo ?_ | refine Nx.p_dec rfl rfl (fun hc => ?_) (fun hc => ?_) | refine Nx.p_bool rfl rfl (fun hc => ?_) (fun hc => ?_))
    | ((first | refine Nx.at_op rfl rfl ?_ | refine Nx.m_loud rfl rfl rfl ?_ | refine Nx.at_do rfl rfl rfl rfl ?_ | refine Nx.m_loud_do rfl rfl rfl rfl rfl ?_); first | refine Nx.opr rfl rfl ?_ | refine Nx.slice_hi rfl rfl rfl rfl rfl (by omega) ?_ | refine Nx.so ?_ | refine Nx.sb (fun bx => ?_) | refine Nx.sa (fun A2 c2 => ?_))
    | ((with_reducible refine Nx.is_at ?_); first | refine Nx.a ?_ | ((fail_if_success refine Nx.at_do rfl rfl rfl rfl ?_); first | refine Nx.at_dec_t rfl rfl rfl rfl (by first | assumption | omega) ?_ | refine Nx.at_dec_f rfl rfl rfl rfl (by first | assumption | omega) ?_ | refine Nx.at_split rfl rfl rfl rfl (fun hc => ?_) (fun hc => ?_) | refine Nx.at_splitb rfl rfl rfl rfl (fun hc => ?_) (fun hc => ?_)))
    | ((with_reducible refine Nx.is_mix ?_); first | refine Nx.m ?_ | ((fail_if_success refine Nx.m_quiet_do rfl rfl rfl rfl rfl rfl rfl ?_ ?_); (fail_if_success refine Nx.m_loud_do rfl rfl rfl rfl rfl ?_); first | refine Nx.m_dec_t rfl rfl rfl rfl (by first | assumption | omega) ?_ | refine Nx.m_dec_f rfl rfl rfl rfl (by first | assumption | omega) ?_ | refine Nx.m_split rfl rfl rfl rfl (fun hc => ?_) (fun hc => ?_) | refine Nx.m_splitb rfl rfl rfl rfl (fun hc => ?_) (fun hc => ?_)))
    | ((fail_if_success (with_reducible refine Nx.is_at ?_)); (fail_if_success (with_reducible refine Nx.is_wp ?_)); (fail_if_success (with_reducible refine Nx.is_mix ?_)); first | refine Nx.ex ?_)
  rw [e2]
  exact Nx.ret_fn rfl [_] ⟨_, rfl, rfl⟩ (by (exact Ent.auto))
set_option maxRecDepth 10000 in
/-- Where a draw stands, and what it yields: any number below n. -/
theorem Next_spec (b : Nat) (A : Option Addr) (c : Nat) (l : List Int) (k : Nat) (n : Int) (I : PH) (hl : SliceOf (fun x : Int => Value.int .u8 x) I A c l) (hx : ∀ x ∈ l, 0 ≤ x ∧ x < 256) (hk : k ≤ l.length) (hn : 1 ≤ n ∧ n ≤ 1000000) :
    FnSpec Tryd.prog 18 [.pointer (some ⟨b, 0, none⟩), .int .i64 n] I [Blk b 53 [.slice A l.length c, .int .i64 (k : Int)]]
      (fun v R' => ∃ (r : Int) (k' : Nat), v = .int .i64 r ∧ (0 ≤ r ∧ r < n) ∧ k' ≤ l.length ∧ R' = [Blk b 53 [.slice A l.length c, .int .i64 (k' : Int)]]) := by
  have hlen := hl.len
  refine FnSpec.enterP Tryd.func18 rfl Tryd.ntmps18 rfl fun w F => ?_
  have hget : ∀ j : Nat, j < l.length → 0 ≤ l.getD j default ∧ l.getD j default < 256 := fun j h => hx _ (by rw [List.getD_eq_getElem?_getD, List.getElem?_eq_getElem h]; exact List.getElem_mem _)
  have hg1 : 0 < l.length - k → 0 ≤ l.getD ((k : Int) + 1 - 1).toNat default ∧ l.getD ((k : Int) + 1 - 1).toNat default < 256 := fun h => hget _ (by omega)
  have hg2 : 0 < l.length - (k + 1) → 0 ≤ l.getD ((k : Int) + 1).toNat default ∧ l.getD ((k : Int) + 1).toNat default < 256 := fun h => hget _ (by omega)
  repeat' first
    | ((with_reducible refine Nx.is_wp ?_); first | refine Nx.wo ?_ | refine Nx.p_draw (id := 1) rfl [0, 1, 2, 3, 4, 5, 6, 7, 8, 9, 10, 11, 12, 13] [] _ rfl rfl (by kernel_rfl) (by kernel_rfl) rfl (by repeat first | exact PanicOk.fn | refine PanicOk.then_ ?_ | refine PanicOk.inB ?_) (Ent.refl _) ?_ | refine Nx.p_draw (id := 4) rfl [0, 1, 2, 3, 4, 5, 6, 7, 8, 9, 10, 11, 12] [] _ rfl rfl (by kernel_rfl) (by kernel_rfl) rfl (by repeat first | exact PanicOk.fn | refine PanicOk.then_ ?_ | refine PanicOk.inB ?_) (Ent.refl _) ?_ | refine Nx.p_draw (id := 5) rfl [0, 1, 2, 3, 4, 5, 6, 7, 8, 9, 10, 11, 12, 13] [] _ rfl rfl (by kernel_rfl) (by kernel_rfl) rfl (by repeat first | exact PanicOk.fn | refine PanicOk.then_ ?_ | refine PanicOk.inB ?_) (Ent.refl _) ?_ | refine Nx.p_draw (id := 6) rfl [0, 1, 2, 3, 4, 5, 6, 7, 8, 9, 10, 11, 12, 13, 14] [] _ rfl rfl (by kernel_rfl) (by kernel_rfl) rfl (by repeat first | exact PanicOk.fn | refine PanicOk.then_ ?_ | refine PanicOk.inB ?_) (Ent.refl _) ?_ | refine Nx.p_dec rfl rfl (fun hc => ?_) (fun hc => ?_) | refine Nx.p_bool rfl rfl (fun hc => ?_) (fun hc => ?_))
    | ((first | refine Nx.at_op rfl rfl ?_ | refine Nx.m_loud rfl rfl rfl ?_ | refine Nx.at_do rfl rfl rfl rfl ?_ | refine Nx.m_loud_do rfl rfl rfl rfl rfl ?_); first | refine Nx.opr rfl rfl ?_ | refine Nx.so ?_ | refine Nx.sb (fun bx => ?_) | refine Nx.sa (fun A2 c2 => ?_))
    | ((with_reducible refine Nx.is_at ?_); first | refine Nx.a ?_ | ((fail_if_success refine Nx.at_do rfl rfl rfl rfl ?_); first | refine Nx.at_dec_t rfl rfl rfl rfl (by first | assumption | omega) ?_ | refine Nx.at_dec_f rfl rfl rfl rfl (by first | assumption | omega) ?_ | refine Nx.at_split rfl rfl rfl rfl (fun hc => ?_) (fun hc => ?_) | refine Nx.at_splitb rfl rfl rfl rfl (fun hc => ?_) (fun hc => ?_)))
    | ((with_reducible refine Nx.is_mix ?_); first | refine Nx.m_quiet rfl rfl rfl rfl rfl (by first | exact QRun.opr rfl | exact QRun.idxi rfl rfl rfl rfl (by omega) (by omega) (hl.isSome (by omega)) | exact QRun.load rfl rfl (hl.rd (by omega))) ?_ | refine Nx.m_quiet_do rfl rfl rfl rfl rfl rfl rfl (by first | exact QRun.opr rfl | exact QRun.idxi rfl rfl rfl rfl (by omega) (by omega) (hl.isSome (by omega)) | exact QRun.load rfl rfl (hl.rd (by omega))) ?_ | refine Nx.m ?_ | ((fail_if_success refine Nx.m_quiet_do rfl rfl rfl rfl rfl rfl rfl ?_ ?_); (fail_if_success refine Nx.m_loud_do rfl rfl rfl rfl rfl ?_); first | refine Nx.m_dec_t rfl rfl rfl rfl (by first | assumption | omega) ?_ | refine Nx.m_dec_f rfl rfl rfl rfl (by first | assumption | omega) ?_ | refine Nx.m_split rfl rfl rfl rfl (fun hc => ?_) (fun hc => ?_) | refine Nx.m_splitb rfl rfl rfl rfl (fun hc => ?_) (fun hc => ?_)))
    | ((fail_if_success (with_reducible refine Nx.is_at ?_)); (fail_if_success (with_reducible refine Nx.is_wp ?_)); (fail_if_success (with_reducible refine Nx.is_mix ?_)); first | refine Nx.ex ?_)
  · exact Nx.ret_fn rfl [_] ⟨0, k, rfl, ⟨by omega, by omega⟩, hk, rfl⟩ (Ent.refl _)
  · exact Nx.ret_fn rfl [_] ⟨_, k + 2, rfl, ⟨Int.emod_nonneg _ (by omega), Int.emod_lt_of_pos _ (by omega)⟩, by omega, by rw [show ((k + 2 : Nat) : Int) = (k : Int) + 1 + 1 by omega]⟩ (by (exact Ent.auto))
  · exact Nx.ret_fn rfl [_] ⟨_, k + 1, rfl, ⟨Int.emod_nonneg _ (by omega), Int.emod_lt_of_pos _ (by omega)⟩, by omega, by rw [show ((k + 1 : Nat) : Int) = (k : Int) + 1 by omega]⟩ (by (exact Ent.auto))
  · exact Nx.ret_fn rfl [_] ⟨_, k + 1, rfl, ⟨Int.emod_nonneg _ (by omega), Int.emod_lt_of_pos _ (by omega)⟩, by omega, by rw [show ((k + 1 : Nat) : Int) = (k : Int) + 1 by omega]⟩ (by (exact Ent.auto))
end Go.Proofs.YtpdgnjoideppjaaDoor
/- Contracts of functions of the given program, and lemmas about plain lists and numbers: what the laws of this seat lean on. -/
namespace Go.Proofs.YtpdgnjoideppjaaDoor
open Go.Eng
attribute [local irreducible] opK wpList Code.wp Exit.then Exit.inBlock fnPost bodyPost Nx Calls Oper.wp Rd Rds Wr Ent Stars Blk Again Vec FnSpec wpMix QRun Stop Upto wpAt
theorem Valid_t {n d : Int} (h : FOk n d) (I : PH) : FnSpec Tryd.prog 37 [fracV n d] I [] (fun v R' => v = .bool true ∧ R' = []) := by
  have := Valid_spec n d (by have := h.2.2.1; have := h.2.2.2.1; unfold I64; omega) (by have := h.1; have := h.2.1; unfold I64; omega) I
  rw [decide_eq_true h] at this; exact this
theorem Valid_f {n d : Int} (hn : I64 n) (hd : I64 d) (h : ¬FOk n d) (I : PH) : FnSpec Tryd.prog 37 [fracV n d] I [] (fun v R' => v = .bool false ∧ R' = []) := by
  have := Valid_spec n d hn hd I
  rw [decide_eq_false h] at this; exact this
theorem prod_bd {a b : Int} (ha : a.natAbs ≤ 1152921504606846976) (hb : b.natAbs ≤ 1152921504606846976) : (a * b).natAbs ≤ 1329227995784915872903807060280344576 := by
  rw [Int.natAbs_mul]
  exact Nat.mul_le_mul ha hb
theorem fok_abs {n d : Int} (h : FOk n d) : n.natAbs ≤ 1152921504606846976 ∧ d.natAbs ≤ 1152921504606846976 ∧ 0 < d := by
  obtain ⟨h1, h2, h3, h4, _⟩ := h
  omega
theorem fok_i64 {n d : Int} (h : FOk n d) : I64 n ∧ I64 d := by
  obtain ⟨h1, h2, h3, h4, _⟩ := h
  unfold I64; omega
set_option maxRecDepth 10000 in
theorem crossed_spec (n d m e : Int) (hn : I64 n) (hd : I64 d) (hm : I64 m) (he : I64 e) (I : PH) : FnSpec Tryd.prog 59 [fracV n d, fracV m e] I [] (fun v R' => v = .tuple #[wideV (n * e), wideV (m * d)] ∧ R' = []) := by
  refine FnSpec.enterP Tryd.func59 rfl Tryd.ntmps59 rfl fun w F => ?_
  repeat' first
    | ((with_reducible refine Nx.is_wp ?_); first | refine Nx.wo ?_ | refine Nx.p_drawF (id := 1) rfl [0, 1, 3, 4, 7, 8, 10, 11, 2, 5, 6, 9] [2, 5, 6, 9] [12, 13, 14, 15] _ rfl rfl (by kernel_rfl) (by kernel_rfl) rfl (by repeat first | exact PanicOk.fn | refine PanicOk.then_ ?_ | refine PanicOk.inB ?_) (Ent.refl _) ?_ | refine Nx.p_dec rfl rfl (fun hc => ?_) (fun hc => ?_) | refine Nx.p_bool rfl rfl (fun hc => ?_) (fun hc => ?_))
    | ((first | refine Nx.at_op rfl rfl ?_ | refine Nx.m_loud rfl rfl rfl ?_ | refine Nx.at_do rfl rfl rfl rfl ?_ | refine Nx.m_loud_do rfl rfl rfl rfl rfl ?_); first | refine Nx.opr rfl rfl ?_ | refine Nx.callv rfl rfl rfl (by kernel_rfl) rfl (whole_spec _ hn I) ?_ | refine Nx.callv rfl rfl rfl (by kernel_rfl) rfl (whole_spec _ hd I) ?_ | refine Nx.callv rfl rfl rfl (by kernel_rfl) rfl (whole_spec _ hm I) ?_ | refine Nx.callv rfl rfl rfl (by kernel_rfl) rfl (whole_spec _ he I) ?_ | refine Nx.callv rfl rfl rfl (by kernel_rfl) rfl (times_spec _ _ I) ?_ | refine Nx.so ?_ | refine Nx.sb (fun bx => ?_) | refine Nx.sa (fun A2 c2 => ?_))
    | ((with_reducible refine Nx.is_at ?_); first | refine Nx.a ?_ | ((fail_if_success refine Nx.at_do rfl rfl rfl rfl ?_); first | refine Nx.at_dec_t rfl rfl rfl rfl (by first | assumption | omega) ?_ | refine Nx.at_dec_f rfl rfl rfl rfl (by first | assumption | omega) ?_ | refine Nx.at_split rfl rfl rfl rfl (fun hc => ?_) (fun hc => ?_) | refine Nx.at_splitb rfl rfl rfl rfl (fun hc => ?_) (fun hc => ?_)))
    | ((with_reducible refine Nx.is_mix ?_); first | refine Nx.m ?_ | ((fail_if_success refine Nx.m_quiet_do rfl rfl rfl rfl rfl rfl rfl ?_ ?_); (fail_if_success refine Nx.m_loud_do rfl rfl rfl rfl rfl ?_); first | refine Nx.m_dec_t rfl rfl rfl rfl (by first | assumption | omega) ?_ | refine Nx.m_dec_f rfl rfl rfl rfl (by first | assumption | omega) ?_ | refine Nx.m_split rfl rfl rfl rfl (fun hc => ?_) (fun hc => ?_) | refine Nx.m_splitb rfl rfl rfl rfl (fun hc => ?_) (fun hc => ?_)))
    | ((fail_if_success (with_reducible refine Nx.is_at ?_)); (fail_if_success (with_reducible refine Nx.is_wp ?_)); (fail_if_success (with_reducible refine Nx.is_mix ?_)); first | refine Nx.ex ?_)
  exact Nx.ret2 rfl (ROne.cell 1 rfl rfl rfl rfl rfl) (ROne.cell 0 rfl rfl rfl rfl rfl) [] ⟨rfl, rfl⟩ (by (exact Ent.auto))
set_option maxRecDepth 10000 in
theorem combine_spec (n d m e : Int) (hn : I64 n) (hd : I64 d) (hm : I64 m) (he : I64 e) (I : PH) (hT : TabI I) (fo : FuncId) (f : Int → Int → Int) (hcal : callable Tryd.prog fo = true)
    (hf : ∀ a b, FnSpec Tryd.prog fo [wideV a, wideV b] I [] (fun v R' => v = wideV (f a b) ∧ R' = []))
    (hbd : ∀ a b : Int, a.natAbs ≤ 1329227995784915872903807060280344576 → b.natAbs ≤ 1329227995784915872903807060280344576 → (f a b).natAbs < H127) :
    FnSpec Tryd.prog 40 [fracV n d, fracV m e, .func (.func fo) #[] #[]] I [] (fun v R' => v = opV n d m e (Rat.divInt (f (n * e) (m * d)) (d * e)) ∧ R' = []) := by
  unfold opV
  by_cases h1 : FOk n d
  · by_cases h2 : FOk m e
    · obtain ⟨a1, a2, a3⟩ := fok_abs h1
      obtain ⟨b1, b2, b3⟩ := fok_abs h2
      rw [if_pos ⟨h1, h2⟩]
      have hde := prod_bd a2 b2
      have hpos : 0 < d * e := Int.mul_pos a3 b3
      refine FnSpec.enterP Tryd.func40 rfl Tryd.ntmps40 rfl fun w F => ?_
      repeat' first
        | ((with_reducible refine Nx.is_wp ?_); first | refine Nx.wo ?_ | refine Nx.p_drawF (id := 3) rfl [0, 1, 2, 7, 8, 10, 11, 3, 4, 5, 6, 9, 12, 13, 14, 15, 16] [3, 6, 9, 12, 13, 14] [17, 18] _ rfl rfl (by kernel_rfl) (by kernel_rfl) rfl (by repeat first | exact PanicOk.fn | refine PanicOk.then_ ?_ | refine PanicOk.inB ?_) (Ent.refl _) ?_ | refine Nx.p_dec rfl rfl (fun hc => ?_) (fun hc => ?_) | refine Nx.p_bool rfl rfl (fun hc => ?_) (fun hc => ?_))
        | ((first | refine Nx.at_op rfl rfl ?_ | refine Nx.m_loud rfl rfl rfl ?_ | refine Nx.at_do rfl rfl rfl rfl ?_ | refine Nx.m_loud_do rfl rfl rfl rfl rfl ?_); first | refine Nx.opr rfl rfl ?_ | refine Nx.callv rfl rfl rfl (by kernel_rfl) rfl (Valid_t h1 I) ?_ | refine Nx.callv rfl rfl rfl (by kernel_rfl) rfl (Valid_t h2 I) ?_ | refine Nx.callv rfl rfl rfl (by kernel_rfl) rfl (crossed_spec n d m e hn hd hm he I) ?_ | refine Nx.callv rfl rfl rfl (by kernel_rfl) rfl (whole_spec _ hd I) ?_ | refine Nx.callv rfl rfl rfl (by kernel_rfl) rfl (whole_spec _ he I) ?_ | refine Nx.callv rfl rfl rfl (by kernel_rfl) rfl (times_spec _ _ I) ?_ | refine Nx.callv rfl rfl rfl (by kernel_rfl) rfl (Reduced_spec _ _ (hbd _ _ (prod_bd a1 b2) (prod_bd b1 a2)) (by omega) (by unfold H127; omega) I hT) ?_ | refine Nx.callv rfl rfl rfl hcal rfl (hf _ _) ?_ | refine Nx.so ?_ | refine Nx.sb (fun bx => ?_) | refine Nx.sa (fun A2 c2 => ?_))
        | ((with_reducible refine Nx.is_at ?_); first | refine Nx.a ?_ | ((fail_if_success refine Nx.at_do rfl rfl rfl rfl ?_); first | refine Nx.at_dec_t rfl rfl rfl rfl (by first | assumption | omega) ?_ | refine Nx.at_dec_f rfl rfl rfl rfl (by first | assumption | omega) ?_ | refine Nx.at_split rfl rfl rfl rfl (fun hc => ?_) (fun hc => ?_) | refine Nx.at_splitb rfl rfl rfl rfl (fun hc => ?_) (fun hc => ?_)))
        | ((with_reducible refine Nx.is_mix ?_); first | refine Nx.m ?_ | ((fail_if_success refine Nx.m_quiet_do rfl rfl rfl rfl rfl rfl rfl ?_ ?_); (fail_if_success refine Nx.m_loud_do rfl rfl rfl rfl rfl ?_); first | refine Nx.m_dec_t rfl rfl rfl rfl (by first | assumption | omega) ?_ | refine Nx.m_dec_f rfl rfl rfl rfl (by first | assumption | omega) ?_ | refine Nx.m_split rfl rfl rfl rfl (fun hc => ?_) (fun hc => ?_) | refine Nx.m_splitb rfl rfl rfl rfl (fun hc => ?_) (fun hc => ?_)))
        | ((fail_if_success (with_reducible refine Nx.is_at ?_)); (fail_if_success (with_reducible refine Nx.is_wp ?_)); (fail_if_success (with_reducible refine Nx.is_mix ?_)); first | refine Nx.ex ?_)
      exact Nx.ret2 rfl (ROne.cell 0 rfl rfl rfl rfl rfl) (ROne.tmp rfl) [] ⟨rfl, rfl⟩ (by (exact Ent.auto))
    · rw [if_neg (fun h => h2 h.2)]
      refine FnSpec.enterP Tryd.func40 rfl Tryd.ntmps40 rfl fun w F => ?_
      repeat' first
        | ((with_reducible refine Nx.is_wp ?_); first | refine Nx.wo ?_ | refine Nx.p_dec rfl rfl (fun hc => ?_) (fun hc => ?_) | refine Nx.p_bool rfl rfl (fun hc => ?_) (fun hc => ?_))
        | ((first | refine Nx.at_op rfl rfl ?_ | refine Nx.m_loud rfl rfl rfl ?_ | refine Nx.at_do rfl rfl rfl rfl ?_ | refine Nx.m_loud_do rfl rfl rfl rfl rfl ?_); first | refine Nx.opr rfl rfl ?_ | refine Nx.callv rfl rfl rfl (by kernel_rfl) rfl (Valid_t h1 I) ?_ | refine Nx.callv rfl rfl rfl (by kernel_rfl) rfl (Valid_f hm he h2 I) ?_ | refine Nx.so ?_ | refine Nx.sb (fun bx => ?_) | refine Nx.sa (fun A2 c2 => ?_))
        | ((with_reducible refine Nx.is_at ?_); first | refine Nx.a ?_ | ((fail_if_success refine Nx.at_do rfl rfl rfl rfl ?_); first | refine Nx.at_dec_t rfl rfl rfl rfl (by first | assumption | omega) ?_ | refine Nx.at_dec_f rfl rfl rfl rfl (by first | assumption | omega) ?_ | refine Nx.at_split rfl rfl rfl rfl (fun hc => ?_) (fun hc => ?_) | refine Nx.at_splitb rfl rfl rfl rfl (fun hc => ?_) (fun hc => ?_)))
        | ((with_reducible refine Nx.is_mix ?_); first | refine Nx.m ?_ | ((fail_if_success refine Nx.m_quiet_do rfl rfl rfl rfl rfl rfl rfl ?_ ?_); (fail_if_success refine Nx.m_loud_do rfl rfl rfl rfl rfl ?_); first | refine Nx.m_dec_t rfl rfl rfl rfl (by first | assumption | omega) ?_ | refine Nx.m_dec_f rfl rfl rfl rfl (by first | assumption | omega) ?_ | refine Nx.m_split rfl rfl rfl rfl (fun hc => ?_) (fun hc => ?_) | refine Nx.m_splitb rfl rfl rfl rfl (fun hc => ?_) (fun hc => ?_)))
        | ((fail_if_success (with_reducible refine Nx.is_at ?_)); (fail_if_success (with_reducible refine Nx.is_wp ?_)); (fail_if_success (with_reducible refine Nx.is_mix ?_)); first | refine Nx.ex ?_)
      exact Nx.ret2 rfl (ROne.cell 0 rfl rfl rfl rfl rfl) (ROne.tmp rfl) [] ⟨rfl, rfl⟩ (by (exact Ent.auto))
  · rw [if_neg (fun h => h1 h.1)]
    refine FnSpec.enterP Tryd.func40 rfl Tryd.ntmps40 rfl fun w F => ?_
    repeat' first
      | ((with_reducible refine Nx.is_wp ?_); first | refine Nx.wo ?_ | refine Nx.p_dec rfl rfl (fun hc => ?_) (fun hc => ?_) | refine Nx.p_bool rfl rfl (fun hc => ?_) (fun hc => ?_))
      | ((first | refine Nx.at_op rfl rfl ?_ | refine Nx.m_loud rfl rfl rfl ?_ | refine Nx.at_do rfl rfl rfl rfl ?_ | refine Nx.m_loud_do rfl rfl rfl rfl rfl ?_); first | refine Nx.opr rfl rfl ?_ | refine Nx.callv rfl rfl rfl (by kernel_rfl) rfl (Valid_f hn hd h1 I) ?_ | refine Nx.so ?_ | refine Nx.sb (fun bx => ?_) | refine Nx.sa (fun A2 c2 => ?_))
      | ((with_reducible refine Nx.is_at ?_); first | refine Nx.a ?_ | ((fail_if_success refine Nx.at_do rfl rfl rfl rfl ?_); first | refine Nx.at_dec_t rfl rfl rfl rfl (by first | assumption | omega) ?_ | refine Nx.at_dec_f rfl rfl rfl rfl (by first | assumption | omega) ?_ | refine Nx.at_split rfl rfl rfl rfl (fun hc => ?_) (fun hc => ?_) | refine Nx.at_splitb rfl rfl rfl rfl (fun hc => ?_) (fun hc => ?_)))
      | ((with_reducible refine Nx.is_mix ?_); first | refine Nx.m ?_ | ((fail_if_success refine Nx.m_quiet_do rfl rfl rfl rfl rfl rfl rfl ?_ ?_); (fail_if_success refine Nx.m_loud_do rfl rfl rfl rfl rfl ?_); first | refine Nx.m_dec_t rfl rfl rfl rfl (by first | assumption | omega) ?_ | refine Nx.m_dec_f rfl rfl rfl rfl (by first | assumption | omega) ?_ | refine Nx.m_split rfl rfl rfl rfl (fun hc => ?_) (fun hc => ?_) | refine Nx.m_splitb rfl rfl rfl rfl (fun hc => ?_) (fun hc => ?_)))
      | ((fail_if_success (with_reducible refine Nx.is_at ?_)); (fail_if_success (with_reducible refine Nx.is_wp ?_)); (fail_if_success (with_reducible refine Nx.is_mix ?_)); first | refine Nx.ex ?_)
    exact Nx.ret2 rfl (ROne.cell 0 rfl rfl rfl rfl rfl) (ROne.tmp rfl) [] ⟨rfl, rfl⟩ (by (exact Ent.auto))
end Go.Proofs.YtpdgnjoideppjaaDoor
/- Contracts of functions of the given program, and lemmas about plain lists and numbers: what the laws of this seat lean on. -/
namespace Go.Proofs.YtpdgnjoideppjaaDoor
open Go.Eng
attribute [local irreducible] opK wpList Code.wp Exit.then Exit.inBlock fnPost bodyPost Nx Calls Oper.wp Rd Rds Wr Ent Stars Blk Again Vec FnSpec wpMix QRun Stop Upto wpAt
/-- Codes: bytes, at most 400 of them, and how many are used up. -/
structure CodesI (I : PH) (A : Option Addr) (c : Nat) (L : List Int) : Prop where
  sl : SliceOf (fun x : Int => Value.int .u8 x) I A c L
  each : ∀ x ∈ L, 0 ≤ x ∧ x < 256
def CodesR (b : Nat) (A : Option Addr) (c : Nat) (L : List Int) (k : Nat) : Res := Blk b 53 [.slice A L.length c, .int .i64 (k : Int)]
theorem CodesI.mono {I I' : PH} {A : Option Addr} {c : Nat} {L : List Int} (hle : PH.le I I') (h : CodesI I A c L) : CodesI I' A c L := ⟨h.sl.mono hle, h.each⟩
theorem Next_codes (b : Nat) (A : Option Addr) (c : Nat) (L : List Int) (k : Nat) (n : Int) (I : PH) (hL : CodesI I A c L) (hk : k ≤ L.length) (hn : 1 ≤ n ∧ n ≤ 1000000) :
    FnSpec Tryd.prog 18 [.pointer (some ⟨b, 0, none⟩), .int .i64 n] I [CodesR b A c L k]
      (fun v R' => ∃ (r : Int) (k' : Nat), v = .int .i64 r ∧ (0 ≤ r ∧ r < n) ∧ k' ≤ L.length ∧ R' = [CodesR b A c L k']) := Next_spec b A c L k n I hL.sl hL.each hk hn
theorem New_codes (A : Option Addr) (c : Nat) (l : List Int) (I : PH) (hl : SliceOf (fun x : Int => Value.int .u8 x) I A c l) (hx : ∀ x ∈ l, 0 ≤ x ∧ x < 256) :
    CodesI I A c (l.take 400) ∧ FnSpec Tryd.prog 8 [.slice A l.length c] I [] (fun v R' => ∃ b, v = .pointer (some ⟨b, 0, none⟩) ∧ R' = [CodesR b A c (l.take 400) 0]) := by
  refine ⟨⟨⟨?_, ?_, hl.max⟩, fun x h => hx x (List.mem_of_mem_take h)⟩, New_spec A c l I hl⟩
  · intro j u hj
    refine hl.arr j u ?_
    rw [List.map_take, List.getElem?_take] at hj
    split at hj
    · exact hj
    · cases hj
  · have := hl.cap
    rw [List.length_take]
    omega
set_option maxRecDepth 10000 in
theorem Range_codes (b : Nat) (A : Option Addr) (c : Nat) (L : List Int) (k : Nat) (lo hi : Int) (I : PH) (hL : CodesI I A c L) (hk : k ≤ L.length) (hlo : -1000000 ≤ lo ∧ lo ≤ 1000000) (hh : lo ≤ hi ∧ hi ≤ lo + 999999) :
    FnSpec Tryd.prog 9 [.pointer (some ⟨b, 0, none⟩), .int .i64 lo, .int .i64 hi] I [CodesR b A c L k]
      (fun v R' => ∃ (r : Int) (k' : Nat), v = .int .i64 r ∧ (lo ≤ r ∧ r ≤ hi) ∧ k' ≤ L.length ∧ R' = [CodesR b A c L k']) := by
  refine FnSpec.enterP Tryd.func9 rfl Tryd.ntmps9 rfl fun w F => ?_
  repeat' first
    | ((with_reducible refine Nx.is_wp ?_); first | refine Nx.wo ?_ | refine Nx.p_dec rfl rfl (fun hc => ?_) (fun hc => ?_) | refine Nx.p_bool rfl rfl (fun hc => ?_) (fun hc => ?_))
    | ((first | refine Nx.at_op rfl rfl ?_ | refine Nx.m_loud rfl rfl rfl ?_ | refine Nx.at_do rfl rfl rfl rfl ?_ | refine Nx.m_loud_do rfl rfl rfl rfl rfl ?_); first | refine Nx.opr rfl rfl ?_ | refine Nx.call rfl rfl rfl (by kernel_rfl) rfl (Next_codes b A c L k _ I hL hk (by omega)) (Ent.refl _) ?_; rintro _ _ ⟨r, k1, rfl, hr, hk1, rfl⟩ | refine Nx.so ?_ | refine Nx.sb (fun bx => ?_) | refine Nx.sa (fun A2 c2 => ?_))
    | ((with_reducible refine Nx.is_at ?_); first | refine Nx.a ?_ | ((fail_if_success refine Nx.at_do rfl rfl rfl rfl ?_); first | refine Nx.at_dec_t rfl rfl rfl rfl (by first | assumption | omega) ?_ | refine Nx.at_dec_f rfl rfl rfl rfl (by first | assumption | omega) ?_ | refine Nx.at_split rfl rfl rfl rfl (fun hc => ?_) (fun hc => ?_) | refine Nx.at_splitb rfl rfl rfl rfl (fun hc => ?_) (fun hc => ?_)))
    | ((with_reducible refine Nx.is_mix ?_); first | refine Nx.m ?_ | ((fail_if_success refine Nx.m_quiet_do rfl rfl rfl rfl rfl rfl rfl ?_ ?_); (fail_if_success refine Nx.m_loud_do rfl rfl rfl rfl rfl ?_); first | refine Nx.m_dec_t rfl rfl rfl rfl (by first | assumption | omega) ?_ | refine Nx.m_dec_f rfl rfl rfl rfl (by first | assumption | omega) ?_ | refine Nx.m_split rfl rfl rfl rfl (fun hc => ?_) (fun hc => ?_) | refine Nx.m_splitb rfl rfl rfl rfl (fun hc => ?_) (fun hc => ?_)))
    | ((fail_if_success (with_reducible refine Nx.is_at ?_)); (fail_if_success (with_reducible refine Nx.is_wp ?_)); (fail_if_success (with_reducible refine Nx.is_mix ?_)); first | refine Nx.ex ?_)
  exact Nx.ret_fn rfl [_] ⟨_, k1, rfl, ⟨by omega, by omega⟩, hk1, rfl⟩ (by (exact Ent.auto))
theorem div_bd (n d : Int) (h0 : d ≠ 0) : (Rat.divInt n d).num.natAbs ≤ n.natAbs ∧ (Rat.divInt n d).den ≤ d.natAbs := by
  by_cases h : d < 0
  · obtain ⟨D, rfl⟩ : ∃ D : Nat, d = -(D : Int) := ⟨d.natAbs, by omega⟩
    obtain ⟨z, rfl⟩ : ∃ z : Int, n = -z := ⟨-n, by omega⟩
    rw [Rat.neg_divInt_neg]
    obtain ⟨e1, e2, _⟩ := div_parts z (by omega : 0 < D)
    rw [e1, e2]
    have := Nat.div_le_self z.natAbs (Nat.gcd D z.natAbs)
    have := Nat.div_le_self D (Nat.gcd D z.natAbs)
    omega
  · obtain ⟨D, rfl⟩ : ∃ D : Nat, d = (D : Int) := ⟨d.natAbs, by omega⟩
    obtain ⟨e1, e2, _⟩ := div_parts n (by omega : 0 < D)
    rw [e1, e2]
    have := Nat.div_le_self n.natAbs (Nat.gcd D n.natAbs)
    have := Nat.div_le_self D (Nat.gcd D n.natAbs)
    omega
end Go.Proofs.YtpdgnjoideppjaaDoor
/- Contracts of functions of the given program, and lemmas about plain lists and numbers: what the laws of this seat lean on. -/
namespace Go.Proofs.YtpdgnjoideppjaaDoor
open Go.Eng Go.Det
attribute [local irreducible] opK wpList Code.wp Exit.then Exit.inBlock fnPost bodyPost Nx Calls Oper.wp Rd Rds Wr Ent Stars Blk Again Vec FnSpec wpMix QRun Stop Upto wpAt
/-! What is drawn -/
set_option maxRecDepth 10000 in
theorem One_codes (b : Nat) (A : Option Addr) (c : Nat) (L : List Int) (k : Nat) (n : Int) (I : PH) (hL : CodesI I A c L) (hk : k ≤ L.length) (hn : 1 ≤ n ∧ n ≤ 1000000) :
    FnSpec Tryd.prog 22 [.pointer (some ⟨b, 0, none⟩), .int .i64 n] I [CodesR b A c L k]
      (fun v R' => ∃ (r : Bool) (k' : Nat), v = .bool r ∧ k' ≤ L.length ∧ R' = [CodesR b A c L k']) := by
  refine FnSpec.enterP Tryd.func22 rfl Tryd.ntmps22 rfl fun w F => ?_
  repeat' first
    | ((with_reducible refine Nx.is_wp ?_); first | refine Nx.wo ?_ | refine Nx.p_dec rfl rfl (fun hc => ?_) (fun hc => ?_) | refine Nx.p_bool rfl rfl (fun hc => ?_) (fun hc => ?_))
    | ((first | refine Nx.at_op rfl rfl ?_ | refine Nx.m_loud rfl rfl rfl ?_ | refine Nx.at_do rfl rfl rfl rfl ?_ | refine Nx.m_loud_do rfl rfl rfl rfl rfl ?_); first | refine Nx.opr rfl rfl ?_ | refine Nx.call rfl rfl rfl (by kernel_rfl) rfl (Next_codes b A c L k n I hL hk hn) (Ent.refl _) ?_; rintro _ _ ⟨r, k1, rfl, hr, hk1, rfl⟩ | refine Nx.so ?_ | refine Nx.sb (fun bx => ?_) | refine Nx.sa (fun A2 c2 => ?_))
    | ((with_reducible refine Nx.is_at ?_); first | refine Nx.a ?_ | ((fail_if_success refine Nx.at_do rfl rfl rfl rfl ?_); first | refine Nx.at_dec_t rfl rfl rfl rfl (by first | assumption | omega) ?_ | refine Nx.at_dec_f rfl rfl rfl rfl (by first | assumption | omega) ?_ | refine Nx.at_split rfl rfl rfl rfl (fun hc => ?_) (fun hc => ?_) | refine Nx.at_splitb rfl rfl rfl rfl (fun hc => ?_) (fun hc => ?_)))
    | ((with_reducible refine Nx.is_mix ?_); first | refine Nx.m ?_ | ((fail_if_success refine Nx.m_quiet_do rfl rfl rfl rfl rfl rfl rfl ?_ ?_); (fail_if_success refine Nx.m_loud_do rfl rfl rfl rfl rfl ?_); first | refine Nx.m_dec_t rfl rfl rfl rfl (by first | assumption | omega) ?_ | refine Nx.m_dec_f rfl rfl rfl rfl (by first | assumption | omega) ?_ | refine Nx.m_split rfl rfl rfl rfl (fun hc => ?_) (fun hc => ?_) | refine Nx.m_splitb rfl rfl rfl rfl (fun hc => ?_) (fun hc => ?_)))
    | ((fail_if_success (with_reducible refine Nx.is_at ?_)); (fail_if_success (with_reducible refine Nx.is_wp ?_)); (fail_if_success (with_reducible refine Nx.is_mix ?_)); first | refine Nx.ex ?_)
  exact Nx.ret_fn rfl [_] ⟨_, k1, rfl, hk1, rfl⟩ (by (exact Ent.auto))
/-- Numbers of a size. -/
def Sized (l : List Int) (b : Int) : Prop := ∀ x ∈ l, -b ≤ x ∧ x ≤ b
theorem Sized.snoc {l : List Int} {b z : Int} (h : Sized l b) (hz : -b ≤ z ∧ z ≤ b) : Sized (l ++ [z]) b := fun x hx => by
  rcases List.mem_append.1 hx with h1 | h1
  · exact h x h1
  · rw [List.mem_singleton.1 h1]; exact hz
/-! A matrix that is built and changed -/
/-- n rows of n numbers, of which something holds. -/
structure MOk (o : List Row) (n : Nat) (P : Nat → Nat → Int → Prop) : Prop where
  len : o.length = n
  row : ∀ i, i < n → (o.getD i default).2.2.length = n
  some : ∀ i, i < n → (o.getD i default).1.isSome = true
  ent : ∀ i j, i < n → j < n → P i j ((o.getD i default).2.2.getD j default)
theorem MOk.weak {o : List Row} {n : Nat} {P Q : Nat → Nat → Int → Prop} (h : MOk o n P) (hPQ : ∀ i j z, P i j z → Q i j z) : MOk o n Q := ⟨h.len, h.row, h.some, fun i j hi hj => hPQ _ _ _ (h.ent i j hi hj)⟩
/-- A number is changed. -/
def setRow (o : List Row) (i j : Nat) (z : Int) : List Row := o.set i ((o.getD i default).1, (o.getD i default).2.1, (o.getD i default).2.2.set j z)
theorem getD_set {α : Type} [Inhabited α] {l : List α} {i k : Nat} {x : α} (hk : k < l.length) : (l.set i x).getD k default = if k = i then x else l.getD k default := by
  rw [List.getD_eq_getElem?_getD, List.getElem?_set]
  by_cases h : i = k
  · rw [if_pos h, if_pos h.symm, if_pos (by omega)]; rfl
  · rw [if_neg h, if_neg (Ne.symm h), ← List.getD_eq_getElem?_getD]
theorem MOk.set {o : List Row} {n : Nat} {P : Nat → Nat → Int → Prop} (h : MOk o n P) {i j : Nat} {z : Int} (hz : P i j z) : MOk (setRow o i j z) n P := by
  have hl := h.len
  refine ⟨by unfold setRow; rw [List.length_set]; exact hl, fun k hk => ?_, fun k hk => ?_, fun k m hk hm => ?_⟩
  · unfold setRow
    rw [getD_set (by omega)]
    split
    · rename_i he; subst he; rw [List.length_set]; exact h.row k hk
    · exact h.row k hk
  · unfold setRow
    rw [getD_set (by omega)]
    split
    · rename_i he; subst he; exact h.some k hk
    · exact h.some k hk
  · unfold setRow
    rw [getD_set (by omega)]
    split
    · rename_i he
      subst he
      rw [getD_set (by rw [h.row k hk]; exact hm)]
      split
      · rename_i he2; subst he2; exact hz
      · exact h.ent k m hk hm
    · exact h.ent k m hk hm
theorem setRow_outer {o : List Row} {i j : Nat} {z : Int} (hi : i < o.length) : (setRow o i j z).map rowV = o.map rowV := by
  have e : rowV ((o.getD i default).1, (o.getD i default).2.1, (o.getD i default).2.2.set j z) = (o.map rowV)[i]'(by rw [List.length_map]; exact hi) := by
    rw [List.getElem_map, show o.getD i default = o[i] by rw [List.getD_eq_getElem?_getD, List.getElem?_eq_getElem hi]; rfl]
    show Value.slice _ (List.set _ _ _).length _ = Value.slice _ _ _
    rw [List.length_set]
  unfold setRow
  rw [List.map_set, e, List.set_getElem_self]
theorem row_get {o : List Row} {i : Nat} (hi : i < o.length) : (o.map rowR)[i]? = some (rowR (o.getD i default)) := by
  rw [List.getElem?_map, List.getElem?_eq_getElem hi, List.getD_eq_getElem?_getD, List.getElem?_eq_getElem hi]; rfl
/-- A number of an owned matrix is read. -/
theorem row_rd {W : World} {I : PH} {R : List Res} (k : Nat) {o : List Row} (hk : nthL R k = some (Stars (o.map rowR))) {i j : Nat} (hi : i < o.length) (hj : j < (o.getD i default).2.2.length) : Rd W I R ((ad (o.getD i default).1).add (j * 1)) (.int .i64 ((o.getD i default).2.2.getD j default)) :=
  Rd.ent ((Ent.pull k R _ (nthL_eq.symm.trans hk)).trans (Ent.takeOut i (row_get hi))) (Rd.vecEl 0 (f := Value.int .i64) rfl hj)
/-- A number of an owned matrix is changed. -/
theorem Nx.store_row {C : Cx} {e : Env} {I : PH} {R : List Res} {K : Act → World → Prop} {Q : Exit → Act → World → Prop} {t ty : TypeId} {pos : String} {after : Array Edge} {g : Option (Nat × Bool)} {x y : Operand} (k : Nat) {o : List Row} {i j : Nat} {z : Int} (hx : evo e x = some (.pointer (some ((ad (o.getD i default).1).add (j * 1))))) (hy : evo e y = some (.int .i64 z)) (hn : Go.Eng.cellsIn C.P t = some 1) (hk : nthL R k = some (Stars (o.map rowR))) (hi : i < o.length) (hj : j < (o.getD i default).2.2.length)
    (h : Nx C e I (Stars ((setRow o i j z).map rowR) :: R.eraseIdx k) K) : Nx C e I R (opK C.P ⟨none, .store t x y, ty, pos, after, g⟩ K Q) := by
  refine Nx.ent ((Ent.pull k R _ (nthL_eq.symm.trans hk)).trans (Ent.takeOut i (row_get hi))) ?_
  refine Nx.store_of 0 (Value.int .i64) hx hy rfl rfl hn rfl hj ?_
  refine Nx.ent ?_ h
  have h1 := Ent.putIn i (B := o.map rowR) (R := R.eraseIdx k) (r := rowR ((o.getD i default).1, (o.getD i default).2.1, (o.getD i default).2.2.set j z)) (by rw [List.length_map]; exact hi)
  have h2 : (setRow o i j z).map rowR = (o.map rowR).set i (rowR ((o.getD i default).1, (o.getD i default).2.1, (o.getD i default).2.2.set j z)) := List.map_set
  rw [h2]
  refine Ent.trans ?_ h1
  unfold rowR intsR
  dsimp only
  rw [List.length_set]
  exact Ent.refl _
end Go.Proofs.YtpdgnjoideppjaaDoor
/-
  The proof engine, part AI: conversion to a number without sign, in an open statement.
-/
namespace Go.Eng
theorem QRun.conv_u64 {C : Cx} {e : Env} {S : World → Prop} {ty t u : TypeId} {pos : String} {after : Array Edge} {g : Option (Nat × Bool)} {x : Operand} {k : IntKind} {p : Int} {s : TypeDesc} {dst : Option Tmp} (hx : evo e x = some (.int k p)) (hs : C.P.underlying t = some s) (ht : C.P.underlying u = some (.int .u64)) : QRun C e S ⟨dst, .convert t u x, ty, pos, after, g⟩ (.int .u64 (p % B64)) := fun a w ha _ => by
  simp only [execOp, ha.eval hx]
  refine run_v ?_
  unfold convert
  rw [Sem.run_bind, run_underlying hs, Result.andThen_ok, Sem.run_bind, run_underlying ht, Result.andThen_ok]
  show Result.ok (Value.int .u64 (IntKind.u64.wrap p)) w = _
  rw [IntKind.wrap_u64]
end Go.Eng
