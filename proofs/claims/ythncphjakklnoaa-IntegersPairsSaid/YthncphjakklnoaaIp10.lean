/- Contracts of functions of the given program, and lemmas about plain lists and numbers: what the laws of this seat lean on. -/
import Derived.Test.YthncphjakklnoaaIp9
namespace Go.Proofs.Ythncphjakklnoaa
open Go.Eng Go.Sol
attribute [local irreducible] opK wpList Code.wp Exit.then Exit.inBlock fnPost bodyPost Nx Calls Oper.wp Rd Rds Wr Ent Stars Blk Again Vec FnSpec wpMix QRun Stop Upto wpAt
theorem reachR_ok {N : Nat} {qs : List EqR} (h : chkQ (N : Int) qs = 0) (hne : solsOf N (eqns qs) ≠ []) : reachR (N : Int) qs = ((List.range N).map (reachAt N (eqns qs)), 0) := by
  unfold reachR
  rw [if_pos h, Int.toNat_natCast, if_neg hne]
theorem ext_all {N x : Nat} {qs : List EqR} (hg : ∀ q ∈ qs, GoodE N q) (hne : solsOf N (eqns qs) ≠ []) (hx : x ∈ touch N (eqns qs)) (down : Bool) : (extOf N (eqns qs) x down).headD [] ∈ solsOf N (eqns qs) ∧ ∀ s ∈ solsOf N (eqns qs), if down then s.getD x 0 ≤ ((extOf N (eqns qs) x down).headD []).getD x 0 else ((extOf N (eqns qs) x down).headD []).getD x 0 ≤ s.getD x 0 := by
  obtain ⟨a, ra, ha, _⟩ := ext_some down hg hx hne
  have h := ext_head hg hx ha
  rw [ha]
  exact h
theorem pairR_in {N x : Nat} {qs : List EqR} (h : chkQ (N : Int) qs = 0) (hxN : x < N) (hne : solsOf N (eqns qs) ≠ []) (hx : x ∈ touch N (eqns qs)) : pairR (N : Int) qs (x : Int) = ((extOf N (eqns qs) x false).headD [], (extOf N (eqns qs) x true).headD [], 0) := by
  unfold pairR
  rw [if_pos h, if_neg (by omega), Int.toNat_natCast, Int.toNat_natCast, if_neg hne, if_pos hx]
theorem pairR_out {N x : Nat} {qs : List EqR} (h : chkQ (N : Int) qs = 0) (hxN : x < N) (hne : solsOf N (eqns qs) ≠ []) (hx : x ∉ touch N (eqns qs)) : pairR (N : Int) qs (x : Int) = ([], [], 21) := by
  unfold pairR
  rw [if_pos h, if_neg (by omega), Int.toNat_natCast, Int.toNat_natCast, if_neg hne, if_neg hx]
theorem range_at {α : Type} [Inhabited α] {f : Nat → α} {N x : Nat} (hx : x < N) : ((List.range N).map f).getD x default = f x := by
  rw [List.getD_eq_getElem?_getD, List.getElem?_map, List.getElem?_range hx]; rfl
set_option maxRecDepth 10000 in
set_option maxHeartbeats 16000000 in
theorem IntegersPairs_spec (A : Option Addr) (c : Nat) (l : List Int) (I : PH) (hl : Bytes I A c l) (hx : ∀ x ∈ l, 0 ≤ x ∧ x < 256) :
    FnSpec Try.prog 7 [.slice A l.length c] I [] (fun v R' => v = .bool true ∧ R' = []) := by
  have hL := bytes_take hl hx
  refine FnSpec.enterP Try.func7 rfl Try.ntmps7 rfl fun w F => ?_
  repeat' first
    | ((with_reducible refine Nx.is_wp ?_); first | refine Nx.p_stopr 2 rfl ?_ | refine Nx.wo ?_ | refine Nx.p_dec rfl rfl (fun hc => ?_) (fun hc => ?_) | refine Nx.p_bool rfl rfl (fun hc => ?_) (fun hc => ?_))
    | ((first | refine Nx.at_op rfl rfl ?_ | refine Nx.m_loud rfl rfl rfl ?_ | refine Nx.at_do rfl rfl rfl rfl ?_ | refine Nx.m_loud_do rfl rfl rfl rfl rfl ?_); first | refine Nx.opr rfl rfl ?_ | (refine Nx.call (Rpre := []) rfl rfl rfl (by kernel_rfl) rfl (New_codes A c l I hl) (Ent.refl _) ?_; rintro _ _ ⟨b, rfl, rfl⟩) | (refine Nx.call rfl rfl rfl (by kernel_rfl) rfl (Equations_made b A c _ 0 2 I hL (Nat.zero_le _) (by omega)) (by (exact Ent.auto)) ?_; rintro _ _ ⟨N, At, ct, t, Aq, cq, qs, k1, rfl, hE, hk1, rfl⟩) | refine Nx.so ?_ | refine Nx.sb (fun bx => ?_) | refine Nx.sa (fun A2 c2 => ?_))
    | ((with_reducible refine Nx.is_at ?_); first | refine Nx.a ?_ | ((fail_if_success refine Nx.at_do rfl rfl rfl rfl ?_); first | refine Nx.at_dec_t rfl rfl rfl rfl (by first | assumption | omega) ?_ | refine Nx.at_dec_f rfl rfl rfl rfl (by first | assumption | omega) ?_ | refine Nx.at_split rfl rfl rfl rfl (fun hc => ?_) (fun hc => ?_) | refine Nx.at_splitb rfl rfl rfl rfl (fun hc => ?_) (fun hc => ?_)))
    | ((with_reducible refine Nx.is_mix ?_); first | refine Nx.m ?_ | ((fail_if_success refine Nx.m_quiet_do rfl rfl rfl rfl rfl rfl rfl ?_ ?_); (fail_if_success refine Nx.m_loud_do rfl rfl rfl rfl rfl ?_); first | refine Nx.m_dec_t rfl rfl rfl rfl (by first | assumption | omega) ?_ | refine Nx.m_dec_f rfl rfl rfl rfl (by first | assumption | omega) ?_ | refine Nx.m_split rfl rfl rfl rfl (fun hc => ?_) (fun hc => ?_) | refine Nx.m_splitb rfl rfl rfl rfl (fun hc => ?_) (fun hc => ?_)))
    | ((fail_if_success (with_reducible refine Nx.is_at ?_)); (fail_if_success (with_reducible refine Nx.is_wp ?_)); (fail_if_success (with_reducible refine Nx.is_mix ?_)); first | refine Nx.ex ?_)
  refine Nx.unstop ?_
  refine Nx.giveEqs (At := At) (ct := ct) (t := t) (A := Aq) (c := cq) (qs := qs) (RR := [F]) (by refine Ent.trans ?_ Ent.stars; unfold eqsR; (exact Ent.auto)) fun I1 hI1 ht hq => ?_
  have hall := hE.all
  have hN := hE.n
  have hfew := hE.few
  have hg := hE.good
  have htn := hE.len
  have hchk := chk_of hN (show qs.length ≤ 1152 by omega) hg
  have hS := Reaches_spec (N : Int) Aq cq qs I1 hq (by omega)
  by_cases hsm : smallB N (eqns qs) = false
  · rw [if_pos hsm] at hchk
    have hso : reachR (N : Int) qs = ([], 1) := by unfold reachR; rw [hchk, if_neg (by decide)]
    rw [hso] at hS
    dsimp only at hS
    repeat' first
      | ((with_reducible refine Nx.is_wp ?_); first | refine Nx.wo ?_ | refine Nx.p_dec rfl rfl (fun hc => ?_) (fun hc => ?_) | refine Nx.p_bool rfl rfl (fun hc => ?_) (fun hc => ?_))
      | ((first | refine Nx.at_op rfl rfl ?_ | refine Nx.m_loud rfl rfl rfl ?_ | refine Nx.at_do rfl rfl rfl rfl ?_ | refine Nx.m_loud_do rfl rfl rfl rfl rfl ?_); first | refine Nx.opr rfl rfl ?_ | (refine Nx.call (Rpre := []) rfl rfl rfl (by kernel_rfl) rfl (little_spec (N : Int) Aq cq qs I1 hq) (Ent.refl _) ?_; rintro _ _ ⟨bl, rfl, rfl⟩; cases bl) | refine Nx.callv rfl rfl rfl (by kernel_rfl) rfl (awakeI_spec _) ?_ | (refine Nx.call (Rpre := []) rfl rfl rfl (by kernel_rfl) rfl hS (Ent.refl _) ?_; rintro _ _ ⟨As, cs, rfl, rfl⟩) | refine Nx.so ?_ | refine Nx.sb (fun bx => ?_) | refine Nx.sa (fun A2 c2 => ?_))
      | ((with_reducible refine Nx.is_at ?_); first | refine Nx.a ?_ | ((fail_if_success refine Nx.at_do rfl rfl rfl rfl ?_); first | refine Nx.at_dec_t rfl rfl rfl rfl (by first | assumption | omega) ?_ | refine Nx.at_dec_f rfl rfl rfl rfl (by first | assumption | omega) ?_ | refine Nx.at_split rfl rfl rfl rfl (fun hc => ?_) (fun hc => ?_) | refine Nx.at_splitb rfl rfl rfl rfl (fun hc => ?_) (fun hc => ?_)))
      | ((with_reducible refine Nx.is_mix ?_); first | refine Nx.m ?_ | ((fail_if_success refine Nx.m_quiet_do rfl rfl rfl rfl rfl rfl rfl ?_ ?_); (fail_if_success refine Nx.m_loud_do rfl rfl rfl rfl rfl ?_); first | refine Nx.m_dec_t rfl rfl rfl rfl (by first | assumption | omega) ?_ | refine Nx.m_dec_f rfl rfl rfl rfl (by first | assumption | omega) ?_ | refine Nx.m_split rfl rfl rfl rfl (fun hc => ?_) (fun hc => ?_) | refine Nx.m_splitb rfl rfl rfl rfl (fun hc => ?_) (fun hc => ?_)))
      | ((fail_if_success (with_reducible refine Nx.is_at ?_)); (fail_if_success (with_reducible refine Nx.is_wp ?_)); (fail_if_success (with_reducible refine Nx.is_mix ?_)); first | refine Nx.ex ?_)
    all_goals exact Nx.imm_le hI1 (Nx.ret_fn rfl [] ⟨rfl, rfl⟩ (by (exact Ent.auto)))
  rw [if_neg hsm] at hchk
  have hsne := hE.some
  have hwant := hE.want
  rw [reachR_ok hchk hsne] at hS
  have hrl : ((List.range N).map (reachAt N (eqns qs))).length = N := by simp
  have hra : ∀ x, x < N → ((List.range N).map (reachAt N (eqns qs))).getD x default = reachAt N (eqns qs) x := fun x hx => range_at hx
  generalize (List.range N).map (reachAt N (eqns qs)) = rl at hS hrl hra
  dsimp only at hS
  repeat' first
    | ((with_reducible refine Nx.is_wp ?_); first | refine Nx.wo ?_ | refine Nx.p_dec rfl rfl (fun hc => ?_) (fun hc => ?_) | refine Nx.p_bool rfl rfl (fun hc => ?_) (fun hc => ?_))
    | ((first | refine Nx.at_op rfl rfl ?_ | refine Nx.m_loud rfl rfl rfl ?_ | refine Nx.at_do rfl rfl rfl rfl ?_ | refine Nx.m_loud_do rfl rfl rfl rfl rfl ?_); first | refine Nx.opr rfl rfl ?_ | (refine Nx.call (Rpre := []) rfl rfl rfl (by kernel_rfl) rfl (little_spec (N : Int) Aq cq qs I1 hq) (Ent.refl _) ?_; rintro _ _ ⟨bl, rfl, rfl⟩; cases bl) | refine Nx.callv rfl rfl rfl (by kernel_rfl) rfl (awakeI_spec _) ?_ | (refine Nx.call (Rpre := []) rfl rfl rfl (by kernel_rfl) rfl hS (Ent.refl _) ?_; rintro _ _ ⟨As, cs, rfl, rfl⟩) | refine Nx.so ?_ | refine Nx.sb (fun bx => ?_) | refine Nx.sa (fun A2 c2 => ?_))
    | ((with_reducible refine Nx.is_at ?_); first | refine Nx.a ?_ | ((fail_if_success refine Nx.at_do rfl rfl rfl rfl ?_); first | refine Nx.at_dec_t rfl rfl rfl rfl (by first | assumption | omega) ?_ | refine Nx.at_dec_f rfl rfl rfl rfl (by first | assumption | omega) ?_ | refine Nx.at_split rfl rfl rfl rfl (fun hc => ?_) (fun hc => ?_) | refine Nx.at_splitb rfl rfl rfl rfl (fun hc => ?_) (fun hc => ?_)))
    | ((with_reducible refine Nx.is_mix ?_); first | refine Nx.m ?_ | ((fail_if_success refine Nx.m_quiet_do rfl rfl rfl rfl rfl rfl rfl ?_ ?_); (fail_if_success refine Nx.m_loud_do rfl rfl rfl rfl rfl ?_); first | refine Nx.m_dec_t rfl rfl rfl rfl (by first | assumption | omega) ?_ | refine Nx.m_dec_f rfl rfl rfl rfl (by first | assumption | omega) ?_ | refine Nx.m_split rfl rfl rfl rfl (fun hc => ?_) (fun hc => ?_) | refine Nx.m_splitb rfl rfl rfl rfl (fun hc => ?_) (fun hc => ?_)))
    | ((fail_if_success (with_reducible refine Nx.is_at ?_)); (fail_if_success (with_reducible refine Nx.is_wp ?_)); (fail_if_success (with_reducible refine Nx.is_mix ?_)); first | refine Nx.ex ?_)
  · exact Nx.imm_le hI1 (Nx.ret_fn rfl [] ⟨rfl, rfl⟩ (by (exact Ent.auto)))
  refine Nx.freezeAt 0 rfl fun I2 m2 hI2 hm2 h2 => ?_
  have hRc : Rchs I2 As cs rl := Vec.sliceN hm2 h2 fun x _ => rcC_len x
  replace ht := ht.mono hI2
  replace hq := hq.mono hI2
  refine Nx.p_loop (σ := Nat) (fun j => [(3, .int .i64 (N : Int)), (4, .slice At t.length ct), (5, .slice Aq qs.length cq), (6, .slice As rl.length cs), (41, .slice As rl.length cs), (42, .int .i64 rl.length), (43, .int .i64 (j : Int))])
    (fun _ => [F]) (fun j => j ≤ rl.length) (fun j => rl.length - j) 0 rfl (Nat.zero_le _) ⟨rfl, rfl, rfl, rfl, rfl, rfl, rfl, trivial⟩ (by (exact Ent.auto)) ?_
  intro j hj
  have hj : j ≤ rl.length := hj
  by_cases hjl : j < rl.length
  case neg =>
    repeat' first
      | ((with_reducible refine Nx.is_wp ?_); first | refine Nx.wo ?_ | refine Nx.p_dec rfl rfl (fun hc => ?_) (fun hc => ?_) | refine Nx.p_bool rfl rfl (fun hc => ?_) (fun hc => ?_))
      | ((first | refine Nx.at_op rfl rfl ?_ | refine Nx.m_loud rfl rfl rfl ?_ | refine Nx.at_do rfl rfl rfl rfl ?_ | refine Nx.m_loud_do rfl rfl rfl rfl rfl ?_); first | refine Nx.opr rfl rfl ?_ | refine Nx.callv rfl rfl rfl (by kernel_rfl) rfl (awakeI_spec _) ?_ | refine Nx.so ?_ | refine Nx.sb (fun bx => ?_) | refine Nx.sa (fun A2 c2 => ?_))
      | ((with_reducible refine Nx.is_at ?_); first | refine Nx.a ?_ | ((fail_if_success refine Nx.at_do rfl rfl rfl rfl ?_); first | refine Nx.at_dec_t rfl rfl rfl rfl (by first | assumption | omega) ?_ | refine Nx.at_dec_f rfl rfl rfl rfl (by first | assumption | omega) ?_ | refine Nx.at_split rfl rfl rfl rfl (fun hc => ?_) (fun hc => ?_) | refine Nx.at_splitb rfl rfl rfl rfl (fun hc => ?_) (fun hc => ?_)))
      | ((with_reducible refine Nx.is_mix ?_); first | refine Nx.m ?_ | ((fail_if_success refine Nx.m_quiet_do rfl rfl rfl rfl rfl rfl rfl ?_ ?_); (fail_if_success refine Nx.m_loud_do rfl rfl rfl rfl rfl ?_); first | refine Nx.m_dec_t rfl rfl rfl rfl (by first | assumption | omega) ?_ | refine Nx.m_dec_f rfl rfl rfl rfl (by first | assumption | omega) ?_ | refine Nx.m_split rfl rfl rfl rfl (fun hc => ?_) (fun hc => ?_) | refine Nx.m_splitb rfl rfl rfl rfl (fun hc => ?_) (fun hc => ?_)))
      | ((fail_if_success (with_reducible refine Nx.is_at ?_)); (fail_if_success (with_reducible refine Nx.is_wp ?_)); (fail_if_success (with_reducible refine Nx.is_mix ?_)); first | refine Nx.ex ?_)
    exact Nx.imm_le (hI1.trans hI2) (Nx.ret_fn rfl [] ⟨rfl, rfl⟩ (by (exact Ent.auto)))
  have hjN : j < N := by omega
  have hrj := hra j hjN
  have rf0 := fun (I' : PH) (hle : PH.le I2 I') (W : World) (R : List Res) => SliceN.fld (W := W) (R := R) (v := .int .i64 (rl.getD j default).1) (hRc.mono hle) hjl 0 rfl
  have rf1 := fun (I' : PH) (hle : PH.le I2 I') (W : World) (R : List Res) => SliceN.fld (W := W) (R := R) (v := .int .i64 (rl.getD j default).2.1) (hRc.mono hle) hjl 1 rfl
  have rf2 := fun (W : World) (R : List Res) => SliceN.fld (W := W) (R := R) (v := .bool (rl.getD j default).2.2) hRc hjl 2 rfl
  rw [hrj] at rf0 rf1 rf2
  have hAs := hRc.isSome (show 0 < rl.length by omega) (by omega)
  have hP := Pair_spec (N : Int) (j : Int) Aq cq qs I2 hq (by omega)
  by_cases hjt : j ∈ touch N (eqns qs)
  case neg =>
    have hre : reachAt N (eqns qs) j = (0, 0, true) := by unfold reachAt; rw [if_neg hjt]
    rw [hre] at rf2
    dsimp only at rf2
    rw [pairR_out hchk hjN hsne hjt] at hP
    dsimp only at hP
    repeat' first
      | ((with_reducible refine Nx.is_wp ?_); first | refine Nx.wo ?_ | refine Nx.p_dec rfl rfl (fun hc => ?_) (fun hc => ?_) | refine Nx.p_bool rfl rfl (fun hc => ?_) (fun hc => ?_))
      | ((first | refine Nx.at_op rfl rfl ?_ | refine Nx.m_loud rfl rfl rfl ?_ | refine Nx.at_do rfl rfl rfl rfl ?_ | refine Nx.m_loud_do rfl rfl rfl rfl rfl ?_); first | (refine Nx.quietly rfl rfl (QRun.fld (A := (ad As).add (j * 3)) rfl rfl) ?_) | refine Nx.opr rfl rfl ?_ | (refine Nx.call (Rpre := []) rfl rfl rfl (by kernel_rfl) rfl hP (Ent.refl _) ?_; rintro _ _ ⟨Ax, cx, Ay, cy, rfl, rfl⟩) | refine Nx.indexAddr_nat (A := As) (i := j) rfl rfl rfl rfl rfl hjl hAs ?_ | refine Nx.load rfl rfl rfl (rf2 _ _) ?_ | refine Nx.so ?_ | refine Nx.sb (fun bx => ?_) | refine Nx.sa (fun A2 c2 => ?_))
      | ((with_reducible refine Nx.is_at ?_); first | refine Nx.a ?_ | ((fail_if_success refine Nx.at_do rfl rfl rfl rfl ?_); first | refine Nx.at_dec_t rfl rfl rfl rfl (by first | assumption | omega) ?_ | refine Nx.at_dec_f rfl rfl rfl rfl (by first | assumption | omega) ?_ | refine Nx.at_split rfl rfl rfl rfl (fun hc => ?_) (fun hc => ?_) | refine Nx.at_splitb rfl rfl rfl rfl (fun hc => ?_) (fun hc => ?_)))
      | ((with_reducible refine Nx.is_mix ?_); first | refine Nx.m ?_ | ((fail_if_success refine Nx.m_quiet_do rfl rfl rfl rfl rfl rfl rfl ?_ ?_); (fail_if_success refine Nx.m_loud_do rfl rfl rfl rfl rfl ?_); first | refine Nx.m_dec_t rfl rfl rfl rfl (by first | assumption | omega) ?_ | refine Nx.m_dec_f rfl rfl rfl rfl (by first | assumption | omega) ?_ | refine Nx.m_split rfl rfl rfl rfl (fun hc => ?_) (fun hc => ?_) | refine Nx.m_splitb rfl rfl rfl rfl (fun hc => ?_) (fun hc => ?_)))
      | ((fail_if_success (with_reducible refine Nx.is_at ?_)); (fail_if_success (with_reducible refine Nx.is_wp ?_)); (fail_if_success (with_reducible refine Nx.is_mix ?_)); first | refine Nx.ex ?_)
    exact Nx.again (j + 1) hjl (by omega) ⟨rfl, rfl, rfl, rfl, rfl, rfl, rfl, trivial⟩ (by (exact Ent.auto))
  have hre : reachAt N (eqns qs) j = (((extOf N (eqns qs) j false).headD []).getD j 0, ((extOf N (eqns qs) j true).headD []).getD j 0, false) := by unfold reachAt; rw [if_pos hjt]
  rw [pairR_in hchk hjN hsne hjt] at hP
  obtain ⟨ha1, ha2⟩ := ext_all hg hsne hjt false
  obtain ⟨hb1, hb2⟩ := ext_all hg hsne hjt true
  have hat := ha2 _ hwant
  have hbt := hb2 _ hwant
  rw [if_neg (by decide), wantL_at hjN, if_pos hjt] at hat
  rw [if_pos rfl, wantL_at hjN, if_pos hjt] at hbt
  rw [hre] at rf0 rf1 rf2
  generalize (extOf N (eqns qs) j false).headD [] = xa at hP ha1 hat rf0 rf1 rf2
  generalize (extOf N (eqns qs) j true).headD [] = xb at hP hb1 hbt rf0 rf1 rf2
  dsimp only at hP rf0 rf1 rf2
  have hal := ((mem_sols hg).1 ha1).len
  have hbl := ((mem_sols hg).1 hb1).len
  have hrt := fun (I' : PH) (hle : PH.le I2 I') (W : World) (R : List Res) => (ht.mono hle).rd (W := W) (R := R) (k := j) (by omega)
  rw [show t.getD j default = t.getD j 0 from rfl] at hrt
  repeat' first
    | ((with_reducible refine Nx.is_wp ?_); first | refine Nx.p_stopr 16 rfl ?_ | refine Nx.wo ?_ | refine Nx.p_dec rfl rfl (fun hc => ?_) (fun hc => ?_) | refine Nx.p_bool rfl rfl (fun hc => ?_) (fun hc => ?_))
    | ((first | refine Nx.at_op rfl rfl ?_ | refine Nx.m_loud rfl rfl rfl ?_ | refine Nx.at_do rfl rfl rfl rfl ?_ | refine Nx.m_loud_do rfl rfl rfl rfl rfl ?_); first | (refine Nx.quietly rfl rfl (QRun.fld (A := (ad As).add (j * 3)) rfl rfl) ?_) | refine Nx.opr rfl rfl ?_ | (refine Nx.call (Rpre := []) rfl rfl rfl (by kernel_rfl) rfl hP (Ent.refl _) ?_; rintro _ _ ⟨Ax, cx, Ay, cy, rfl, rfl⟩) | refine Nx.indexAddr_nat (A := As) (i := j) rfl rfl rfl rfl rfl hjl hAs ?_ | refine Nx.load rfl rfl rfl (rf2 _ _) ?_ | refine Nx.so ?_ | refine Nx.sb (fun bx => ?_) | refine Nx.sa (fun A2 c2 => ?_))
    | ((with_reducible refine Nx.is_at ?_); first | refine Nx.a ?_ | ((fail_if_success refine Nx.at_do rfl rfl rfl rfl ?_); first | refine Nx.at_dec_t rfl rfl rfl rfl (by first | assumption | omega) ?_ | refine Nx.at_dec_f rfl rfl rfl rfl (by first | assumption | omega) ?_ | refine Nx.at_split rfl rfl rfl rfl (fun hc => ?_) (fun hc => ?_) | refine Nx.at_splitb rfl rfl rfl rfl (fun hc => ?_) (fun hc => ?_)))
    | ((with_reducible refine Nx.is_mix ?_); first | refine Nx.m ?_ | ((fail_if_success refine Nx.m_quiet_do rfl rfl rfl rfl rfl rfl rfl ?_ ?_); (fail_if_success refine Nx.m_loud_do rfl rfl rfl rfl rfl ?_); first | refine Nx.m_dec_t rfl rfl rfl rfl (by first | assumption | omega) ?_ | refine Nx.m_dec_f rfl rfl rfl rfl (by first | assumption | omega) ?_ | refine Nx.m_split rfl rfl rfl rfl (fun hc => ?_) (fun hc => ?_) | refine Nx.m_splitb rfl rfl rfl rfl (fun hc => ?_) (fun hc => ?_)))
    | ((fail_if_success (with_reducible refine Nx.is_at ?_)); (fail_if_success (with_reducible refine Nx.is_wp ?_)); (fail_if_success (with_reducible refine Nx.is_mix ?_)); first | refine Nx.ex ?_)
  refine Nx.unstop ?_
  refine Nx.freezeAt 0 rfl fun I3 m3 hI3 hm3 h3 => ?_
  have hxi : Ints I3 Ax cx xa := Vec.sliceOf hm3 h3
  refine Nx.freezeAt 0 rfl fun I4 m4 hI4 hm4 h4 => ?_
  have hyi : Ints I4 Ay cy xb := Vec.sliceOf hm4 h4
  replace hxi := hxi.mono hI4
  have hI24 := hI3.trans hI4
  have hAa := RAgrees_spec Aq Ax cq cx qs xa N I4 (hq.mono hI24) hg hxi hal (sols_okT hg ha1) (by omega)
  rw [decide_eq_true (sols_sum hg ha1)] at hAa
  have hAb := RAgrees_spec Aq Ay cq cy qs xb N I4 (hq.mono hI24) hg hyi hbl (sols_okT hg hb1) (by omega)
  rw [decide_eq_true (sols_sum hg hb1)] at hAb
  have hra' := fun (W : World) (R : List Res) => hxi.rd (W := W) (R := R) (k := j) (by omega)
  have hrb' := fun (W : World) (R : List Res) => hyi.rd (W := W) (R := R) (k := j) (by omega)
  rw [show xa.getD j default = xa.getD j 0 from rfl] at hra'
  rw [show xb.getD j default = xb.getD j 0 from rfl] at hrb'
  have hrt' := hrt I4 hI24
  have r0 := rf0 I4 hI24
  have r1 := rf1 I4 hI24
  generalize xa.getD j 0 = va at *
  generalize xb.getD j 0 = vb at *
  generalize t.getD j 0 = vt at *
  repeat' first
    | ((with_reducible refine Nx.is_wp ?_); first | refine Nx.wo ?_ | refine Nx.p_draw (id := 16) rfl [0, 1, 2, 3, 4, 5, 6, 7, 8, 9, 10, 11, 12, 13, 14, 15, 16, 17, 18, 19, 20, 21, 22, 23, 24, 25, 26, 27, 28, 29, 30, 31, 32, 33, 34, 35, 36, 37, 38, 39, 40, 41, 42, 43, 44, 45, 46, 47, 48, 49, 50, 51, 52, 53, 54, 55, 56, 57, 58, 59, 60, 61, 62, 63, 64, 65, 66, 67, 68, 69, 70, 71, 72, 73] [17, 23] _ rfl rfl (by kernel_rfl) (by kernel_rfl) rfl (by repeat first | exact PanicOk.fn | refine PanicOk.then_ ?_ | refine PanicOk.inB ?_) (Ent.refl _) ?_ | refine Nx.p_dec rfl rfl (fun hc => ?_) (fun hc => ?_) | refine Nx.p_bool rfl rfl (fun hc => ?_) (fun hc => ?_))
    | ((first | refine Nx.at_op rfl rfl ?_ | refine Nx.m_loud rfl rfl rfl ?_ | refine Nx.at_do rfl rfl rfl rfl ?_ | refine Nx.m_loud_do rfl rfl rfl rfl rfl ?_); first | refine Nx.opr rfl rfl ?_ | refine Nx.callv rfl rfl rfl (by kernel_rfl) rfl hAa ?_ | refine Nx.callv rfl rfl rfl (by kernel_rfl) rfl hAb ?_ | refine Nx.so ?_ | refine Nx.sb (fun bx => ?_) | refine Nx.sa (fun A2 c2 => ?_))
    | ((with_reducible refine Nx.is_at ?_); first | refine Nx.a ?_ | ((fail_if_success refine Nx.at_do rfl rfl rfl rfl ?_); first | refine Nx.at_dec_t rfl rfl rfl rfl (by first | assumption | omega) ?_ | refine Nx.at_dec_f rfl rfl rfl rfl (by first | assumption | omega) ?_ | refine Nx.at_split rfl rfl rfl rfl (fun hc => ?_) (fun hc => ?_) | refine Nx.at_splitb rfl rfl rfl rfl (fun hc => ?_) (fun hc => ?_)))
    | ((with_reducible refine Nx.is_mix ?_); first | refine Nx.m_quiet rfl rfl rfl rfl rfl (by first | exact QRun.fld (A := (ad As).add (j * 3)) rfl rfl | exact QRun.opr rfl | exact QRun.idx (A := Ax) (i := j) (sz := 1) rfl rfl rfl rfl (by omega) (hxi.isSome (by omega)) | exact QRun.idx (A := Ay) (i := j) (sz := 1) rfl rfl rfl rfl (by omega) (hyi.isSome (by omega)) | exact QRun.idx (A := As) (i := j) (sz := 3) rfl rfl rfl rfl hjl hAs | exact QRun.idx (A := At) (i := j) (sz := 1) rfl rfl rfl rfl (by omega) (ht.isSome (by omega)) | exact QRun.load rfl rfl (hra' _ _) | exact QRun.load rfl rfl (hrb' _ _) | exact QRun.load rfl rfl (hrt' _ _) | exact QRun.load rfl rfl (r0 _ _) | exact QRun.load rfl rfl (r1 _ _)) ?_ | refine Nx.m_quiet_do rfl rfl rfl rfl rfl rfl rfl (by first | exact QRun.fld (A := (ad As).add (j * 3)) rfl rfl | exact QRun.opr rfl | exact QRun.idx (A := Ax) (i := j) (sz := 1) rfl rfl rfl rfl (by omega) (hxi.isSome (by omega)) | exact QRun.idx (A := Ay) (i := j) (sz := 1) rfl rfl rfl rfl (by omega) (hyi.isSome (by omega)) | exact QRun.idx (A := As) (i := j) (sz := 3) rfl rfl rfl rfl hjl hAs | exact QRun.idx (A := At) (i := j) (sz := 1) rfl rfl rfl rfl (by omega) (ht.isSome (by omega)) | exact QRun.load rfl rfl (hra' _ _) | exact QRun.load rfl rfl (hrb' _ _) | exact QRun.load rfl rfl (hrt' _ _) | exact QRun.load rfl rfl (r0 _ _) | exact QRun.load rfl rfl (r1 _ _)) ?_ | refine Nx.m ?_ | ((fail_if_success refine Nx.m_quiet_do rfl rfl rfl rfl rfl rfl rfl ?_ ?_); (fail_if_success refine Nx.m_loud_do rfl rfl rfl rfl rfl ?_); first | refine Nx.m_dec_t rfl rfl rfl rfl (by first | assumption | omega) ?_ | refine Nx.m_dec_f rfl rfl rfl rfl (by first | assumption | omega) ?_ | refine Nx.m_split rfl rfl rfl rfl (fun hc => ?_) (fun hc => ?_) | refine Nx.m_splitb rfl rfl rfl rfl (fun hc => ?_) (fun hc => ?_)))
    | ((fail_if_success (with_reducible refine Nx.is_at ?_)); (fail_if_success (with_reducible refine Nx.is_wp ?_)); (fail_if_success (with_reducible refine Nx.is_mix ?_)); first | refine Nx.ex ?_)
  exact Nx.imm_le hI24 (Nx.again (j + 1) hjl (by omega) ⟨rfl, rfl, rfl, rfl, rfl, rfl, rfl, trivial⟩ (by (exact Ent.auto)))
end Go.Proofs.Ythncphjakklnoaa
