/- Contracts of functions of the given program, and lemmas about plain lists and numbers: what the laws of this seat lean on. -/
import Derived.Test.YtcmdemfhbekabaaGreatDm12
namespace Go.Proofs.YtcmdemfhbekabaaGreat
open Go.Eng Go.Sol
attribute [local irreducible] opK wpList Code.wp Exit.then Exit.inBlock fnPost bodyPost Nx Calls Oper.wp Rd Rds Wr Ent Stars Blk Again Vec FnSpec wpMix QRun Stop Upto wpAt
/-! The law of margins -/
theorem run_booleq2 {P : Program} {t : TypeId} {x y : Operand} (ht : P.underlying t = some .bool) (b c r : Bool) (h : (b == c) = r) (w : World) : (do eqGuard .eql t x y (.bool b) (.bool c); binOp .eql t (.bool b) (.bool c)).run P w = .ok (.bool r) w := by subst h; exact run_booleq ht b c w
theorem reach_ord {N x : Nat} {qs : List EqR} (hg : ∀ q ∈ qs, GoodE N q) (hne : solsOf N (eqns qs) ≠ []) : (reachAt N (eqns qs) x).1 ≤ (reachAt N (eqns qs) x).2.1 := by
  unfold reachAt
  by_cases hx : x ∈ touch N (eqns qs)
  · rw [if_pos hx]
    obtain ⟨_, a2⟩ := ext_all hg hne hx false
    obtain ⟨b1, _⟩ := ext_all hg hne hx true
    have := a2 _ b1
    rwa [if_neg (by decide)] at this
  · rw [if_neg hx]; decide
theorem exOf_one (rc : List Rch) (k m : Int) : exOf rc [k] m = if narrowB (rc.getD k.toNat default) m = true then [(k, rc.getD k.toNat default, -1)] else [] := by
  have := exOf_snoc rc [] k m
  simpa [exOf] using this
theorem findD_one {l t : List Int} {rs : List Rel} {k : Nat} {m : Int} (hs : Sizes l) (hT : tabOk l t 2) (h : RelsOk l t rs) (hn : rs.length ≤ 24) (hm : 1 ≤ m ∧ m ≤ 100) (hk : (k : Int) < prod l) :
    (findD l rs [(k : Int)] m).2 = (rchD l rs).2 ∧ ((rchD l rs).2 = 0 → (findD l rs [(k : Int)] m).1.length = if narrowB ((rchD l rs).1.getD k default) m = true then 1 else 0) := by
  rw [findD_made hs hT h hn hm (List.pairwise_singleton _ _) fun x hx => by rw [List.mem_singleton.1 hx]; omega]
  by_cases h0 : (rchD l rs).2 = 0
  · rw [if_neg (by omega)]
    refine ⟨h0.symm, fun _ => ?_⟩
    rw [exOf_one, Int.toNat_natCast]
    split <;> rfl
  · rw [if_pos h0]
    exact ⟨rfl, fun h => absurd h h0⟩
theorem safe_one {l t : List Int} {rs : List Rel} {k : Nat} {m : Int} (hs : Sizes l) (hT : tabOk l t 2) (h : RelsOk l t rs) (hn : rs.length ≤ 24) (hm : 1 ≤ m ∧ m ≤ 100) (hk : (k : Int) < prod l) :
    safeB l rs [(k : Int)] m = (decide ((rchD l rs).2 = 0) && !narrowB ((rchD l rs).1.getD k default) m) := by
  obtain ⟨h1, h2⟩ := findD_one hs hT h hn hm hk
  unfold safeB
  rw [h1]
  by_cases h0 : (rchD l rs).2 = 0
  · rw [h2 h0]
    cases narrowB ((rchD l rs).1.getD k default) m <;> rfl
  · rw [decide_eq_false h0, Bool.false_and, Bool.false_and]
set_option maxRecDepth 10000 in
set_option maxHeartbeats 16000000 in
theorem DifferencingMargins_spec (A : Option Addr) (c : Nat) (l : List Int) (mg : Int) (I : PH) (hl : Bytes I A c l) (hx : ∀ x ∈ l, 0 ≤ x ∧ x < 256) (hmg : 0 ≤ mg ∧ mg < 256) :
    FnSpec Tryz.prog 3 [.slice A l.length c, .int .u8 mg] I [] (fun v R' => v = .bool true ∧ R' = []) := by
  have hL := bytes_take hl hx
  obtain ⟨m, hmd, hm⟩ : ∃ m, m = 1 + mg % 4 ∧ 1 ≤ m ∧ m ≤ 90 := ⟨_, rfl, by omega, by omega⟩
  refine FnSpec.enterP Tryz.func3 rfl Tryz.ntmps3 rfl fun w F => ?_
  repeat' first
    | ((with_reducible refine Nx.is_wp ?_); first | refine Nx.p_stopr 3 rfl ?_ | refine Nx.wo ?_ | refine Nx.p_dec rfl rfl (fun hc => ?_) (fun hc => ?_) | refine Nx.p_bool rfl rfl (fun hc => ?_) (fun hc => ?_))
    | ((first | refine Nx.at_op rfl rfl ?_ | refine Nx.m_loud rfl rfl rfl ?_ | refine Nx.at_do rfl rfl rfl rfl ?_ | refine Nx.m_loud_do rfl rfl rfl rfl rfl ?_); first | refine Nx.opr rfl rfl ?_ | (refine Nx.call (Rpre := []) rfl rfl rfl (by kernel_rfl) rfl (New_codes A c l I hl) (Ent.refl _) ?_; rintro _ _ ⟨b, rfl, rfl⟩) | (refine Nx.call rfl rfl rfl (by kernel_rfl) rfl (Told_made b A c _ 0 2 3 I hL (Nat.zero_le _) (by omega) (by omega)) (by (exact Ent.auto)) ?_; rintro _ _ ⟨B, c', s, At, ct, t, As, ca, rs, k1, rfl, hs, hT, hrn, hro, hk1, rfl⟩) | refine Nx.so ?_ | refine Nx.sb (fun bx => ?_) | refine Nx.sa (fun A2 c2 => ?_))
    | ((with_reducible refine Nx.is_at ?_); first | refine Nx.a ?_ | ((fail_if_success refine Nx.at_do rfl rfl rfl rfl ?_); first | refine Nx.at_dec_t rfl rfl rfl rfl (by first | assumption | omega) ?_ | refine Nx.at_dec_f rfl rfl rfl rfl (by first | assumption | omega) ?_ | refine Nx.at_split rfl rfl rfl rfl (fun hc => ?_) (fun hc => ?_) | refine Nx.at_splitb rfl rfl rfl rfl (fun hc => ?_) (fun hc => ?_)))
    | ((with_reducible refine Nx.is_mix ?_); first | refine Nx.m ?_ | ((fail_if_success refine Nx.m_quiet_do rfl rfl rfl rfl rfl rfl rfl ?_ ?_); (fail_if_success refine Nx.m_loud_do rfl rfl rfl rfl rfl ?_); first | refine Nx.m_dec_t rfl rfl rfl rfl (by first | assumption | omega) ?_ | refine Nx.m_dec_f rfl rfl rfl rfl (by first | assumption | omega) ?_ | refine Nx.m_split rfl rfl rfl rfl (fun hc => ?_) (fun hc => ?_) | refine Nx.m_splitb rfl rfl rfl rfl (fun hc => ?_) (fun hc => ?_)))
    | ((fail_if_success (with_reducible refine Nx.is_at ?_)); (fail_if_success (with_reducible refine Nx.is_wp ?_)); (fail_if_success (with_reducible refine Nx.is_mix ?_)); first | refine Nx.ex ?_)
  refine Nx.unstop ?_
  revert bx; intro b6
  refine Nx.giveTold (B := B) (c' := c') (s := s) (At := At) (ct := ct) (t := t) (As := As) (ca := ca) (rs := rs) (RR := [Blk b6 27 [.slice B s.length c'], F]) (by refine Ent.trans ?_ Ent.stars; unfold toldR; (exact Ent.auto)) fun I1 hI1 hz ht hrs => ?_
  have hzs := size_ok hs
  have hV := relsV_of hs hT (by decide) (by decide) hro (by omega)
  obtain ⟨hE0, hrq, her⟩ := rch_made hs hT hro (by omega)
  repeat' first
    | ((with_reducible refine Nx.is_wp ?_); first | refine Nx.p_stopr 5 rfl ?_ | refine Nx.wo ?_ | refine Nx.p_dec rfl rfl (fun hc => ?_) (fun hc => ?_) | refine Nx.p_bool rfl rfl (fun hc => ?_) (fun hc => ?_))
    | ((first | refine Nx.at_op rfl rfl ?_ | refine Nx.m_loud rfl rfl rfl ?_ | refine Nx.at_do rfl rfl rfl rfl ?_ | refine Nx.m_loud_do rfl rfl rfl rfl rfl ?_); first | refine Nx.opr rfl rfl ?_ | refine Nx.rem rfl rfl (by omega) (by omega) rfl ?_ | (refine Nx.call (Rpre := []) rfl rfl rfl (by kernel_rfl) rfl (REAll_spec B As c' ca s rs I1 hz hs hrs hV) (Ent.refl _) ?_; rintro _ _ ⟨Ao, co, qs, rfl, hqs, hql, rfl⟩) | refine Nx.so ?_ | refine Nx.sb (fun bx => ?_) | refine Nx.sa (fun A2 c2 => ?_))
    | ((with_reducible refine Nx.is_at ?_); first | refine Nx.a ?_ | ((fail_if_success refine Nx.at_do rfl rfl rfl rfl ?_); first | refine Nx.at_dec_t rfl rfl rfl rfl (by first | assumption | omega) ?_ | refine Nx.at_dec_f rfl rfl rfl rfl (by first | assumption | omega) ?_ | refine Nx.at_split rfl rfl rfl rfl (fun hc => ?_) (fun hc => ?_) | refine Nx.at_splitb rfl rfl rfl rfl (fun hc => ?_) (fun hc => ?_)))
    | ((with_reducible refine Nx.is_mix ?_); first | refine Nx.m ?_ | ((fail_if_success refine Nx.m_quiet_do rfl rfl rfl rfl rfl rfl rfl ?_ ?_); (fail_if_success refine Nx.m_loud_do rfl rfl rfl rfl rfl ?_); first | refine Nx.m_dec_t rfl rfl rfl rfl (by first | assumption | omega) ?_ | refine Nx.m_dec_f rfl rfl rfl rfl (by first | assumption | omega) ?_ | refine Nx.m_split rfl rfl rfl rfl (fun hc => ?_) (fun hc => ?_) | refine Nx.m_splitb rfl rfl rfl rfl (fun hc => ?_) (fun hc => ?_)))
    | ((fail_if_success (with_reducible refine Nx.is_at ?_)); (fail_if_success (with_reducible refine Nx.is_wp ?_)); (fail_if_success (with_reducible refine Nx.is_mix ?_)); first | refine Nx.ex ?_)
  refine Nx.unstop ?_
  rw [← hmd]
  refine Nx.freezeAt 0 rfl fun I2 m2 hI2 hm2 h2 => ?_
  refine Nx.freezeAt 0 rfl fun I3 m3 hI3 hm3 h3 => ?_
  have hq : Eqs I3 Ao co qs := ⟨(Vec.sliceN hm2 h2 fun x _ => eqC_len x).mono hI3, fun q hq => by
    obtain ⟨k, hk, he⟩ := List.mem_iff_getElem.1 hq
    obtain ⟨m3, h3le, h3⟩ := Stars.get k (r := rowR q.1) h3 (by rw [nthL_eq, List.getElem?_map, List.getElem?_eq_getElem hk, he]; rfl)
    exact Vec.sliceOf (h3le.trans hm3) h3⟩
  have hRR := RReaches_spec (prod s) Ao co qs I3 hq
  rw [show reachR (prod s) qs = rchD s rs by rw [hrq]; exact cont_reach hqs _] at hRR
  replace hz := (hz.mono hI2).mono hI3
  replace hrs := (hrs.mono hI2).mono hI3
  have hwv := views_of hro
  have hone := fun (k : Nat) (mm : Int) (hk : (k : Int) < prod s) (hmm : 1 ≤ mm ∧ mm ≤ 100) => safe_one hs hT hro (by omega) hmm hk
  have hfe := fun (k : Nat) (mm : Int) (hk : (k : Int) < prod s) (hmm : 1 ≤ mm ∧ mm ≤ 100) => (findD_one hs hT hro (by omega) hmm hk).1
  have hok := fun h => rchD_ok (l := s) (rs := rs) h
  have hord : (rchD s rs).2 = 0 → ∀ k : Nat, (k : Int) < prod s → ((rchD s rs).1.getD k default).1 ≤ ((rchD s rs).1.getD k default).2.1 := fun h k hk => by
    rw [((rchD_ok h).2 k (by omega)).1]
    rw [hrq] at h
    obtain ⟨_, _, g3, g4, _⟩ := reachR_cases h
    exact reach_ord g3 g4
  generalize rchD s rs = rq at hRR her hone hfe hok hord
  obtain ⟨rc, er⟩ := rq
  dsimp only at hRR her hone hfe hok hord
  repeat' first
    | ((with_reducible refine Nx.is_wp ?_); first | refine Nx.wo ?_ | refine Nx.p_dec rfl rfl (fun hc => ?_) (fun hc => ?_) | refine Nx.p_bool rfl rfl (fun hc => ?_) (fun hc => ?_))
    | ((first | refine Nx.at_op rfl rfl ?_ | refine Nx.m_loud rfl rfl rfl ?_ | refine Nx.at_do rfl rfl rfl rfl ?_ | refine Nx.m_loud_do rfl rfl rfl rfl rfl ?_); first | refine Nx.opr rfl rfl ?_ | refine Nx.callv rfl rfl rfl (by kernel_rfl) rfl (RCount_spec B c' s I3 hz hs) ?_ | (refine Nx.call (Rpre := []) rfl rfl rfl (by kernel_rfl) rfl hRR (Ent.refl _) ?_; rintro _ _ ⟨Ar, cr, rfl, rfl⟩) | refine Nx.so ?_ | refine Nx.sb (fun bx => ?_) | refine Nx.sa (fun A2 c2 => ?_))
    | ((with_reducible refine Nx.is_at ?_); first | refine Nx.a ?_ | ((fail_if_success refine Nx.at_do rfl rfl rfl rfl ?_); first | refine Nx.at_dec_t rfl rfl rfl rfl (by first | assumption | omega) ?_ | refine Nx.at_dec_f rfl rfl rfl rfl (by first | assumption | omega) ?_ | refine Nx.at_split rfl rfl rfl rfl (fun hc => ?_) (fun hc => ?_) | refine Nx.at_splitb rfl rfl rfl rfl (fun hc => ?_) (fun hc => ?_)))
    | ((with_reducible refine Nx.is_mix ?_); first | refine Nx.m ?_ | ((fail_if_success refine Nx.m_quiet_do rfl rfl rfl rfl rfl rfl rfl ?_ ?_); (fail_if_success refine Nx.m_loud_do rfl rfl rfl rfl rfl ?_); first | refine Nx.m_dec_t rfl rfl rfl rfl (by first | assumption | omega) ?_ | refine Nx.m_dec_f rfl rfl rfl rfl (by first | assumption | omega) ?_ | refine Nx.m_split rfl rfl rfl rfl (fun hc => ?_) (fun hc => ?_) | refine Nx.m_splitb rfl rfl rfl rfl (fun hc => ?_) (fun hc => ?_)))
    | ((fail_if_success (with_reducible refine Nx.is_at ?_)); (fail_if_success (with_reducible refine Nx.is_wp ?_)); (fail_if_success (with_reducible refine Nx.is_mix ?_)); first | refine Nx.ex ?_)
  refine Nx.freezeAt 0 rfl fun I4 m4 hI4 hm4 h4 => ?_
  have hRc : Rchs I4 Ar cr rc := Vec.sliceN hm4 h4 fun x _ => rcC_len x
  replace hz := hz.mono hI4
  replace hrs := hrs.mono hI4
  have hle4 := ((hI1.trans hI2).trans hI3).trans hI4
  have hCt := RCount_spec B c' s I4 hz hs
  rw [← hzs.2.2] at hCt hone hfe hord
  generalize (prod s).toNat = N at hCt hone hfe hord hok hzs
  refine Nx.p_loop (σ := Nat) (fun k => [(6, .pointer (some ⟨b6, 0, none⟩)), (8, .slice As rs.length ca), (9, .int .i64 m), (12, .slice Ar rc.length cr), (13, .int .i64 er), (14, .int .i64 (k : Int))])
    (fun _ => [Blk b6 27 [.slice B s.length c'], F]) (fun k => k ≤ N) (fun k => N - k) 0 rfl (Nat.zero_le _) ⟨rfl, rfl, rfl, rfl, rfl, rfl, trivial⟩ (by (exact Ent.auto)) ?_
  intro k hk
  have hk : k ≤ N := hk
  by_cases hkN : k < N
  case neg =>
    obtain rfl : k = N := by omega
    repeat' first
      | ((with_reducible refine Nx.is_wp ?_); first | refine Nx.wo ?_ | refine Nx.p_dec rfl rfl (fun hc => ?_) (fun hc => ?_) | refine Nx.p_bool rfl rfl (fun hc => ?_) (fun hc => ?_))
      | ((first | refine Nx.at_op rfl rfl ?_ | refine Nx.m_loud rfl rfl rfl ?_ | refine Nx.at_do rfl rfl rfl rfl ?_ | refine Nx.m_loud_do rfl rfl rfl rfl rfl ?_); first | refine Nx.opr rfl rfl ?_ | refine Nx.callv rfl rfl rfl (by kernel_rfl) rfl hCt ?_ | refine Nx.callv rfl rfl rfl (by kernel_rfl) rfl (awakeD_spec _) ?_ | refine Nx.so ?_ | refine Nx.sb (fun bx => ?_) | refine Nx.sa (fun A2 c2 => ?_))
      | ((with_reducible refine Nx.is_at ?_); first | refine Nx.a ?_ | ((fail_if_success refine Nx.at_do rfl rfl rfl rfl ?_); first | refine Nx.at_dec_t rfl rfl rfl rfl (by first | assumption | omega) ?_ | refine Nx.at_dec_f rfl rfl rfl rfl (by first | assumption | omega) ?_ | refine Nx.at_split rfl rfl rfl rfl (fun hc => ?_) (fun hc => ?_) | refine Nx.at_splitb rfl rfl rfl rfl (fun hc => ?_) (fun hc => ?_)))
      | ((with_reducible refine Nx.is_mix ?_); first | refine Nx.m ?_ | ((fail_if_success refine Nx.m_quiet_do rfl rfl rfl rfl rfl rfl rfl ?_ ?_); (fail_if_success refine Nx.m_loud_do rfl rfl rfl rfl rfl ?_); first | refine Nx.m_dec_t rfl rfl rfl rfl (by first | assumption | omega) ?_ | refine Nx.m_dec_f rfl rfl rfl rfl (by first | assumption | omega) ?_ | refine Nx.m_split rfl rfl rfl rfl (fun hc => ?_) (fun hc => ?_) | refine Nx.m_splitb rfl rfl rfl rfl (fun hc => ?_) (fun hc => ?_)))
      | ((fail_if_success (with_reducible refine Nx.is_at ?_)); (fail_if_success (with_reducible refine Nx.is_wp ?_)); (fail_if_success (with_reducible refine Nx.is_mix ?_)); first | refine Nx.ex ?_)
    exact Nx.imm_le hle4 (Nx.ret_fn rfl [] ⟨rfl, rfl⟩ (by (exact Ent.auto)))
  have hSf := fun (bp : Nat) (mm : Int) (hmm : 1 ≤ mm ∧ mm ≤ 100) (v : Bool) (hv : (decide (er = 0) && !narrowB (rc.getD k default) mm) = v) (I' : PH) (hle : PH.le I4 I') (hp : Ints I' (some ⟨bp, 0, none⟩) 1 [(k : Int)]) => (by
    have := Safe_spec B As (some ⟨bp, 0, none⟩) c' ca 1 s rs [(k : Int)] mm I' (hz.mono hle) hs (hrs.mono hle) hwv hp (by simp)
    rw [hone k mm (by omega) hmm, hfe k mm (by omega) hmm, hv] at this
    exact this : FnSpec Tryz.prog 17 [.agg #[.slice B s.length c'], .slice As rs.length ca, .slice (some ⟨bp, 0, none⟩) 1 1, .int .i64 mm] I' [] (fun u R' => u = .tuple #[.bool v, .int .i64 er] ∧ R' = []))
  rcases her with rfl | rfl
  case inr =>
    have hb : ∀ mm, (decide ((1 : Int) = 0) && !narrowB (rc.getD k default) mm) = false := fun _ => rfl
    repeat' first
      | ((with_reducible refine Nx.is_wp ?_); first | refine Nx.wo ?_ | refine Nx.p_draw (id := 14) rfl [0, 1, 2, 3, 4, 5, 6, 7, 8, 9, 10, 11, 12, 13, 14, 15, 16, 17, 18, 19, 20, 21, 22, 23, 24, 25, 26, 27, 28, 29, 30, 31] [] _ rfl rfl (by kernel_rfl) (by kernel_rfl) rfl (by repeat first | exact PanicOk.fn | refine PanicOk.then_ ?_ | refine PanicOk.inB ?_) (Ent.refl _) ?_ | refine Nx.p_dec rfl rfl (fun hc => ?_) (fun hc => ?_) | refine Nx.p_bool rfl rfl (fun hc => ?_) (fun hc => ?_))
      | ((first | refine Nx.at_op rfl rfl ?_ | refine Nx.m_loud rfl rfl rfl ?_ | refine Nx.at_do rfl rfl rfl rfl ?_ | refine Nx.m_loud_do rfl rfl rfl rfl rfl ?_); first | refine Nx.opr rfl rfl ?_ | refine Nx.callv rfl rfl rfl (by kernel_rfl) rfl hCt ?_ | (refine Nx.call rfl rfl rfl (by kernel_rfl) rfl (FnSpec.keep [Blk _ 3 [.int .i64 (k : Int)]] fun m' I' hle hm' hv => hSf _ m (by omega) false (hb _) I' hle (by obtain ⟨q1, z1, y1⟩ := Stars.get 0 hv rfl; exact Blk.sliceOf (t := 3) (l := [(k : Int)]) (z1.trans hm') y1 (by unfold maxLen; simp))) (by (exact Ent.auto)) ?_; rintro _ _ ⟨_, ⟨rfl, rfl⟩, rfl⟩) | (refine Nx.call rfl rfl rfl (by kernel_rfl) rfl (FnSpec.keep [Blk _ 3 [.int .i64 (k : Int)]] fun m' I' hle hm' hv => hSf _ (m + 1) (by omega) false (hb _) I' hle (by obtain ⟨q1, z1, y1⟩ := Stars.get 0 hv rfl; exact Blk.sliceOf (t := 3) (l := [(k : Int)]) (z1.trans hm') y1 (by unfold maxLen; simp))) (by (exact Ent.auto)) ?_; rintro _ _ ⟨_, ⟨rfl, rfl⟩, rfl⟩) | (refine Nx.call rfl rfl rfl (by kernel_rfl) rfl (FnSpec.keep [Blk _ 3 [.int .i64 (k : Int)]] fun m' I' hle hm' hv => hSf _ 1 (by omega) false (hb _) I' hle (by obtain ⟨q1, z1, y1⟩ := Stars.get 0 hv rfl; exact Blk.sliceOf (t := 3) (l := [(k : Int)]) (z1.trans hm') y1 (by unfold maxLen; simp))) (by (exact Ent.auto)) ?_; rintro _ _ ⟨_, ⟨rfl, rfl⟩, rfl⟩) | refine Nx.so ?_ | refine Nx.sb (fun bx => ?_) | refine Nx.sa (fun A2 c2 => ?_))
      | ((with_reducible refine Nx.is_at ?_); first | refine Nx.a ?_ | ((fail_if_success refine Nx.at_do rfl rfl rfl rfl ?_); first | refine Nx.at_dec_t rfl rfl rfl rfl (by first | assumption | omega) ?_ | refine Nx.at_dec_f rfl rfl rfl rfl (by first | assumption | omega) ?_ | refine Nx.at_split rfl rfl rfl rfl (fun hc => ?_) (fun hc => ?_) | refine Nx.at_splitb rfl rfl rfl rfl (fun hc => ?_) (fun hc => ?_)))
      | ((with_reducible refine Nx.is_mix ?_); first | refine Nx.m ?_ | ((fail_if_success refine Nx.m_quiet_do rfl rfl rfl rfl rfl rfl rfl ?_ ?_); (fail_if_success refine Nx.m_loud_do rfl rfl rfl rfl rfl ?_); first | refine Nx.m_dec_t rfl rfl rfl rfl (by first | assumption | omega) ?_ | refine Nx.m_dec_f rfl rfl rfl rfl (by first | assumption | omega) ?_ | refine Nx.m_split rfl rfl rfl rfl (fun hc => ?_) (fun hc => ?_) | refine Nx.m_splitb rfl rfl rfl rfl (fun hc => ?_) (fun hc => ?_)))
      | ((fail_if_success (with_reducible refine Nx.is_at ?_)); (fail_if_success (with_reducible refine Nx.is_wp ?_)); (fail_if_success (with_reducible refine Nx.is_mix ?_)); first | refine Nx.ex ?_)
    exact Nx.again (k + 1) hkN (by omega) ⟨rfl, rfl, rfl, rfl, rfl, rfl, trivial⟩ (by (exact Ent.auto))
  obtain ⟨hrl, hrk⟩ := hok rfl
  have hkr : k < rc.length := by omega
  have hAr := hRc.isSome (show 0 < rc.length by omega) (by omega)
  have hod := hord rfl k (by omega)
  have r0 := fun (W : World) (R : List Res) => SliceN.fld (W := W) (R := R) (v := .int .i64 (rc.getD k default).1) hRc hkr 0 rfl
  have r1 := fun (W : World) (R : List Res) => SliceN.fld (W := W) (R := R) (v := .int .i64 (rc.getD k default).2.1) hRc hkr 1 rfl
  have r2 := fun (W : World) (R : List Res) => SliceN.fld (W := W) (R := R) (v := .bool (rc.getD k default).2.2) hRc hkr 2 rfl
  have hxo := (hrk k hkN).2
  generalize rc.getD k default = x at hSf hod r0 r1 r2 hxo
  obtain ⟨lo, hi, op⟩ := x
  dsimp only at hod r0 r1 r2
  cases op with
  | true =>
    have hb : ∀ mm, (decide ((0 : Int) = 0) && !narrowB (lo, hi, true) mm) = true := fun _ => rfl
    repeat' first
      | ((with_reducible refine Nx.is_wp ?_); first | refine Nx.wo ?_ | refine Nx.p_draw (id := 14) rfl [0, 1, 2, 3, 4, 5, 6, 7, 8, 9, 10, 11, 12, 13, 14, 15, 16, 17, 18, 19, 20, 21, 22, 23, 24, 25, 26, 27, 28, 29, 30, 31] [] _ rfl rfl (by kernel_rfl) (by kernel_rfl) rfl (by repeat first | exact PanicOk.fn | refine PanicOk.then_ ?_ | refine PanicOk.inB ?_) (Ent.refl _) ?_ | refine Nx.p_dec rfl rfl (fun hc => ?_) (fun hc => ?_) | refine Nx.p_bool rfl rfl (fun hc => ?_) (fun hc => ?_))
      | ((first | refine Nx.at_op rfl rfl ?_ | refine Nx.m_loud rfl rfl rfl ?_ | refine Nx.at_do rfl rfl rfl rfl ?_ | refine Nx.m_loud_do rfl rfl rfl rfl rfl ?_); first | refine Nx.opr rfl rfl ?_ | refine Nx.callv rfl rfl rfl (by kernel_rfl) rfl hCt ?_ | (refine Nx.call rfl rfl rfl (by kernel_rfl) rfl (FnSpec.keep [Blk _ 3 [.int .i64 (k : Int)]] fun m' I' hle hm' hv => hSf _ m (by omega) true (hb _) I' hle (by obtain ⟨q1, z1, y1⟩ := Stars.get 0 hv rfl; exact Blk.sliceOf (t := 3) (l := [(k : Int)]) (z1.trans hm') y1 (by unfold maxLen; simp))) (by (exact Ent.auto)) ?_; rintro _ _ ⟨_, ⟨rfl, rfl⟩, rfl⟩) | (refine Nx.call rfl rfl rfl (by kernel_rfl) rfl (FnSpec.keep [Blk _ 3 [.int .i64 (k : Int)]] fun m' I' hle hm' hv => hSf _ (m + 1) (by omega) true (hb _) I' hle (by obtain ⟨q1, z1, y1⟩ := Stars.get 0 hv rfl; exact Blk.sliceOf (t := 3) (l := [(k : Int)]) (z1.trans hm') y1 (by unfold maxLen; simp))) (by (exact Ent.auto)) ?_; rintro _ _ ⟨_, ⟨rfl, rfl⟩, rfl⟩) | (refine Nx.call rfl rfl rfl (by kernel_rfl) rfl (FnSpec.keep [Blk _ 3 [.int .i64 (k : Int)]] fun m' I' hle hm' hv => hSf _ 1 (by omega) true (hb _) I' hle (by obtain ⟨q1, z1, y1⟩ := Stars.get 0 hv rfl; exact Blk.sliceOf (t := 3) (l := [(k : Int)]) (z1.trans hm') y1 (by unfold maxLen; simp))) (by (exact Ent.auto)) ?_; rintro _ _ ⟨_, ⟨rfl, rfl⟩, rfl⟩) | refine Nx.so ?_ | refine Nx.sb (fun bx => ?_) | refine Nx.sa (fun A2 c2 => ?_))
      | ((with_reducible refine Nx.is_at ?_); first | refine Nx.a ?_ | ((fail_if_success refine Nx.at_do rfl rfl rfl rfl ?_); first | refine Nx.at_dec_t rfl rfl rfl rfl (by first | assumption | omega) ?_ | refine Nx.at_dec_f rfl rfl rfl rfl (by first | assumption | omega) ?_ | refine Nx.at_split rfl rfl rfl rfl (fun hc => ?_) (fun hc => ?_) | refine Nx.at_splitb rfl rfl rfl rfl (fun hc => ?_) (fun hc => ?_)))
      | ((with_reducible refine Nx.is_mix ?_); first | refine Nx.m_quiet rfl rfl rfl rfl rfl (by first | exact QRun.fld (A := (ad Ar).add (k * 3)) rfl rfl | exact QRun.binr rfl rfl (run_booleq2 Tryz.underlying4 _ _ false (by first | rfl | (rw [decide_eq_true hlh]; rfl) | (rw [decide_eq_false hlh]; rfl))) | exact QRun.opr rfl | exact QRun.idx (A := Ar) (i := k) (sz := 3) rfl rfl rfl rfl hkr hAr | exact QRun.load rfl rfl (r2 _ _) | exact QRun.load rfl rfl (r0 _ _) | exact QRun.load rfl rfl (r1 _ _)) ?_ | refine Nx.m_quiet_do rfl rfl rfl rfl rfl rfl rfl (by first | exact QRun.fld (A := (ad Ar).add (k * 3)) rfl rfl | exact QRun.binr rfl rfl (run_booleq2 Tryz.underlying4 _ _ false (by first | rfl | (rw [decide_eq_true hlh]; rfl) | (rw [decide_eq_false hlh]; rfl))) | exact QRun.opr rfl | exact QRun.idx (A := Ar) (i := k) (sz := 3) rfl rfl rfl rfl hkr hAr | exact QRun.load rfl rfl (r2 _ _) | exact QRun.load rfl rfl (r0 _ _) | exact QRun.load rfl rfl (r1 _ _)) ?_ | refine Nx.m ?_ | ((fail_if_success refine Nx.m_quiet_do rfl rfl rfl rfl rfl rfl rfl ?_ ?_); (fail_if_success refine Nx.m_loud_do rfl rfl rfl rfl rfl ?_); first | refine Nx.m_dec_t rfl rfl rfl rfl (by first | assumption | omega) ?_ | refine Nx.m_dec_f rfl rfl rfl rfl (by first | assumption | omega) ?_ | refine Nx.m_split rfl rfl rfl rfl (fun hc => ?_) (fun hc => ?_) | refine Nx.m_splitb rfl rfl rfl rfl (fun hc => ?_) (fun hc => ?_)))
      | ((fail_if_success (with_reducible refine Nx.is_at ?_)); (fail_if_success (with_reducible refine Nx.is_wp ?_)); (fail_if_success (with_reducible refine Nx.is_mix ?_)); first | refine Nx.ex ?_)
    exact Nx.again (k + 1) hkN (by omega) ⟨rfl, rfl, rfl, rfl, rfl, rfl, trivial⟩ (by (exact Ent.auto))
  | false =>
  have hnb : ∀ mm (v : Bool), decide (hi - lo < mm) = !v → (decide ((0 : Int) = 0) && !narrowB (lo, hi, false) mm) = v := fun mm v h => by
    show (true && !(!false && decide (hi - lo < mm))) = v
    rw [h]; cases v <;> rfl
  by_cases hlh : lo = hi
  · have b1 := hnb m false (decide_eq_true (by omega))
    have b2 := hnb (m + 1) false (decide_eq_true (by omega))
    have b3 := hnb 1 false (decide_eq_true (by omega))
    repeat' first
      | ((with_reducible refine Nx.is_wp ?_); first | refine Nx.wo ?_ | refine Nx.p_draw (id := 14) rfl [0, 1, 2, 3, 4, 5, 6, 7, 8, 9, 10, 11, 12, 13, 14, 15, 16, 17, 18, 19, 20, 21, 22, 23, 24, 25, 26, 27, 28, 29, 30, 31] [] _ rfl rfl (by kernel_rfl) (by kernel_rfl) rfl (by repeat first | exact PanicOk.fn | refine PanicOk.then_ ?_ | refine PanicOk.inB ?_) (Ent.refl _) ?_ | refine Nx.p_dec rfl rfl (fun hc => ?_) (fun hc => ?_) | refine Nx.p_bool rfl rfl (fun hc => ?_) (fun hc => ?_))
      | ((first | refine Nx.at_op rfl rfl ?_ | refine Nx.m_loud rfl rfl rfl ?_ | refine Nx.at_do rfl rfl rfl rfl ?_ | refine Nx.m_loud_do rfl rfl rfl rfl rfl ?_); first | refine Nx.opr rfl rfl ?_ | refine Nx.callv rfl rfl rfl (by kernel_rfl) rfl hCt ?_ | (refine Nx.call rfl rfl rfl (by kernel_rfl) rfl (FnSpec.keep [Blk _ 3 [.int .i64 (k : Int)]] fun m' I' hle hm' hv => hSf _ m (by omega) false b1 I' hle (by obtain ⟨q1, z1, y1⟩ := Stars.get 0 hv rfl; exact Blk.sliceOf (t := 3) (l := [(k : Int)]) (z1.trans hm') y1 (by unfold maxLen; simp))) (by (exact Ent.auto)) ?_; rintro _ _ ⟨_, ⟨rfl, rfl⟩, rfl⟩) | (refine Nx.call rfl rfl rfl (by kernel_rfl) rfl (FnSpec.keep [Blk _ 3 [.int .i64 (k : Int)]] fun m' I' hle hm' hv => hSf _ (m + 1) (by omega) false b2 I' hle (by obtain ⟨q1, z1, y1⟩ := Stars.get 0 hv rfl; exact Blk.sliceOf (t := 3) (l := [(k : Int)]) (z1.trans hm') y1 (by unfold maxLen; simp))) (by (exact Ent.auto)) ?_; rintro _ _ ⟨_, ⟨rfl, rfl⟩, rfl⟩) | (refine Nx.call rfl rfl rfl (by kernel_rfl) rfl (FnSpec.keep [Blk _ 3 [.int .i64 (k : Int)]] fun m' I' hle hm' hv => hSf _ 1 (by omega) false b3 I' hle (by obtain ⟨q1, z1, y1⟩ := Stars.get 0 hv rfl; exact Blk.sliceOf (t := 3) (l := [(k : Int)]) (z1.trans hm') y1 (by unfold maxLen; simp))) (by (exact Ent.auto)) ?_; rintro _ _ ⟨_, ⟨rfl, rfl⟩, rfl⟩) | refine Nx.so ?_ | refine Nx.sb (fun bx => ?_) | refine Nx.sa (fun A2 c2 => ?_))
      | ((with_reducible refine Nx.is_at ?_); first | refine Nx.a ?_ | ((fail_if_success refine Nx.at_do rfl rfl rfl rfl ?_); first | refine Nx.at_dec_t rfl rfl rfl rfl (by first | assumption | omega) ?_ | refine Nx.at_dec_f rfl rfl rfl rfl (by first | assumption | omega) ?_ | refine Nx.at_split rfl rfl rfl rfl (fun hc => ?_) (fun hc => ?_) | refine Nx.at_splitb rfl rfl rfl rfl (fun hc => ?_) (fun hc => ?_)))
      | ((with_reducible refine Nx.is_mix ?_); first | refine Nx.m_quiet rfl rfl rfl rfl rfl (by first | exact QRun.fld (A := (ad Ar).add (k * 3)) rfl rfl | exact QRun.binr rfl rfl (run_booleq2 Tryz.underlying4 _ _ false (by first | rfl | (rw [decide_eq_true hlh]; rfl) | (rw [decide_eq_false hlh]; rfl))) | exact QRun.opr rfl | exact QRun.idx (A := Ar) (i := k) (sz := 3) rfl rfl rfl rfl hkr hAr | exact QRun.load rfl rfl (r2 _ _) | exact QRun.load rfl rfl (r0 _ _) | exact QRun.load rfl rfl (r1 _ _)) ?_ | refine Nx.m_quiet_do rfl rfl rfl rfl rfl rfl rfl (by first | exact QRun.fld (A := (ad Ar).add (k * 3)) rfl rfl | exact QRun.binr rfl rfl (run_booleq2 Tryz.underlying4 _ _ false (by first | rfl | (rw [decide_eq_true hlh]; rfl) | (rw [decide_eq_false hlh]; rfl))) | exact QRun.opr rfl | exact QRun.idx (A := Ar) (i := k) (sz := 3) rfl rfl rfl rfl hkr hAr | exact QRun.load rfl rfl (r2 _ _) | exact QRun.load rfl rfl (r0 _ _) | exact QRun.load rfl rfl (r1 _ _)) ?_ | refine Nx.m ?_ | ((fail_if_success refine Nx.m_quiet_do rfl rfl rfl rfl rfl rfl rfl ?_ ?_); (fail_if_success refine Nx.m_loud_do rfl rfl rfl rfl rfl ?_); first | refine Nx.m_dec_t rfl rfl rfl rfl (by first | assumption | omega) ?_ | refine Nx.m_dec_f rfl rfl rfl rfl (by first | assumption | omega) ?_ | refine Nx.m_split rfl rfl rfl rfl (fun hc => ?_) (fun hc => ?_) | refine Nx.m_splitb rfl rfl rfl rfl (fun hc => ?_) (fun hc => ?_)))
      | ((fail_if_success (with_reducible refine Nx.is_at ?_)); (fail_if_success (with_reducible refine Nx.is_wp ?_)); (fail_if_success (with_reducible refine Nx.is_mix ?_)); first | refine Nx.ex ?_)
    exact Nx.again (k + 1) hkN (by omega) ⟨rfl, rfl, rfl, rfl, rfl, rfl, trivial⟩ (by (exact Ent.auto))
  have b3 := hnb 1 true (decide_eq_false (by omega))
  by_cases hm1 : hi - lo < m
  · have b1 := hnb m false (decide_eq_true (by omega))
    have b2 := hnb (m + 1) false (decide_eq_true (by omega))
    repeat' first
      | ((with_reducible refine Nx.is_wp ?_); first | refine Nx.wo ?_ | refine Nx.p_draw (id := 14) rfl [0, 1, 2, 3, 4, 5, 6, 7, 8, 9, 10, 11, 12, 13, 14, 15, 16, 17, 18, 19, 20, 21, 22, 23, 24, 25, 26, 27, 28, 29, 30, 31] [] _ rfl rfl (by kernel_rfl) (by kernel_rfl) rfl (by repeat first | exact PanicOk.fn | refine PanicOk.then_ ?_ | refine PanicOk.inB ?_) (Ent.refl _) ?_ | refine Nx.p_dec rfl rfl (fun hc => ?_) (fun hc => ?_) | refine Nx.p_bool rfl rfl (fun hc => ?_) (fun hc => ?_))
      | ((first | refine Nx.at_op rfl rfl ?_ | refine Nx.m_loud rfl rfl rfl ?_ | refine Nx.at_do rfl rfl rfl rfl ?_ | refine Nx.m_loud_do rfl rfl rfl rfl rfl ?_); first | refine Nx.opr rfl rfl ?_ | refine Nx.callv rfl rfl rfl (by kernel_rfl) rfl hCt ?_ | (refine Nx.call rfl rfl rfl (by kernel_rfl) rfl (FnSpec.keep [Blk _ 3 [.int .i64 (k : Int)]] fun m' I' hle hm' hv => hSf _ m (by omega) false b1 I' hle (by obtain ⟨q1, z1, y1⟩ := Stars.get 0 hv rfl; exact Blk.sliceOf (t := 3) (l := [(k : Int)]) (z1.trans hm') y1 (by unfold maxLen; simp))) (by (exact Ent.auto)) ?_; rintro _ _ ⟨_, ⟨rfl, rfl⟩, rfl⟩) | (refine Nx.call rfl rfl rfl (by kernel_rfl) rfl (FnSpec.keep [Blk _ 3 [.int .i64 (k : Int)]] fun m' I' hle hm' hv => hSf _ (m + 1) (by omega) false b2 I' hle (by obtain ⟨q1, z1, y1⟩ := Stars.get 0 hv rfl; exact Blk.sliceOf (t := 3) (l := [(k : Int)]) (z1.trans hm') y1 (by unfold maxLen; simp))) (by (exact Ent.auto)) ?_; rintro _ _ ⟨_, ⟨rfl, rfl⟩, rfl⟩) | (refine Nx.call rfl rfl rfl (by kernel_rfl) rfl (FnSpec.keep [Blk _ 3 [.int .i64 (k : Int)]] fun m' I' hle hm' hv => hSf _ 1 (by omega) true b3 I' hle (by obtain ⟨q1, z1, y1⟩ := Stars.get 0 hv rfl; exact Blk.sliceOf (t := 3) (l := [(k : Int)]) (z1.trans hm') y1 (by unfold maxLen; simp))) (by (exact Ent.auto)) ?_; rintro _ _ ⟨_, ⟨rfl, rfl⟩, rfl⟩) | refine Nx.so ?_ | refine Nx.sb (fun bx => ?_) | refine Nx.sa (fun A2 c2 => ?_))
      | ((with_reducible refine Nx.is_at ?_); first | refine Nx.a ?_ | ((fail_if_success refine Nx.at_do rfl rfl rfl rfl ?_); first | refine Nx.at_dec_t rfl rfl rfl rfl (by first | assumption | omega) ?_ | refine Nx.at_dec_f rfl rfl rfl rfl (by first | assumption | omega) ?_ | refine Nx.at_split rfl rfl rfl rfl (fun hc => ?_) (fun hc => ?_) | refine Nx.at_splitb rfl rfl rfl rfl (fun hc => ?_) (fun hc => ?_)))
      | ((with_reducible refine Nx.is_mix ?_); first | refine Nx.m_quiet rfl rfl rfl rfl rfl (by first | exact QRun.fld (A := (ad Ar).add (k * 3)) rfl rfl | exact QRun.binr rfl rfl (run_booleq2 Tryz.underlying4 _ _ false (by first | rfl | (rw [decide_eq_true hlh]; rfl) | (rw [decide_eq_false hlh]; rfl))) | exact QRun.opr rfl | exact QRun.idx (A := Ar) (i := k) (sz := 3) rfl rfl rfl rfl hkr hAr | exact QRun.load rfl rfl (r2 _ _) | exact QRun.load rfl rfl (r0 _ _) | exact QRun.load rfl rfl (r1 _ _)) ?_ | refine Nx.m_quiet_do rfl rfl rfl rfl rfl rfl rfl (by first | exact QRun.fld (A := (ad Ar).add (k * 3)) rfl rfl | exact QRun.binr rfl rfl (run_booleq2 Tryz.underlying4 _ _ false (by first | rfl | (rw [decide_eq_true hlh]; rfl) | (rw [decide_eq_false hlh]; rfl))) | exact QRun.opr rfl | exact QRun.idx (A := Ar) (i := k) (sz := 3) rfl rfl rfl rfl hkr hAr | exact QRun.load rfl rfl (r2 _ _) | exact QRun.load rfl rfl (r0 _ _) | exact QRun.load rfl rfl (r1 _ _)) ?_ | refine Nx.m ?_ | ((fail_if_success refine Nx.m_quiet_do rfl rfl rfl rfl rfl rfl rfl ?_ ?_); (fail_if_success refine Nx.m_loud_do rfl rfl rfl rfl rfl ?_); first | refine Nx.m_dec_t rfl rfl rfl rfl (by first | assumption | omega) ?_ | refine Nx.m_dec_f rfl rfl rfl rfl (by first | assumption | omega) ?_ | refine Nx.m_split rfl rfl rfl rfl (fun hc => ?_) (fun hc => ?_) | refine Nx.m_splitb rfl rfl rfl rfl (fun hc => ?_) (fun hc => ?_)))
      | ((fail_if_success (with_reducible refine Nx.is_at ?_)); (fail_if_success (with_reducible refine Nx.is_wp ?_)); (fail_if_success (with_reducible refine Nx.is_mix ?_)); first | refine Nx.ex ?_)
    exact Nx.again (k + 1) hkN (by omega) ⟨rfl, rfl, rfl, rfl, rfl, rfl, trivial⟩ (by (exact Ent.auto))
  have b1 := hnb m true (decide_eq_false (by omega))
  by_cases hm2 : hi - lo < m + 1
  · have b2 := hnb (m + 1) false (decide_eq_true (by omega))
    repeat' first
      | ((with_reducible refine Nx.is_wp ?_); first | refine Nx.wo ?_ | refine Nx.p_draw (id := 14) rfl [0, 1, 2, 3, 4, 5, 6, 7, 8, 9, 10, 11, 12, 13, 14, 15, 16, 17, 18, 19, 20, 21, 22, 23, 24, 25, 26, 27, 28, 29, 30, 31] [] _ rfl rfl (by kernel_rfl) (by kernel_rfl) rfl (by repeat first | exact PanicOk.fn | refine PanicOk.then_ ?_ | refine PanicOk.inB ?_) (Ent.refl _) ?_ | refine Nx.p_dec rfl rfl (fun hc => ?_) (fun hc => ?_) | refine Nx.p_bool rfl rfl (fun hc => ?_) (fun hc => ?_))
      | ((first | refine Nx.at_op rfl rfl ?_ | refine Nx.m_loud rfl rfl rfl ?_ | refine Nx.at_do rfl rfl rfl rfl ?_ | refine Nx.m_loud_do rfl rfl rfl rfl rfl ?_); first | refine Nx.opr rfl rfl ?_ | refine Nx.callv rfl rfl rfl (by kernel_rfl) rfl hCt ?_ | (refine Nx.call rfl rfl rfl (by kernel_rfl) rfl (FnSpec.keep [Blk _ 3 [.int .i64 (k : Int)]] fun m' I' hle hm' hv => hSf _ m (by omega) true b1 I' hle (by obtain ⟨q1, z1, y1⟩ := Stars.get 0 hv rfl; exact Blk.sliceOf (t := 3) (l := [(k : Int)]) (z1.trans hm') y1 (by unfold maxLen; simp))) (by (exact Ent.auto)) ?_; rintro _ _ ⟨_, ⟨rfl, rfl⟩, rfl⟩) | (refine Nx.call rfl rfl rfl (by kernel_rfl) rfl (FnSpec.keep [Blk _ 3 [.int .i64 (k : Int)]] fun m' I' hle hm' hv => hSf _ (m + 1) (by omega) false b2 I' hle (by obtain ⟨q1, z1, y1⟩ := Stars.get 0 hv rfl; exact Blk.sliceOf (t := 3) (l := [(k : Int)]) (z1.trans hm') y1 (by unfold maxLen; simp))) (by (exact Ent.auto)) ?_; rintro _ _ ⟨_, ⟨rfl, rfl⟩, rfl⟩) | (refine Nx.call rfl rfl rfl (by kernel_rfl) rfl (FnSpec.keep [Blk _ 3 [.int .i64 (k : Int)]] fun m' I' hle hm' hv => hSf _ 1 (by omega) true b3 I' hle (by obtain ⟨q1, z1, y1⟩ := Stars.get 0 hv rfl; exact Blk.sliceOf (t := 3) (l := [(k : Int)]) (z1.trans hm') y1 (by unfold maxLen; simp))) (by (exact Ent.auto)) ?_; rintro _ _ ⟨_, ⟨rfl, rfl⟩, rfl⟩) | refine Nx.so ?_ | refine Nx.sb (fun bx => ?_) | refine Nx.sa (fun A2 c2 => ?_))
      | ((with_reducible refine Nx.is_at ?_); first | refine Nx.a ?_ | ((fail_if_success refine Nx.at_do rfl rfl rfl rfl ?_); first | refine Nx.at_dec_t rfl rfl rfl rfl (by first | assumption | omega) ?_ | refine Nx.at_dec_f rfl rfl rfl rfl (by first | assumption | omega) ?_ | refine Nx.at_split rfl rfl rfl rfl (fun hc => ?_) (fun hc => ?_) | refine Nx.at_splitb rfl rfl rfl rfl (fun hc => ?_) (fun hc => ?_)))
      | ((with_reducible refine Nx.is_mix ?_); first | refine Nx.m_quiet rfl rfl rfl rfl rfl (by first | exact QRun.fld (A := (ad Ar).add (k * 3)) rfl rfl | exact QRun.binr rfl rfl (run_booleq2 Tryz.underlying4 _ _ false (by first | rfl | (rw [decide_eq_true hlh]; rfl) | (rw [decide_eq_false hlh]; rfl))) | exact QRun.opr rfl | exact QRun.idx (A := Ar) (i := k) (sz := 3) rfl rfl rfl rfl hkr hAr | exact QRun.load rfl rfl (r2 _ _) | exact QRun.load rfl rfl (r0 _ _) | exact QRun.load rfl rfl (r1 _ _)) ?_ | refine Nx.m_quiet_do rfl rfl rfl rfl rfl rfl rfl (by first | exact QRun.fld (A := (ad Ar).add (k * 3)) rfl rfl | exact QRun.binr rfl rfl (run_booleq2 Tryz.underlying4 _ _ false (by first | rfl | (rw [decide_eq_true hlh]; rfl) | (rw [decide_eq_false hlh]; rfl))) | exact QRun.opr rfl | exact QRun.idx (A := Ar) (i := k) (sz := 3) rfl rfl rfl rfl hkr hAr | exact QRun.load rfl rfl (r2 _ _) | exact QRun.load rfl rfl (r0 _ _) | exact QRun.load rfl rfl (r1 _ _)) ?_ | refine Nx.m ?_ | ((fail_if_success refine Nx.m_quiet_do rfl rfl rfl rfl rfl rfl rfl ?_ ?_); (fail_if_success refine Nx.m_loud_do rfl rfl rfl rfl rfl ?_); first | refine Nx.m_dec_t rfl rfl rfl rfl (by first | assumption | omega) ?_ | refine Nx.m_dec_f rfl rfl rfl rfl (by first | assumption | omega) ?_ | refine Nx.m_split rfl rfl rfl rfl (fun hc => ?_) (fun hc => ?_) | refine Nx.m_splitb rfl rfl rfl rfl (fun hc => ?_) (fun hc => ?_)))
      | ((fail_if_success (with_reducible refine Nx.is_at ?_)); (fail_if_success (with_reducible refine Nx.is_wp ?_)); (fail_if_success (with_reducible refine Nx.is_mix ?_)); first | refine Nx.ex ?_)
    exact Nx.again (k + 1) hkN (by omega) ⟨rfl, rfl, rfl, rfl, rfl, rfl, trivial⟩ (by (exact Ent.auto))
  · have b2 := hnb (m + 1) true (decide_eq_false (by omega))
    repeat' first
      | ((with_reducible refine Nx.is_wp ?_); first | refine Nx.wo ?_ | refine Nx.p_draw (id := 14) rfl [0, 1, 2, 3, 4, 5, 6, 7, 8, 9, 10, 11, 12, 13, 14, 15, 16, 17, 18, 19, 20, 21, 22, 23, 24, 25, 26, 27, 28, 29, 30, 31] [] _ rfl rfl (by kernel_rfl) (by kernel_rfl) rfl (by repeat first | exact PanicOk.fn | refine PanicOk.then_ ?_ | refine PanicOk.inB ?_) (Ent.refl _) ?_ | refine Nx.p_dec rfl rfl (fun hc => ?_) (fun hc => ?_) | refine Nx.p_bool rfl rfl (fun hc => ?_) (fun hc => ?_))
      | ((first | refine Nx.at_op rfl rfl ?_ | refine Nx.m_loud rfl rfl rfl ?_ | refine Nx.at_do rfl rfl rfl rfl ?_ | refine Nx.m_loud_do rfl rfl rfl rfl rfl ?_); first | refine Nx.opr rfl rfl ?_ | refine Nx.callv rfl rfl rfl (by kernel_rfl) rfl hCt ?_ | (refine Nx.call rfl rfl rfl (by kernel_rfl) rfl (FnSpec.keep [Blk _ 3 [.int .i64 (k : Int)]] fun m' I' hle hm' hv => hSf _ m (by omega) true b1 I' hle (by obtain ⟨q1, z1, y1⟩ := Stars.get 0 hv rfl; exact Blk.sliceOf (t := 3) (l := [(k : Int)]) (z1.trans hm') y1 (by unfold maxLen; simp))) (by (exact Ent.auto)) ?_; rintro _ _ ⟨_, ⟨rfl, rfl⟩, rfl⟩) | (refine Nx.call rfl rfl rfl (by kernel_rfl) rfl (FnSpec.keep [Blk _ 3 [.int .i64 (k : Int)]] fun m' I' hle hm' hv => hSf _ (m + 1) (by omega) true b2 I' hle (by obtain ⟨q1, z1, y1⟩ := Stars.get 0 hv rfl; exact Blk.sliceOf (t := 3) (l := [(k : Int)]) (z1.trans hm') y1 (by unfold maxLen; simp))) (by (exact Ent.auto)) ?_; rintro _ _ ⟨_, ⟨rfl, rfl⟩, rfl⟩) | (refine Nx.call rfl rfl rfl (by kernel_rfl) rfl (FnSpec.keep [Blk _ 3 [.int .i64 (k : Int)]] fun m' I' hle hm' hv => hSf _ 1 (by omega) true b3 I' hle (by obtain ⟨q1, z1, y1⟩ := Stars.get 0 hv rfl; exact Blk.sliceOf (t := 3) (l := [(k : Int)]) (z1.trans hm') y1 (by unfold maxLen; simp))) (by (exact Ent.auto)) ?_; rintro _ _ ⟨_, ⟨rfl, rfl⟩, rfl⟩) | refine Nx.so ?_ | refine Nx.sb (fun bx => ?_) | refine Nx.sa (fun A2 c2 => ?_))
      | ((with_reducible refine Nx.is_at ?_); first | refine Nx.a ?_ | ((fail_if_success refine Nx.at_do rfl rfl rfl rfl ?_); first | refine Nx.at_dec_t rfl rfl rfl rfl (by first | assumption | omega) ?_ | refine Nx.at_dec_f rfl rfl rfl rfl (by first | assumption | omega) ?_ | refine Nx.at_split rfl rfl rfl rfl (fun hc => ?_) (fun hc => ?_) | refine Nx.at_splitb rfl rfl rfl rfl (fun hc => ?_) (fun hc => ?_)))
      | ((with_reducible refine Nx.is_mix ?_); first | refine Nx.m_quiet rfl rfl rfl rfl rfl (by first | exact QRun.fld (A := (ad Ar).add (k * 3)) rfl rfl | exact QRun.binr rfl rfl (run_booleq2 Tryz.underlying4 _ _ false (by first | rfl | (rw [decide_eq_true hlh]; rfl) | (rw [decide_eq_false hlh]; rfl))) | exact QRun.opr rfl | exact QRun.idx (A := Ar) (i := k) (sz := 3) rfl rfl rfl rfl hkr hAr | exact QRun.load rfl rfl (r2 _ _) | exact QRun.load rfl rfl (r0 _ _) | exact QRun.load rfl rfl (r1 _ _)) ?_ | refine Nx.m_quiet_do rfl rfl rfl rfl rfl rfl rfl (by first | exact QRun.fld (A := (ad Ar).add (k * 3)) rfl rfl | exact QRun.binr rfl rfl (run_booleq2 Tryz.underlying4 _ _ false (by first | rfl | (rw [decide_eq_true hlh]; rfl) | (rw [decide_eq_false hlh]; rfl))) | exact QRun.opr rfl | exact QRun.idx (A := Ar) (i := k) (sz := 3) rfl rfl rfl rfl hkr hAr | exact QRun.load rfl rfl (r2 _ _) | exact QRun.load rfl rfl (r0 _ _) | exact QRun.load rfl rfl (r1 _ _)) ?_ | refine Nx.m ?_ | ((fail_if_success refine Nx.m_quiet_do rfl rfl rfl rfl rfl rfl rfl ?_ ?_); (fail_if_success refine Nx.m_loud_do rfl rfl rfl rfl rfl ?_); first | refine Nx.m_dec_t rfl rfl rfl rfl (by first | assumption | omega) ?_ | refine Nx.m_dec_f rfl rfl rfl rfl (by first | assumption | omega) ?_ | refine Nx.m_split rfl rfl rfl rfl (fun hc => ?_) (fun hc => ?_) | refine Nx.m_splitb rfl rfl rfl rfl (fun hc => ?_) (fun hc => ?_)))
      | ((fail_if_success (with_reducible refine Nx.is_at ?_)); (fail_if_success (with_reducible refine Nx.is_wp ?_)); (fail_if_success (with_reducible refine Nx.is_mix ?_)); first | refine Nx.ex ?_)
    exact Nx.again (k + 1) hkN (by omega) ⟨rfl, rfl, rfl, rfl, rfl, rfl, trivial⟩ (by (exact Ent.auto))
end Go.Proofs.YtcmdemfhbekabaaGreat
