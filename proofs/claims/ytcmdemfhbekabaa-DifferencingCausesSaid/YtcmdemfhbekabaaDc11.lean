/- Contracts of functions of the given program, and lemmas about plain lists and numbers: what the laws of this seat lean on. -/
import Derived.Test.YtcmdemfhbekabaaDc10
namespace Go.Proofs.Ytcmdemfhbekabaa
open Go.Eng Go.Sol
attribute [local irreducible] opK wpList Code.wp Exit.then Exit.inBlock fnPost bodyPost Nx Calls Oper.wp Rd Rds Wr Ent Stars Blk Again Vec FnSpec wpMix QRun Stop Upto wpAt
/-! The law of causes -/
theorem run_boolneC {P : Program} {t : TypeId} {x y : Operand} (ht : P.underlying t = some .bool) (b c r : Bool) (h : (!(b == c)) = r) (w : World) : (do eqGuard .neq t x y (.bool b) (.bool c); binOp .neq t (.bool b) (.bool c)).run P w = .ok (.bool r) w := by subst h; exact run_boolne ht b c w
def pickR (ls : List Rel) (out : Int) : Nat → List Rel
  | 0 => []
  | i + 1 => pickR ls out i ++ if (i : Int) = out then [] else [ls.getD i default]
theorem pickR_before {ls : List Rel} {out : Int} : ∀ {i : Nat}, i ≤ ls.length → ((i : Int) ≤ out ∨ out < 0) → pickR ls out i = ls.take i
  | 0, _, _ => by simp [pickR]
  | i + 1, hi, h => by
    rw [pickR, pickR_before (by omega) (by omega), if_neg (by omega), take_snocR (by omega)]
theorem pickR_after {ls : List Rel} {q : Nat} : ∀ {i : Nat}, q < i → i ≤ ls.length → pickR ls (q : Int) i = ls.take q ++ (ls.take i).drop (q + 1)
  | 0, h, _ => absurd h (Nat.not_lt_zero _)
  | i + 1, h, hi => by
    rw [pickR]
    by_cases hiq : i = q
    · subst hiq
      rw [if_pos rfl, List.append_nil, pickR_before (by omega) (.inl (Int.le_refl _)), List.drop_eq_nil_of_le (by rw [List.length_take]; omega), List.append_nil]
    · rw [if_neg (by omega), pickR_after (by omega) (by omega), take_snocR (l := ls) (k := i) (by omega), List.append_assoc]
      congr 1
      rw [List.drop_append_of_le_length (by rw [List.length_take]; omega)]
theorem pickR_all {ls : List Rel} {out : Int} (h : out < ls.length) (h0 : -1 ≤ out) : pickR ls out ls.length = if out < 0 then ls else dropR ls out.toNat := by
  split
  · rename_i h1
    rw [pickR_before (Nat.le_refl _) (.inr h1), List.take_length]
  · rename_i h1
    obtain ⟨q, rfl⟩ : ∃ q : Nat, out = q := ⟨out.toNat, by omega⟩
    rw [pickR_after (by omega) (Nat.le_refl _), List.take_length]; rfl
theorem pickR_len {ls : List Rel} {out : Int} : ∀ i, (pickR ls out i).length ≤ i
  | 0 => Nat.le_refl _
  | i + 1 => by
    have := pickR_len (ls := ls) (out := out) i
    rw [pickR, List.length_append]
    split <;> simp <;> omega
theorem exp_one {l : List Int} {rs : List Rel} {k : Nat} {m : Int} (hm : 1 ≤ m ∧ m ≤ 100) (hk : (k : Int) < prod l) : ((expD l rs [(k : Int)] m).2 = 0 ∧ (expD l rs [(k : Int)] m).1.length = 1) ↔ exposesB l rs k m = true := by
  unfold expD exposesB
  dsimp only
  rw [List.length_map, Bool.and_eq_true, decide_eq_true_eq]
  unfold findD
  by_cases h0 : chkD l rs [(k : Int)] m = 0
  · rw [if_neg (by omega)]
    by_cases h1 : (rchD l rs).2 = 0
    · rw [if_neg (by omega), exOf_oneD, Int.toNat_natCast]
      cases narrowB ((rchD l rs).1.getD k default) m <;> simp [h1]
    · rw [if_pos h1]
      simp [h1]
  · rw [if_pos h0]
    constructor
    · rintro ⟨h, _⟩; exact absurd h h0
    · rintro ⟨h1, _⟩
      exfalso
      obtain ⟨hE, _⟩ := rchD_zero h1
      refine h0 ?_
      unfold chkD
      rw [if_neg (by omega), if_neg (by omega), if_neg, if_pos (List.pairwise_singleton _ _)]
      intro ha
      obtain ⟨x, hx, hb⟩ := List.any_eq_true.1 ha
      rw [List.mem_singleton.1 hx] at hb
      unfold outP at hb
      rw [decide_eq_true_eq] at hb
      omega
theorem rel_num {l t : List Int} {rs ls : List Rel} (h : RelsOk l t rs) (hsub : ls.Sublist rs) {i : Nat} (hi : i < ls.length) : ∃ j, j < rs.length ∧ rs.getD j default = ls.getD i default ∧ (ls.getD i default).num = j := by
  obtain ⟨j, hj, he⟩ := List.mem_iff_getElem.1 (hsub.subset (getD_memR hi))
  refine ⟨j, hj, by rw [List.getD_eq_getElem?_getD, List.getElem?_eq_getElem hj]; exact he, ?_⟩
  have := (h.each j hj).2
  rw [List.getD_eq_getElem?_getD, List.getElem?_eq_getElem hj] at this
  rw [← he]; exact this
def pickJ (rs : List Rel) (j0 : Nat) (i o : Int) (j : Nat) : List Rel := if j0 < j ∧ i ≠ o then [rs.getD j0 default] else []
theorem pickJ_zero {rs : List Rel} {j0 : Nat} {i o : Int} : pickJ rs j0 i o 0 = [] := by unfold pickJ; rw [if_neg (by omega)]
theorem pickJ_end {rs : List Rel} {j0 : Nat} {i o : Int} {n : Nat} (h : j0 < n) : pickJ rs j0 i o n = if i = o then [] else [rs.getD j0 default] := by
  unfold pickJ
  by_cases hi : i = o
  · rw [if_neg (by omega), if_pos hi]
  · rw [if_pos ⟨h, hi⟩, if_neg hi]
theorem pickJ_succ {rs : List Rel} {j0 : Nat} {i o : Int} {j : Nat} : pickJ rs j0 i o (j + 1) = if j = j0 ∧ i ≠ o then pickJ rs j0 i o j ++ [rs.getD j default] else pickJ rs j0 i o j := by
  unfold pickJ
  by_cases hi : i = o
  · rw [if_neg (by omega), if_neg (by omega), if_neg (by omega)]
  · by_cases hj : j = j0
    · subst hj
      rw [if_pos ⟨by omega, hi⟩, if_pos ⟨rfl, hi⟩, if_neg (by omega), List.nil_append]
    · rw [if_neg (c := j = j0 ∧ i ≠ o) (by omega)]
      by_cases h1 : j0 < j
      · rw [if_pos ⟨by omega, hi⟩, if_pos ⟨h1, hi⟩]
      · rw [if_neg (by omega), if_neg (by omega)]
theorem pickJ_len (rs : List Rel) (j0 : Nat) (i o : Int) (j : Nat) : (pickJ rs j0 i o j).length ≤ 1 := by
  unfold pickJ; split <;> simp
set_option maxRecDepth 10000 in
set_option maxHeartbeats 16000000 in
theorem DifferencingCauses_spec (A : Option Addr) (c : Nat) (l : List Int) (mg : Int) (I : PH) (hl : Bytes I A c l) (hx : ∀ x ∈ l, 0 ≤ x ∧ x < 256) (hmg : 0 ≤ mg ∧ mg < 256) :
    FnSpec Try.prog 4 [.slice A l.length c, .int .u8 mg] I [] (fun v R' => v = .bool true ∧ R' = []) := by
  have hL := bytes_take hl hx
  obtain ⟨m, hmd, hm⟩ : ∃ m, m = 1 + mg % 3 ∧ 1 ≤ m ∧ m ≤ 100 := ⟨_, rfl, by omega, by omega⟩
  refine FnSpec.enterP Try.func4 rfl Try.ntmps4 rfl fun w F => ?_
  repeat' first
    | ((with_reducible refine Nx.is_wp ?_); first | refine Nx.p_stopr 3 rfl ?_ | refine Nx.wo ?_ | refine Nx.p_dec rfl rfl (fun hc => ?_) (fun hc => ?_) | refine Nx.p_bool rfl rfl (fun hc => ?_) (fun hc => ?_))
    | ((first | refine Nx.at_op rfl rfl ?_ | refine Nx.m_loud rfl rfl rfl ?_ | refine Nx.at_do rfl rfl rfl rfl ?_ | refine Nx.m_loud_do rfl rfl rfl rfl rfl ?_); first | refine Nx.opr rfl rfl ?_ | (refine Nx.call (Rpre := []) rfl rfl rfl (by kernel_rfl) rfl (New_codes A c l I hl) (Ent.refl _) ?_; rintro _ _ ⟨b, rfl, rfl⟩) | (refine Nx.call rfl rfl rfl (by kernel_rfl) rfl (Told_made b A c _ 0 2 4 I hL (Nat.zero_le _) (by omega) (by omega)) (by (exact Ent.auto)) ?_; rintro _ _ ⟨B, c', s, At, ct, t, As, ca, rs, k1, rfl, hs, hT, hrn, hro, hk1, rfl⟩) | refine Nx.so ?_ | refine Nx.sb (fun bx => ?_) | refine Nx.sa (fun A2 c2 => ?_))
    | ((with_reducible refine Nx.is_at ?_); first | refine Nx.a ?_ | ((fail_if_success refine Nx.at_do rfl rfl rfl rfl ?_); first | refine Nx.at_dec_t rfl rfl rfl rfl (by first | assumption | omega) ?_ | refine Nx.at_dec_f rfl rfl rfl rfl (by first | assumption | omega) ?_ | refine Nx.at_split rfl rfl rfl rfl (fun hc => ?_) (fun hc => ?_) | refine Nx.at_splitb rfl rfl rfl rfl (fun hc => ?_) (fun hc => ?_)))
    | ((with_reducible refine Nx.is_mix ?_); first | refine Nx.m ?_ | ((fail_if_success refine Nx.m_quiet_do rfl rfl rfl rfl rfl rfl rfl ?_ ?_); (fail_if_success refine Nx.m_loud_do rfl rfl rfl rfl rfl ?_); first | refine Nx.m_dec_t rfl rfl rfl rfl (by first | assumption | omega) ?_ | refine Nx.m_dec_f rfl rfl rfl rfl (by first | assumption | omega) ?_ | refine Nx.m_split rfl rfl rfl rfl (fun hc => ?_) (fun hc => ?_) | refine Nx.m_splitb rfl rfl rfl rfl (fun hc => ?_) (fun hc => ?_)))
    | ((fail_if_success (with_reducible refine Nx.is_at ?_)); (fail_if_success (with_reducible refine Nx.is_wp ?_)); (fail_if_success (with_reducible refine Nx.is_mix ?_)); first | refine Nx.ex ?_)
  refine Nx.unstop ?_
  revert bx; intro b6
  refine Nx.giveTold (B := B) (c' := c') (s := s) (At := At) (ct := ct) (t := t) (As := As) (ca := ca) (rs := rs) (RR := [Blk b6 27 [.slice B s.length c'], F]) (by refine Ent.trans ?_ Ent.stars; unfold toldR; (exact Ent.auto)) fun I1 hI1 hz ht hrs => ?_
  have hzs := size_ok hs
  have hwv := views_of hro
  have hCt := RCount_spec B c' s I1 hz hs
  rw [← hzs.2.2] at hCt
  repeat' first
    | ((with_reducible refine Nx.is_wp ?_); first | refine Nx.wo ?_ | refine Nx.p_dec rfl rfl (fun hc => ?_) (fun hc => ?_) | refine Nx.p_bool rfl rfl (fun hc => ?_) (fun hc => ?_))
    | ((first | refine Nx.at_op rfl rfl ?_ | refine Nx.m_loud rfl rfl rfl ?_ | refine Nx.at_do rfl rfl rfl rfl ?_ | refine Nx.m_loud_do rfl rfl rfl rfl rfl ?_); first | refine Nx.opr rfl rfl ?_ | refine Nx.rem rfl rfl (by omega) (by omega) rfl ?_ | refine Nx.so ?_ | refine Nx.sb (fun bx => ?_) | refine Nx.sa (fun A2 c2 => ?_))
    | ((with_reducible refine Nx.is_at ?_); first | refine Nx.a ?_ | ((fail_if_success refine Nx.at_do rfl rfl rfl rfl ?_); first | refine Nx.at_dec_t rfl rfl rfl rfl (by first | assumption | omega) ?_ | refine Nx.at_dec_f rfl rfl rfl rfl (by first | assumption | omega) ?_ | refine Nx.at_split rfl rfl rfl rfl (fun hc => ?_) (fun hc => ?_) | refine Nx.at_splitb rfl rfl rfl rfl (fun hc => ?_) (fun hc => ?_)))
    | ((with_reducible refine Nx.is_mix ?_); first | refine Nx.m ?_ | ((fail_if_success refine Nx.m_quiet_do rfl rfl rfl rfl rfl rfl rfl ?_ ?_); (fail_if_success refine Nx.m_loud_do rfl rfl rfl rfl rfl ?_); first | refine Nx.m_dec_t rfl rfl rfl rfl (by first | assumption | omega) ?_ | refine Nx.m_dec_f rfl rfl rfl rfl (by first | assumption | omega) ?_ | refine Nx.m_split rfl rfl rfl rfl (fun hc => ?_) (fun hc => ?_) | refine Nx.m_splitb rfl rfl rfl rfl (fun hc => ?_) (fun hc => ?_)))
    | ((fail_if_success (with_reducible refine Nx.is_at ?_)); (fail_if_success (with_reducible refine Nx.is_wp ?_)); (fail_if_success (with_reducible refine Nx.is_mix ?_)); first | refine Nx.ex ?_)
  rw [← hmd]
  refine Nx.p_loop (σ := Nat) (fun k => [(6, .pointer (some ⟨b6, 0, none⟩)), (8, .slice As rs.length ca), (9, .int .i64 m), (10, .int .i64 (k : Int))])
    (fun _ => [Blk b6 27 [.slice B s.length c'], F]) (fun k => k ≤ (prod s).toNat) (fun k => (prod s).toNat - k) 0 rfl (Nat.zero_le _) ⟨rfl, rfl, rfl, rfl, trivial⟩ (by (exact Ent.auto)) ?_
  intro k hk
  have hk : k ≤ (prod s).toNat := hk
  by_cases hkN : k < (prod s).toNat
  case neg =>
    repeat' first
      | ((with_reducible refine Nx.is_wp ?_); first | refine Nx.wo ?_ | refine Nx.p_dec rfl rfl (fun hc => ?_) (fun hc => ?_) | refine Nx.p_bool rfl rfl (fun hc => ?_) (fun hc => ?_))
      | ((first | refine Nx.at_op rfl rfl ?_ | refine Nx.m_loud rfl rfl rfl ?_ | refine Nx.at_do rfl rfl rfl rfl ?_ | refine Nx.m_loud_do rfl rfl rfl rfl rfl ?_); first | refine Nx.opr rfl rfl ?_ | refine Nx.callv rfl rfl rfl (by kernel_rfl) rfl hCt ?_ | refine Nx.callv rfl rfl rfl (by kernel_rfl) rfl (awakeD_spec _) ?_ | refine Nx.so ?_ | refine Nx.sb (fun bx => ?_) | refine Nx.sa (fun A2 c2 => ?_))
      | ((with_reducible refine Nx.is_at ?_); first | refine Nx.a ?_ | ((fail_if_success refine Nx.at_do rfl rfl rfl rfl ?_); first | refine Nx.at_dec_t rfl rfl rfl rfl (by first | assumption | omega) ?_ | refine Nx.at_dec_f rfl rfl rfl rfl (by first | assumption | omega) ?_ | refine Nx.at_split rfl rfl rfl rfl (fun hc => ?_) (fun hc => ?_) | refine Nx.at_splitb rfl rfl rfl rfl (fun hc => ?_) (fun hc => ?_)))
      | ((with_reducible refine Nx.is_mix ?_); first | refine Nx.m ?_ | ((fail_if_success refine Nx.m_quiet_do rfl rfl rfl rfl rfl rfl rfl ?_ ?_); (fail_if_success refine Nx.m_loud_do rfl rfl rfl rfl rfl ?_); first | refine Nx.m_dec_t rfl rfl rfl rfl (by first | assumption | omega) ?_ | refine Nx.m_dec_f rfl rfl rfl rfl (by first | assumption | omega) ?_ | refine Nx.m_split rfl rfl rfl rfl (fun hc => ?_) (fun hc => ?_) | refine Nx.m_splitb rfl rfl rfl rfl (fun hc => ?_) (fun hc => ?_)))
      | ((fail_if_success (with_reducible refine Nx.is_at ?_)); (fail_if_success (with_reducible refine Nx.is_wp ?_)); (fail_if_success (with_reducible refine Nx.is_mix ?_)); first | refine Nx.ex ?_)
    exact Nx.imm_le hI1 (Nx.ret_fn rfl [] ⟨rfl, rfl⟩ (by (exact Ent.auto)))
  have hCs := Causes_spec B As c' ca s rs k m I1 hz hs hrs hwv (by omega) hkN
  repeat' first
    | ((with_reducible refine Nx.is_wp ?_); first | refine Nx.wo ?_ | refine Nx.p_dec rfl rfl (fun hc => ?_) (fun hc => ?_) | refine Nx.p_bool rfl rfl (fun hc => ?_) (fun hc => ?_))
    | ((first | refine Nx.at_op rfl rfl ?_ | refine Nx.m_loud rfl rfl rfl ?_ | refine Nx.at_do rfl rfl rfl rfl ?_ | refine Nx.m_loud_do rfl rfl rfl rfl rfl ?_); first | refine Nx.opr rfl rfl ?_ | refine Nx.callv rfl rfl rfl (by kernel_rfl) rfl hCt ?_ | (refine Nx.call (Rpre := []) rfl rfl rfl (by kernel_rfl) rfl hCs (Ent.refl _) ?_; rintro _ _ ⟨Ac, cc, nums, er, rfl, rfl, hcs⟩; by_cases her : er = 0) | refine Nx.so ?_ | refine Nx.sb (fun bx => ?_) | refine Nx.sa (fun A2 c2 => ?_))
    | ((with_reducible refine Nx.is_at ?_); first | refine Nx.a ?_ | ((fail_if_success refine Nx.at_do rfl rfl rfl rfl ?_); first | refine Nx.at_dec_t rfl rfl rfl rfl (by first | assumption | omega) ?_ | refine Nx.at_dec_f rfl rfl rfl rfl (by first | assumption | omega) ?_ | refine Nx.at_split rfl rfl rfl rfl (fun hc => ?_) (fun hc => ?_) | refine Nx.at_splitb rfl rfl rfl rfl (fun hc => ?_) (fun hc => ?_)))
    | ((with_reducible refine Nx.is_mix ?_); first | refine Nx.m ?_ | ((fail_if_success refine Nx.m_quiet_do rfl rfl rfl rfl rfl rfl rfl ?_ ?_); (fail_if_success refine Nx.m_loud_do rfl rfl rfl rfl rfl ?_); first | refine Nx.m_dec_t rfl rfl rfl rfl (by first | assumption | omega) ?_ | refine Nx.m_dec_f rfl rfl rfl rfl (by first | assumption | omega) ?_ | refine Nx.m_split rfl rfl rfl rfl (fun hc => ?_) (fun hc => ?_) | refine Nx.m_splitb rfl rfl rfl rfl (fun hc => ?_) (fun hc => ?_)))
    | ((fail_if_success (with_reducible refine Nx.is_at ?_)); (fail_if_success (with_reducible refine Nx.is_wp ?_)); (fail_if_success (with_reducible refine Nx.is_mix ?_)); first | refine Nx.ex ?_)
  case neg => exact Nx.again (k + 1) hkN (by omega) ⟨rfl, rfl, rfl, rfl, trivial⟩ (by (exact Ent.auto))
  subst her
  obtain ⟨ls, hnums, hsub, hexp, hnot⟩ := hcs rfl
  clear hcs hCs
  have hll := hsub.length_le
  have hnl : nums.length = ls.length := by rw [hnums, List.length_map]
  refine Nx.ent (R' := [iR Ac cc nums, Blk b6 27 [.slice B s.length c'], F]) (by (exact Ent.auto)) ?_
  refine Nx.freezeAt 0 rfl fun I2 m2 hI2 hm2 h2 => ?_
  have hnu : Ints I2 Ac cc nums := Vec.sliceOf hm2 h2
  have hz2 := hz.mono hI2
  have hrs2 := hrs.mono hI2
  refine Nx.p_loop (σ := Int) (fun o => [(6, .pointer (some ⟨b6, 0, none⟩)), (8, .slice As rs.length ca), (9, .int .i64 m), (10, .int .i64 (k : Int)), (11, .slice Ac nums.length cc), (13, .int .i64 o)])
    (fun _ => [Blk b6 27 [.slice B s.length c'], F]) (fun o => -1 ≤ o ∧ o ≤ ls.length) (fun o => ((ls.length : Int) - o).toNat) (-1) rfl ⟨by omega, by omega⟩ ⟨rfl, rfl, rfl, rfl, rfl, rfl, trivial⟩ (by (exact Ent.auto)) ?_
  rintro o ⟨ho1, ho2⟩
  by_cases hol : o < ls.length
  case neg =>
    repeat' first
      | ((with_reducible refine Nx.is_wp ?_); first | refine Nx.wo ?_ | refine Nx.p_dec rfl rfl (fun hc => ?_) (fun hc => ?_) | refine Nx.p_bool rfl rfl (fun hc => ?_) (fun hc => ?_))
      | ((first | refine Nx.at_op rfl rfl ?_ | refine Nx.m_loud rfl rfl rfl ?_ | refine Nx.at_do rfl rfl rfl rfl ?_ | refine Nx.m_loud_do rfl rfl rfl rfl rfl ?_); first | refine Nx.opr rfl rfl ?_ | refine Nx.so ?_ | refine Nx.sb (fun bx => ?_) | refine Nx.sa (fun A2 c2 => ?_))
      | ((with_reducible refine Nx.is_at ?_); first | refine Nx.a ?_ | ((fail_if_success refine Nx.at_do rfl rfl rfl rfl ?_); first | refine Nx.at_dec_t rfl rfl rfl rfl (by first | assumption | omega) ?_ | refine Nx.at_dec_f rfl rfl rfl rfl (by first | assumption | omega) ?_ | refine Nx.at_split rfl rfl rfl rfl (fun hc => ?_) (fun hc => ?_) | refine Nx.at_splitb rfl rfl rfl rfl (fun hc => ?_) (fun hc => ?_)))
      | ((with_reducible refine Nx.is_mix ?_); first | refine Nx.m ?_ | ((fail_if_success refine Nx.m_quiet_do rfl rfl rfl rfl rfl rfl rfl ?_ ?_); (fail_if_success refine Nx.m_loud_do rfl rfl rfl rfl rfl ?_); first | refine Nx.m_dec_t rfl rfl rfl rfl (by first | assumption | omega) ?_ | refine Nx.m_dec_f rfl rfl rfl rfl (by first | assumption | omega) ?_ | refine Nx.m_split rfl rfl rfl rfl (fun hc => ?_) (fun hc => ?_) | refine Nx.m_splitb rfl rfl rfl rfl (fun hc => ?_) (fun hc => ?_)))
      | ((fail_if_success (with_reducible refine Nx.is_at ?_)); (fail_if_success (with_reducible refine Nx.is_wp ?_)); (fail_if_success (with_reducible refine Nx.is_mix ?_)); first | refine Nx.ex ?_)
    exact Nx.imm_le hI2 (Nx.again (k + 1) hkN (by omega) ⟨rfl, rfl, rfl, rfl, trivial⟩ (by (exact Ent.auto)))
  repeat' first
    | ((with_reducible refine Nx.is_wp ?_); first | refine Nx.wo ?_ | refine Nx.p_dec rfl rfl (fun hc => ?_) (fun hc => ?_) | refine Nx.p_bool rfl rfl (fun hc => ?_) (fun hc => ?_))
    | ((first | refine Nx.at_op rfl rfl ?_ | refine Nx.m_loud rfl rfl rfl ?_ | refine Nx.at_do rfl rfl rfl rfl ?_ | refine Nx.m_loud_do rfl rfl rfl rfl rfl ?_); first | refine Nx.opr rfl rfl ?_ | refine Nx.so ?_ | refine Nx.sb (fun bx => ?_) | refine Nx.sa (fun A2 c2 => ?_))
    | ((with_reducible refine Nx.is_at ?_); first | refine Nx.a ?_ | ((fail_if_success refine Nx.at_do rfl rfl rfl rfl ?_); first | refine Nx.at_dec_t rfl rfl rfl rfl (by first | assumption | omega) ?_ | refine Nx.at_dec_f rfl rfl rfl rfl (by first | assumption | omega) ?_ | refine Nx.at_split rfl rfl rfl rfl (fun hc => ?_) (fun hc => ?_) | refine Nx.at_splitb rfl rfl rfl rfl (fun hc => ?_) (fun hc => ?_)))
    | ((with_reducible refine Nx.is_mix ?_); first | refine Nx.m ?_ | ((fail_if_success refine Nx.m_quiet_do rfl rfl rfl rfl rfl rfl rfl ?_ ?_); (fail_if_success refine Nx.m_loud_do rfl rfl rfl rfl rfl ?_); first | refine Nx.m_dec_t rfl rfl rfl rfl (by first | assumption | omega) ?_ | refine Nx.m_dec_f rfl rfl rfl rfl (by first | assumption | omega) ?_ | refine Nx.m_split rfl rfl rfl rfl (fun hc => ?_) (fun hc => ?_) | refine Nx.m_splitb rfl rfl rfl rfl (fun hc => ?_) (fun hc => ?_)))
    | ((fail_if_success (with_reducible refine Nx.is_at ?_)); (fail_if_success (with_reducible refine Nx.is_wp ?_)); (fail_if_success (with_reducible refine Nx.is_mix ?_)); first | refine Nx.ex ?_)
  refine Nx.p_loop (σ := Nat × Option Addr × Nat) (fun q => [(6, .pointer (some ⟨b6, 0, none⟩)), (8, .slice As rs.length ca), (9, .int .i64 m), (10, .int .i64 (k : Int)), (11, .slice Ac nums.length cc), (13, .int .i64 o), (14, .slice q.2.1 (pickR ls o q.1).length q.2.2), (55, .slice Ac nums.length cc), (56, .int .i64 nums.length), (57, .int .i64 (q.1 : Int))])
    (fun q => [rlR q.2.1 q.2.2 (pickR ls o q.1), Blk b6 27 [.slice B s.length c'], F]) (fun q => q.1 ≤ ls.length) (fun q => ls.length - q.1) (0, none, 0) rfl (Nat.zero_le _) ⟨rfl, rfl, rfl, rfl, rfl, rfl, rfl, rfl, rfl, rfl, trivial⟩ ((Ent.vec_nil 44 3 _).trans (by (exact Ent.auto))) ?_
  rintro ⟨i, A2, c2⟩ hi
  dsimp only at hi ⊢
  by_cases hil : i < ls.length
  case neg =>
    obtain rfl : i = ls.length := by omega
    rw [pickR_all hol ho1]
    obtain ⟨sm, hsm⟩ : ∃ sm, sm = if o < 0 then ls else dropR ls o.toNat := ⟨_, rfl⟩
    rw [← hsm]
    have hss : sm.Sublist rs := by
      rw [hsm]; split
      · exact hsub
      · exact (dropR_sub ls _).trans hsub
    have hsl := hss.length_le
    have hR : ∀ (I' q : PH), PH.le I2 I' → PH.le q I' → rlR A2 c2 sm q → Rels I' A2 c2 sm := fun I' q hle hq hv =>
      ⟨Vec.sliceN hq hv fun x _ => relC_len x, fun r hr' => (hrs2.view r (hss.subset hr')).mono hle, fun r hr' => (hrs2.val r (hss.subset hr')).mono hle⟩
    have hX := fun (bp : Nat) (m' I' : PH) (hle : PH.le I2 I') (hm' : PH.le m' I') (hv : Stars [Blk bp 3 [.int .i64 (k : Int)], rlR A2 c2 sm] m') => (by
      obtain ⟨q0, z0, y0⟩ := Stars.get 0 hv rfl
      obtain ⟨q1, z1, y1⟩ := Stars.get 1 hv rfl
      exact Exposed_spec B A2 (some ⟨bp, 0, none⟩) c' c2 1 s sm [(k : Int)] m I' (hz2.mono hle) hs (hR I' q1 hle (z1.trans hm') y1) (fun r hr => hwv r (hss.subset hr)) (Blk.sliceOf (t := 3) (l := [(k : Int)]) (z0.trans hm') y0 (by unfold maxLen; simp)) (by simp) :
      FnSpec Try.prog 12 [.agg #[.slice B s.length c'], .slice A2 sm.length c2, .slice (some ⟨bp, 0, none⟩) 1 1, .int .i64 m] I' [] (fun u R' => ∃ (A' : Option Addr) (c' : Nat), u = .tuple #[.slice A' (expD s sm [(k : Int)] m).1.length c', .int .i64 (expD s sm [(k : Int)] m).2] ∧ R' = [expR A' c' (expD s sm [(k : Int)] m).1]))
    have hone := exp_one (l := s) (rs := sm) (k := k) (m := m) hm (by omega)
    generalize expD s sm [(k : Int)] m = fx at hX hone
    obtain ⟨xs, ex⟩ := fx
    dsimp only at hX hone
    by_cases ho0 : o < 0
    · rw [if_pos ho0] at hsm
      obtain ⟨he, hxl⟩ := hone.2 (by rw [hsm]; exact hexp)
      subst he
      repeat' first
        | ((with_reducible refine Nx.is_wp ?_); first | refine Nx.wo ?_ | refine Nx.p_dec rfl rfl (fun hc => ?_) (fun hc => ?_) | refine Nx.p_bool rfl rfl (fun hc => ?_) (fun hc => ?_))
        | ((first | refine Nx.at_op rfl rfl ?_ | refine Nx.m_loud rfl rfl rfl ?_ | refine Nx.at_do rfl rfl rfl rfl ?_ | refine Nx.m_loud_do rfl rfl rfl rfl rfl ?_); first | (refine Nx.binr rfl rfl (run_boolneC Try.underlying4 _ _ false (by rw [decide_eq_true (by omega), decide_eq_true ho0]; rfl)) rfl ?_) | refine Nx.opr rfl rfl ?_ | (refine Nx.call rfl rfl rfl (by kernel_rfl) rfl (FnSpec.keep [Blk _ 3 [.int .i64 (k : Int)], rlR A2 c2 sm] fun m' I' hle hm' hv => hX _ m' I' hle hm' hv) (by (exact Ent.auto)) ?_; rintro _ _ ⟨_, ⟨A5, c5, rfl, rfl⟩, rfl⟩) | refine Nx.so ?_ | refine Nx.sb (fun bx => ?_) | refine Nx.sa (fun A2 c2 => ?_))
        | ((with_reducible refine Nx.is_at ?_); first | refine Nx.a ?_ | ((fail_if_success refine Nx.at_do rfl rfl rfl rfl ?_); first | refine Nx.at_dec_t rfl rfl rfl rfl (by first | assumption | omega) ?_ | refine Nx.at_dec_f rfl rfl rfl rfl (by first | assumption | omega) ?_ | refine Nx.at_split rfl rfl rfl rfl (fun hc => ?_) (fun hc => ?_) | refine Nx.at_splitb rfl rfl rfl rfl (fun hc => ?_) (fun hc => ?_)))
        | ((with_reducible refine Nx.is_mix ?_); first | refine Nx.m ?_ | ((fail_if_success refine Nx.m_quiet_do rfl rfl rfl rfl rfl rfl rfl ?_ ?_); (fail_if_success refine Nx.m_loud_do rfl rfl rfl rfl rfl ?_); first | refine Nx.m_dec_t rfl rfl rfl rfl (by first | assumption | omega) ?_ | refine Nx.m_dec_f rfl rfl rfl rfl (by first | assumption | omega) ?_ | refine Nx.m_split rfl rfl rfl rfl (fun hc => ?_) (fun hc => ?_) | refine Nx.m_splitb rfl rfl rfl rfl (fun hc => ?_) (fun hc => ?_)))
        | ((fail_if_success (with_reducible refine Nx.is_at ?_)); (fail_if_success (with_reducible refine Nx.is_wp ?_)); (fail_if_success (with_reducible refine Nx.is_mix ?_)); first | refine Nx.ex ?_)
      exact Nx.again (o + 1) ⟨by omega, by omega⟩ (by omega) ⟨rfl, rfl, rfl, rfl, rfl, rfl, trivial⟩ (by (exact Ent.auto))
    · rw [if_neg ho0] at hsm
      have hno : ¬ (ex = 0 ∧ xs.length = 1) := fun h => by
        have := hone.1 h
        rw [hsm, hnot _ (by omega)] at this
        cases this
      by_cases he : ex = 0
      · have hxl : xs.length ≠ 1 := fun h => hno ⟨he, h⟩
        subst he
        repeat' first
          | ((with_reducible refine Nx.is_wp ?_); first | refine Nx.wo ?_ | refine Nx.p_dec rfl rfl (fun hc => ?_) (fun hc => ?_) | refine Nx.p_bool rfl rfl (fun hc => ?_) (fun hc => ?_))
          | ((first | refine Nx.at_op rfl rfl ?_ | refine Nx.m_loud rfl rfl rfl ?_ | refine Nx.at_do rfl rfl rfl rfl ?_ | refine Nx.m_loud_do rfl rfl rfl rfl rfl ?_); first | (refine Nx.binr rfl rfl (run_boolneC Try.underlying4 _ _ false (by rw [decide_eq_false (by omega), decide_eq_false ho0]; rfl)) rfl ?_) | refine Nx.opr rfl rfl ?_ | (refine Nx.call rfl rfl rfl (by kernel_rfl) rfl (FnSpec.keep [Blk _ 3 [.int .i64 (k : Int)], rlR A2 c2 sm] fun m' I' hle hm' hv => hX _ m' I' hle hm' hv) (by (exact Ent.auto)) ?_; rintro _ _ ⟨_, ⟨A5, c5, rfl, rfl⟩, rfl⟩) | refine Nx.so ?_ | refine Nx.sb (fun bx => ?_) | refine Nx.sa (fun A2 c2 => ?_))
          | ((with_reducible refine Nx.is_at ?_); first | refine Nx.a ?_ | ((fail_if_success refine Nx.at_do rfl rfl rfl rfl ?_); first | refine Nx.at_dec_t rfl rfl rfl rfl (by first | assumption | omega) ?_ | refine Nx.at_dec_f rfl rfl rfl rfl (by first | assumption | omega) ?_ | refine Nx.at_split rfl rfl rfl rfl (fun hc => ?_) (fun hc => ?_) | refine Nx.at_splitb rfl rfl rfl rfl (fun hc => ?_) (fun hc => ?_)))
          | ((with_reducible refine Nx.is_mix ?_); first | refine Nx.m ?_ | ((fail_if_success refine Nx.m_quiet_do rfl rfl rfl rfl rfl rfl rfl ?_ ?_); (fail_if_success refine Nx.m_loud_do rfl rfl rfl rfl rfl ?_); first | refine Nx.m_dec_t rfl rfl rfl rfl (by first | assumption | omega) ?_ | refine Nx.m_dec_f rfl rfl rfl rfl (by first | assumption | omega) ?_ | refine Nx.m_split rfl rfl rfl rfl (fun hc => ?_) (fun hc => ?_) | refine Nx.m_splitb rfl rfl rfl rfl (fun hc => ?_) (fun hc => ?_)))
          | ((fail_if_success (with_reducible refine Nx.is_at ?_)); (fail_if_success (with_reducible refine Nx.is_wp ?_)); (fail_if_success (with_reducible refine Nx.is_mix ?_)); first | refine Nx.ex ?_)
        exact Nx.again (o + 1) ⟨by omega, by omega⟩ (by omega) ⟨rfl, rfl, rfl, rfl, rfl, rfl, trivial⟩ (by (exact Ent.auto))
      · repeat' first
          | ((with_reducible refine Nx.is_wp ?_); first | refine Nx.wo ?_ | refine Nx.p_dec rfl rfl (fun hc => ?_) (fun hc => ?_) | refine Nx.p_bool rfl rfl (fun hc => ?_) (fun hc => ?_))
          | ((first | refine Nx.at_op rfl rfl ?_ | refine Nx.m_loud rfl rfl rfl ?_ | refine Nx.at_do rfl rfl rfl rfl ?_ | refine Nx.m_loud_do rfl rfl rfl rfl rfl ?_); first | (refine Nx.binr rfl rfl (run_boolneC Try.underlying4 _ _ false (by rw [decide_eq_false ho0]; rfl)) rfl ?_) | refine Nx.opr rfl rfl ?_ | (refine Nx.call rfl rfl rfl (by kernel_rfl) rfl (FnSpec.keep [Blk _ 3 [.int .i64 (k : Int)], rlR A2 c2 sm] fun m' I' hle hm' hv => hX _ m' I' hle hm' hv) (by (exact Ent.auto)) ?_; rintro _ _ ⟨_, ⟨A5, c5, rfl, rfl⟩, rfl⟩) | refine Nx.so ?_ | refine Nx.sb (fun bx => ?_) | refine Nx.sa (fun A2 c2 => ?_))
          | ((with_reducible refine Nx.is_at ?_); first | refine Nx.a ?_ | ((fail_if_success refine Nx.at_do rfl rfl rfl rfl ?_); first | refine Nx.at_dec_t rfl rfl rfl rfl (by first | assumption | omega) ?_ | refine Nx.at_dec_f rfl rfl rfl rfl (by first | assumption | omega) ?_ | refine Nx.at_split rfl rfl rfl rfl (fun hc => ?_) (fun hc => ?_) | refine Nx.at_splitb rfl rfl rfl rfl (fun hc => ?_) (fun hc => ?_)))
          | ((with_reducible refine Nx.is_mix ?_); first | refine Nx.m ?_ | ((fail_if_success refine Nx.m_quiet_do rfl rfl rfl rfl rfl rfl rfl ?_ ?_); (fail_if_success refine Nx.m_loud_do rfl rfl rfl rfl rfl ?_); first | refine Nx.m_dec_t rfl rfl rfl rfl (by first | assumption | omega) ?_ | refine Nx.m_dec_f rfl rfl rfl rfl (by first | assumption | omega) ?_ | refine Nx.m_split rfl rfl rfl rfl (fun hc => ?_) (fun hc => ?_) | refine Nx.m_splitb rfl rfl rfl rfl (fun hc => ?_) (fun hc => ?_)))
          | ((fail_if_success (with_reducible refine Nx.is_at ?_)); (fail_if_success (with_reducible refine Nx.is_wp ?_)); (fail_if_success (with_reducible refine Nx.is_mix ?_)); first | refine Nx.ex ?_)
        exact Nx.again (o + 1) ⟨by omega, by omega⟩ (by omega) ⟨rfl, rfl, rfl, rfl, rfl, rfl, trivial⟩ (by (exact Ent.auto))
  obtain ⟨j0, hj0, hje, hjn⟩ := rel_num hro hsub hil
  have hpl := pickR_len (ls := ls) (out := o) i
  have hnd : nums.getD i default = j0 := by
    rw [hnums, List.getD_eq_getElem?_getD, List.getElem?_map, List.getElem?_eq_getElem hil, ← hjn, List.getD_eq_getElem?_getD, List.getElem?_eq_getElem hil]; rfl
  have hin : i < nums.length := by omega
  have hrd : ∀ (W : World) (R : List Res), Rd W I2 R ((ad Ac).add (i * 1)) (.int .i64 (j0 : Int)) := fun W R => by rw [← hnd]; exact hnu.rd hin
  have hps : pickR ls o (i + 1) = pickR ls o i ++ if (i : Int) = o then [] else [rs.getD j0 default] := by rw [pickR, hje]
  generalize pickR ls o i = pk at hpl hps
  repeat' first
    | ((with_reducible refine Nx.is_wp ?_); first | refine Nx.wo ?_ | refine Nx.p_dec rfl rfl (fun hc => ?_) (fun hc => ?_) | refine Nx.p_bool rfl rfl (fun hc => ?_) (fun hc => ?_))
    | ((first | refine Nx.at_op rfl rfl ?_ | refine Nx.m_loud rfl rfl rfl ?_ | refine Nx.at_do rfl rfl rfl rfl ?_ | refine Nx.m_loud_do rfl rfl rfl rfl rfl ?_); first | refine Nx.opr rfl rfl ?_ | refine Nx.indexAddr_nat (A := Ac) rfl rfl rfl rfl rfl hin (hnu.isSome (by omega)) ?_ | refine Nx.load rfl rfl rfl (hrd _ _) ?_ | refine Nx.so ?_ | refine Nx.sb (fun bx => ?_) | refine Nx.sa (fun A2 c2 => ?_))
    | ((with_reducible refine Nx.is_at ?_); first | refine Nx.a ?_ | ((fail_if_success refine Nx.at_do rfl rfl rfl rfl ?_); first | refine Nx.at_dec_t rfl rfl rfl rfl (by first | assumption | omega) ?_ | refine Nx.at_dec_f rfl rfl rfl rfl (by first | assumption | omega) ?_ | refine Nx.at_split rfl rfl rfl rfl (fun hc => ?_) (fun hc => ?_) | refine Nx.at_splitb rfl rfl rfl rfl (fun hc => ?_) (fun hc => ?_)))
    | ((with_reducible refine Nx.is_mix ?_); first | refine Nx.m ?_ | ((fail_if_success refine Nx.m_quiet_do rfl rfl rfl rfl rfl rfl rfl ?_ ?_); (fail_if_success refine Nx.m_loud_do rfl rfl rfl rfl rfl ?_); first | refine Nx.m_dec_t rfl rfl rfl rfl (by first | assumption | omega) ?_ | refine Nx.m_dec_f rfl rfl rfl rfl (by first | assumption | omega) ?_ | refine Nx.m_split rfl rfl rfl rfl (fun hc => ?_) (fun hc => ?_) | refine Nx.m_splitb rfl rfl rfl rfl (fun hc => ?_) (fun hc => ?_)))
    | ((fail_if_success (with_reducible refine Nx.is_at ?_)); (fail_if_success (with_reducible refine Nx.is_wp ?_)); (fail_if_success (with_reducible refine Nx.is_mix ?_)); first | refine Nx.ex ?_)
  refine Nx.p_loop (σ := Nat × Option Addr × Nat) (fun q => [(6, .pointer (some ⟨b6, 0, none⟩)), (8, .slice As rs.length ca), (9, .int .i64 m), (10, .int .i64 (k : Int)), (11, .slice Ac nums.length cc), (13, .int .i64 o), (14, .slice q.2.1 (pk ++ pickJ rs j0 (i : Int) o q.1).length q.2.2), (15, .int .i64 (i : Int)), (16, .int .i64 (j0 : Int)), (55, .slice Ac nums.length cc), (56, .int .i64 nums.length), (57, .int .i64 (i : Int)), (62, .slice As rs.length ca), (63, .int .i64 rs.length), (64, .int .i64 (q.1 : Int))])
    (fun q => [rlR q.2.1 q.2.2 (pk ++ pickJ rs j0 (i : Int) o q.1), Blk b6 27 [.slice B s.length c'], F]) (fun q => q.1 ≤ rs.length) (fun q => rs.length - q.1) (0, A2, c2) rfl (Nat.zero_le _) ⟨rfl, rfl, rfl, rfl, rfl, rfl, by dsimp only; rw [pickJ_zero, List.append_nil]; rfl, rfl, rfl, rfl, rfl, rfl, rfl, rfl, rfl, trivial⟩ (by dsimp only; rw [pickJ_zero, List.append_nil]; (exact Ent.auto)) ?_
  rintro ⟨j, A3, c3⟩ hj
  dsimp only at hj ⊢
  by_cases hjl : j < rs.length
  case neg =>
    obtain rfl : j = rs.length := by omega
    rw [pickJ_end hj0, ← hps]
    repeat' first
      | ((with_reducible refine Nx.is_wp ?_); first | refine Nx.wo ?_ | refine Nx.p_dec rfl rfl (fun hc => ?_) (fun hc => ?_) | refine Nx.p_bool rfl rfl (fun hc => ?_) (fun hc => ?_))
      | ((first | refine Nx.at_op rfl rfl ?_ | refine Nx.m_loud rfl rfl rfl ?_ | refine Nx.at_do rfl rfl rfl rfl ?_ | refine Nx.m_loud_do rfl rfl rfl rfl rfl ?_); first | refine Nx.opr rfl rfl ?_ | refine Nx.so ?_ | refine Nx.sb (fun bx => ?_) | refine Nx.sa (fun A2 c2 => ?_))
      | ((with_reducible refine Nx.is_at ?_); first | refine Nx.a ?_ | ((fail_if_success refine Nx.at_do rfl rfl rfl rfl ?_); first | refine Nx.at_dec_t rfl rfl rfl rfl (by first | assumption | omega) ?_ | refine Nx.at_dec_f rfl rfl rfl rfl (by first | assumption | omega) ?_ | refine Nx.at_split rfl rfl rfl rfl (fun hc => ?_) (fun hc => ?_) | refine Nx.at_splitb rfl rfl rfl rfl (fun hc => ?_) (fun hc => ?_)))
      | ((with_reducible refine Nx.is_mix ?_); first | refine Nx.m ?_ | ((fail_if_success refine Nx.m_quiet_do rfl rfl rfl rfl rfl rfl rfl ?_ ?_); (fail_if_success refine Nx.m_loud_do rfl rfl rfl rfl rfl ?_); first | refine Nx.m_dec_t rfl rfl rfl rfl (by first | assumption | omega) ?_ | refine Nx.m_dec_f rfl rfl rfl rfl (by first | assumption | omega) ?_ | refine Nx.m_split rfl rfl rfl rfl (fun hc => ?_) (fun hc => ?_) | refine Nx.m_splitb rfl rfl rfl rfl (fun hc => ?_) (fun hc => ?_)))
      | ((fail_if_success (with_reducible refine Nx.is_at ?_)); (fail_if_success (with_reducible refine Nx.is_wp ?_)); (fail_if_success (with_reducible refine Nx.is_mix ?_)); first | refine Nx.ex ?_)
    exact Nx.again (i + 1, A3, c3) hil (by dsimp only; omega) ⟨rfl, rfl, rfl, rfl, rfl, rfl, rfl, rfl, rfl, rfl, trivial⟩ (by (exact Ent.auto))
  have hrds : ∀ (W : World) (R : List Res), Rds W I2 R ((ad As).add (j * 3)) (relC (rs.getD j default)) := fun W R => hrs2.outer.rds hjl
  have hnj : (rs.getD j default).num = j := by
    have := (hro.each j hjl).2
    rw [List.getD_eq_getElem?_getD, List.getElem?_eq_getElem hjl] at this ⊢
    exact this
  have hsn := pickJ_succ (rs := rs) (j0 := j0) (i := (i : Int)) (o := o) (j := j)
  have hlj := pickJ_len rs j0 (i : Int) o j
  obtain ⟨tn, htn⟩ : ∃ tn, tn = pickJ rs j0 (i : Int) o (j + 1) := ⟨_, rfl⟩
  rw [← htn] at hsn
  have hsn' := htn.symm
  generalize pickJ rs j0 (i : Int) o j = tl at hsn hlj
  have hpt : (pk ++ tl).length ≤ 10 := by rw [List.length_append]; omega
  generalize rs.getD j default = r at hrds hnj hsn
  obtain ⟨num, va, vc, v, D, cd, vs⟩ := r
  dsimp only at hnj
  subst hnj
  replace hrds : ∀ (W : World) (R : List Res), Rds W I2 R ((ad As).add (j * 3)) [.int .i64 (j : Int), .slice va v.length vc, .slice D vs.length cd] := hrds
  by_cases hjj : j = j0
  · subst hjj
    by_cases hio : (i : Int) = o
    · rw [if_neg (by omega)] at hsn
      subst hsn
      repeat' first
        | ((with_reducible refine Nx.is_wp ?_); first | refine Nx.wo ?_ | refine Nx.p_dec rfl rfl (fun hc => ?_) (fun hc => ?_) | refine Nx.p_bool rfl rfl (fun hc => ?_) (fun hc => ?_))
        | ((first | refine Nx.at_op rfl rfl ?_ | refine Nx.m_loud rfl rfl rfl ?_ | refine Nx.at_do rfl rfl rfl rfl ?_ | refine Nx.m_loud_do rfl rfl rfl rfl rfl ?_); first | refine Nx.opr rfl rfl ?_ | refine Nx.indexAddr_nat (A := As) (sz := 3) rfl rfl rfl rfl rfl hjl (hrs2.outer.isSome (by omega) (by omega)) ?_ | refine Nx.loads rfl rfl rfl rfl (hrds _ _) rfl ?_ | refine Nx.so ?_ | refine Nx.sb (fun bx => ?_) | refine Nx.sa (fun A2 c2 => ?_))
        | ((with_reducible refine Nx.is_at ?_); first | refine Nx.a ?_ | ((fail_if_success refine Nx.at_do rfl rfl rfl rfl ?_); first | refine Nx.at_dec_t rfl rfl rfl rfl (by first | assumption | omega) ?_ | refine Nx.at_dec_f rfl rfl rfl rfl (by first | assumption | omega) ?_ | refine Nx.at_split rfl rfl rfl rfl (fun hc => ?_) (fun hc => ?_) | refine Nx.at_splitb rfl rfl rfl rfl (fun hc => ?_) (fun hc => ?_)))
        | ((with_reducible refine Nx.is_mix ?_); first | refine Nx.m ?_ | ((fail_if_success refine Nx.m_quiet_do rfl rfl rfl rfl rfl rfl rfl ?_ ?_); (fail_if_success refine Nx.m_loud_do rfl rfl rfl rfl rfl ?_); first | refine Nx.m_dec_t rfl rfl rfl rfl (by first | assumption | omega) ?_ | refine Nx.m_dec_f rfl rfl rfl rfl (by first | assumption | omega) ?_ | refine Nx.m_split rfl rfl rfl rfl (fun hc => ?_) (fun hc => ?_) | refine Nx.m_splitb rfl rfl rfl rfl (fun hc => ?_) (fun hc => ?_)))
        | ((fail_if_success (with_reducible refine Nx.is_at ?_)); (fail_if_success (with_reducible refine Nx.is_wp ?_)); (fail_if_success (with_reducible refine Nx.is_mix ?_)); first | refine Nx.ex ?_)
      exact Nx.again (j + 1, A3, c3) hjl (by dsimp only; omega) ⟨rfl, rfl, rfl, rfl, rfl, rfl, by dsimp only; rw [hsn']; rfl, rfl, rfl, rfl, rfl, rfl, rfl, rfl, rfl, trivial⟩ (by dsimp only; rw [hsn']; (exact Ent.auto))
    · rw [if_pos ⟨rfl, hio⟩] at hsn
      repeat' first
        | ((with_reducible refine Nx.is_wp ?_); first | refine Nx.wo ?_ | refine Nx.p_dec rfl rfl (fun hc => ?_) (fun hc => ?_) | refine Nx.p_bool rfl rfl (fun hc => ?_) (fun hc => ?_))
        | ((first | refine Nx.at_op rfl rfl ?_ | refine Nx.m_loud rfl rfl rfl ?_ | refine Nx.at_do rfl rfl rfl rfl ?_ | refine Nx.m_loud_do rfl rfl rfl rfl rfl ?_); first | refine Nx.opr rfl rfl ?_ | refine Nx.indexAddr_nat (A := As) (sz := 3) rfl rfl rfl rfl rfl hjl (hrs2.outer.isSome (by omega) (by omega)) ?_ | refine Nx.loads rfl rfl rfl rfl (hrds _ _) rfl ?_ | refine Nx.append_lit 1 rfl rfl rfl rfl (by kernel_rfl) rfl rfl rfl rfl (by omega) (fun A4 c4 => ?_) | refine Nx.so ?_ | refine Nx.sb (fun bx => ?_) | refine Nx.sa (fun A2 c2 => ?_))
        | ((with_reducible refine Nx.is_at ?_); first | refine Nx.a ?_ | ((fail_if_success refine Nx.at_do rfl rfl rfl rfl ?_); first | refine Nx.at_dec_t rfl rfl rfl rfl (by first | assumption | omega) ?_ | refine Nx.at_dec_f rfl rfl rfl rfl (by first | assumption | omega) ?_ | refine Nx.at_split rfl rfl rfl rfl (fun hc => ?_) (fun hc => ?_) | refine Nx.at_splitb rfl rfl rfl rfl (fun hc => ?_) (fun hc => ?_)))
        | ((with_reducible refine Nx.is_mix ?_); first | refine Nx.m ?_ | ((fail_if_success refine Nx.m_quiet_do rfl rfl rfl rfl rfl rfl rfl ?_ ?_); (fail_if_success refine Nx.m_loud_do rfl rfl rfl rfl rfl ?_); first | refine Nx.m_dec_t rfl rfl rfl rfl (by first | assumption | omega) ?_ | refine Nx.m_dec_f rfl rfl rfl rfl (by first | assumption | omega) ?_ | refine Nx.m_split rfl rfl rfl rfl (fun hc => ?_) (fun hc => ?_) | refine Nx.m_splitb rfl rfl rfl rfl (fun hc => ?_) (fun hc => ?_)))
        | ((fail_if_success (with_reducible refine Nx.is_at ?_)); (fail_if_success (with_reducible refine Nx.is_wp ?_)); (fail_if_success (with_reducible refine Nx.is_mix ?_)); first | refine Nx.ex ?_)
      have e1 : pk ++ pickJ rs j (i : Int) o (j + 1) = (pk ++ tl) ++ [⟨(j : Int), va, vc, v, (D, cd, vs)⟩] := by rw [hsn', hsn, List.append_assoc]
      exact Nx.again (j + 1, A4, c4) hjl (by dsimp only; omega) ⟨rfl, rfl, rfl, rfl, rfl, rfl, by dsimp only; rw [e1, List.length_append (bs := [_])]; rfl, rfl, rfl, rfl, rfl, rfl, rfl, rfl, rfl, trivial⟩ (by dsimp only; unfold rlR; rw [e1, List.length_append (bs := [_]), List.flatMap_append (ys := [_]), List.flatMap_cons, List.flatMap_nil, List.append_nil]; (exact Ent.auto))
  · rw [if_neg (by omega)] at hsn
    subst hsn
    repeat' first
      | ((with_reducible refine Nx.is_wp ?_); first | refine Nx.wo ?_ | refine Nx.p_dec rfl rfl (fun hc => ?_) (fun hc => ?_) | refine Nx.p_bool rfl rfl (fun hc => ?_) (fun hc => ?_))
      | ((first | refine Nx.at_op rfl rfl ?_ | refine Nx.m_loud rfl rfl rfl ?_ | refine Nx.at_do rfl rfl rfl rfl ?_ | refine Nx.m_loud_do rfl rfl rfl rfl rfl ?_); first | refine Nx.opr rfl rfl ?_ | refine Nx.indexAddr_nat (A := As) (sz := 3) rfl rfl rfl rfl rfl hjl (hrs2.outer.isSome (by omega) (by omega)) ?_ | refine Nx.loads rfl rfl rfl rfl (hrds _ _) rfl ?_ | refine Nx.so ?_ | refine Nx.sb (fun bx => ?_) | refine Nx.sa (fun A2 c2 => ?_))
      | ((with_reducible refine Nx.is_at ?_); first | refine Nx.a ?_ | ((fail_if_success refine Nx.at_do rfl rfl rfl rfl ?_); first | refine Nx.at_dec_t rfl rfl rfl rfl (by first | assumption | omega) ?_ | refine Nx.at_dec_f rfl rfl rfl rfl (by first | assumption | omega) ?_ | refine Nx.at_split rfl rfl rfl rfl (fun hc => ?_) (fun hc => ?_) | refine Nx.at_splitb rfl rfl rfl rfl (fun hc => ?_) (fun hc => ?_)))
      | ((with_reducible refine Nx.is_mix ?_); first | refine Nx.m ?_ | ((fail_if_success refine Nx.m_quiet_do rfl rfl rfl rfl rfl rfl rfl ?_ ?_); (fail_if_success refine Nx.m_loud_do rfl rfl rfl rfl rfl ?_); first | refine Nx.m_dec_t rfl rfl rfl rfl (by first | assumption | omega) ?_ | refine Nx.m_dec_f rfl rfl rfl rfl (by first | assumption | omega) ?_ | refine Nx.m_split rfl rfl rfl rfl (fun hc => ?_) (fun hc => ?_) | refine Nx.m_splitb rfl rfl rfl rfl (fun hc => ?_) (fun hc => ?_)))
      | ((fail_if_success (with_reducible refine Nx.is_at ?_)); (fail_if_success (with_reducible refine Nx.is_wp ?_)); (fail_if_success (with_reducible refine Nx.is_mix ?_)); first | refine Nx.ex ?_)
    exact Nx.again (j + 1, A3, c3) hjl (by dsimp only; omega) ⟨rfl, rfl, rfl, rfl, rfl, rfl, by dsimp only; rw [hsn']; rfl, rfl, rfl, rfl, rfl, rfl, rfl, rfl, rfl, trivial⟩ (by dsimp only; rw [hsn']; (exact Ent.auto))
end Go.Proofs.Ytcmdemfhbekabaa
