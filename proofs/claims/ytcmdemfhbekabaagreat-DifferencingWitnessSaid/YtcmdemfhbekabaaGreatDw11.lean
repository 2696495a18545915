/- Contracts of functions of the given program, and lemmas about plain lists and numbers: what the laws of this seat lean on. -/
import Derived.Test.YtcmdemfhbekabaaGreatDw10
namespace Go.Proofs.YtcmdemfhbekabaaGreat
open Go.Eng Go.Sol
attribute [local irreducible] opK wpList Code.wp Exit.then Exit.inBlock fnPost bodyPost Nx Calls Oper.wp Rd Rds Wr Ent Stars Blk Again Vec FnSpec wpMix QRun Stop Upto wpAt
/-! Exposed cells -/
abbrev Exp := Int × Rch × Int
def exC (x : Exp) : List Value := [.int .i64 x.1, .int .i64 x.2.1.1, .int .i64 x.2.1.2.1, .bool x.2.1.2.2, .int .i64 x.2.2]
theorem exC_len (x : Exp) : (exC x).length = 5 := rfl
abbrev expR (A : Option Addr) (c : Nat) (l : List Exp) : Res := Vec 99 5 A l.length c (l.flatMap exC)
theorem reachR_cases {n : Int} {qs : List EqR} (h : (reachR n qs).2 = 0) : (1 ≤ n ∧ n ≤ 48) ∧ (reachR n qs).1 = (List.range n.toNat).map (reachAt n.toNat (eqns qs)) ∧ (∀ q ∈ qs, GoodE n.toNat q) ∧ solsOf n.toNat (eqns qs) ≠ [] ∧ chkQ n qs = 0 := by
  unfold reachR at h ⊢
  split at h
  · rename_i h0
    obtain ⟨h1, _, h3, _⟩ := chk_good h0
    rw [if_pos h0]
    split at h
    · exact absurd h (by decide)
    · rename_i h4
      rw [if_neg h4]
      exact ⟨h1, rfl, h3, h4, h0⟩
  · rename_i h0; exact absurd h h0
theorem rchD_zero {l : List Int} {rs : List Rel} (h : (rchD l rs).2 = 0) : relsE l rs = 0 ∧ rchD l rs = reachR (prod l) (qsOf l rs) := by
  unfold rchD at h ⊢
  split at h
  · rename_i h0; rw [if_pos h0]; exact ⟨h0, rfl⟩
  · rename_i h0; exact absurd h h0
theorem rchD_ok {l : List Int} {rs : List Rel} (h : (rchD l rs).2 = 0) : (rchD l rs).1.length = (prod l).toNat ∧ ∀ k, k < (prod l).toNat → (rchD l rs).1.getD k default = reachAt (prod l).toNat (eqns (qsOf l rs)) k ∧ rchOk ((rchD l rs).1.getD k default) := by
  obtain ⟨_, he⟩ := rchD_zero h
  rw [he] at h ⊢
  obtain ⟨_, h2, h3, h4, _⟩ := reachR_cases h
  rw [h2]
  refine ⟨by simp, fun k hk => ?_⟩
  rw [range_at hk]
  exact ⟨rfl, reach_ok h3 h4⟩
theorem chkD_ok {l : List Int} {rs : List Rel} {prot : List Int} {m : Int} (h : chkD l rs prot m = 0) : relsE l rs = 0 ∧ (1 ≤ m ∧ m ≤ 100) ∧ (∀ k ∈ prot, 0 ≤ k ∧ k < prod l) ∧ prot.Pairwise (· < ·) := by
  unfold chkD at h
  split at h
  · rename_i h0; exact absurd h h0
  rename_i h0
  split at h
  · omega
  rename_i h1
  split at h
  · omega
  rename_i h2
  split at h
  · rename_i h3
    refine ⟨Decidable.byContradiction h0, by omega, fun k hk => ?_, h3⟩
    have : ¬ outP (prod l) k = true := fun hb => h2 (List.any_eq_true.2 ⟨k, hk, hb⟩)
    unfold outP at this
    rw [decide_eq_true_eq] at this
    omega
  · omega
def exOf (rc : List Rch) (prot : List Int) (m : Int) : List Exp := (prot.filter fun k => narrowB (rc.getD k.toNat default) m).map fun k => (k, rc.getD k.toNat default, -1)
theorem exOf_snoc (rc : List Rch) (p : List Int) (k m : Int) : exOf rc (p ++ [k]) m = exOf rc p m ++ if narrowB (rc.getD k.toNat default) m = true then [(k, rc.getD k.toNat default, -1)] else [] := by
  unfold exOf
  rw [List.filter_append, List.map_append]
  congr 1
  rw [List.filter_cons, List.filter_nil]
  split <;> rfl
theorem exOf_len (rc : List Rch) (p : List Int) (m : Int) : (exOf rc p m).length ≤ p.length := by
  unfold exOf
  rw [List.length_map]
  exact List.length_filter_le _ _
/-- The exposed cells, without the first release of each. -/
def findD (l : List Int) (rs : List Rel) (prot : List Int) (m : Int) : List Exp × Int :=
  if chkD l rs prot m ≠ 0 then ([], chkD l rs prot m) else if (rchD l rs).2 ≠ 0 then ([], (rchD l rs).2) else (exOf (rchD l rs).1 prot m, 0)
set_option maxRecDepth 10000 in
set_option maxHeartbeats 8000000 in
theorem find_spec (A As Ap : Option Addr) (c cs cp : Nat) (l : List Int) (rs : List Rel) (prot : List Int) (m : Int) (I : PH) (hl : Ints I A c l) (hs : Sizes l) (hr : Rels I As cs rs) (hw : ∀ r ∈ rs, Viewed l r.v) (hp : Ints I Ap cp prot) (hp9 : prot.length ≤ 1000000) :
    FnSpec Tryz.prog 64 [.agg #[.slice A l.length c], .slice As rs.length cs, .slice Ap prot.length cp, .int .i64 m] I []
      (fun u R' => ∃ (A' : Option Addr) (c' : Nat), u = .tuple #[.slice A' (findD l rs prot m).1.length c', .int .i64 (findD l rs prot m).2] ∧ R' = [expR A' c' (findD l rs prot m).1]) := by
  have hK := check_specD A As Ap c cs cp l rs prot m I hl hs hr hw hp
  have hR := reaches_spec A As c cs l rs I hl hs hr hw
  have hz := size_ok hs
  unfold findD
  refine FnSpec.enterP Tryz.func64 rfl Tryz.ntmps64 rfl fun w F => ?_
  by_cases h0 : chkD l rs prot m = 0
  case neg =>
    rw [if_pos h0]
    generalize chkD l rs prot m = er at h0 hK
    repeat' first
      | ((with_reducible refine Nx.is_wp ?_); first | refine Nx.wo ?_ | refine Nx.p_dec rfl rfl (fun hc => ?_) (fun hc => ?_) | refine Nx.p_bool rfl rfl (fun hc => ?_) (fun hc => ?_))
      | ((first | refine Nx.at_op rfl rfl ?_ | refine Nx.m_loud rfl rfl rfl ?_ | refine Nx.at_do rfl rfl rfl rfl ?_ | refine Nx.m_loud_do rfl rfl rfl rfl rfl ?_); first | refine Nx.opr rfl rfl ?_ | refine Nx.callv rfl rfl rfl (by kernel_rfl) rfl hK ?_ | refine Nx.so ?_ | refine Nx.sb (fun bx => ?_) | refine Nx.sa (fun A2 c2 => ?_))
      | ((with_reducible refine Nx.is_at ?_); first | refine Nx.a ?_ | ((fail_if_success refine Nx.at_do rfl rfl rfl rfl ?_); first | refine Nx.at_dec_t rfl rfl rfl rfl (by first | assumption | omega) ?_ | refine Nx.at_dec_f rfl rfl rfl rfl (by first | assumption | omega) ?_ | refine Nx.at_split rfl rfl rfl rfl (fun hc => ?_) (fun hc => ?_) | refine Nx.at_splitb rfl rfl rfl rfl (fun hc => ?_) (fun hc => ?_)))
      | ((with_reducible refine Nx.is_mix ?_); first | refine Nx.m ?_ | ((fail_if_success refine Nx.m_quiet_do rfl rfl rfl rfl rfl rfl rfl ?_ ?_); (fail_if_success refine Nx.m_loud_do rfl rfl rfl rfl rfl ?_); first | refine Nx.m_dec_t rfl rfl rfl rfl (by first | assumption | omega) ?_ | refine Nx.m_dec_f rfl rfl rfl rfl (by first | assumption | omega) ?_ | refine Nx.m_split rfl rfl rfl rfl (fun hc => ?_) (fun hc => ?_) | refine Nx.m_splitb rfl rfl rfl rfl (fun hc => ?_) (fun hc => ?_)))
      | ((fail_if_success (with_reducible refine Nx.is_at ?_)); (fail_if_success (with_reducible refine Nx.is_wp ?_)); (fail_if_success (with_reducible refine Nx.is_mix ?_)); first | refine Nx.ex ?_)
    exact Nx.ret_fn rfl [_] ⟨none, 0, rfl, rfl⟩ ((Ent.vec_nil 99 5 _).trans (by (exact Ent.auto)))
  rw [if_neg (by omega)]
  have hck := chkD_ok h0
  rw [h0] at hK
  have hok := fun h => rchD_ok (l := l) (rs := rs) h
  generalize rchD l rs = rq at hR hok
  obtain ⟨rc, er⟩ := rq
  dsimp only at hR hok ⊢
  by_cases h1 : er = 0
  case neg =>
    rw [if_pos h1]
    repeat' first
      | ((with_reducible refine Nx.is_wp ?_); first | refine Nx.wo ?_ | refine Nx.p_dec rfl rfl (fun hc => ?_) (fun hc => ?_) | refine Nx.p_bool rfl rfl (fun hc => ?_) (fun hc => ?_))
      | ((first | refine Nx.at_op rfl rfl ?_ | refine Nx.m_loud rfl rfl rfl ?_ | refine Nx.at_do rfl rfl rfl rfl ?_ | refine Nx.m_loud_do rfl rfl rfl rfl rfl ?_); first | refine Nx.opr rfl rfl ?_ | refine Nx.callv rfl rfl rfl (by kernel_rfl) rfl hK ?_ | (refine Nx.call (Rpre := []) rfl rfl rfl (by kernel_rfl) rfl hR (Ent.refl _) ?_; rintro _ _ ⟨Am, cm, rfl, rfl⟩) | refine Nx.so ?_ | refine Nx.sb (fun bx => ?_) | refine Nx.sa (fun A2 c2 => ?_))
      | ((with_reducible refine Nx.is_at ?_); first | refine Nx.a ?_ | ((fail_if_success refine Nx.at_do rfl rfl rfl rfl ?_); first | refine Nx.at_dec_t rfl rfl rfl rfl (by first | assumption | omega) ?_ | refine Nx.at_dec_f rfl rfl rfl rfl (by first | assumption | omega) ?_ | refine Nx.at_split rfl rfl rfl rfl (fun hc => ?_) (fun hc => ?_) | refine Nx.at_splitb rfl rfl rfl rfl (fun hc => ?_) (fun hc => ?_)))
      | ((with_reducible refine Nx.is_mix ?_); first | refine Nx.m ?_ | ((fail_if_success refine Nx.m_quiet_do rfl rfl rfl rfl rfl rfl rfl ?_ ?_); (fail_if_success refine Nx.m_loud_do rfl rfl rfl rfl rfl ?_); first | refine Nx.m_dec_t rfl rfl rfl rfl (by first | assumption | omega) ?_ | refine Nx.m_dec_f rfl rfl rfl rfl (by first | assumption | omega) ?_ | refine Nx.m_split rfl rfl rfl rfl (fun hc => ?_) (fun hc => ?_) | refine Nx.m_splitb rfl rfl rfl rfl (fun hc => ?_) (fun hc => ?_)))
      | ((fail_if_success (with_reducible refine Nx.is_at ?_)); (fail_if_success (with_reducible refine Nx.is_wp ?_)); (fail_if_success (with_reducible refine Nx.is_mix ?_)); first | refine Nx.ex ?_)
    exact Nx.ret_fn rfl [_] ⟨none, 0, rfl, rfl⟩ ((Ent.vec_nil 99 5 _).trans (by (exact Ent.auto)))
  subst h1
  obtain ⟨hrl, hrk⟩ := hok rfl
  rw [if_neg (by decide)]
  repeat' first
    | ((with_reducible refine Nx.is_wp ?_); first | refine Nx.wo ?_ | refine Nx.p_dec rfl rfl (fun hc => ?_) (fun hc => ?_) | refine Nx.p_bool rfl rfl (fun hc => ?_) (fun hc => ?_))
    | ((first | refine Nx.at_op rfl rfl ?_ | refine Nx.m_loud rfl rfl rfl ?_ | refine Nx.at_do rfl rfl rfl rfl ?_ | refine Nx.m_loud_do rfl rfl rfl rfl rfl ?_); first | refine Nx.opr rfl rfl ?_ | refine Nx.callv rfl rfl rfl (by kernel_rfl) rfl hK ?_ | (refine Nx.call (Rpre := []) rfl rfl rfl (by kernel_rfl) rfl hR (Ent.refl _) ?_; rintro _ _ ⟨Am, cm, rfl, rfl⟩) | refine Nx.so ?_ | refine Nx.sb (fun bx => ?_) | refine Nx.sa (fun A2 c2 => ?_))
    | ((with_reducible refine Nx.is_at ?_); first | refine Nx.a ?_ | ((fail_if_success refine Nx.at_do rfl rfl rfl rfl ?_); first | refine Nx.at_dec_t rfl rfl rfl rfl (by first | assumption | omega) ?_ | refine Nx.at_dec_f rfl rfl rfl rfl (by first | assumption | omega) ?_ | refine Nx.at_split rfl rfl rfl rfl (fun hc => ?_) (fun hc => ?_) | refine Nx.at_splitb rfl rfl rfl rfl (fun hc => ?_) (fun hc => ?_)))
    | ((with_reducible refine Nx.is_mix ?_); first | refine Nx.m ?_ | ((fail_if_success refine Nx.m_quiet_do rfl rfl rfl rfl rfl rfl rfl ?_ ?_); (fail_if_success refine Nx.m_loud_do rfl rfl rfl rfl rfl ?_); first | refine Nx.m_dec_t rfl rfl rfl rfl (by first | assumption | omega) ?_ | refine Nx.m_dec_f rfl rfl rfl rfl (by first | assumption | omega) ?_ | refine Nx.m_split rfl rfl rfl rfl (fun hc => ?_) (fun hc => ?_) | refine Nx.m_splitb rfl rfl rfl rfl (fun hc => ?_) (fun hc => ?_)))
    | ((fail_if_success (with_reducible refine Nx.is_at ?_)); (fail_if_success (with_reducible refine Nx.is_wp ?_)); (fail_if_success (with_reducible refine Nx.is_mix ?_)); first | refine Nx.ex ?_)
  refine Nx.freezeAt 0 rfl fun I2 m2 hI2 hm2 h2 => ?_
  have hRc : SliceN rcC 3 I2 Am cm rc := Vec.sliceN hm2 h2 fun x _ => rcC_len x
  replace hp := hp.mono hI2
  refine Nx.p_loop (σ := Nat × Option Addr × Nat) (fun s => [(3, .int .i64 m), (11, .slice Am rc.length cm), (13, .slice s.2.1 (exOf rc (prot.take s.1) m).length s.2.2), (33, .slice Ap prot.length cp), (34, .int .i64 prot.length), (35, .int .i64 (s.1 : Int))])
    (fun s => [expR s.2.1 s.2.2 (exOf rc (prot.take s.1) m), F]) (fun s => s.1 ≤ prot.length) (fun s => prot.length - s.1) (0, none, 0) rfl (Nat.zero_le _) ⟨rfl, rfl, rfl, rfl, rfl, rfl, trivial⟩ ((Ent.vec_nil 99 5 _).trans (by (exact Ent.auto))) ?_
  rintro ⟨i, Ao, co⟩ hi
  dsimp only at hi ⊢
  by_cases hiv : i < prot.length
  case neg =>
    obtain rfl : i = prot.length := by omega
    rw [List.take_length]
    repeat' first
      | ((with_reducible refine Nx.is_wp ?_); first | refine Nx.wo ?_ | refine Nx.p_dec rfl rfl (fun hc => ?_) (fun hc => ?_) | refine Nx.p_bool rfl rfl (fun hc => ?_) (fun hc => ?_))
      | ((first | refine Nx.at_op rfl rfl ?_ | refine Nx.m_loud rfl rfl rfl ?_ | refine Nx.at_do rfl rfl rfl rfl ?_ | refine Nx.m_loud_do rfl rfl rfl rfl rfl ?_); first | refine Nx.opr rfl rfl ?_ | refine Nx.so ?_ | refine Nx.sb (fun bx => ?_) | refine Nx.sa (fun A2 c2 => ?_))
      | ((with_reducible refine Nx.is_at ?_); first | refine Nx.a ?_ | ((fail_if_success refine Nx.at_do rfl rfl rfl rfl ?_); first | refine Nx.at_dec_t rfl rfl rfl rfl (by first | assumption | omega) ?_ | refine Nx.at_dec_f rfl rfl rfl rfl (by first | assumption | omega) ?_ | refine Nx.at_split rfl rfl rfl rfl (fun hc => ?_) (fun hc => ?_) | refine Nx.at_splitb rfl rfl rfl rfl (fun hc => ?_) (fun hc => ?_)))
      | ((with_reducible refine Nx.is_mix ?_); first | refine Nx.m ?_ | ((fail_if_success refine Nx.m_quiet_do rfl rfl rfl rfl rfl rfl rfl ?_ ?_); (fail_if_success refine Nx.m_loud_do rfl rfl rfl rfl rfl ?_); first | refine Nx.m_dec_t rfl rfl rfl rfl (by first | assumption | omega) ?_ | refine Nx.m_dec_f rfl rfl rfl rfl (by first | assumption | omega) ?_ | refine Nx.m_split rfl rfl rfl rfl (fun hc => ?_) (fun hc => ?_) | refine Nx.m_splitb rfl rfl rfl rfl (fun hc => ?_) (fun hc => ?_)))
      | ((fail_if_success (with_reducible refine Nx.is_at ?_)); (fail_if_success (with_reducible refine Nx.is_wp ?_)); (fail_if_success (with_reducible refine Nx.is_mix ?_)); first | refine Nx.ex ?_)
    exact Nx.imm_le hI2 (Nx.ret_fn rfl [_] ⟨Ao, co, rfl, rfl⟩ (by (exact Ent.auto)))
  have htk := take_snocJ hiv
  have hk2 := hck.2.2.1 _ (getD_memI hiv)
  have hrd : ∀ (W : World) (R : List Res), Rd W I2 R ((ad Ap).add (i * 1)) (.int .i64 (prot.getD i default)) := fun W R => hp.rd hiv
  generalize prot.getD i default = k at htk hk2 hrd
  obtain ⟨y, rfl⟩ : ∃ y : Nat, k = y := ⟨k.toNat, by omega⟩
  have hyl : y < rc.length := by omega
  have hsn := exOf_snoc rc (prot.take i) (y : Int) m
  rw [← htk, Int.toNat_natCast] at hsn
  have hxo := (hrk y (by omega)).2
  have hexl := exOf_len rc (prot.take i) m
  rw [List.length_take] at hexl
  have hrds : ∀ (W : World) (R : List Res), Rds W I2 R ((ad Am).add (y * 3)) (rcC (rc.getD y default)) := fun W R => hRc.rds hyl
  generalize rc.getD y default = x at hsn hxo hrds
  have hN := narrow_spec x m I2 hxo
  obtain ⟨lo, hi', op⟩ := x
  dsimp only at hN
  replace hrds : ∀ (W : World) (R : List Res), Rds W I2 R ((ad Am).add (y * 3)) [.int .i64 lo, .int .i64 hi', .bool op] := hrds
  generalize exOf rc (prot.take i) m = out at hsn hexl
  cases hb : narrowB (lo, hi', op) m with
  | false =>
    rw [hb] at hN hsn
    rw [if_neg (by decide), List.append_nil] at hsn
    repeat' first
      | ((with_reducible refine Nx.is_wp ?_); first | refine Nx.wo ?_ | refine Nx.p_dec rfl rfl (fun hc => ?_) (fun hc => ?_) | refine Nx.p_bool rfl rfl (fun hc => ?_) (fun hc => ?_))
      | ((first | refine Nx.at_op rfl rfl ?_ | refine Nx.m_loud rfl rfl rfl ?_ | refine Nx.at_do rfl rfl rfl rfl ?_ | refine Nx.m_loud_do rfl rfl rfl rfl rfl ?_); first | refine Nx.opr rfl rfl ?_ | refine Nx.indexAddr_nat (A := Ap) rfl rfl rfl rfl rfl hiv (hp.isSome (by omega)) ?_ | refine Nx.load rfl rfl rfl (hrd _ _) ?_ | refine Nx.indexAddr_nat (A := Am) (i := y) (sz := 3) rfl rfl rfl rfl rfl hyl (hRc.isSome (by omega) (by omega)) ?_ | refine Nx.loads rfl rfl rfl rfl (hrds _ _) rfl ?_ | refine Nx.callv rfl rfl rfl (by kernel_rfl) rfl hN ?_ | refine Nx.so ?_ | refine Nx.sb (fun bx => ?_) | refine Nx.sa (fun A2 c2 => ?_))
      | ((with_reducible refine Nx.is_at ?_); first | refine Nx.a ?_ | ((fail_if_success refine Nx.at_do rfl rfl rfl rfl ?_); first | refine Nx.at_dec_t rfl rfl rfl rfl (by first | assumption | omega) ?_ | refine Nx.at_dec_f rfl rfl rfl rfl (by first | assumption | omega) ?_ | refine Nx.at_split rfl rfl rfl rfl (fun hc => ?_) (fun hc => ?_) | refine Nx.at_splitb rfl rfl rfl rfl (fun hc => ?_) (fun hc => ?_)))
      | ((with_reducible refine Nx.is_mix ?_); first | refine Nx.m ?_ | ((fail_if_success refine Nx.m_quiet_do rfl rfl rfl rfl rfl rfl rfl ?_ ?_); (fail_if_success refine Nx.m_loud_do rfl rfl rfl rfl rfl ?_); first | refine Nx.m_dec_t rfl rfl rfl rfl (by first | assumption | omega) ?_ | refine Nx.m_dec_f rfl rfl rfl rfl (by first | assumption | omega) ?_ | refine Nx.m_split rfl rfl rfl rfl (fun hc => ?_) (fun hc => ?_) | refine Nx.m_splitb rfl rfl rfl rfl (fun hc => ?_) (fun hc => ?_)))
      | ((fail_if_success (with_reducible refine Nx.is_at ?_)); (fail_if_success (with_reducible refine Nx.is_wp ?_)); (fail_if_success (with_reducible refine Nx.is_mix ?_)); first | refine Nx.ex ?_)
    exact Nx.again (i + 1, Ao, co) hiv (by dsimp only; omega) ⟨rfl, rfl, by dsimp only; rw [hsn]; rfl, rfl, rfl, rfl, trivial⟩ (by dsimp only; rw [hsn]; (exact Ent.auto))
  | true =>
    rw [hb] at hN hsn
    rw [if_pos rfl] at hsn
    repeat' first
      | ((with_reducible refine Nx.is_wp ?_); first | refine Nx.wo ?_ | refine Nx.p_dec rfl rfl (fun hc => ?_) (fun hc => ?_) | refine Nx.p_bool rfl rfl (fun hc => ?_) (fun hc => ?_))
      | ((first | refine Nx.at_op rfl rfl ?_ | refine Nx.m_loud rfl rfl rfl ?_ | refine Nx.at_do rfl rfl rfl rfl ?_ | refine Nx.m_loud_do rfl rfl rfl rfl rfl ?_); first | refine Nx.opr rfl rfl ?_ | refine Nx.indexAddr_nat (A := Ap) rfl rfl rfl rfl rfl hiv (hp.isSome (by omega)) ?_ | refine Nx.load rfl rfl rfl (hrd _ _) ?_ | refine Nx.indexAddr_nat (A := Am) (i := y) (sz := 3) rfl rfl rfl rfl rfl hyl (hRc.isSome (by omega) (by omega)) ?_ | refine Nx.loads rfl rfl rfl rfl (hrds _ _) rfl ?_ | refine Nx.callv rfl rfl rfl (by kernel_rfl) rfl hN ?_ | refine Nx.so ?_ | refine Nx.sb (fun bx => ?_) | refine Nx.sa (fun A2 c2 => ?_))
      | ((with_reducible refine Nx.is_at ?_); first | refine Nx.a ?_ | ((fail_if_success refine Nx.at_do rfl rfl rfl rfl ?_); first | refine Nx.at_dec_t rfl rfl rfl rfl (by first | assumption | omega) ?_ | refine Nx.at_dec_f rfl rfl rfl rfl (by first | assumption | omega) ?_ | refine Nx.at_split rfl rfl rfl rfl (fun hc => ?_) (fun hc => ?_) | refine Nx.at_splitb rfl rfl rfl rfl (fun hc => ?_) (fun hc => ?_)))
      | ((with_reducible refine Nx.is_mix ?_); first | refine Nx.m ?_ | ((fail_if_success refine Nx.m_quiet_do rfl rfl rfl rfl rfl rfl rfl ?_ ?_); (fail_if_success refine Nx.m_loud_do rfl rfl rfl rfl rfl ?_); first | refine Nx.m_dec_t rfl rfl rfl rfl (by first | assumption | omega) ?_ | refine Nx.m_dec_f rfl rfl rfl rfl (by first | assumption | omega) ?_ | refine Nx.m_split rfl rfl rfl rfl (fun hc => ?_) (fun hc => ?_) | refine Nx.m_splitb rfl rfl rfl rfl (fun hc => ?_) (fun hc => ?_)))
      | ((fail_if_success (with_reducible refine Nx.is_at ?_)); (fail_if_success (with_reducible refine Nx.is_wp ?_)); (fail_if_success (with_reducible refine Nx.is_mix ?_)); first | refine Nx.ex ?_)
    exact Nx.again (i + 1, A2, c2) hiv (by dsimp only; omega) ⟨rfl, rfl, by dsimp only; rw [hsn, List.length_append]; rfl, rfl, rfl, rfl, trivial⟩ (by dsimp only; unfold expR; rw [hsn, List.length_append, List.flatMap_append, List.flatMap_cons, List.flatMap_nil, List.append_nil]; (exact Ent.auto))
end Go.Proofs.YtcmdemfhbekabaaGreat
/- Contracts of functions of the given program, and lemmas about plain lists and numbers: what the laws of this seat lean on. -/
namespace Go.Proofs.YtcmdemfhbekabaaGreat
open Go.Eng Go.Sol
attribute [local irreducible] opK wpList Code.wp Exit.then Exit.inBlock fnPost bodyPost Nx Calls Oper.wp Rd Rds Wr Ent Stars Blk Again Vec FnSpec wpMix QRun Stop Upto wpAt
/-! The first release of each exposed cell -/
def hitB (l : List Int) (rs : List Rel) (m cell : Int) (i : Nat) : Bool := decide ((rchD l (rs.take (i + 1))).2 = 0) && narrowB ((rchD l (rs.take (i + 1))).1.getD cell.toNat default) m
def firstN (l : List Int) (rs : List Rel) (m cell : Int) : Nat → Int
  | 0 => -1
  | i + 1 => if firstN l rs m cell i < 0 ∧ hitB l rs m cell i = true then (rs.getD i default).num else firstN l rs m cell i
/-- The exposed cells after i releases. -/
def expK (l : List Int) (rs : List Rel) (m : Int) (i : Nat) (e : Exp) : Exp := (e.1, e.2.1, firstN l rs m e.1 i)
def expD (l : List Int) (rs : List Rel) (prot : List Int) (m : Int) : List Exp × Int := ((findD l rs prot m).1.map (expK l rs m rs.length), (findD l rs prot m).2)
def cntN : List Exp → Int
  | [] => 0
  | e :: r => (if e.2.2 < 0 then 1 else 0) + cntN r
theorem cntN_bd : ∀ l, 0 ≤ cntN l ∧ cntN l ≤ l.length
  | [] => by simp [cntN]
  | e :: r => by
    have := cntN_bd r
    rw [cntN, List.length_cons]
    split <;> omega
theorem cntN_set : ∀ {l : List Exp} {k : Nat} (x : Exp), k < l.length → cntN (l.set k x) = cntN l - (if (l.getD k default).2.2 < 0 then 1 else 0) + (if x.2.2 < 0 then 1 else 0)
  | [], k, _, h => absurd h (Nat.not_lt_zero _)
  | e :: r, 0, x, _ => by
    rw [List.set_cons_zero, cntN, cntN]
    show _ = _ - (if e.2.2 < 0 then 1 else 0) + _
    omega
  | e :: r, k + 1, x, h => by
    have := cntN_set (l := r) (k := k) x (by simpa using h)
    rw [List.set_cons_succ, cntN, cntN, this]
    show _ = _ - (if (r.getD k default).2.2 < 0 then 1 else 0) + _
    omega
theorem cntN_zero : ∀ {l : List Exp}, cntN l = 0 → ∀ k, k < l.length → ¬ (l.getD k default).2.2 < 0
  | [], _, k, h => absurd h (Nat.not_lt_zero _)
  | e :: r, h, 0, _ => by
    have := cntN_bd r
    rw [cntN] at h
    intro he
    have he : e.2.2 < 0 := he
    rw [if_pos he] at h
    omega
  | e :: r, h, k + 1, hk => by
    have := cntN_bd r
    rw [cntN] at h
    exact cntN_zero (l := r) (by split at h <;> omega) k (by simpa using hk)
theorem cntN_neg : ∀ {l : List Exp}, (∀ e ∈ l, e.2.2 = -1) → cntN l = l.length
  | [], _ => rfl
  | e :: r, h => by
    rw [cntN, cntN_neg fun x hx => h x (List.mem_cons_of_mem _ hx), h e List.mem_cons_self, List.length_cons, if_pos (by decide)]
    omega
theorem getD_memX {l : List Exp} {k : Nat} (h : k < l.length) : l.getD k default ∈ l := by
  rw [List.getD_eq_getElem?_getD, List.getElem?_eq_getElem h]; exact List.getElem_mem _
theorem map_atX {f : Exp → Exp} {l : List Exp} {k : Nat} (h : k < l.length) : (l.map f).getD k default = f (l.getD k default) := by
  rw [List.getD_eq_getElem?_getD, List.getElem?_map, List.getD_eq_getElem?_getD, List.getElem?_eq_getElem h]; rfl
theorem RelsV.take {l : List Int} {rs : List Rel} (h : RelsV l rs) (k : Nat) : RelsV l (rs.take k) := by
  have hat : ∀ i, i < (rs.take k).length → (rs.take k).getD i default = rs.getD i default ∧ i < rs.length := fun i hi => by
    rw [List.length_take] at hi
    exact ⟨by rw [List.getD_eq_getElem?_getD, List.getD_eq_getElem?_getD, List.getElem?_take_of_lt (by omega)], by omega⟩
  refine ⟨by have := h.len; rw [List.length_take]; omega, fun i hi => ?_, fun i hi => ?_⟩
  · obtain ⟨e, hl⟩ := hat i hi
    rw [e]; exact h.each i hl
  · obtain ⟨e1, _⟩ := hat i (by omega)
    obtain ⟨e2, hl⟩ := hat (i + 1) hi
    rw [e1, e2]; exact h.asc i hl
theorem Rels.take {I : PH} {A : Option Addr} {c : Nat} {l : List Rel} (h : Rels I A c l) (k : Nat) : Rels I A c (l.take k) := by
  refine ⟨⟨fun j u hj => ?_, by have := h.outer.cap; rw [List.length_take]; omega, h.outer.max, fun x hx => h.outer.cells x (List.mem_of_mem_take hx)⟩, fun r hr => h.view r (List.mem_of_mem_take hr), fun r hr => h.val r (List.mem_of_mem_take hr)⟩
  refine h.outer.arr j u ?_
  have e : l.flatMap relC = (l.take k).flatMap relC ++ (l.drop k).flatMap relC := by rw [← List.flatMap_append, List.take_append_drop]
  rw [e, List.getElem?_append_left (List.getElem?_eq_some_iff.1 hj).1]
  exact hj
/-- Those before k are as after a further release. -/
structure Mid (l : List Int) (rs : List Rel) (m : Int) (base : List Exp) (i k : Nat) (os : List Exp) : Prop where
  len : os.length = base.length
  at_ : ∀ j, j < base.length → os.getD j default = expK l rs m (if j < k then i + 1 else i) (base.getD j default)
theorem Mid.start (l : List Int) (rs : List Rel) (m : Int) (base : List Exp) (i : Nat) : Mid l rs m base i 0 (base.map (expK l rs m i)) :=
  ⟨by rw [List.length_map], fun j hj => by rw [map_atX hj, if_neg (Nat.not_lt_zero _)]⟩
theorem ext_X {a b : List Exp} (hl : a.length = b.length) (h : ∀ j, j < a.length → a.getD j default = b.getD j default) : a = b := list_ext_d hl h
theorem Mid.done {l : List Int} {rs : List Rel} {m : Int} {base : List Exp} {i : Nat} {os : List Exp} (h : Mid l rs m base i base.length os) : os = base.map (expK l rs m (i + 1)) :=
  ext_X (by rw [h.len, List.length_map]) fun j hj => by rw [h.len] at hj; rw [h.at_ j hj, map_atX hj, if_pos hj]
theorem Mid.same {l : List Int} {rs : List Rel} {m : Int} {base : List Exp} {i k : Nat} {os : List Exp} (h : Mid l rs m base i k os) (hk : k < base.length) (he : firstN l rs m (base.getD k default).1 (i + 1) = firstN l rs m (base.getD k default).1 i) : Mid l rs m base i (k + 1) os :=
  ⟨h.len, fun j hj => by
    rw [h.at_ j hj]
    rcases Nat.lt_trichotomy j k with h1 | h1 | h1
    · rw [if_pos h1, if_pos (by omega)]
    · subst h1
      rw [if_neg (by omega), if_pos (by omega)]
      unfold expK
      rw [he]
    · rw [if_neg (by omega), if_neg (by omega)]⟩
theorem Mid.put {l : List Int} {rs : List Rel} {m : Int} {base : List Exp} {i k : Nat} {os : List Exp} (h : Mid l rs m base i k os) (hk : k < base.length) : Mid l rs m base i (k + 1) (os.set k (expK l rs m (i + 1) (base.getD k default))) :=
  ⟨by rw [List.length_set]; exact h.len, fun j hj => by
    rw [List.getD_eq_getElem?_getD]
    rcases Nat.lt_trichotomy j k with h1 | h1 | h1
    · rw [List.getElem?_set_ne (by omega), ← List.getD_eq_getElem?_getD, h.at_ j hj, if_pos h1, if_pos (by omega)]
    · subst h1
      rw [List.getElem?_set_self (by rw [h.len]; exact hj), if_pos (by omega)]; rfl
    · rw [List.getElem?_set_ne (by omega), ← List.getD_eq_getElem?_getD, h.at_ j hj, if_neg (by omega), if_neg (by omega)]⟩
theorem firstN_stays {l : List Int} {rs : List Rel} {m cell : Int} {i : Nat} (h : ¬ firstN l rs m cell i < 0) : ∀ n, i ≤ n → firstN l rs m cell n = firstN l rs m cell i
  | 0, hn => by rw [show i = 0 by omega]
  | n + 1, hn => by
    rcases Nat.lt_or_ge n i with h1 | h1
    · rw [show i = n + 1 by omega]
    · have ih := firstN_stays h n h1
      rw [firstN, ih, if_neg fun h2 => h h2.1]
set_option maxRecDepth 10000 in
set_option maxHeartbeats 16000000 in
theorem Exposed_spec (A As Ap : Option Addr) (c cs cp : Nat) (l : List Int) (rs : List Rel) (prot : List Int) (m : Int) (I : PH) (hl : Ints I A c l) (hs : Sizes l) (hr : Rels I As cs rs) (hw : ∀ r ∈ rs, Viewed l r.v) (hp : Ints I Ap cp prot) (hp9 : prot.length ≤ 1000000) :
    FnSpec Tryz.prog 20 [.agg #[.slice A l.length c], .slice As rs.length cs, .slice Ap prot.length cp, .int .i64 m] I []
      (fun u R' => ∃ (A' : Option Addr) (c' : Nat), u = .tuple #[.slice A' (expD l rs prot m).1.length c', .int .i64 (expD l rs prot m).2] ∧ R' = [expR A' c' (expD l rs prot m).1]) := by
  have hF := find_spec A As Ap c cs cp l rs prot m I hl hs hr hw hp hp9
  have hz := size_ok hs
  have hrcap := hr.outer.cap
  have hrl := hr.outer.len
  unfold expD
  have hbase : ∀ e ∈ (findD l rs prot m).1, e.2.2 = -1 ∧ (0 ≤ e.1 ∧ e.1 < prod l) ∧ rchOk e.2.1 := fun e he => by
    unfold findD at he
    split at he
    · cases he
    rename_i h0
    split at he
    · cases he
    rename_i h1
    have h1 : (rchD l rs).2 = 0 := Decidable.byContradiction h1
    have hck := (chkD_ok (Decidable.byContradiction h0)).2.2.1
    unfold exOf at he
    obtain ⟨k, hk, rfl⟩ := List.mem_map.1 he
    have hk := hck k (List.mem_filter.1 hk).1
    exact ⟨rfl, hk, ((rchD_ok h1).2 k.toNat (by omega)).2⟩
  have hfl : (findD l rs prot m).1.length ≤ 1000000 := by
    unfold findD
    split
    · simp
    split
    · simp
    · exact Nat.le_trans (exOf_len _ _ _) hp9
  have herr : (findD l rs prot m).2 ≠ 0 → (findD l rs prot m).1 = [] := fun h => by
    unfold findD at h ⊢
    split at h
    · rename_i h0; rw [if_pos h0]
    rename_i h0
    rw [if_neg h0]
    split at h
    · rename_i h1; rw [if_pos h1]
    · exact absurd rfl h
  have hgood : (findD l rs prot m).2 = 0 → RelsV l rs := fun h => by
    unfold findD at h
    split at h
    · rename_i h0; exact absurd h h0
    rename_i h0
    exact (relsE_iff hs hw).1 (chkD_ok (Decidable.byContradiction h0)).1
  generalize findD l rs prot m = fq at hF hbase hfl herr hgood
  obtain ⟨base, er⟩ := fq
  dsimp only at hF hbase hfl herr hgood ⊢
  refine FnSpec.enterP Tryz.func20 rfl Tryz.ntmps20 rfl fun w F => ?_
  by_cases h0 : er = 0
  case neg =>
    have hb := herr h0
    subst hb
    repeat' first
      | ((with_reducible refine Nx.is_wp ?_); first | refine Nx.wo ?_ | refine Nx.p_dec rfl rfl (fun hc => ?_) (fun hc => ?_) | refine Nx.p_bool rfl rfl (fun hc => ?_) (fun hc => ?_))
      | ((first | refine Nx.at_op rfl rfl ?_ | refine Nx.m_loud rfl rfl rfl ?_ | refine Nx.at_do rfl rfl rfl rfl ?_ | refine Nx.m_loud_do rfl rfl rfl rfl rfl ?_); first | refine Nx.opr rfl rfl ?_ | (refine Nx.call (Rpre := []) rfl rfl rfl (by kernel_rfl) rfl hF (Ent.refl _) ?_; rintro _ _ ⟨Ao, co, rfl, rfl⟩) | refine Nx.so ?_ | refine Nx.sb (fun bx => ?_) | refine Nx.sa (fun A2 c2 => ?_))
      | ((with_reducible refine Nx.is_at ?_); first | refine Nx.a ?_ | ((fail_if_success refine Nx.at_do rfl rfl rfl rfl ?_); first | refine Nx.at_dec_t rfl rfl rfl rfl (by first | assumption | omega) ?_ | refine Nx.at_dec_f rfl rfl rfl rfl (by first | assumption | omega) ?_ | refine Nx.at_split rfl rfl rfl rfl (fun hc => ?_) (fun hc => ?_) | refine Nx.at_splitb rfl rfl rfl rfl (fun hc => ?_) (fun hc => ?_)))
      | ((with_reducible refine Nx.is_mix ?_); first | refine Nx.m ?_ | ((fail_if_success refine Nx.m_quiet_do rfl rfl rfl rfl rfl rfl rfl ?_ ?_); (fail_if_success refine Nx.m_loud_do rfl rfl rfl rfl rfl ?_); first | refine Nx.m_dec_t rfl rfl rfl rfl (by first | assumption | omega) ?_ | refine Nx.m_dec_f rfl rfl rfl rfl (by first | assumption | omega) ?_ | refine Nx.m_split rfl rfl rfl rfl (fun hc => ?_) (fun hc => ?_) | refine Nx.m_splitb rfl rfl rfl rfl (fun hc => ?_) (fun hc => ?_)))
      | ((fail_if_success (with_reducible refine Nx.is_at ?_)); (fail_if_success (with_reducible refine Nx.is_wp ?_)); (fail_if_success (with_reducible refine Nx.is_mix ?_)); first | refine Nx.ex ?_)
    exact Nx.ret_fn rfl [_] ⟨none, 0, rfl, rfl⟩ ((Ent.vec_nil 99 5 _).trans (by (exact Ent.auto)))
  subst h0
  have hV := hgood rfl
  have h24 := hV.len
  repeat' first
    | ((with_reducible refine Nx.is_wp ?_); first | refine Nx.wo ?_ | refine Nx.p_dec rfl rfl (fun hc => ?_) (fun hc => ?_) | refine Nx.p_bool rfl rfl (fun hc => ?_) (fun hc => ?_))
    | ((first | refine Nx.at_op rfl rfl ?_ | refine Nx.m_loud rfl rfl rfl ?_ | refine Nx.at_do rfl rfl rfl rfl ?_ | refine Nx.m_loud_do rfl rfl rfl rfl rfl ?_); first | refine Nx.opr rfl rfl ?_ | (refine Nx.call (Rpre := []) rfl rfl rfl (by kernel_rfl) rfl hF (Ent.refl _) ?_; rintro _ _ ⟨Ao, co, rfl, rfl⟩) | refine Nx.so ?_ | refine Nx.sb (fun bx => ?_) | refine Nx.sa (fun A2 c2 => ?_))
    | ((with_reducible refine Nx.is_at ?_); first | refine Nx.a ?_ | ((fail_if_success refine Nx.at_do rfl rfl rfl rfl ?_); first | refine Nx.at_dec_t rfl rfl rfl rfl (by first | assumption | omega) ?_ | refine Nx.at_dec_f rfl rfl rfl rfl (by first | assumption | omega) ?_ | refine Nx.at_split rfl rfl rfl rfl (fun hc => ?_) (fun hc => ?_) | refine Nx.at_splitb rfl rfl rfl rfl (fun hc => ?_) (fun hc => ?_)))
    | ((with_reducible refine Nx.is_mix ?_); first | refine Nx.m ?_ | ((fail_if_success refine Nx.m_quiet_do rfl rfl rfl rfl rfl rfl rfl ?_ ?_); (fail_if_success refine Nx.m_loud_do rfl rfl rfl rfl rfl ?_); first | refine Nx.m_dec_t rfl rfl rfl rfl (by first | assumption | omega) ?_ | refine Nx.m_dec_f rfl rfl rfl rfl (by first | assumption | omega) ?_ | refine Nx.m_split rfl rfl rfl rfl (fun hc => ?_) (fun hc => ?_) | refine Nx.m_splitb rfl rfl rfl rfl (fun hc => ?_) (fun hc => ?_)))
    | ((fail_if_success (with_reducible refine Nx.is_at ?_)); (fail_if_success (with_reducible refine Nx.is_wp ?_)); (fail_if_success (with_reducible refine Nx.is_mix ?_)); first | refine Nx.ex ?_)
  revert bx; intro b4
  refine Nx.p_loop (σ := Nat) (fun i => [(1, .slice As rs.length cs), (3, .int .i64 m), (4, .pointer (some ⟨b4, 0, none⟩)), (10, .slice Ao base.length co), (12, .int .i64 (cntN (base.map (expK l rs m i)))), (31, .slice As rs.length cs), (32, .int .i64 rs.length), (33, .int .i64 (i : Int))])
    (fun i => [Blk b4 27 [.slice A l.length c], Vec 99 5 Ao base.length co ((base.map (expK l rs m i)).flatMap exC), F]) (fun i => i ≤ rs.length) (fun i => rs.length - i) 0 rfl (Nat.zero_le _) ⟨rfl, rfl, rfl, rfl, by
      rw [cntN_neg fun e he => by
        obtain ⟨x, _, rfl⟩ := List.mem_map.1 he
        rfl, List.length_map]; rfl, rfl, rfl, rfl, trivial⟩ (by
      have : base.map (expK l rs m 0) = base := by
        conv => rhs; rw [← List.map_id base]
        refine List.map_congr_left fun e he => ?_
        have := (hbase e he).1
        unfold expK firstN
        rw [← this]; rfl
      rw [this]; (exact Ent.auto)) ?_
  intro i hi
  have hi : i ≤ rs.length := hi
  dsimp only
  have hcb := cntN_bd (base.map (expK l rs m i))
  rw [List.length_map] at hcb
  by_cases hil : i < rs.length
  case neg =>
    obtain rfl : i = rs.length := by omega
    repeat' first
      | ((with_reducible refine Nx.is_wp ?_); first | refine Nx.wo ?_ | refine Nx.p_dec rfl rfl (fun hc => ?_) (fun hc => ?_) | refine Nx.p_bool rfl rfl (fun hc => ?_) (fun hc => ?_))
      | ((first | refine Nx.at_op rfl rfl ?_ | refine Nx.m_loud rfl rfl rfl ?_ | refine Nx.at_do rfl rfl rfl rfl ?_ | refine Nx.m_loud_do rfl rfl rfl rfl rfl ?_); first | refine Nx.opr rfl rfl ?_ | refine Nx.so ?_ | refine Nx.sb (fun bx => ?_) | refine Nx.sa (fun A2 c2 => ?_))
      | ((with_reducible refine Nx.is_at ?_); first | refine Nx.a ?_ | ((fail_if_success refine Nx.at_do rfl rfl rfl rfl ?_); first | refine Nx.at_dec_t rfl rfl rfl rfl (by first | assumption | omega) ?_ | refine Nx.at_dec_f rfl rfl rfl rfl (by first | assumption | omega) ?_ | refine Nx.at_split rfl rfl rfl rfl (fun hc => ?_) (fun hc => ?_) | refine Nx.at_splitb rfl rfl rfl rfl (fun hc => ?_) (fun hc => ?_)))
      | ((with_reducible refine Nx.is_mix ?_); first | refine Nx.m ?_ | ((fail_if_success refine Nx.m_quiet_do rfl rfl rfl rfl rfl rfl rfl ?_ ?_); (fail_if_success refine Nx.m_loud_do rfl rfl rfl rfl rfl ?_); first | refine Nx.m_dec_t rfl rfl rfl rfl (by first | assumption | omega) ?_ | refine Nx.m_dec_f rfl rfl rfl rfl (by first | assumption | omega) ?_ | refine Nx.m_split rfl rfl rfl rfl (fun hc => ?_) (fun hc => ?_) | refine Nx.m_splitb rfl rfl rfl rfl (fun hc => ?_) (fun hc => ?_)))
      | ((fail_if_success (with_reducible refine Nx.is_at ?_)); (fail_if_success (with_reducible refine Nx.is_wp ?_)); (fail_if_success (with_reducible refine Nx.is_mix ?_)); first | refine Nx.ex ?_)
    exact Nx.ret_fn rfl [_] ⟨Ao, co, by rw [List.length_map], rfl⟩ (by unfold expR; rw [List.length_map]; (exact Ent.auto))
  by_cases hm0 : cntN (base.map (expK l rs m i)) = 0
  · have hst : base.map (expK l rs m i) = base.map (expK l rs m rs.length) := by
      have hz := cntN_zero hm0
      refine ext_X (by rw [List.length_map, List.length_map]) fun j hj => ?_
      have hz := hz j hj
      rw [List.length_map] at hj
      rw [map_atX hj] at hz ⊢
      rw [map_atX hj]
      unfold expK at hz ⊢
      rw [firstN_stays hz rs.length hi]
    rw [hm0]
    repeat' first
      | ((with_reducible refine Nx.is_wp ?_); first | refine Nx.wo ?_ | refine Nx.p_dec rfl rfl (fun hc => ?_) (fun hc => ?_) | refine Nx.p_bool rfl rfl (fun hc => ?_) (fun hc => ?_))
      | ((first | refine Nx.at_op rfl rfl ?_ | refine Nx.m_loud rfl rfl rfl ?_ | refine Nx.at_do rfl rfl rfl rfl ?_ | refine Nx.m_loud_do rfl rfl rfl rfl rfl ?_); first | refine Nx.opr rfl rfl ?_ | refine Nx.so ?_ | refine Nx.sb (fun bx => ?_) | refine Nx.sa (fun A2 c2 => ?_))
      | ((with_reducible refine Nx.is_at ?_); first | refine Nx.a ?_ | ((fail_if_success refine Nx.at_do rfl rfl rfl rfl ?_); first | refine Nx.at_dec_t rfl rfl rfl rfl (by first | assumption | omega) ?_ | refine Nx.at_dec_f rfl rfl rfl rfl (by first | assumption | omega) ?_ | refine Nx.at_split rfl rfl rfl rfl (fun hc => ?_) (fun hc => ?_) | refine Nx.at_splitb rfl rfl rfl rfl (fun hc => ?_) (fun hc => ?_)))
      | ((with_reducible refine Nx.is_mix ?_); first | refine Nx.m ?_ | ((fail_if_success refine Nx.m_quiet_do rfl rfl rfl rfl rfl rfl rfl ?_ ?_); (fail_if_success refine Nx.m_loud_do rfl rfl rfl rfl rfl ?_); first | refine Nx.m_dec_t rfl rfl rfl rfl (by first | assumption | omega) ?_ | refine Nx.m_dec_f rfl rfl rfl rfl (by first | assumption | omega) ?_ | refine Nx.m_split rfl rfl rfl rfl (fun hc => ?_) (fun hc => ?_) | refine Nx.m_splitb rfl rfl rfl rfl (fun hc => ?_) (fun hc => ?_)))
      | ((fail_if_success (with_reducible refine Nx.is_at ?_)); (fail_if_success (with_reducible refine Nx.is_wp ?_)); (fail_if_success (with_reducible refine Nx.is_mix ?_)); first | refine Nx.ex ?_)
    exact Nx.ret_fn rfl [_] ⟨Ao, co, by rw [List.length_map], rfl⟩ (by unfold expR; rw [List.length_map, ← hst]; (exact Ent.auto))
  have hti : (rs.take (i + 1)).length = i + 1 := by rw [List.length_take]; omega
  have hR := reaches_spec A As c cs l (rs.take (i + 1)) I hl hs (Rels.take hr (i + 1)) fun r hr' => hw r (List.mem_of_mem_take hr')
  rw [hti] at hR
  have hok := fun h => rchD_ok (l := l) (rs := rs.take (i + 1)) h
  have hhit : ∀ cell, hitB l rs m cell i = (decide ((rchD l (rs.take (i + 1))).2 = 0) && narrowB ((rchD l (rs.take (i + 1))).1.getD cell.toNat default) m) := fun _ => rfl
  generalize rchD l (rs.take (i + 1)) = rq at hR hok hhit
  obtain ⟨rc, e2⟩ := rq
  dsimp only at hR hok hhit
  generalize hcn : cntN (base.map (expK l rs m i)) = cn at hcb hm0
  repeat' first
    | ((with_reducible refine Nx.is_wp ?_); first | refine Nx.wo ?_ | refine Nx.p_draw (id := 9) rfl [0, 1, 2, 3, 4, 5, 6, 7, 8, 9, 10] [5] _ rfl rfl (by kernel_rfl) (by kernel_rfl) rfl (by repeat first | exact PanicOk.fn | refine PanicOk.then_ ?_ | refine PanicOk.inB ?_) (Ent.refl _) ?_ | refine Nx.p_dec rfl rfl (fun hc => ?_) (fun hc => ?_) | refine Nx.p_bool rfl rfl (fun hc => ?_) (fun hc => ?_))
    | ((first | refine Nx.at_op rfl rfl ?_ | refine Nx.m_loud rfl rfl rfl ?_ | refine Nx.at_do rfl rfl rfl rfl ?_ | refine Nx.m_loud_do rfl rfl rfl rfl rfl ?_); first | refine Nx.opr rfl rfl ?_ | (refine Nx.call (Rpre := []) rfl rfl rfl (by kernel_rfl) rfl hR (Ent.refl _) ?_; rintro _ _ ⟨Am, cm, rfl, rfl⟩) | refine Nx.so ?_ | refine Nx.sb (fun bx => ?_) | refine Nx.sa (fun A2 c2 => ?_))
    | ((with_reducible refine Nx.is_at ?_); first | refine Nx.a ?_ | ((fail_if_success refine Nx.at_do rfl rfl rfl rfl ?_); first | refine Nx.at_dec_t rfl rfl rfl rfl (by first | assumption | omega) ?_ | refine Nx.at_dec_f rfl rfl rfl rfl (by first | assumption | omega) ?_ | refine Nx.at_split rfl rfl rfl rfl (fun hc => ?_) (fun hc => ?_) | refine Nx.at_splitb rfl rfl rfl rfl (fun hc => ?_) (fun hc => ?_)))
    | ((with_reducible refine Nx.is_mix ?_); first | refine Nx.m_quiet rfl rfl rfl rfl rfl (by first | exact QRun.opr rfl | exact QRun.slice_hi (h := i + 1) rfl rfl rfl rfl (by omega)) ?_ | refine Nx.m_quiet_do rfl rfl rfl rfl rfl rfl rfl (by first | exact QRun.opr rfl | exact QRun.slice_hi (h := i + 1) rfl rfl rfl rfl (by omega)) ?_ | refine Nx.m ?_ | ((fail_if_success refine Nx.m_quiet_do rfl rfl rfl rfl rfl rfl rfl ?_ ?_); (fail_if_success refine Nx.m_loud_do rfl rfl rfl rfl rfl ?_); first | refine Nx.m_dec_t rfl rfl rfl rfl (by first | assumption | omega) ?_ | refine Nx.m_dec_f rfl rfl rfl rfl (by first | assumption | omega) ?_ | refine Nx.m_split rfl rfl rfl rfl (fun hc => ?_) (fun hc => ?_) | refine Nx.m_splitb rfl rfl rfl rfl (fun hc => ?_) (fun hc => ?_)))
    | ((fail_if_success (with_reducible refine Nx.is_at ?_)); (fail_if_success (with_reducible refine Nx.is_wp ?_)); (fail_if_success (with_reducible refine Nx.is_mix ?_)); first | refine Nx.ex ?_)
  refine Nx.freezeAt 0 rfl fun I3 m3 hI3 hm3 h3 => ?_
  have hRc : SliceN rcC 3 I3 Am cm rc := Vec.sliceN hm3 h3 fun x _ => rcC_len x
  have hr3 := hr.mono hI3
  refine Nx.p_loop (σ := Nat × List Exp) (fun s => [(1, .slice As rs.length cs), (3, .int .i64 m), (4, .pointer (some ⟨b4, 0, none⟩)), (10, .slice Ao base.length co), (12, .int .i64 (cntN s.2)), (13, .int .i64 (i : Int)), (14, .slice Am rc.length cm), (15, .int .i64 e2), (31, .slice As rs.length cs), (32, .int .i64 rs.length), (33, .int .i64 (i : Int)), (47, .slice Ao base.length co), (48, .int .i64 base.length), (49, .int .i64 (s.1 : Int))])
    (fun s => [Blk b4 27 [.slice A l.length c], Vec 99 5 Ao base.length co (s.2.flatMap exC), F]) (fun s => s.1 ≤ base.length ∧ Mid l rs m base i s.1 s.2) (fun s => base.length - s.1) (0, base.map (expK l rs m i)) rfl ⟨Nat.zero_le _, Mid.start l rs m base i⟩ ⟨rfl, rfl, rfl, rfl, by dsimp only; rw [hcn]; rfl, rfl, rfl, rfl, rfl, rfl, rfl, rfl, rfl, rfl, trivial⟩ (by (exact Ent.auto)) ?_
  rintro ⟨k, os⟩ ⟨hk, hM⟩
  dsimp only at hk hM ⊢
  by_cases hkl : k < base.length
  case neg =>
    obtain rfl : k = base.length := by omega
    have hd := hM.done
    subst hd
    repeat' first
      | ((with_reducible refine Nx.is_wp ?_); first | refine Nx.wo ?_ | refine Nx.p_dec rfl rfl (fun hc => ?_) (fun hc => ?_) | refine Nx.p_bool rfl rfl (fun hc => ?_) (fun hc => ?_))
      | ((first | refine Nx.at_op rfl rfl ?_ | refine Nx.m_loud rfl rfl rfl ?_ | refine Nx.at_do rfl rfl rfl rfl ?_ | refine Nx.m_loud_do rfl rfl rfl rfl rfl ?_); first | refine Nx.opr rfl rfl ?_ | refine Nx.so ?_ | refine Nx.sb (fun bx => ?_) | refine Nx.sa (fun A2 c2 => ?_))
      | ((with_reducible refine Nx.is_at ?_); first | refine Nx.a ?_ | ((fail_if_success refine Nx.at_do rfl rfl rfl rfl ?_); first | refine Nx.at_dec_t rfl rfl rfl rfl (by first | assumption | omega) ?_ | refine Nx.at_dec_f rfl rfl rfl rfl (by first | assumption | omega) ?_ | refine Nx.at_split rfl rfl rfl rfl (fun hc => ?_) (fun hc => ?_) | refine Nx.at_splitb rfl rfl rfl rfl (fun hc => ?_) (fun hc => ?_)))
      | ((with_reducible refine Nx.is_mix ?_); first | refine Nx.m ?_ | ((fail_if_success refine Nx.m_quiet_do rfl rfl rfl rfl rfl rfl rfl ?_ ?_); (fail_if_success refine Nx.m_loud_do rfl rfl rfl rfl rfl ?_); first | refine Nx.m_dec_t rfl rfl rfl rfl (by first | assumption | omega) ?_ | refine Nx.m_dec_f rfl rfl rfl rfl (by first | assumption | omega) ?_ | refine Nx.m_split rfl rfl rfl rfl (fun hc => ?_) (fun hc => ?_) | refine Nx.m_splitb rfl rfl rfl rfl (fun hc => ?_) (fun hc => ?_)))
      | ((fail_if_success (with_reducible refine Nx.is_at ?_)); (fail_if_success (with_reducible refine Nx.is_wp ?_)); (fail_if_success (with_reducible refine Nx.is_mix ?_)); first | refine Nx.ex ?_)
    exact Nx.imm_le hI3 (Nx.again (i + 1) hil (by omega) ⟨rfl, rfl, rfl, rfl, rfl, rfl, rfl, rfl, trivial⟩ (by (exact Ent.auto)))
  have hosl := hM.len
  have hek := hM.at_ k hkl
  rw [if_neg (Nat.lt_irrefl k)] at hek
  obtain ⟨_, hcell, _⟩ := hbase _ (getD_memX hkl)
  have hMs := hM.same hkl
  have hMp := hM.put hkl
  have hst : firstN l rs m (base.getD k default).1 (i + 1) = if firstN l rs m (base.getD k default).1 i < 0 ∧ hitB l rs m (base.getD k default).1 i = true then (rs.getD i default).num else firstN l rs m (base.getD k default).1 i := rfl
  rw [hhit] at hst
  have hcs := fun x => cntN_set (l := os) (k := k) x (by omega)
  have hcb2 := cntN_bd os
  have hnum : ∀ (W : World) (R : List Res), Rd W I3 R (((ad As).add (i * 3)).add 0) (.int .i64 (rs.getD i default).num) := fun W R => SliceN.fld hr3.outer hil 0 rfl
  have hn0 := (hV.each i hil).2.1
  generalize (rs.getD i default).num = nu at hst hnum hn0
  have hx5 : exC (os.getD k default) = [.int .i64 (base.getD k default).1, .int .i64 (base.getD k default).2.1.1, .int .i64 (base.getD k default).2.1.2.1, .bool (base.getD k default).2.1.2.2, .int .i64 (firstN l rs m (base.getD k default).1 i)] := by rw [hek]; rfl
  have hfs : (os.getD k default).2.2 = firstN l rs m (base.getD k default).1 i := by rw [hek]; rfl
  have hput : exC (expK l rs m (i + 1) (base.getD k default)) = [.int .i64 (base.getD k default).1, .int .i64 (base.getD k default).2.1.1, .int .i64 (base.getD k default).2.1.2.1, .bool (base.getD k default).2.1.2.2, .int .i64 (firstN l rs m (base.getD k default).1 (i + 1))] := rfl
  have hp22 : (expK l rs m (i + 1) (base.getD k default)).2.2 = firstN l rs m (base.getD k default).1 (i + 1) := rfl
  generalize expK l rs m (i + 1) (base.getD k default) = xp at hMp hput hp22
  generalize base.getD k default = x0 at hcell hMs hst hx5 hfs hput hp22
  obtain ⟨cell, ⟨lo, hi', op⟩, f0⟩ := x0
  dsimp only at hcell hMs hst hx5 hfs hput hp22
  obtain ⟨y, rfl⟩ : ∃ y : Nat, cell = y := ⟨cell.toNat, by omega⟩
  rw [Int.toNat_natCast] at hst
  generalize firstN l rs m (y : Int) i = fi at hMs hst hx5 hfs
  generalize firstN l rs m (y : Int) (i + 1) = fj at hMs hst hput hp22
  refine Nx.ent (R' := [Vec 99 5 Ao base.length co (os.flatMap exC), Blk b4 27 [.slice A l.length c], F]) (by (exact Ent.auto)) ?_
  refine Nx.vec_fact fun _ _ _ hAo => ?_
  by_cases he2 : e2 = 0
  case neg =>
    rw [decide_eq_false he2, Bool.false_and, if_neg (by rintro ⟨_, h⟩; cases h)] at hst
    repeat' first
      | ((with_reducible refine Nx.is_wp ?_); first | refine Nx.wo ?_ | refine Nx.p_dec rfl rfl (fun hc => ?_) (fun hc => ?_) | refine Nx.p_bool rfl rfl (fun hc => ?_) (fun hc => ?_))
      | ((first | refine Nx.at_op rfl rfl ?_ | refine Nx.m_loud rfl rfl rfl ?_ | refine Nx.at_do rfl rfl rfl rfl ?_ | refine Nx.m_loud_do rfl rfl rfl rfl rfl ?_); first | refine Nx.opr rfl rfl ?_ | refine Nx.indexAddr_nat (A := Ao) (i := k) (sz := 5) rfl rfl rfl rfl rfl hkl (hAo (by omega)) ?_ | refine Nx.loads (vs := [.int .i64 (y : Int), .int .i64 lo, .int .i64 hi', .bool op, .int .i64 fi]) rfl rfl rfl rfl (by rw [← hx5]; first | exact Rds.vecN 0 exC_len rfl (by omega) | exact Rds.vecN 1 exC_len rfl (by omega)) rfl ?_ | refine Nx.so ?_ | refine Nx.sb (fun bx => ?_) | refine Nx.sa (fun A2 c2 => ?_))
      | ((with_reducible refine Nx.is_at ?_); first | refine Nx.a ?_ | ((fail_if_success refine Nx.at_do rfl rfl rfl rfl ?_); first | refine Nx.at_dec_t rfl rfl rfl rfl (by first | assumption | omega) ?_ | refine Nx.at_dec_f rfl rfl rfl rfl (by first | assumption | omega) ?_ | refine Nx.at_split rfl rfl rfl rfl (fun hc => ?_) (fun hc => ?_) | refine Nx.at_splitb rfl rfl rfl rfl (fun hc => ?_) (fun hc => ?_)))
      | ((with_reducible refine Nx.is_mix ?_); first | refine Nx.m ?_ | ((fail_if_success refine Nx.m_quiet_do rfl rfl rfl rfl rfl rfl rfl ?_ ?_); (fail_if_success refine Nx.m_loud_do rfl rfl rfl rfl rfl ?_); first | refine Nx.m_dec_t rfl rfl rfl rfl (by first | assumption | omega) ?_ | refine Nx.m_dec_f rfl rfl rfl rfl (by first | assumption | omega) ?_ | refine Nx.m_split rfl rfl rfl rfl (fun hc => ?_) (fun hc => ?_) | refine Nx.m_splitb rfl rfl rfl rfl (fun hc => ?_) (fun hc => ?_)))
      | ((fail_if_success (with_reducible refine Nx.is_at ?_)); (fail_if_success (with_reducible refine Nx.is_wp ?_)); (fail_if_success (with_reducible refine Nx.is_mix ?_)); first | refine Nx.ex ?_)
    exact Nx.again (k + 1, os) ⟨hkl, hMs hst⟩ (by dsimp only; omega) ⟨rfl, rfl, rfl, rfl, rfl, rfl, rfl, rfl, rfl, rfl, rfl, rfl, rfl, rfl, trivial⟩ (by (exact Ent.auto))
  subst he2
  rw [decide_eq_true rfl, Bool.true_and] at hst
  obtain ⟨hrcl, hrck⟩ := hok rfl
  by_cases hfi : fi < 0
  case neg =>
    rw [if_neg (by rintro ⟨h, _⟩; exact hfi h)] at hst
    repeat' first
      | ((with_reducible refine Nx.is_wp ?_); first | refine Nx.wo ?_ | refine Nx.p_dec rfl rfl (fun hc => ?_) (fun hc => ?_) | refine Nx.p_bool rfl rfl (fun hc => ?_) (fun hc => ?_))
      | ((first | refine Nx.at_op rfl rfl ?_ | refine Nx.m_loud rfl rfl rfl ?_ | refine Nx.at_do rfl rfl rfl rfl ?_ | refine Nx.m_loud_do rfl rfl rfl rfl rfl ?_); first | refine Nx.opr rfl rfl ?_ | refine Nx.indexAddr_nat (A := Ao) (i := k) (sz := 5) rfl rfl rfl rfl rfl hkl (hAo (by omega)) ?_ | refine Nx.loads (vs := [.int .i64 (y : Int), .int .i64 lo, .int .i64 hi', .bool op, .int .i64 fi]) rfl rfl rfl rfl (by rw [← hx5]; first | exact Rds.vecN 0 exC_len rfl (by omega) | exact Rds.vecN 1 exC_len rfl (by omega)) rfl ?_ | refine Nx.so ?_ | refine Nx.sb (fun bx => ?_) | refine Nx.sa (fun A2 c2 => ?_))
      | ((with_reducible refine Nx.is_at ?_); first | refine Nx.a ?_ | ((fail_if_success refine Nx.at_do rfl rfl rfl rfl ?_); first | refine Nx.at_dec_t rfl rfl rfl rfl (by first | assumption | omega) ?_ | refine Nx.at_dec_f rfl rfl rfl rfl (by first | assumption | omega) ?_ | refine Nx.at_split rfl rfl rfl rfl (fun hc => ?_) (fun hc => ?_) | refine Nx.at_splitb rfl rfl rfl rfl (fun hc => ?_) (fun hc => ?_)))
      | ((with_reducible refine Nx.is_mix ?_); first | refine Nx.m ?_ | ((fail_if_success refine Nx.m_quiet_do rfl rfl rfl rfl rfl rfl rfl ?_ ?_); (fail_if_success refine Nx.m_loud_do rfl rfl rfl rfl rfl ?_); first | refine Nx.m_dec_t rfl rfl rfl rfl (by first | assumption | omega) ?_ | refine Nx.m_dec_f rfl rfl rfl rfl (by first | assumption | omega) ?_ | refine Nx.m_split rfl rfl rfl rfl (fun hc => ?_) (fun hc => ?_) | refine Nx.m_splitb rfl rfl rfl rfl (fun hc => ?_) (fun hc => ?_)))
      | ((fail_if_success (with_reducible refine Nx.is_at ?_)); (fail_if_success (with_reducible refine Nx.is_wp ?_)); (fail_if_success (with_reducible refine Nx.is_mix ?_)); first | refine Nx.ex ?_)
    exact Nx.again (k + 1, os) ⟨hkl, hMs hst⟩ (by dsimp only; omega) ⟨rfl, rfl, rfl, rfl, rfl, rfl, rfl, rfl, rfl, rfl, rfl, rfl, rfl, rfl, trivial⟩ (by (exact Ent.auto))
  have hyl : y < rc.length := by omega
  have hxo := (hrck y (by omega)).2
  have hrds : ∀ (W : World) (R : List Res), Rds W I3 R ((ad Am).add (y * 3)) (rcC (rc.getD y default)) := fun W R => hRc.rds hyl
  generalize rc.getD y default = x at hst hxo hrds
  have hN := narrow_spec x m I3 hxo
  obtain ⟨lo2, hi2, op2⟩ := x
  dsimp only at hN
  replace hrds : ∀ (W : World) (R : List Res), Rds W I3 R ((ad Am).add (y * 3)) [.int .i64 lo2, .int .i64 hi2, .bool op2] := hrds
  cases hnb : narrowB (lo2, hi2, op2) m with
  | false =>
    rw [hnb] at hN hst
    rw [if_neg (by rintro ⟨_, h⟩; cases h)] at hst
    repeat' first
      | ((with_reducible refine Nx.is_wp ?_); first | refine Nx.wo ?_ | refine Nx.p_dec rfl rfl (fun hc => ?_) (fun hc => ?_) | refine Nx.p_bool rfl rfl (fun hc => ?_) (fun hc => ?_))
      | ((first | refine Nx.at_op rfl rfl ?_ | refine Nx.m_loud rfl rfl rfl ?_ | refine Nx.at_do rfl rfl rfl rfl ?_ | refine Nx.m_loud_do rfl rfl rfl rfl rfl ?_); first | refine Nx.opr rfl rfl ?_ | refine Nx.indexAddr_nat (A := Ao) (i := k) (sz := 5) rfl rfl rfl rfl rfl hkl (hAo (by omega)) ?_ | refine Nx.loads (vs := [.int .i64 (y : Int), .int .i64 lo, .int .i64 hi', .bool op, .int .i64 fi]) rfl rfl rfl rfl (by rw [← hx5]; first | exact Rds.vecN 0 exC_len rfl (by omega) | exact Rds.vecN 1 exC_len rfl (by omega)) rfl ?_ | refine Nx.indexAddr_nat (A := Am) (i := y) (sz := 3) rfl rfl rfl rfl rfl hyl (hRc.isSome (by omega) (by omega)) ?_ | refine Nx.loads rfl rfl rfl rfl (hrds _ _) rfl ?_ | refine Nx.callv rfl rfl rfl (by kernel_rfl) rfl hN ?_ | refine Nx.so ?_ | refine Nx.sb (fun bx => ?_) | refine Nx.sa (fun A2 c2 => ?_))
      | ((with_reducible refine Nx.is_at ?_); first | refine Nx.a ?_ | ((fail_if_success refine Nx.at_do rfl rfl rfl rfl ?_); first | refine Nx.at_dec_t rfl rfl rfl rfl (by first | assumption | omega) ?_ | refine Nx.at_dec_f rfl rfl rfl rfl (by first | assumption | omega) ?_ | refine Nx.at_split rfl rfl rfl rfl (fun hc => ?_) (fun hc => ?_) | refine Nx.at_splitb rfl rfl rfl rfl (fun hc => ?_) (fun hc => ?_)))
      | ((with_reducible refine Nx.is_mix ?_); first | refine Nx.m ?_ | ((fail_if_success refine Nx.m_quiet_do rfl rfl rfl rfl rfl rfl rfl ?_ ?_); (fail_if_success refine Nx.m_loud_do rfl rfl rfl rfl rfl ?_); first | refine Nx.m_dec_t rfl rfl rfl rfl (by first | assumption | omega) ?_ | refine Nx.m_dec_f rfl rfl rfl rfl (by first | assumption | omega) ?_ | refine Nx.m_split rfl rfl rfl rfl (fun hc => ?_) (fun hc => ?_) | refine Nx.m_splitb rfl rfl rfl rfl (fun hc => ?_) (fun hc => ?_)))
      | ((fail_if_success (with_reducible refine Nx.is_at ?_)); (fail_if_success (with_reducible refine Nx.is_wp ?_)); (fail_if_success (with_reducible refine Nx.is_mix ?_)); first | refine Nx.ex ?_)
    exact Nx.again (k + 1, os) ⟨hkl, hMs hst⟩ (by dsimp only; omega) ⟨rfl, rfl, rfl, rfl, rfl, rfl, rfl, rfl, rfl, rfl, rfl, rfl, rfl, rfl, trivial⟩ (by (exact Ent.auto))
  | true =>
    rw [hnb] at hN hst
    rw [if_pos ⟨hfi, rfl⟩] at hst
    have hc2 := hcs xp
    rw [hfs, if_pos hfi, hp22, hst, if_neg (by omega)] at hc2
    have hfl2 : (os.flatMap exC).set (k * 5 + 4) (.int .i64 nu) = (os.set k xp).flatMap exC := flat_set exC_len (by omega) (by decide) (by rw [hput, hx5, hst]; rfl)
    have hos1 : cntN (os.set k xp) = cntN os - 1 := by omega
    have hcn1 : 1 ≤ cntN os := by have := (cntN_bd (os.set k xp)).1; omega
    repeat' first
      | ((with_reducible refine Nx.is_wp ?_); first | refine Nx.wo ?_ | refine Nx.p_dec rfl rfl (fun hc => ?_) (fun hc => ?_) | refine Nx.p_bool rfl rfl (fun hc => ?_) (fun hc => ?_))
      | ((first | refine Nx.at_op rfl rfl ?_ | refine Nx.m_loud rfl rfl rfl ?_ | refine Nx.at_do rfl rfl rfl rfl ?_ | refine Nx.m_loud_do rfl rfl rfl rfl rfl ?_); first | (refine Nx.quietly rfl rfl (QRun.fld (A := (ad As).add (i * 3)) rfl rfl) ?_) | (refine Nx.quietly rfl rfl (QRun.fld (A := (ad Ao).add (k * 5)) rfl rfl) ?_) | refine Nx.opr rfl rfl ?_ | refine Nx.indexAddr_nat (A := Ao) (i := k) (sz := 5) rfl rfl rfl rfl rfl hkl (hAo (by omega)) ?_ | refine Nx.loads (vs := [.int .i64 (y : Int), .int .i64 lo, .int .i64 hi', .bool op, .int .i64 fi]) rfl rfl rfl rfl (by rw [← hx5]; first | exact Rds.vecN 0 exC_len rfl (by omega) | exact Rds.vecN 1 exC_len rfl (by omega)) rfl ?_ | refine Nx.indexAddr_nat (A := Am) (i := y) (sz := 3) rfl rfl rfl rfl rfl hyl (hRc.isSome (by omega) (by omega)) ?_ | refine Nx.loads rfl rfl rfl rfl (hrds _ _) rfl ?_ | refine Nx.callv rfl rfl rfl (by kernel_rfl) rfl hN ?_ | refine Nx.indexAddr_nat (A := As) (i := i) (sz := 3) rfl rfl rfl rfl rfl hil (hr3.outer.isSome (by omega) (by omega)) ?_ | refine Nx.load rfl rfl rfl (hnum _ _) ?_ | (refine Nx.store_fld 1 (A := Ao) (i := k) (j := 4) rfl rfl rfl rfl rfl rfl (by omega) ?_; rw [hfl2]) | (refine Nx.store_fld 0 (A := Ao) (i := k) (j := 4) rfl rfl rfl rfl rfl rfl (by omega) ?_; rw [hfl2]) | refine Nx.so ?_ | refine Nx.sb (fun bx => ?_) | refine Nx.sa (fun A2 c2 => ?_))
      | ((with_reducible refine Nx.is_at ?_); first | refine Nx.a ?_ | ((fail_if_success refine Nx.at_do rfl rfl rfl rfl ?_); first | refine Nx.at_dec_t rfl rfl rfl rfl (by first | assumption | omega) ?_ | refine Nx.at_dec_f rfl rfl rfl rfl (by first | assumption | omega) ?_ | refine Nx.at_split rfl rfl rfl rfl (fun hc => ?_) (fun hc => ?_) | refine Nx.at_splitb rfl rfl rfl rfl (fun hc => ?_) (fun hc => ?_)))
      | ((with_reducible refine Nx.is_mix ?_); first | refine Nx.m ?_ | ((fail_if_success refine Nx.m_quiet_do rfl rfl rfl rfl rfl rfl rfl ?_ ?_); (fail_if_success refine Nx.m_loud_do rfl rfl rfl rfl rfl ?_); first | refine Nx.m_dec_t rfl rfl rfl rfl (by first | assumption | omega) ?_ | refine Nx.m_dec_f rfl rfl rfl rfl (by first | assumption | omega) ?_ | refine Nx.m_split rfl rfl rfl rfl (fun hc => ?_) (fun hc => ?_) | refine Nx.m_splitb rfl rfl rfl rfl (fun hc => ?_) (fun hc => ?_)))
      | ((fail_if_success (with_reducible refine Nx.is_at ?_)); (fail_if_success (with_reducible refine Nx.is_wp ?_)); (fail_if_success (with_reducible refine Nx.is_mix ?_)); first | refine Nx.ex ?_)
    exact Nx.again (k + 1, os.set k xp) ⟨hkl, hMp⟩ (by dsimp only; omega) ⟨rfl, rfl, rfl, rfl, by dsimp only; rw [hos1]; rfl, rfl, rfl, rfl, rfl, rfl, rfl, rfl, rfl, rfl, trivial⟩ (by (exact Ent.auto))
end Go.Proofs.YtcmdemfhbekabaaGreat
/- Contracts of functions of the given program, and lemmas about plain lists and numbers: what the laws of this seat lean on. -/
namespace Go.Proofs.YtcmdemfhbekabaaGreat
open Go.Eng Go.Sol
attribute [local irreducible] opK wpList Code.wp Exit.then Exit.inBlock fnPost bodyPost Nx Calls Oper.wp Rd Rds Wr Ent Stars Blk Again Vec FnSpec wpMix QRun Stop Upto wpAt
/-! Lists of exposed cells compared -/
theorem eqFields_rcD (d : Nat) (x y : Rch) (w : World) (fs : List Field) (hf : fs.map (fun f => (f.name, f.type, f.offset)) = [("Low", 3, 0), ("High", 3, 1), ("Open", 4, 2)]) :
    (Op.eqFields (d + 1) (rcC x).toArray (rcC y).toArray fs).run Tryz.prog w = .ok (decide (x = y)) w := by
  obtain ⟨f, g, k, rfl⟩ : ∃ f g k, fs = [f, g, k] := by
    rcases fs with _ | ⟨f, _ | ⟨g, _ | ⟨k, _ | ⟨m, r⟩⟩⟩⟩
    · simp at hf
    · simp at hf
    · simp at hf
    · exact ⟨f, g, k, rfl⟩
    · simp at hf
  simp only [List.map_cons, List.map_nil, List.cons.injEq, Prod.mk.injEq, and_true] at hf
  obtain ⟨⟨h1, h2, h3⟩, ⟨h4, h5, h6⟩, h7, h8, h9⟩ := hf
  have hd : decide (x = y) = (x.1 == y.1 && (x.2.1 == y.2.1 && x.2.2 == y.2.2)) := by
    obtain ⟨a, b, c⟩ := x
    obtain ⟨a', b', c'⟩ := y
    rw [Bool.eq_iff_iff]
    simp
  rw [hd]
  simp only [Op.eqFields, h1, h2, h3, h4, h5, h6, h7, h8, h9]
  rw [if_pos (by decide), if_pos (by decide), if_pos (by decide), Sem.run_bind, part_rc0, Result.andThen_ok, Sem.run_bind, part_rc0, Result.andThen_ok, Sem.run_bind, run_equalIn_int _ d _ .i64 .i64 _ _ Tryz.underlying3, Result.andThen_ok]
  cases (x.1 == y.1)
  · rfl
  · rw [if_neg (by decide), Sem.run_bind, part_rc1, Result.andThen_ok, Sem.run_bind, part_rc1, Result.andThen_ok, Sem.run_bind, run_equalIn_int _ d _ .i64 .i64 _ _ Tryz.underlying3, Result.andThen_ok]
    cases (x.2.1 == y.2.1)
    · rfl
    · rw [if_neg (by decide), Sem.run_bind, part_rc2, Result.andThen_ok, Sem.run_bind, part_rc2, Result.andThen_ok, Sem.run_bind, run_equalIn_bool' _ d _ _ _ Tryz.underlying4, Result.andThen_ok]
      cases (x.2.2 == y.2.2) <;> rfl
theorem part_ex0 (x : Exp) (w : World) : (part 3 (exC x).toArray 0).run Tryz.prog w = .ok (.int .i64 x.1) w := run_of_pureRun (by kernel_rfl) w
theorem part_ex1 (x : Exp) (w : World) : (part 42 (exC x).toArray 1).run Tryz.prog w = .ok (.agg (rcC x.2.1).toArray) w := run_of_pureRun (by kernel_rfl) w
theorem part_ex4 (x : Exp) (w : World) : (part 3 (exC x).toArray 4).run Tryz.prog w = .ok (.int .i64 x.2.2) w := run_of_pureRun (by kernel_rfl) w
theorem eqFields_ex (x y : Exp) (w : World) (fs : List Field) (hf : fs.map (fun f => (f.name, f.type, f.offset)) = [("Cell", 3, 0), ("Reach", 42, 1), ("First", 3, 4)]) :
    (Op.eqFields 9999 (exC x).toArray (exC y).toArray fs).run Tryz.prog w = .ok (decide (x = y)) w := by
  obtain ⟨f, g, k, rfl⟩ : ∃ f g k, fs = [f, g, k] := by
    rcases fs with _ | ⟨f, _ | ⟨g, _ | ⟨k, _ | ⟨m, r⟩⟩⟩⟩
    · simp at hf
    · simp at hf
    · simp at hf
    · exact ⟨f, g, k, rfl⟩
    · simp at hf
  simp only [List.map_cons, List.map_nil, List.cons.injEq, Prod.mk.injEq, and_true] at hf
  obtain ⟨⟨h1, h2, h3⟩, ⟨h4, h5, h6⟩, h7, h8, h9⟩ := hf
  have hd : decide (x = y) = (x.1 == y.1 && (decide (x.2.1 = y.2.1) && x.2.2 == y.2.2)) := by
    obtain ⟨a, b, c⟩ := x
    obtain ⟨a', b', c'⟩ := y
    rw [Bool.eq_iff_iff]
    simp
  rw [hd]
  simp only [Op.eqFields, h1, h2, h3, h4, h5, h6, h7, h8, h9]
  rw [if_pos (by decide), if_pos (by decide), if_pos (by decide), Sem.run_bind, part_ex0, Result.andThen_ok, Sem.run_bind, part_ex0, Result.andThen_ok, Sem.run_bind, run_equalIn_int _ 9998 _ .i64 .i64 _ _ Tryz.underlying3, Result.andThen_ok]
  cases (x.1 == y.1)
  · rfl
  · rw [if_neg (by decide), Sem.run_bind, part_ex1, Result.andThen_ok, Sem.run_bind, part_ex1, Result.andThen_ok, Sem.run_bind, run_equalIn_struct _ 9998 42 _ _ (by kernel_rfl) Tryz.stoodInHeld42, eqFields_rcD 9997 _ _ w _ (by kernel_rfl), Result.andThen_ok]
    cases (decide (x.2.1 = y.2.1))
    · rfl
    · rw [if_neg (by decide), Sem.run_bind, part_ex4, Result.andThen_ok, Sem.run_bind, part_ex4, Result.andThen_ok, Sem.run_bind, run_equalIn_int _ 9998 _ .i64 .i64 _ _ Tryz.underlying3, Result.andThen_ok]
      cases (x.2.2 == y.2.2) <;> rfl
theorem neq_ex (p q : Exp) (x y : Operand) (w : World) : (do eqGuard .neq 99 x y (.agg (exC p).toArray) (.agg (exC q).toArray); binOp .neq 99 (.agg (exC p).toArray) (.agg (exC q).toArray)).run Tryz.prog w = .ok (.bool (decide (p ≠ q))) w := by
  rw [Sem.run_bind, run_eqGuard_agg _ _ _ _ _ _ _ Tryz.eqGuardType99, Result.andThen_ok, run_neq_struct, run_equalIn_struct _ 9999 99 _ _ (by kernel_rfl) Tryz.stoodInHeld99,
    eqFields_ex p q w _ (by kernel_rfl)]
  rw [decide_not]; rfl
abbrev Exps := SliceN exC 5
set_option maxRecDepth 10000 in
set_option maxHeartbeats 4000000 in
theorem SameX_spec (A B : Option Addr) (cp cq : Nat) (l r : List Exp) (I : PH) (hl : Exps I A cp l) (hr : Exps I B cq r) :
    FnSpec Tryz.prog 30 [.slice A l.length cp, .slice B r.length cq] I [] (fun v R' => v = .bool (decide (l = r)) ∧ R' = []) := by
  refine FnSpec.enterP Tryz.func30 rfl Tryz.ntmps30 rfl fun w F => ?_
  have h1 := hl.len
  repeat' first
    | ((with_reducible refine Nx.is_wp ?_); first | refine Nx.wo ?_ | refine Nx.p_dec rfl rfl (fun hc => ?_) (fun hc => ?_) | refine Nx.p_bool rfl rfl (fun hc => ?_) (fun hc => ?_))
    | ((first | refine Nx.at_op rfl rfl ?_ | refine Nx.m_loud rfl rfl rfl ?_ | refine Nx.at_do rfl rfl rfl rfl ?_ | refine Nx.m_loud_do rfl rfl rfl rfl rfl ?_); first | refine Nx.opr rfl rfl ?_ | refine Nx.so ?_ | refine Nx.sb (fun bx => ?_) | refine Nx.sa (fun A2 c2 => ?_))
    | ((with_reducible refine Nx.is_at ?_); first | refine Nx.a ?_ | ((fail_if_success refine Nx.at_do rfl rfl rfl rfl ?_); first | refine Nx.at_dec_t rfl rfl rfl rfl (by first | assumption | omega) ?_ | refine Nx.at_dec_f rfl rfl rfl rfl (by first | assumption | omega) ?_ | refine Nx.at_split rfl rfl rfl rfl (fun hc => ?_) (fun hc => ?_) | refine Nx.at_splitb rfl rfl rfl rfl (fun hc => ?_) (fun hc => ?_)))
    | ((with_reducible refine Nx.is_mix ?_); first | refine Nx.m ?_ | ((fail_if_success refine Nx.m_quiet_do rfl rfl rfl rfl rfl rfl rfl ?_ ?_); (fail_if_success refine Nx.m_loud_do rfl rfl rfl rfl rfl ?_); first | refine Nx.m_dec_t rfl rfl rfl rfl (by first | assumption | omega) ?_ | refine Nx.m_dec_f rfl rfl rfl rfl (by first | assumption | omega) ?_ | refine Nx.m_split rfl rfl rfl rfl (fun hc => ?_) (fun hc => ?_) | refine Nx.m_splitb rfl rfl rfl rfl (fun hc => ?_) (fun hc => ?_)))
    | ((fail_if_success (with_reducible refine Nx.is_at ?_)); (fail_if_success (with_reducible refine Nx.is_wp ?_)); (fail_if_success (with_reducible refine Nx.is_mix ?_)); first | refine Nx.ex ?_)
  · exact Nx.ret_fn rfl [] ⟨by rw [decide_eq_false]; intro h; rw [h] at hc; exact hc rfl, rfl⟩ (Ent.refl _)
  have hlen : l.length = r.length := by omega
  refine Nx.p_loop (σ := Nat) (fun k => [(0, .slice A l.length cp), (1, .slice B r.length cq), (12, .int .i64 l.length), (13, .int .i64 (k : Int))])
    (fun _ => [F]) (fun k => k ≤ l.length ∧ l.take k = r.take k) (fun k => l.length - k) 0 rfl ⟨Nat.zero_le _, by simp⟩ ⟨rfl, rfl, rfl, rfl, trivial⟩ (Ent.refl _) ?_
  rintro k ⟨hk, hsame⟩
  repeat' first
    | ((with_reducible refine Nx.is_wp ?_); first | refine Nx.wo ?_ | refine Nx.p_draw (id := 6) rfl [0, 1, 2, 3, 4, 5, 6, 7, 8] [] _ rfl rfl (by kernel_rfl) (by kernel_rfl) rfl (by repeat first | exact PanicOk.fn | refine PanicOk.then_ ?_ | refine PanicOk.inB ?_) (Ent.refl _) ?_ | refine Nx.p_dec rfl rfl (fun hc => ?_) (fun hc => ?_) | refine Nx.p_bool rfl rfl (fun hc => ?_) (fun hc => ?_))
    | ((first | refine Nx.at_op rfl rfl ?_ | refine Nx.m_loud rfl rfl rfl ?_ | refine Nx.at_do rfl rfl rfl rfl ?_ | refine Nx.m_loud_do rfl rfl rfl rfl rfl ?_); first | refine Nx.opr rfl rfl ?_ | refine Nx.so ?_ | refine Nx.sb (fun bx => ?_) | refine Nx.sa (fun A2 c2 => ?_))
    | ((with_reducible refine Nx.is_at ?_); first | refine Nx.a ?_ | ((fail_if_success refine Nx.at_do rfl rfl rfl rfl ?_); first | refine Nx.at_dec_t rfl rfl rfl rfl (by first | assumption | omega) ?_ | refine Nx.at_dec_f rfl rfl rfl rfl (by first | assumption | omega) ?_ | refine Nx.at_split rfl rfl rfl rfl (fun hc => ?_) (fun hc => ?_) | refine Nx.at_splitb rfl rfl rfl rfl (fun hc => ?_) (fun hc => ?_)))
    | ((with_reducible refine Nx.is_mix ?_); first | refine Nx.m_quiet rfl rfl rfl rfl rfl (by first | exact QRun.opr rfl | exact QRun.idx rfl rfl rfl rfl (by omega) (hl.isSome (by omega) (by decide)) | exact QRun.idx rfl rfl rfl rfl (by omega) (hr.isSome (by omega) (by decide)) | exact QRun.loads rfl rfl rfl (hl.rds (by omega)) rfl | exact QRun.loads rfl rfl rfl (hr.rds (by omega)) rfl | exact QRun.binr rfl rfl (neq_ex _ _ _ _)) ?_ | refine Nx.m_quiet_do rfl rfl rfl rfl rfl rfl rfl (by first | exact QRun.opr rfl | exact QRun.idx rfl rfl rfl rfl (by omega) (hl.isSome (by omega) (by decide)) | exact QRun.idx rfl rfl rfl rfl (by omega) (hr.isSome (by omega) (by decide)) | exact QRun.loads rfl rfl rfl (hl.rds (by omega)) rfl | exact QRun.loads rfl rfl rfl (hr.rds (by omega)) rfl | exact QRun.binr rfl rfl (neq_ex _ _ _ _)) ?_ | refine Nx.m ?_ | ((fail_if_success refine Nx.m_quiet_do rfl rfl rfl rfl rfl rfl rfl ?_ ?_); (fail_if_success refine Nx.m_loud_do rfl rfl rfl rfl rfl ?_); first | refine Nx.m_dec_t rfl rfl rfl rfl (by first | assumption | omega) ?_ | refine Nx.m_dec_f rfl rfl rfl rfl (by first | assumption | omega) ?_ | refine Nx.m_split rfl rfl rfl rfl (fun hc => ?_) (fun hc => ?_) | refine Nx.m_splitb rfl rfl rfl rfl (fun hc => ?_) (fun hc => ?_)))
    | ((fail_if_success (with_reducible refine Nx.is_at ?_)); (fail_if_success (with_reducible refine Nx.is_wp ?_)); (fail_if_success (with_reducible refine Nx.is_mix ?_)); first | refine Nx.ex ?_)
  · refine Nx.ret_fn rfl [] ⟨by rw [decide_eq_false]; intro h; exact hc (by rw [h]), rfl⟩ (Ent.refl _)
  · refine Nx.again (k + 1) ⟨by omega, ?_⟩ (by omega) ⟨rfl, rfl, rfl, rfl, trivial⟩ (Ent.refl _)
    have e : l.getD k default = r.getD k default := Decidable.not_not.1 hc
    rw [List.take_succ_eq_append_getElem (by omega), List.take_succ_eq_append_getElem (by omega), hsame]
    rw [List.getD_eq_getElem?_getD, List.getD_eq_getElem?_getD, List.getElem?_eq_getElem (by omega), List.getElem?_eq_getElem (by omega)] at e
    rw [show l[k]'(by omega) = r[k]'(by omega) from e]
  · obtain rfl : k = l.length := by omega
    rw [List.take_length, hlen, List.take_length] at hsame
    exact Nx.ret_fn rfl [] ⟨by rw [decide_eq_true hsame], rfl⟩ (Ent.refl _)
/-! Protected cells -/
end Go.Proofs.YtcmdemfhbekabaaGreat
/- Contracts of functions of the given program, and lemmas about plain lists and numbers: what the laws of this seat lean on. -/
namespace Go.Proofs.YtcmdemfhbekabaaGreat
open Go.Eng Go.Sol
attribute [local irreducible] opK wpList Code.wp Exit.then Exit.inBlock fnPost bodyPost Nx Calls Oper.wp Rd Rds Wr Ent Stars Blk Again Vec FnSpec wpMix QRun Stop Upto wpAt
/-! The example of the chapter -/
def exRl (v1 v2 g1 g2 x1 x2 : Nat) : List Rel := [⟨0, some ⟨v1, 0, none⟩, 1, [(some ⟨g1, 0, none⟩, 3, [0, 0, 1])], (some ⟨x1, 0, none⟩, 2, [5, 2])⟩, ⟨1, some ⟨v2, 0, none⟩, 1, [(some ⟨g2, 0, none⟩, 3, [0, 1, 1])], (some ⟨x2, 0, none⟩, 2, [4, 3])⟩]
theorem exXp (v1 v2 g1 g2 x1 x2 : Nat) : expD [3] (exRl v1 v2 g1 g2 x1 x2) [0, 1] 1 = ([(0, (4, 4, false), 1), (1, (1, 1, false), 1)], 0) := by kernel_rfl
abbrev exX : List Exp := [(0, (4, 4, false), 1), (1, (1, 1, false), 1)]
theorem exS3 : Sizes [3] := ⟨by decide, by decide, by decide⟩
theorem exV3 (g : Nat) (xs : List Int) (h : xs = [0, 0, 1] ∨ xs = [0, 1, 1]) : Viewed [3] [(some ⟨g, 0, none⟩, 3, xs)] := ⟨rfl, fun k hk => by
  obtain rfl : k = 0 := by simpa using hk
  rcases h with rfl | rfl
  · exact ⟨rfl, rfl⟩
  · exact ⟨rfl, rfl⟩⟩
set_option maxRecDepth 10000 in
set_option maxHeartbeats 8000000 in
theorem awakeD_spec (I : PH) : FnSpec Tryz.prog 18 [] I [] (fun v R' => v = .bool true ∧ R' = []) := by
  refine FnSpec.enterP Tryz.func18 rfl Tryz.ntmps18 rfl fun w F => ?_
  repeat' first
    | ((with_reducible refine Nx.is_wp ?_); first | refine Nx.p_stopr 3 rfl ?_ | refine Nx.wo ?_ | refine Nx.p_dec rfl rfl (fun hc => ?_) (fun hc => ?_) | refine Nx.p_bool rfl rfl (fun hc => ?_) (fun hc => ?_))
    | ((first | refine Nx.at_op rfl rfl ?_ | refine Nx.m_loud rfl rfl rfl ?_ | refine Nx.at_do rfl rfl rfl rfl ?_ | refine Nx.m_loud_do rfl rfl rfl rfl rfl ?_); first | refine Nx.opr rfl rfl ?_ | refine Nx.so ?_ | refine Nx.sb (fun bx => ?_) | refine Nx.sa (fun A2 c2 => ?_))
    | ((with_reducible refine Nx.is_at ?_); first | refine Nx.a ?_ | ((fail_if_success refine Nx.at_do rfl rfl rfl rfl ?_); first | refine Nx.at_dec_t rfl rfl rfl rfl (by first | assumption | omega) ?_ | refine Nx.at_dec_f rfl rfl rfl rfl (by first | assumption | omega) ?_ | refine Nx.at_split rfl rfl rfl rfl (fun hc => ?_) (fun hc => ?_) | refine Nx.at_splitb rfl rfl rfl rfl (fun hc => ?_) (fun hc => ?_)))
    | ((with_reducible refine Nx.is_mix ?_); first | refine Nx.m ?_ | ((fail_if_success refine Nx.m_quiet_do rfl rfl rfl rfl rfl rfl rfl ?_ ?_); (fail_if_success refine Nx.m_loud_do rfl rfl rfl rfl rfl ?_); first | refine Nx.m_dec_t rfl rfl rfl rfl (by first | assumption | omega) ?_ | refine Nx.m_dec_f rfl rfl rfl rfl (by first | assumption | omega) ?_ | refine Nx.m_split rfl rfl rfl rfl (fun hc => ?_) (fun hc => ?_) | refine Nx.m_splitb rfl rfl rfl rfl (fun hc => ?_) (fun hc => ?_)))
    | ((fail_if_success (with_reducible refine Nx.is_at ?_)); (fail_if_success (with_reducible refine Nx.is_wp ?_)); (fail_if_success (with_reducible refine Nx.is_mix ?_)); first | refine Nx.ex ?_)
  refine unstopN ?_
  rename_i bsz b1 g1 v1 x1 g2 v2 x2
  revert bx; intro brl
  refine Nx.ent (R' := [Stars [Blk brl 62 [.int .i64 0, .slice (some ⟨v1, 0, none⟩) 1 1, .slice (some ⟨x1, 0, none⟩) 2 2, .int .i64 1, .slice (some ⟨v2, 0, none⟩) 1 1, .slice (some ⟨x2, 0, none⟩) 2 2], Blk x2 3 [.int .i64 4, .int .i64 3], Blk v2 25 [.slice (some ⟨g2, 0, none⟩) 3 3], Blk g2 3 [.int .i64 0, .int .i64 1, .int .i64 1], Blk x1 3 [.int .i64 5, .int .i64 2], Blk v1 25 [.slice (some ⟨g1, 0, none⟩) 3 3], Blk g1 3 [.int .i64 0, .int .i64 0, .int .i64 1], Blk bsz 3 [.int .i64 3]], Blk b1 27 [.slice (some ⟨bsz, 0, none⟩) 1 1], F])
    (Ent.trans (R' := [Blk brl 62 [.int .i64 0, .slice (some ⟨v1, 0, none⟩) 1 1, .slice (some ⟨x1, 0, none⟩) 2 2, .int .i64 1, .slice (some ⟨v2, 0, none⟩) 1 1, .slice (some ⟨x2, 0, none⟩) 2 2], Blk x2 3 [.int .i64 4, .int .i64 3], Blk v2 25 [.slice (some ⟨g2, 0, none⟩) 3 3], Blk g2 3 [.int .i64 0, .int .i64 1, .int .i64 1], Blk x1 3 [.int .i64 5, .int .i64 2], Blk v1 25 [.slice (some ⟨g1, 0, none⟩) 3 3], Blk g1 3 [.int .i64 0, .int .i64 0, .int .i64 1], Blk bsz 3 [.int .i64 3]] ++ [Blk b1 27 [.slice (some ⟨bsz, 0, none⟩) 1 1], F]) (by (exact Ent.auto)) Ent.stars) ?_
  refine Nx.freezeAt 0 rfl fun I1 m1 hI1 hm1 h1 => ?_
  obtain ⟨k0, l0, c0⟩ := Stars.get 0 h1 rfl
  obtain ⟨k1, l1, c1⟩ := Stars.get 1 h1 rfl
  obtain ⟨k2, l2, c2⟩ := Stars.get 2 h1 rfl
  obtain ⟨k3, l3, c3⟩ := Stars.get 3 h1 rfl
  obtain ⟨k4, l4, c4⟩ := Stars.get 4 h1 rfl
  obtain ⟨k5, l5, c5⟩ := Stars.get 5 h1 rfl
  obtain ⟨k6, l6, c6⟩ := Stars.get 6 h1 rfl
  obtain ⟨k7, l7, c7⟩ := Stars.get 7 h1 rfl
  have hsz : Ints I1 (some ⟨bsz, 0, none⟩) 1 [3] := Blk.sliceOf (t := 3) (l := [3]) (l7.trans hm1) c7 (by decide)
  have hG1 : Ints I1 (some ⟨g1, 0, none⟩) 3 [0, 0, 1] := Blk.sliceOf (t := 3) (l := [0, 0, 1]) (l6.trans hm1) c6 (by decide)
  have hG2 : Ints I1 (some ⟨g2, 0, none⟩) 3 [0, 1, 1] := Blk.sliceOf (t := 3) (l := [0, 1, 1]) (l3.trans hm1) c3 (by decide)
  have hR1 : RowsOf I1 (some ⟨v1, 0, none⟩) 1 [(some ⟨g1, 0, none⟩, 3, [0, 0, 1])] := ⟨Blk.sliceOf (t := 25) (l := [((some ⟨g1, 0, none⟩, 3, [0, 0, 1]) : Row)]) (l5.trans hm1) c5 (by unfold maxLen; simp), fun r hr => by rw [List.mem_singleton.1 hr]; exact hG1⟩
  have hR2 : RowsOf I1 (some ⟨v2, 0, none⟩) 1 [(some ⟨g2, 0, none⟩, 3, [0, 1, 1])] := ⟨Blk.sliceOf (t := 25) (l := [((some ⟨g2, 0, none⟩, 3, [0, 1, 1]) : Row)]) (l2.trans hm1) c2 (by unfold maxLen; simp), fun r hr => by rw [List.mem_singleton.1 hr]; exact hG2⟩
  have hX1 : Ints I1 (some ⟨x1, 0, none⟩) 2 [5, 2] := Blk.sliceOf (t := 3) (l := [5, 2]) (l4.trans hm1) c4 (by decide)
  have hX2 : Ints I1 (some ⟨x2, 0, none⟩) 2 [4, 3] := Blk.sliceOf (t := 3) (l := [4, 3]) (l1.trans hm1) c1 (by decide)
  have hRs : Rels I1 (some ⟨brl, 0, none⟩) 2 (exRl v1 v2 g1 g2 x1 x2) := ⟨Blk.sliceN (t := 62) (l := exRl v1 v2 g1 g2 x1 x2) (l0.trans hm1) c0 (fun _ _ => rfl) (by unfold maxLen exRl; simp), fun r hr => by
      simp only [exRl, List.mem_cons, List.not_mem_nil, or_false] at hr
      rcases hr with rfl | rfl
      · exact hR1
      · exact hR2, fun r hr => by
      simp only [exRl, List.mem_cons, List.not_mem_nil, or_false] at hr
      rcases hr with rfl | rfl
      · exact hX1
      · exact hX2⟩
  have hw : ∀ r ∈ exRl v1 v2 g1 g2 x1 x2, Viewed [3] r.v := fun r hr => by
      simp only [exRl, List.mem_cons, List.not_mem_nil, or_false] at hr
      rcases hr with rfl | rfl
      · exact exV3 g1 _ (.inl rfl)
      · exact exV3 g2 _ (.inr rfl)
  have hE := fun (bp : Nat) (I' : PH) (hle : PH.le I1 I') (hp : Ints I' (some ⟨bp, 0, none⟩) 2 [0, 1]) => Exposed_spec (some ⟨bsz, 0, none⟩) (some ⟨brl, 0, none⟩) (some ⟨bp, 0, none⟩) 1 2 2 [3] (exRl v1 v2 g1 g2 x1 x2) [0, 1] 1 I' (hsz.mono hle) exS3 (hRs.mono hle) hw hp (by decide)
  simp only [exXp] at hE
  change ∀ (bp : Nat) (I' : PH), _ → _ → FnSpec _ _ _ _ _ (fun u R' => ∃ A' c', u = .tuple #[.slice A' exX.length c', .int .i64 0] ∧ R' = [expR A' c' exX]) at hE
  repeat' first
    | ((with_reducible refine Nx.is_wp ?_); first | refine Nx.wo ?_ | refine Nx.p_dec rfl rfl (fun hc => ?_) (fun hc => ?_) | refine Nx.p_bool rfl rfl (fun hc => ?_) (fun hc => ?_))
    | ((first | refine Nx.at_op rfl rfl ?_ | refine Nx.m_loud rfl rfl rfl ?_ | refine Nx.at_do rfl rfl rfl rfl ?_ | refine Nx.m_loud_do rfl rfl rfl rfl rfl ?_); first | refine Nx.opr rfl rfl ?_ | (refine Nx.call rfl rfl rfl (by kernel_rfl) rfl (FnSpec.keep [Blk _ 3 [.int .i64 0, .int .i64 1]] fun m I' hle hm' hv => hE _ I' hle (by obtain ⟨q1, z1, y1⟩ := Stars.get 0 hv rfl; exact Blk.sliceOf (t := 3) (l := [0, 1]) (z1.trans hm') y1 (by decide))) (by (exact Ent.auto)) ?_; rintro _ _ ⟨_, ⟨Ax, cx, rfl, rfl⟩, rfl⟩) | (refine Nx.call rfl rfl rfl (by kernel_rfl) rfl (FnSpec.keep [expR _ _ exX, Blk _ 99 (exX.flatMap exC)] fun m I' hle hm' hv => SameX_spec _ (some ⟨_, 0, none⟩) _ 2 exX exX I' (by obtain ⟨q1, z1, y1⟩ := Stars.get 0 hv rfl; exact Vec.sliceN (z1.trans hm') y1 fun x _ => exC_len x) (by obtain ⟨q1, z1, y1⟩ := Stars.get 1 hv rfl; exact Blk.sliceN (t := 99) (l := exX) (z1.trans hm') y1 (fun x _ => exC_len x) (by unfold maxLen; decide))) (by (exact Ent.auto)) ?_; rintro _ _ ⟨_, ⟨rfl, rfl⟩, rfl⟩) | refine Nx.so ?_ | refine Nx.sb (fun bx => ?_) | refine Nx.sa (fun A2 c2 => ?_))
    | ((with_reducible refine Nx.is_at ?_); first | refine Nx.a ?_ | ((fail_if_success refine Nx.at_do rfl rfl rfl rfl ?_); first | refine Nx.at_dec_t rfl rfl rfl rfl (by first | assumption | omega) ?_ | refine Nx.at_dec_f rfl rfl rfl rfl (by first | assumption | omega) ?_ | refine Nx.at_split rfl rfl rfl rfl (fun hc => ?_) (fun hc => ?_) | refine Nx.at_splitb rfl rfl rfl rfl (fun hc => ?_) (fun hc => ?_)))
    | ((with_reducible refine Nx.is_mix ?_); first | refine Nx.m ?_ | ((fail_if_success refine Nx.m_quiet_do rfl rfl rfl rfl rfl rfl rfl ?_ ?_); (fail_if_success refine Nx.m_loud_do rfl rfl rfl rfl rfl ?_); first | refine Nx.m_dec_t rfl rfl rfl rfl (by first | assumption | omega) ?_ | refine Nx.m_dec_f rfl rfl rfl rfl (by first | assumption | omega) ?_ | refine Nx.m_split rfl rfl rfl rfl (fun hc => ?_) (fun hc => ?_) | refine Nx.m_splitb rfl rfl rfl rfl (fun hc => ?_) (fun hc => ?_)))
    | ((fail_if_success (with_reducible refine Nx.is_at ?_)); (fail_if_success (with_reducible refine Nx.is_wp ?_)); (fail_if_success (with_reducible refine Nx.is_mix ?_)); first | refine Nx.ex ?_)
  exact Nx.imm_le hI1 (Nx.ret_fn rfl [] ⟨rfl, rfl⟩ (by (exact Ent.auto)))
end Go.Proofs.YtcmdemfhbekabaaGreat
/- Contracts of functions of the given program, and lemmas about plain lists and numbers: what the laws of this seat lean on. -/
namespace Go.Proofs.YtcmdemfhbekabaaGreat
open Go.Eng Go.Sol
attribute [local irreducible] opK wpList Code.wp Exit.then Exit.inBlock fnPost bodyPost Nx Calls Oper.wp Rd Rds Wr Ent Stars Blk Again Vec FnSpec wpMix QRun Stop Upto wpAt
/-! Fewer equations -/
theorem EqsOk.take {N : Nat} {t : List Int} {most : Int} {qs : List EqR} (h : EqsOk N t most qs) (k : Nat) : EqsOk N t most (qs.take k) :=
  ⟨h.n, h.len, h.tab, by have := h.few; rw [List.length_take]; omega, fun q hq => h.good q (List.mem_of_mem_take hq), fun q hq => h.sum q (List.mem_of_mem_take hq)⟩
theorem Eqs.take {I : PH} {A : Option Addr} {c : Nat} {l : List EqR} (h : Eqs I A c l) (k : Nat) : Eqs I A c (l.take k) := by
  refine ⟨⟨fun j u hj => ?_, by have := h.outer.cap; rw [List.length_take]; omega, h.outer.max, fun x hx => h.outer.cells x (List.mem_of_mem_take hx)⟩, fun q hq => h.inner q (List.mem_of_mem_take hq)⟩
  refine h.outer.arr j u ?_
  have e : l.flatMap eqC = (l.take k).flatMap eqC ++ (l.drop k).flatMap eqC := by rw [← List.flatMap_append, List.take_append_drop]
  rw [e, List.getElem?_append_left (List.getElem?_eq_some_iff.1 hj).1]
  exact hj
end Go.Proofs.YtcmdemfhbekabaaGreat
/- Contracts of functions of the given program, and lemmas about plain lists and numbers: what the laws of this seat lean on. -/
namespace Go.Proofs.YtcmdemfhbekabaaGreat
open Go.Eng Go.Sol
attribute [local irreducible] opK wpList Code.wp Exit.then Exit.inBlock fnPost bodyPost Nx Calls Oper.wp Rd Rds Wr Ent Stars Blk Again Vec FnSpec wpMix QRun Stop Upto wpAt
/-! Plain: a further release -/
theorem views_of {l t : List Int} {rs : List Rel} (h : RelsOk l t rs) : ∀ r ∈ rs, Viewed l r.v := fun r hr => by
  obtain ⟨i, hi, he⟩ := List.mem_iff_getElem.1 hr
  have := (h.each i hi).1.view
  rwa [List.getD_eq_getElem?_getD, List.getElem?_eq_getElem hi, show (some rs[i]).getD default = r from he] at this
/-- The reaches from releases of a table: refused, or a table agrees. -/
theorem rch_made {l t : List Int} {rs : List Rel} (hs : Sizes l) (hT : tabOk l t 2) (h : RelsOk l t rs) (hn : rs.length ≤ 24) : relsE l rs = 0 ∧ rchD l rs = reachR (prod l) (qsOf l rs) ∧ ((rchD l rs).2 = 0 ∨ (rchD l rs).2 = 1) := by
  have hV := relsV_of hs hT (by decide) (by decide) h hn
  have h0 := (relsE_iff hs (views_of h)).2 hV
  have he : rchD l rs = reachR (prod l) (qsOf l rs) := by unfold rchD; rw [if_pos h0]
  refine ⟨h0, he, ?_⟩
  rw [he]
  have hz := size_ok hs
  have hg := told_good hs hV
  have hchk := chk_of (N := (prod l).toNat) (qs := qsOf l rs) (by omega) (hV.qlen hs) hg
  rw [hz.2.2] at hchk
  unfold reachR
  by_cases hc : chkQ (prod l) (qsOf l rs) = 0
  · rw [if_pos hc]
    have hne : solsOf (prod l).toNat (eqns (qsOf l rs)) ≠ [] := fun hb => by
      have hw := want_sol (t := t) hg (fun c _ => by
        by_cases hct : c < t.length
        · have := hT.2 c hct
          show 0 ≤ t.getD c default ∧ t.getD c default ≤ 1000000
          omega
        · rw [getD_ge (by omega)]; decide) fun q hq => by
          obtain ⟨p, hp, rfl⟩ := List.mem_map.1 hq
          exact (told_eq (q := canonE p) hs hT (by decide) (by decide) h hn hp).2
      rw [hb] at hw; cases hw
    rw [if_neg hne]
    exact .inl rfl
  · rw [if_neg hc]
    right
    show chkQ (prod l) (qsOf l rs) = 1
    split at hchk
    · exact hchk
    · exact absurd hchk hc
theorem chkD_made {l t : List Int} {rs : List Rel} {prot : List Int} {m : Int} (hs : Sizes l) (hT : tabOk l t 2) (h : RelsOk l t rs) (hn : rs.length ≤ 24) (hm : 1 ≤ m ∧ m ≤ 100) (hpa : prot.Pairwise (· < ·)) (hpb : ∀ x ∈ prot, 0 ≤ x ∧ x < prod l) : chkD l rs prot m = 0 := by
  obtain ⟨h0, _, _⟩ := rch_made hs hT h hn
  unfold chkD
  rw [if_neg (by omega), if_neg (by omega), if_neg, if_pos hpa]
  intro ha
  obtain ⟨x, hx, hb⟩ := List.any_eq_true.1 ha
  have := hpb x hx
  unfold outP at hb
  rw [decide_eq_true_eq] at hb
  omega
theorem findD_made {l t : List Int} {rs : List Rel} {prot : List Int} {m : Int} (hs : Sizes l) (hT : tabOk l t 2) (h : RelsOk l t rs) (hn : rs.length ≤ 24) (hm : 1 ≤ m ∧ m ≤ 100) (hpa : prot.Pairwise (· < ·)) (hpb : ∀ x ∈ prot, 0 ≤ x ∧ x < prod l) :
    findD l rs prot m = if (rchD l rs).2 ≠ 0 then ([], (rchD l rs).2) else (exOf (rchD l rs).1 prot m, 0) := by
  unfold findD
  rw [if_neg (by rw [chkD_made hs hT h hn hm hpa hpb]; decide)]
theorem expD_err {l t : List Int} {rs : List Rel} {prot : List Int} {m : Int} (hs : Sizes l) (hT : tabOk l t 2) (h : RelsOk l t rs) (hn : rs.length ≤ 24) (hm : 1 ≤ m ∧ m ≤ 100) (hpa : prot.Pairwise (· < ·)) (hpb : ∀ x ∈ prot, 0 ≤ x ∧ x < prod l) : (expD l rs prot m).2 = 0 ∨ (expD l rs prot m).2 = 1 := by
  obtain ⟨_, _, h3⟩ := rch_made hs hT h hn
  show (findD l rs prot m).2 = 0 ∨ (findD l rs prot m).2 = 1
  rw [findD_made hs hT h hn hm hpa hpb]
  split
  · exact h3
  · exact .inl rfl
end Go.Proofs.YtcmdemfhbekabaaGreat
/- Contracts of functions of the given program, and lemmas about plain lists and numbers: what the laws of this seat lean on. -/
namespace Go.Proofs.YtcmdemfhbekabaaGreat
open Go.Eng Go.Sol
attribute [local irreducible] opK wpList Code.wp Exit.then Exit.inBlock fnPost bodyPost Nx Calls Oper.wp Rd Rds Wr Ent Stars Blk Again Vec FnSpec wpMix QRun Stop Upto wpAt
/-! Safe, Witness -/
def witD (l : List Int) (rs : List Rel) (x : Int) : List Int × List Int × Int := if chkD l rs [x] 1 ≠ 0 then ([], [], chkD l rs [x] 1) else pairR (prod l) (qsOf l rs) x
set_option maxRecDepth 10000 in
set_option maxHeartbeats 8000000 in
theorem Witness_spec (A As : Option Addr) (c cs : Nat) (l : List Int) (rs : List Rel) (x : Int) (I : PH) (hl : Ints I A c l) (hs : Sizes l) (hr : Rels I As cs rs) (hw : ∀ r ∈ rs, Viewed l r.v) :
    FnSpec Tryz.prog 21 [.agg #[.slice A l.length c], .slice As rs.length cs, .int .i64 x] I []
      (fun u R' => ∃ (A1 : Option Addr) (c1 : Nat) (A2 : Option Addr) (c2 : Nat), u = .tuple #[.slice A1 (witD l rs x).1.length c1, .slice A2 (witD l rs x).2.1.length c2, .int .i64 (witD l rs x).2.2] ∧ R' = [iR A1 c1 (witD l rs x).1, iR A2 c2 (witD l rs x).2.1]) := by
  have hK := fun (bp : Nat) (I' : PH) (hle : PH.le I I') (hp : Ints I' (some ⟨bp, 0, none⟩) 1 [x]) => check_specD A As (some ⟨bp, 0, none⟩) c cs 1 l rs [x] 1 I' (hl.mono hle) hs (hr.mono hle) hw hp
  have hA := fun (I' : PH) (hle : PH.le I I') => EAll_spec A As c cs l rs I' (hl.mono hle) hs (hr.mono hle) hw
  unfold witD
  refine FnSpec.enterP Tryz.func21 rfl Tryz.ntmps21 rfl fun w F => ?_
  by_cases h0 : chkD l rs [x] 1 = 0
  case neg =>
    rw [if_pos h0]
    generalize chkD l rs [x] 1 = er at h0 hK
    repeat' first
      | ((with_reducible refine Nx.is_wp ?_); first | refine Nx.wo ?_ | refine Nx.p_dec rfl rfl (fun hc => ?_) (fun hc => ?_) | refine Nx.p_bool rfl rfl (fun hc => ?_) (fun hc => ?_))
      | ((first | refine Nx.at_op rfl rfl ?_ | refine Nx.m_loud rfl rfl rfl ?_ | refine Nx.at_do rfl rfl rfl rfl ?_ | refine Nx.m_loud_do rfl rfl rfl rfl rfl ?_); first | refine Nx.opr rfl rfl ?_ | (refine Nx.call rfl rfl rfl (by kernel_rfl) rfl (FnSpec.keep [Blk _ 3 [.int .i64 x]] fun m I' hle hm' hv => hK _ I' hle (by obtain ⟨q1, z1, y1⟩ := Stars.get 0 hv rfl; exact Blk.sliceOf (t := 3) (l := [x]) (z1.trans hm') y1 (by unfold maxLen; simp))) (by (exact Ent.auto)) ?_; rintro _ _ ⟨_, ⟨rfl, rfl⟩, rfl⟩) | refine Nx.so ?_ | refine Nx.sb (fun bx => ?_) | refine Nx.sa (fun A2 c2 => ?_))
      | ((with_reducible refine Nx.is_at ?_); first | refine Nx.a ?_ | ((fail_if_success refine Nx.at_do rfl rfl rfl rfl ?_); first | refine Nx.at_dec_t rfl rfl rfl rfl (by first | assumption | omega) ?_ | refine Nx.at_dec_f rfl rfl rfl rfl (by first | assumption | omega) ?_ | refine Nx.at_split rfl rfl rfl rfl (fun hc => ?_) (fun hc => ?_) | refine Nx.at_splitb rfl rfl rfl rfl (fun hc => ?_) (fun hc => ?_)))
      | ((with_reducible refine Nx.is_mix ?_); first | refine Nx.m ?_ | ((fail_if_success refine Nx.m_quiet_do rfl rfl rfl rfl rfl rfl rfl ?_ ?_); (fail_if_success refine Nx.m_loud_do rfl rfl rfl rfl rfl ?_); first | refine Nx.m_dec_t rfl rfl rfl rfl (by first | assumption | omega) ?_ | refine Nx.m_dec_f rfl rfl rfl rfl (by first | assumption | omega) ?_ | refine Nx.m_split rfl rfl rfl rfl (fun hc => ?_) (fun hc => ?_) | refine Nx.m_splitb rfl rfl rfl rfl (fun hc => ?_) (fun hc => ?_)))
      | ((fail_if_success (with_reducible refine Nx.is_at ?_)); (fail_if_success (with_reducible refine Nx.is_wp ?_)); (fail_if_success (with_reducible refine Nx.is_mix ?_)); first | refine Nx.ex ?_)
    exact Nx.ret_fn rfl [_, _] ⟨none, 0, none, 0, rfl, rfl⟩ ((Ent.vec_nil 3 1 _).trans ((Ent.vec_nil 3 1 _).trans (by (exact Ent.auto))))
  obtain ⟨hE0, _, _, _⟩ := chkD_ok h0
  have hV := (relsE_iff hs hw).1 hE0
  rw [if_neg (by omega)]
  simp only [h0] at hK
  simp only [hE0, if_pos] at hA
  repeat' first
    | ((with_reducible refine Nx.is_wp ?_); first | refine Nx.p_stopr 7 rfl ?_ | refine Nx.wo ?_ | refine Nx.p_dec rfl rfl (fun hc => ?_) (fun hc => ?_) | refine Nx.p_bool rfl rfl (fun hc => ?_) (fun hc => ?_))
    | ((first | refine Nx.at_op rfl rfl ?_ | refine Nx.m_loud rfl rfl rfl ?_ | refine Nx.at_do rfl rfl rfl rfl ?_ | refine Nx.m_loud_do rfl rfl rfl rfl rfl ?_); first | refine Nx.opr rfl rfl ?_ | (refine Nx.call rfl rfl rfl (by kernel_rfl) rfl (FnSpec.keep [Blk _ 3 [.int .i64 x]] fun m I' hle hm' hv => hK _ I' hle (by obtain ⟨q1, z1, y1⟩ := Stars.get 0 hv rfl; exact Blk.sliceOf (t := 3) (l := [x]) (z1.trans hm') y1 (by unfold maxLen; simp))) (by (exact Ent.auto)) ?_; rintro _ _ ⟨_, ⟨rfl, rfl⟩, rfl⟩) | (refine Nx.call (Rpre := []) rfl rfl rfl (by kernel_rfl) rfl (hA _ (PH.le_refl _)) (Ent.refl _) ?_; rintro _ _ ⟨Am, cm, qs, rfl, hqs, hql, rfl⟩) | refine Nx.so ?_ | refine Nx.sb (fun bx => ?_) | refine Nx.sa (fun A2 c2 => ?_))
    | ((with_reducible refine Nx.is_at ?_); first | refine Nx.a ?_ | ((fail_if_success refine Nx.at_do rfl rfl rfl rfl ?_); first | refine Nx.at_dec_t rfl rfl rfl rfl (by first | assumption | omega) ?_ | refine Nx.at_dec_f rfl rfl rfl rfl (by first | assumption | omega) ?_ | refine Nx.at_split rfl rfl rfl rfl (fun hc => ?_) (fun hc => ?_) | refine Nx.at_splitb rfl rfl rfl rfl (fun hc => ?_) (fun hc => ?_)))
    | ((with_reducible refine Nx.is_mix ?_); first | refine Nx.m ?_ | ((fail_if_success refine Nx.m_quiet_do rfl rfl rfl rfl rfl rfl rfl ?_ ?_); (fail_if_success refine Nx.m_loud_do rfl rfl rfl rfl rfl ?_); first | refine Nx.m_dec_t rfl rfl rfl rfl (by first | assumption | omega) ?_ | refine Nx.m_dec_f rfl rfl rfl rfl (by first | assumption | omega) ?_ | refine Nx.m_split rfl rfl rfl rfl (fun hc => ?_) (fun hc => ?_) | refine Nx.m_splitb rfl rfl rfl rfl (fun hc => ?_) (fun hc => ?_)))
    | ((fail_if_success (with_reducible refine Nx.is_at ?_)); (fail_if_success (with_reducible refine Nx.is_wp ?_)); (fail_if_success (with_reducible refine Nx.is_mix ?_)); first | refine Nx.ex ?_)
  refine Nx.unstop ?_
  refine Nx.freezeAt 0 rfl fun I1 m1 hI1 hm1 h1 => ?_
  refine Nx.freezeAt 0 rfl fun I2 m2 hI2 hm2 h2 => ?_
  have hq : Eqs I2 Am cm qs := ⟨(Vec.sliceN hm1 h1 fun x _ => eqC_len x).mono hI2, fun q hq => by
    obtain ⟨k, hk, he⟩ := List.mem_iff_getElem.1 hq
    obtain ⟨m3, h3le, h3⟩ := Stars.get k (r := rowR q.1) h2 (by rw [nthL_eq, List.getElem?_map, List.getElem?_eq_getElem hk, he]; rfl)
    exact Vec.sliceOf (h3le.trans hm2) h3⟩
  have hP := Pair_spec (prod l) x Am cm qs I2 hq (allC_told hs hV hqs)
  rw [show pairR (prod l) qs x = pairR (prod l) (qsOf l rs) x from cont_pair hqs _ _] at hP
  repeat' first
    | ((with_reducible refine Nx.is_wp ?_); first | refine Nx.wo ?_ | refine Nx.p_dec rfl rfl (fun hc => ?_) (fun hc => ?_) | refine Nx.p_bool rfl rfl (fun hc => ?_) (fun hc => ?_))
    | ((first | refine Nx.at_op rfl rfl ?_ | refine Nx.m_loud rfl rfl rfl ?_ | refine Nx.at_do rfl rfl rfl rfl ?_ | refine Nx.m_loud_do rfl rfl rfl rfl rfl ?_); first | refine Nx.opr rfl rfl ?_ | refine Nx.callv rfl rfl rfl (by kernel_rfl) rfl (Count_spec A c l I2 (hl.mono (hI1.trans hI2)) hs) ?_ | (refine Nx.call (Rpre := []) rfl rfl rfl (by kernel_rfl) rfl hP (Ent.refl _) ?_; rintro _ _ ⟨A1, c1, A2, c2, rfl, rfl⟩) | refine Nx.so ?_ | refine Nx.sb (fun bx => ?_) | refine Nx.sa (fun A2 c2 => ?_))
    | ((with_reducible refine Nx.is_at ?_); first | refine Nx.a ?_ | ((fail_if_success refine Nx.at_do rfl rfl rfl rfl ?_); first | refine Nx.at_dec_t rfl rfl rfl rfl (by first | assumption | omega) ?_ | refine Nx.at_dec_f rfl rfl rfl rfl (by first | assumption | omega) ?_ | refine Nx.at_split rfl rfl rfl rfl (fun hc => ?_) (fun hc => ?_) | refine Nx.at_splitb rfl rfl rfl rfl (fun hc => ?_) (fun hc => ?_)))
    | ((with_reducible refine Nx.is_mix ?_); first | refine Nx.m ?_ | ((fail_if_success refine Nx.m_quiet_do rfl rfl rfl rfl rfl rfl rfl ?_ ?_); (fail_if_success refine Nx.m_loud_do rfl rfl rfl rfl rfl ?_); first | refine Nx.m_dec_t rfl rfl rfl rfl (by first | assumption | omega) ?_ | refine Nx.m_dec_f rfl rfl rfl rfl (by first | assumption | omega) ?_ | refine Nx.m_split rfl rfl rfl rfl (fun hc => ?_) (fun hc => ?_) | refine Nx.m_splitb rfl rfl rfl rfl (fun hc => ?_) (fun hc => ?_)))
    | ((fail_if_success (with_reducible refine Nx.is_at ?_)); (fail_if_success (with_reducible refine Nx.is_wp ?_)); (fail_if_success (with_reducible refine Nx.is_mix ?_)); first | refine Nx.ex ?_)
  exact Nx.imm_le (hI1.trans hI2) (Nx.ret_fn rfl [_, _] ⟨A1, c1, A2, c2, rfl, rfl⟩ (by (exact Ent.auto)))
end Go.Proofs.YtcmdemfhbekabaaGreat
/- Contracts of functions of the given program, and lemmas about plain lists and numbers: what the laws of this seat lean on. -/
namespace Go.Proofs.YtcmdemfhbekabaaGreat
open Go.Eng Go.Sol
attribute [local irreducible] opK wpList Code.wp Exit.then Exit.inBlock fnPost bodyPost Nx Calls Oper.wp Rd Rds Wr Ent Stars Blk Again Vec FnSpec wpMix QRun Stop Upto wpAt
theorem Nx.giveTold {C : Cx} {e : Env} {I : PH} {R : List Res} {K : Act → World → Prop} {B At As : Option Addr} {c' ct ca : Nat} {s t : List Int} {rs : List Rel} {RR : List Res}
    (hR : Ent R (Stars (toldR B c' s At ct t As ca rs) :: RR)) (h : ∀ I', PH.le I I' → Ints I' B c' s → Ints I' At ct t → Rels I' As ca rs → Nx C e I' RR K) : Nx C e I R K := by
  refine Nx.ent hR ?_
  refine Nx.freezeAt 0 rfl fun I1 m1 hI1 hm1 h1 => ?_
  obtain ⟨a0, ha0, b0⟩ := Stars.get 0 h1 rfl
  obtain ⟨a1, ha1, b1⟩ := Stars.get 1 h1 rfl
  obtain ⟨a2, ha2, b2⟩ := Stars.get 2 h1 rfl
  obtain ⟨a3, ha3, b3⟩ := Stars.get 3 h1 rfl
  exact h I1 hI1 (Vec.sliceOf (ha0.trans hm1) b0) (Vec.sliceOf (ha1.trans hm1) b1) (rels_of hm1 b2 ha2 b3 ha3)
end Go.Proofs.YtcmdemfhbekabaaGreat
/- Contracts of functions of the given program, and lemmas about plain lists and numbers: what the laws of this seat lean on. -/
namespace Go.Proofs.YtcmdemfhbekabaaGreat
open Go.Eng Go.Sol
attribute [local irreducible] opK wpList Code.wp Exit.then Exit.inBlock fnPost bodyPost Nx Calls Oper.wp Rd Rds Wr Ent Stars Blk Again Vec FnSpec wpMix QRun Stop Upto wpAt
/-! The law of margins -/
theorem run_boolne2 {P : Program} {t : TypeId} {x y : Operand} (ht : P.underlying t = some .bool) (b c r : Bool) (h : (!(b == c)) = r) (w : World) : (do eqGuard .neq t x y (.bool b) (.bool c); binOp .neq t (.bool b) (.bool c)).run P w = .ok (.bool r) w := by subst h; exact run_boolne ht b c w
theorem exOf_one (rc : List Rch) (k m : Int) : exOf rc [k] m = if narrowB (rc.getD k.toNat default) m = true then [(k, rc.getD k.toNat default, -1)] else [] := by
  have := exOf_snoc rc [] k m
  simpa [exOf] using this
theorem findD_one {l t : List Int} {rs : List Rel} {k : Nat} {m : Int} (hs : Sizes l) (hT : tabOk l t 2) (h : RelsOk l t rs) (hn : rs.length ≤ 24) (hm : 1 ≤ m ∧ m ≤ 100) (hk : (k : Int) < prod l) :
    (findD l rs [(k : Int)] m).2 = (rchD l rs).2 ∧ ((rchD l rs).2 = 0 → (findD l rs [(k : Int)] m).1.length = if narrowB ((rchD l rs).1.getD k default) m = true then 1 else 0) := by
  rw [findD_made hs hT h hn hm (List.pairwise_singleton _ _) fun x hx => by rw [List.mem_singleton.1 hx]; omega]
  by_cases h0 : (rchD l rs).2 = 0
  · rw [if_neg (by omega)]
    refine ⟨h0.symm, fun _ => ?_⟩
    rw [exOf_one, Int.toNat_natCast]
    split <;> rfl
  · rw [if_pos h0]
    exact ⟨rfl, fun h => absurd h h0⟩
end Go.Proofs.YtcmdemfhbekabaaGreat
/- Contracts of functions of the given program, and lemmas about plain lists and numbers: what the laws of this seat lean on. -/
namespace Go.Proofs.YtcmdemfhbekabaaGreat
open Go.Eng Go.Sol
attribute [local irreducible] opK wpList Code.wp Exit.then Exit.inBlock fnPost bodyPost Nx Calls Oper.wp Rd Rds Wr Ent Stars Blk Again Vec FnSpec wpMix QRun Stop Upto wpAt
/-! The law of the witness -/
theorem wit_made {l t : List Int} {rs : List Rel} {qs : List EqR} {k : Nat} {m : Int} (hs : Sizes l) (hT : tabOk l t 2) (h : RelsOk l t rs) (hn : rs.length ≤ 24) (hm : 1 ≤ m ∧ m ≤ 100) (hqs : qs.map cont = rs.flatMap (told l)) (hk : k ∈ touch (prod l).toNat (eqns qs)) (he : (expD l rs [(k : Int)] m).2 = 0) :
    ∃ xa xb : List Int, witD l rs (k : Int) = (xa, xb, 0) ∧ xa ∈ solsOf (prod l).toNat (eqns qs) ∧ xb ∈ solsOf (prod l).toNat (eqns qs) ∧ (expD l rs [(k : Int)] m).1.length = if xb.getD k 0 - xa.getD k 0 < m then 1 else 0 := by
  have hzs := size_ok hs
  have hkN : k < (prod l).toNat := by
    have := (List.mem_filter.1 hk).1
    exact List.mem_range.1 this
  obtain ⟨h0, hrq, _⟩ := rch_made hs hT h hn
  obtain ⟨hf1, hf2⟩ := findD_one hs hT h hn hm (k := k) (by omega)
  have he' : (rchD l rs).2 = 0 := by rw [← hf1]; exact he
  have hln : (expD l rs [(k : Int)] m).1.length = if narrowB ((rchD l rs).1.getD k default) m = true then 1 else 0 := by
    unfold expD
    rw [List.length_map, hf2 he']
  rw [show reachR (prod l) (qsOf l rs) = reachR (prod l) qs from (cont_reach hqs _).symm] at hrq
  rw [hrq] at he' hln
  obtain ⟨_, hc1, hg, hne, hchk⟩ := reachR_cases he'
  have hNe : ((prod l).toNat : Int) = prod l := hzs.2.2
  rw [hc1, range_at hkN] at hln
  have hW : witD l rs (k : Int) = pairR (prod l) qs (k : Int) := by
    unfold witD
    rw [if_neg (by rw [chkD_made hs hT h hn (by omega) (List.pairwise_singleton _ _) fun x hx => by rw [List.mem_singleton.1 hx]; omega]; decide)]
    exact (cont_pair hqs _ _).symm
  rw [← hNe] at hW hchk
  rw [pairR_in hchk hkN hne hk] at hW
  refine ⟨_, _, hW, (ext_all hg hne hk false).1, (ext_all hg hne hk true).1, ?_⟩
  rw [hln]
  unfold reachAt narrowB
  rw [if_pos hk]
  simp only [Bool.not_false, Bool.true_and, decide_eq_true_eq]
set_option maxRecDepth 10000 in
set_option maxHeartbeats 16000000 in
theorem DifferencingWitness_spec (A : Option Addr) (c : Nat) (l : List Int) (mg : Int) (I : PH) (hl : Bytes I A c l) (hx : ∀ x ∈ l, 0 ≤ x ∧ x < 256) (hmg : 0 ≤ mg ∧ mg < 256) :
    FnSpec Tryz.prog 4 [.slice A l.length c, .int .u8 mg] I [] (fun v R' => v = .bool true ∧ R' = []) := by
  have hL := bytes_take hl hx
  obtain ⟨m, hmd, hm⟩ : ∃ m, m = 1 + mg % 3 ∧ 1 ≤ m ∧ m ≤ 100 := ⟨_, rfl, by omega, by omega⟩
  refine FnSpec.enterP Tryz.func4 rfl Tryz.ntmps4 rfl fun w F => ?_
  repeat' first
    | ((with_reducible refine Nx.is_wp ?_); first | refine Nx.p_stopr 3 rfl ?_ | refine Nx.wo ?_ | refine Nx.p_dec rfl rfl (fun hc => ?_) (fun hc => ?_) | refine Nx.p_bool rfl rfl (fun hc => ?_) (fun hc => ?_))
    | ((first | refine Nx.at_op rfl rfl ?_ | refine Nx.m_loud rfl rfl rfl ?_ | refine Nx.at_do rfl rfl rfl rfl ?_ | refine Nx.m_loud_do rfl rfl rfl rfl rfl ?_); first | refine Nx.opr rfl rfl ?_ | (refine Nx.call (Rpre := []) rfl rfl rfl (by kernel_rfl) rfl (New_codes A c l I hl) (Ent.refl _) ?_; rintro _ _ ⟨b, rfl, rfl⟩) | (refine Nx.call rfl rfl rfl (by kernel_rfl) rfl (Told_made b A c _ 0 2 3 I hL (Nat.zero_le _) (by omega) (by omega)) (by (exact Ent.auto)) ?_; rintro _ _ ⟨B, c', s, At, ct, t, As, ca, rs, k1, rfl, hs, hT, hrn, hro, hk1, rfl⟩) | refine Nx.so ?_ | refine Nx.sb (fun bx => ?_) | refine Nx.sa (fun A2 c2 => ?_))
    | ((with_reducible refine Nx.is_at ?_); first | refine Nx.a ?_ | ((fail_if_success refine Nx.at_do rfl rfl rfl rfl ?_); first | refine Nx.at_dec_t rfl rfl rfl rfl (by first | assumption | omega) ?_ | refine Nx.at_dec_f rfl rfl rfl rfl (by first | assumption | omega) ?_ | refine Nx.at_split rfl rfl rfl rfl (fun hc => ?_) (fun hc => ?_) | refine Nx.at_splitb rfl rfl rfl rfl (fun hc => ?_) (fun hc => ?_)))
    | ((with_reducible refine Nx.is_mix ?_); first | refine Nx.m ?_ | ((fail_if_success refine Nx.m_quiet_do rfl rfl rfl rfl rfl rfl rfl ?_ ?_); (fail_if_success refine Nx.m_loud_do rfl rfl rfl rfl rfl ?_); first | refine Nx.m_dec_t rfl rfl rfl rfl (by first | assumption | omega) ?_ | refine Nx.m_dec_f rfl rfl rfl rfl (by first | assumption | omega) ?_ | refine Nx.m_split rfl rfl rfl rfl (fun hc => ?_) (fun hc => ?_) | refine Nx.m_splitb rfl rfl rfl rfl (fun hc => ?_) (fun hc => ?_)))
    | ((fail_if_success (with_reducible refine Nx.is_at ?_)); (fail_if_success (with_reducible refine Nx.is_wp ?_)); (fail_if_success (with_reducible refine Nx.is_mix ?_)); first | refine Nx.ex ?_)
  refine Nx.unstop ?_
  revert bx; intro b6
  refine Nx.giveTold (B := B) (c' := c') (s := s) (At := At) (ct := ct) (t := t) (As := As) (ca := ca) (rs := rs) (RR := [Blk b6 27 [.slice B s.length c'], F]) (by refine Ent.trans ?_ Ent.stars; unfold toldR; (exact Ent.auto)) fun I1 hI1 hz ht hrs => ?_
  have hzs := size_ok hs
  have hwv := views_of hro
  have hV := relsV_of hs hT (by decide) (by decide) hro (by omega)
  repeat' first
    | ((with_reducible refine Nx.is_wp ?_); first | refine Nx.p_stopr 5 rfl ?_ | refine Nx.wo ?_ | refine Nx.p_dec rfl rfl (fun hc => ?_) (fun hc => ?_) | refine Nx.p_bool rfl rfl (fun hc => ?_) (fun hc => ?_))
    | ((first | refine Nx.at_op rfl rfl ?_ | refine Nx.m_loud rfl rfl rfl ?_ | refine Nx.at_do rfl rfl rfl rfl ?_ | refine Nx.m_loud_do rfl rfl rfl rfl rfl ?_); first | refine Nx.opr rfl rfl ?_ | refine Nx.rem rfl rfl (by omega) (by omega) rfl ?_ | (refine Nx.call (Rpre := []) rfl rfl rfl (by kernel_rfl) rfl (REAll_spec B As c' ca s rs I1 hz hs hrs hV) (Ent.refl _) ?_; rintro _ _ ⟨Ao, co, qs, rfl, hqs, hql, rfl⟩) | refine Nx.so ?_ | refine Nx.sb (fun bx => ?_) | refine Nx.sa (fun A2 c2 => ?_))
    | ((with_reducible refine Nx.is_at ?_); first | refine Nx.a ?_ | ((fail_if_success refine Nx.at_do rfl rfl rfl rfl ?_); first | refine Nx.at_dec_t rfl rfl rfl rfl (by first | assumption | omega) ?_ | refine Nx.at_dec_f rfl rfl rfl rfl (by first | assumption | omega) ?_ | refine Nx.at_split rfl rfl rfl rfl (fun hc => ?_) (fun hc => ?_) | refine Nx.at_splitb rfl rfl rfl rfl (fun hc => ?_) (fun hc => ?_)))
    | ((with_reducible refine Nx.is_mix ?_); first | refine Nx.m ?_ | ((fail_if_success refine Nx.m_quiet_do rfl rfl rfl rfl rfl rfl rfl ?_ ?_); (fail_if_success refine Nx.m_loud_do rfl rfl rfl rfl rfl ?_); first | refine Nx.m_dec_t rfl rfl rfl rfl (by first | assumption | omega) ?_ | refine Nx.m_dec_f rfl rfl rfl rfl (by first | assumption | omega) ?_ | refine Nx.m_split rfl rfl rfl rfl (fun hc => ?_) (fun hc => ?_) | refine Nx.m_splitb rfl rfl rfl rfl (fun hc => ?_) (fun hc => ?_)))
    | ((fail_if_success (with_reducible refine Nx.is_at ?_)); (fail_if_success (with_reducible refine Nx.is_wp ?_)); (fail_if_success (with_reducible refine Nx.is_mix ?_)); first | refine Nx.ex ?_)
  refine Nx.unstop ?_
  rw [← hmd]
  refine Nx.freezeAt 0 rfl fun I2 m2 hI2 hm2 h2 => ?_
  refine Nx.freezeAt 0 rfl fun I3 m3 hI3 hm3 h3 => ?_
  have hq : Eqs I3 Ao co qs := ⟨(Vec.sliceN hm2 h2 fun x _ => eqC_len x).mono hI3, fun q hq => by
    obtain ⟨k, hk, he⟩ := List.mem_iff_getElem.1 hq
    obtain ⟨m3, h3le, h3⟩ := Stars.get k (r := rowR q.1) h3 (by rw [nthL_eq, List.getElem?_map, List.getElem?_eq_getElem hk, he]; rfl)
    exact Vec.sliceOf (h3le.trans hm3) h3⟩
  replace hz := (hz.mono hI2).mono hI3
  replace hrs := (hrs.mono hI2).mono hI3
  have hg : ∀ q ∈ qs, GoodE (prod s).toNat q := cont_good hqs (told_good hs hV)
  have hal := allC_told hs hV hqs
  have hCt := RCount_spec B c' s I3 hz hs
  rw [← hzs.2.2] at hCt
  have hmade := fun (k : Nat) (hk : k ∈ touch (prod s).toNat (eqns qs)) => wit_made (m := m) hs hT hro (by omega) hm hqs hk
  have herr := fun (k : Nat) (hk : (k : Int) < prod s) => expD_err (prot := [(k : Int)]) (m := m) hs hT hro (by omega) hm (List.pairwise_singleton _ _) fun x hx => by rw [List.mem_singleton.1 hx]; omega
  repeat' first
    | ((with_reducible refine Nx.is_wp ?_); first | refine Nx.wo ?_ | refine Nx.p_dec rfl rfl (fun hc => ?_) (fun hc => ?_) | refine Nx.p_bool rfl rfl (fun hc => ?_) (fun hc => ?_))
    | ((first | refine Nx.at_op rfl rfl ?_ | refine Nx.m_loud rfl rfl rfl ?_ | refine Nx.at_do rfl rfl rfl rfl ?_ | refine Nx.m_loud_do rfl rfl rfl rfl rfl ?_); first | refine Nx.opr rfl rfl ?_ | refine Nx.callv rfl rfl rfl (by kernel_rfl) rfl hCt ?_ | (refine Nx.call (Rpre := []) rfl rfl rfl (by kernel_rfl) rfl (RTouched_spec Ao co qs (prod s).toNat I3 hq hg hal) (Ent.refl _) ?_; rintro _ _ ⟨Aq, cq, rfl, rfl⟩) | refine Nx.so ?_ | refine Nx.sb (fun bx => ?_) | refine Nx.sa (fun A2 c2 => ?_))
    | ((with_reducible refine Nx.is_at ?_); first | refine Nx.a ?_ | ((fail_if_success refine Nx.at_do rfl rfl rfl rfl ?_); first | refine Nx.at_dec_t rfl rfl rfl rfl (by first | assumption | omega) ?_ | refine Nx.at_dec_f rfl rfl rfl rfl (by first | assumption | omega) ?_ | refine Nx.at_split rfl rfl rfl rfl (fun hc => ?_) (fun hc => ?_) | refine Nx.at_splitb rfl rfl rfl rfl (fun hc => ?_) (fun hc => ?_)))
    | ((with_reducible refine Nx.is_mix ?_); first | refine Nx.m ?_ | ((fail_if_success refine Nx.m_quiet_do rfl rfl rfl rfl rfl rfl rfl ?_ ?_); (fail_if_success refine Nx.m_loud_do rfl rfl rfl rfl rfl ?_); first | refine Nx.m_dec_t rfl rfl rfl rfl (by first | assumption | omega) ?_ | refine Nx.m_dec_f rfl rfl rfl rfl (by first | assumption | omega) ?_ | refine Nx.m_split rfl rfl rfl rfl (fun hc => ?_) (fun hc => ?_) | refine Nx.m_splitb rfl rfl rfl rfl (fun hc => ?_) (fun hc => ?_)))
    | ((fail_if_success (with_reducible refine Nx.is_at ?_)); (fail_if_success (with_reducible refine Nx.is_wp ?_)); (fail_if_success (with_reducible refine Nx.is_mix ?_)); first | refine Nx.ex ?_)
  refine Nx.freezeAt 0 rfl fun I4 m4 hI4 hm4 h4 => ?_
  have htu : Ints I4 Aq cq ((touch (prod s).toNat (eqns qs)).map Int.ofNat) := Vec.sliceOf hm4 h4
  replace hz := hz.mono hI4
  replace hrs := hrs.mono hI4
  replace hq := hq.mono hI4
  have hle4 := ((hI1.trans hI2).trans hI3).trans hI4
  obtain ⟨N, hN⟩ : ∃ N, N = (prod s).toNat := ⟨_, rfl⟩
  rw [← hN] at htu hg hmade hzs
  have htk : ∀ k ∈ touch N (eqns qs), k < N := fun k hk => List.mem_range.1 (List.mem_filter.1 hk).1
  have htl : (touch N (eqns qs)).length ≤ N := by
    have := List.length_filter_le (fun c => (eqns qs).any fun q => decide (c ∈ q.1)) (List.range N)
    rw [List.length_range] at this
    exact this
  have hml : ((touch N (eqns qs)).map Int.ofNat).length = (touch N (eqns qs)).length := List.length_map ..
  refine Nx.p_loop (σ := Nat) (fun j => [(6, .pointer (some ⟨b6, 0, none⟩)), (8, .slice As rs.length ca), (9, .int .i64 m), (10, .slice Ao qs.length co), (40, .slice Aq (touch N (eqns qs)).length cq), (41, .int .i64 (touch N (eqns qs)).length), (42, .int .i64 (j : Int))])
    (fun _ => [Blk b6 27 [.slice B s.length c'], F]) (fun j => j ≤ (touch N (eqns qs)).length) (fun j => (touch N (eqns qs)).length - j) 0 rfl (Nat.zero_le _) ⟨rfl, rfl, rfl, rfl, by rw [hN]; rfl, by rw [hN]; rfl, rfl, trivial⟩ (by (exact Ent.auto)) ?_
  intro j hj
  have hj : j ≤ (touch N (eqns qs)).length := hj
  by_cases hjt : j < (touch N (eqns qs)).length
  case neg =>
    repeat' first
      | ((with_reducible refine Nx.is_wp ?_); first | refine Nx.wo ?_ | refine Nx.p_dec rfl rfl (fun hc => ?_) (fun hc => ?_) | refine Nx.p_bool rfl rfl (fun hc => ?_) (fun hc => ?_))
      | ((first | refine Nx.at_op rfl rfl ?_ | refine Nx.m_loud rfl rfl rfl ?_ | refine Nx.at_do rfl rfl rfl rfl ?_ | refine Nx.m_loud_do rfl rfl rfl rfl rfl ?_); first | refine Nx.opr rfl rfl ?_ | refine Nx.callv rfl rfl rfl (by kernel_rfl) rfl (awakeD_spec _) ?_ | refine Nx.so ?_ | refine Nx.sb (fun bx => ?_) | refine Nx.sa (fun A2 c2 => ?_))
      | ((with_reducible refine Nx.is_at ?_); first | refine Nx.a ?_ | ((fail_if_success refine Nx.at_do rfl rfl rfl rfl ?_); first | refine Nx.at_dec_t rfl rfl rfl rfl (by first | assumption | omega) ?_ | refine Nx.at_dec_f rfl rfl rfl rfl (by first | assumption | omega) ?_ | refine Nx.at_split rfl rfl rfl rfl (fun hc => ?_) (fun hc => ?_) | refine Nx.at_splitb rfl rfl rfl rfl (fun hc => ?_) (fun hc => ?_)))
      | ((with_reducible refine Nx.is_mix ?_); first | refine Nx.m ?_ | ((fail_if_success refine Nx.m_quiet_do rfl rfl rfl rfl rfl rfl rfl ?_ ?_); (fail_if_success refine Nx.m_loud_do rfl rfl rfl rfl rfl ?_); first | refine Nx.m_dec_t rfl rfl rfl rfl (by first | assumption | omega) ?_ | refine Nx.m_dec_f rfl rfl rfl rfl (by first | assumption | omega) ?_ | refine Nx.m_split rfl rfl rfl rfl (fun hc => ?_) (fun hc => ?_) | refine Nx.m_splitb rfl rfl rfl rfl (fun hc => ?_) (fun hc => ?_)))
      | ((fail_if_success (with_reducible refine Nx.is_at ?_)); (fail_if_success (with_reducible refine Nx.is_wp ?_)); (fail_if_success (with_reducible refine Nx.is_mix ?_)); first | refine Nx.ex ?_)
    exact Nx.imm_le hle4 (Nx.ret_fn rfl [] ⟨rfl, rfl⟩ (by (exact Ent.auto)))
  obtain ⟨k, hke⟩ : ∃ k, k = (touch N (eqns qs)).getD j default := ⟨_, rfl⟩
  have hkt : k ∈ touch N (eqns qs) := by
    rw [hke, List.getD_eq_getElem?_getD, List.getElem?_eq_getElem hjt]; exact List.getElem_mem _
  have hkN := htk k hkt
  have hjm : j < ((touch N (eqns qs)).map Int.ofNat).length := by omega
  have hrd : ∀ (W : World) (R : List Res), Rd W I4 R ((ad Aq).add (j * 1)) (.int .i64 (k : Int)) := fun W R => by
    have := htu.rd (W := W) (R := R) hjm
    rwa [List.getD_eq_getElem?_getD, List.getElem?_map, List.getElem?_eq_getElem hjt, show Option.map Int.ofNat (some (touch N (eqns qs))[j]) = some (k : Int) by rw [hke, List.getD_eq_getElem?_getD, List.getElem?_eq_getElem hjt]; rfl] at this
  have hX := fun (bp : Nat) (m' I' : PH) (hle : PH.le I4 I') (hm' : PH.le m' I') (hv : Stars [Blk bp 3 [.int .i64 (k : Int)]] m') => (by
    obtain ⟨q0, z0, y0⟩ := Stars.get 0 hv rfl
    exact Exposed_spec B As (some ⟨bp, 0, none⟩) c' ca 1 s rs [(k : Int)] m I' (hz.mono hle) hs (hrs.mono hle) hwv (Blk.sliceOf (t := 3) (l := [(k : Int)]) (z0.trans hm') y0 (by unfold maxLen; simp)) (by simp) :
    FnSpec Tryz.prog 20 [.agg #[.slice B s.length c'], .slice As rs.length ca, .slice (some ⟨bp, 0, none⟩) 1 1, .int .i64 m] I' [] (fun u R' => ∃ (A' : Option Addr) (c' : Nat), u = .tuple #[.slice A' (expD s rs [(k : Int)] m).1.length c', .int .i64 (expD s rs [(k : Int)] m).2] ∧ R' = [expR A' c' (expD s rs [(k : Int)] m).1]))
  have hmk := hmade k hkt
  have her := herr k (by omega)
  have hWi := Witness_spec B As c' ca s rs (k : Int) I4 hz hs hrs hwv
  generalize expD s rs [(k : Int)] m = fx at hX hmk her
  obtain ⟨xs, ex⟩ := fx
  dsimp only at hX hmk her
  rcases her with rfl | rfl
  case inr =>
    repeat' first
      | ((with_reducible refine Nx.is_wp ?_); first | refine Nx.wo ?_ | refine Nx.p_dec rfl rfl (fun hc => ?_) (fun hc => ?_) | refine Nx.p_bool rfl rfl (fun hc => ?_) (fun hc => ?_))
      | ((first | refine Nx.at_op rfl rfl ?_ | refine Nx.m_loud rfl rfl rfl ?_ | refine Nx.at_do rfl rfl rfl rfl ?_ | refine Nx.m_loud_do rfl rfl rfl rfl rfl ?_); first | refine Nx.opr rfl rfl ?_ | refine Nx.indexAddr_nat (A := Aq) rfl rfl rfl rfl rfl hjt (htu.isSome (by omega)) ?_ | refine Nx.load rfl rfl rfl (hrd _ _) ?_ | (refine Nx.call rfl rfl rfl (by kernel_rfl) rfl (FnSpec.keep [Blk _ 3 [.int .i64 (k : Int)]] fun m' I' hle hm' hv => hX _ m' I' hle hm' hv) (by (exact Ent.auto)) ?_; rintro _ _ ⟨_, ⟨A5, c5, rfl, rfl⟩, rfl⟩) | refine Nx.callv rfl rfl rfl (by kernel_rfl) rfl (awakeD_spec _) ?_ | refine Nx.so ?_ | refine Nx.sb (fun bx => ?_) | refine Nx.sa (fun A2 c2 => ?_))
      | ((with_reducible refine Nx.is_at ?_); first | refine Nx.a ?_ | ((fail_if_success refine Nx.at_do rfl rfl rfl rfl ?_); first | refine Nx.at_dec_t rfl rfl rfl rfl (by first | assumption | omega) ?_ | refine Nx.at_dec_f rfl rfl rfl rfl (by first | assumption | omega) ?_ | refine Nx.at_split rfl rfl rfl rfl (fun hc => ?_) (fun hc => ?_) | refine Nx.at_splitb rfl rfl rfl rfl (fun hc => ?_) (fun hc => ?_)))
      | ((with_reducible refine Nx.is_mix ?_); first | refine Nx.m ?_ | ((fail_if_success refine Nx.m_quiet_do rfl rfl rfl rfl rfl rfl rfl ?_ ?_); (fail_if_success refine Nx.m_loud_do rfl rfl rfl rfl rfl ?_); first | refine Nx.m_dec_t rfl rfl rfl rfl (by first | assumption | omega) ?_ | refine Nx.m_dec_f rfl rfl rfl rfl (by first | assumption | omega) ?_ | refine Nx.m_split rfl rfl rfl rfl (fun hc => ?_) (fun hc => ?_) | refine Nx.m_splitb rfl rfl rfl rfl (fun hc => ?_) (fun hc => ?_)))
      | ((fail_if_success (with_reducible refine Nx.is_at ?_)); (fail_if_success (with_reducible refine Nx.is_wp ?_)); (fail_if_success (with_reducible refine Nx.is_mix ?_)); first | refine Nx.ex ?_)
    exact Nx.imm_le hle4 (Nx.ret_fn rfl [] ⟨rfl, rfl⟩ (by (exact Ent.auto)))
  obtain ⟨xa, xb, hW, ha1, hb1, hxl⟩ := hmk rfl
  rw [hW] at hWi
  dsimp only at hWi
  have hla := ((mem_sols hg).1 ha1).len
  have hlb := ((mem_sols hg).1 hb1).len
  repeat' first
    | ((with_reducible refine Nx.is_wp ?_); first | refine Nx.p_stopr 12 rfl ?_ | refine Nx.wo ?_ | refine Nx.p_dec rfl rfl (fun hc => ?_) (fun hc => ?_) | refine Nx.p_bool rfl rfl (fun hc => ?_) (fun hc => ?_))
    | ((first | refine Nx.at_op rfl rfl ?_ | refine Nx.m_loud rfl rfl rfl ?_ | refine Nx.at_do rfl rfl rfl rfl ?_ | refine Nx.m_loud_do rfl rfl rfl rfl rfl ?_); first | refine Nx.opr rfl rfl ?_ | refine Nx.indexAddr_nat (A := Aq) rfl rfl rfl rfl rfl hjt (htu.isSome (by omega)) ?_ | refine Nx.load rfl rfl rfl (hrd _ _) ?_ | (refine Nx.call rfl rfl rfl (by kernel_rfl) rfl (FnSpec.keep [Blk _ 3 [.int .i64 (k : Int)]] fun m' I' hle hm' hv => hX _ m' I' hle hm' hv) (by (exact Ent.auto)) ?_; rintro _ _ ⟨_, ⟨A5, c5, rfl, rfl⟩, rfl⟩) | (refine Nx.call (Rpre := []) rfl rfl rfl (by kernel_rfl) rfl hWi (Ent.refl _) ?_; rintro _ _ ⟨Ax, cx, Ay, cy, rfl, rfl⟩) | refine Nx.so ?_ | refine Nx.sb (fun bx => ?_) | refine Nx.sa (fun A2 c2 => ?_))
    | ((with_reducible refine Nx.is_at ?_); first | refine Nx.a ?_ | ((fail_if_success refine Nx.at_do rfl rfl rfl rfl ?_); first | refine Nx.at_dec_t rfl rfl rfl rfl (by first | assumption | omega) ?_ | refine Nx.at_dec_f rfl rfl rfl rfl (by first | assumption | omega) ?_ | refine Nx.at_split rfl rfl rfl rfl (fun hc => ?_) (fun hc => ?_) | refine Nx.at_splitb rfl rfl rfl rfl (fun hc => ?_) (fun hc => ?_)))
    | ((with_reducible refine Nx.is_mix ?_); first | refine Nx.m ?_ | ((fail_if_success refine Nx.m_quiet_do rfl rfl rfl rfl rfl rfl rfl ?_ ?_); (fail_if_success refine Nx.m_loud_do rfl rfl rfl rfl rfl ?_); first | refine Nx.m_dec_t rfl rfl rfl rfl (by first | assumption | omega) ?_ | refine Nx.m_dec_f rfl rfl rfl rfl (by first | assumption | omega) ?_ | refine Nx.m_split rfl rfl rfl rfl (fun hc => ?_) (fun hc => ?_) | refine Nx.m_splitb rfl rfl rfl rfl (fun hc => ?_) (fun hc => ?_)))
    | ((fail_if_success (with_reducible refine Nx.is_at ?_)); (fail_if_success (with_reducible refine Nx.is_wp ?_)); (fail_if_success (with_reducible refine Nx.is_mix ?_)); first | refine Nx.ex ?_)
  refine Nx.unstop ?_
  refine Nx.freezeAt 0 rfl fun I5 m5 hI5 hm5 h5 => ?_
  have hxi : Ints I5 Ax cx xa := Vec.sliceOf hm5 h5
  refine Nx.freezeAt 0 rfl fun I6 m6 hI6 hm6 h6 => ?_
  have hyi : Ints I6 Ay cy xb := Vec.sliceOf hm6 h6
  replace hxi := hxi.mono hI6
  have hI46 := hI5.trans hI6
  have hAa := RAgrees_spec Ao Ax co cx qs xa N I6 (hq.mono hI46) hg hxi hla (sols_okT hg ha1) hal
  rw [decide_eq_true (sols_sum hg ha1)] at hAa
  have hAb := RAgrees_spec Ao Ay co cy qs xb N I6 (hq.mono hI46) hg hyi hlb (sols_okT hg hb1) hal
  rw [decide_eq_true (sols_sum hg hb1)] at hAb
  have hra' := fun (W : World) (R : List Res) => hxi.rd (W := W) (R := R) (k := k) (by omega)
  have hrb' := fun (W : World) (R : List Res) => hyi.rd (W := W) (R := R) (k := k) (by omega)
  have hba := sols_okT hg ha1 k (by omega)
  have hbb := sols_okT hg hb1 k (by omega)
  rw [show xa.getD k default = xa.getD k 0 from rfl] at hra' hba
  rw [show xb.getD k default = xb.getD k 0 from rfl] at hrb' hbb
  generalize xa.getD k 0 = va at *
  generalize xb.getD k 0 = vb at *
  by_cases hvv : vb - va < m
  · rw [if_pos hvv] at hxl
    repeat' first
      | ((with_reducible refine Nx.is_wp ?_); first | refine Nx.wo ?_ | refine Nx.p_draw (id := 12) rfl [0, 1, 2, 3, 4, 5, 6, 7, 8, 9, 10, 11, 12, 13, 14, 15, 16, 17, 18, 19, 20, 21, 22, 23, 24, 25, 26, 27, 28, 29, 30, 31, 32, 33, 34, 35, 36, 37, 38, 39, 40, 41, 42, 43, 44, 45, 46] [21, 27] _ rfl rfl (by kernel_rfl) (by kernel_rfl) rfl (by repeat first | exact PanicOk.fn | refine PanicOk.then_ ?_ | refine PanicOk.inB ?_) (Ent.refl _) ?_ | refine Nx.p_dec rfl rfl (fun hc => ?_) (fun hc => ?_) | refine Nx.p_bool rfl rfl (fun hc => ?_) (fun hc => ?_))
      | ((first | refine Nx.at_op rfl rfl ?_ | refine Nx.m_loud rfl rfl rfl ?_ | refine Nx.at_do rfl rfl rfl rfl ?_ | refine Nx.m_loud_do rfl rfl rfl rfl rfl ?_); first | refine Nx.opr rfl rfl ?_ | refine Nx.callv rfl rfl rfl (by kernel_rfl) rfl hAa ?_ | refine Nx.callv rfl rfl rfl (by kernel_rfl) rfl hAb ?_ | refine Nx.so ?_ | refine Nx.sb (fun bx => ?_) | refine Nx.sa (fun A2 c2 => ?_))
      | ((with_reducible refine Nx.is_at ?_); first | refine Nx.a ?_ | ((fail_if_success refine Nx.at_do rfl rfl rfl rfl ?_); first | refine Nx.at_dec_t rfl rfl rfl rfl (by first | assumption | omega) ?_ | refine Nx.at_dec_f rfl rfl rfl rfl (by first | assumption | omega) ?_ | refine Nx.at_split rfl rfl rfl rfl (fun hc => ?_) (fun hc => ?_) | refine Nx.at_splitb rfl rfl rfl rfl (fun hc => ?_) (fun hc => ?_)))
      | ((with_reducible refine Nx.is_mix ?_); first | refine Nx.m_quiet rfl rfl rfl rfl rfl (by first | exact QRun.binr rfl rfl (run_boolne2 Tryz.underlying4 _ _ false (by first | (rw [decide_eq_true (by omega), decide_eq_true (by omega)]; rfl) | (rw [decide_eq_false (by omega), decide_eq_false (by omega)]; rfl))) | exact QRun.opr rfl | exact QRun.idx (A := Ax) (i := k) (sz := 1) rfl rfl rfl rfl (by omega) (hxi.isSome (by omega)) | exact QRun.idx (A := Ay) (i := k) (sz := 1) rfl rfl rfl rfl (by omega) (hyi.isSome (by omega)) | exact QRun.load rfl rfl (hra' _ _) | exact QRun.load rfl rfl (hrb' _ _)) ?_ | refine Nx.m_quiet_do rfl rfl rfl rfl rfl rfl rfl (by first | exact QRun.binr rfl rfl (run_boolne2 Tryz.underlying4 _ _ false (by first | (rw [decide_eq_true (by omega), decide_eq_true (by omega)]; rfl) | (rw [decide_eq_false (by omega), decide_eq_false (by omega)]; rfl))) | exact QRun.opr rfl | exact QRun.idx (A := Ax) (i := k) (sz := 1) rfl rfl rfl rfl (by omega) (hxi.isSome (by omega)) | exact QRun.idx (A := Ay) (i := k) (sz := 1) rfl rfl rfl rfl (by omega) (hyi.isSome (by omega)) | exact QRun.load rfl rfl (hra' _ _) | exact QRun.load rfl rfl (hrb' _ _)) ?_ | refine Nx.m ?_ | ((fail_if_success refine Nx.m_quiet_do rfl rfl rfl rfl rfl rfl rfl ?_ ?_); (fail_if_success refine Nx.m_loud_do rfl rfl rfl rfl rfl ?_); first | refine Nx.m_dec_t rfl rfl rfl rfl (by first | assumption | omega) ?_ | refine Nx.m_dec_f rfl rfl rfl rfl (by first | assumption | omega) ?_ | refine Nx.m_split rfl rfl rfl rfl (fun hc => ?_) (fun hc => ?_) | refine Nx.m_splitb rfl rfl rfl rfl (fun hc => ?_) (fun hc => ?_)))
      | ((fail_if_success (with_reducible refine Nx.is_at ?_)); (fail_if_success (with_reducible refine Nx.is_wp ?_)); (fail_if_success (with_reducible refine Nx.is_mix ?_)); first | refine Nx.ex ?_)
    exact Nx.imm_le hI46 (Nx.again (j + 1) hjt (by omega) ⟨rfl, rfl, rfl, rfl, rfl, rfl, rfl, trivial⟩ (by (exact Ent.auto)))
  · rw [if_neg hvv] at hxl
    repeat' first
      | ((with_reducible refine Nx.is_wp ?_); first | refine Nx.wo ?_ | refine Nx.p_draw (id := 12) rfl [0, 1, 2, 3, 4, 5, 6, 7, 8, 9, 10, 11, 12, 13, 14, 15, 16, 17, 18, 19, 20, 21, 22, 23, 24, 25, 26, 27, 28, 29, 30, 31, 32, 33, 34, 35, 36, 37, 38, 39, 40, 41, 42, 43, 44, 45, 46] [21, 27] _ rfl rfl (by kernel_rfl) (by kernel_rfl) rfl (by repeat first | exact PanicOk.fn | refine PanicOk.then_ ?_ | refine PanicOk.inB ?_) (Ent.refl _) ?_ | refine Nx.p_dec rfl rfl (fun hc => ?_) (fun hc => ?_) | refine Nx.p_bool rfl rfl (fun hc => ?_) (fun hc => ?_))
      | ((first | refine Nx.at_op rfl rfl ?_ | refine Nx.m_loud rfl rfl rfl ?_ | refine Nx.at_do rfl rfl rfl rfl ?_ | refine Nx.m_loud_do rfl rfl rfl rfl rfl ?_); first | refine Nx.opr rfl rfl ?_ | refine Nx.callv rfl rfl rfl (by kernel_rfl) rfl hAa ?_ | refine Nx.callv rfl rfl rfl (by kernel_rfl) rfl hAb ?_ | refine Nx.so ?_ | refine Nx.sb (fun bx => ?_) | refine Nx.sa (fun A2 c2 => ?_))
      | ((with_reducible refine Nx.is_at ?_); first | refine Nx.a ?_ | ((fail_if_success refine Nx.at_do rfl rfl rfl rfl ?_); first | refine Nx.at_dec_t rfl rfl rfl rfl (by first | assumption | omega) ?_ | refine Nx.at_dec_f rfl rfl rfl rfl (by first | assumption | omega) ?_ | refine Nx.at_split rfl rfl rfl rfl (fun hc => ?_) (fun hc => ?_) | refine Nx.at_splitb rfl rfl rfl rfl (fun hc => ?_) (fun hc => ?_)))
      | ((with_reducible refine Nx.is_mix ?_); first | refine Nx.m_quiet rfl rfl rfl rfl rfl (by first | exact QRun.binr rfl rfl (run_boolne2 Tryz.underlying4 _ _ false (by first | (rw [decide_eq_true (by omega), decide_eq_true (by omega)]; rfl) | (rw [decide_eq_false (by omega), decide_eq_false (by omega)]; rfl))) | exact QRun.opr rfl | exact QRun.idx (A := Ax) (i := k) (sz := 1) rfl rfl rfl rfl (by omega) (hxi.isSome (by omega)) | exact QRun.idx (A := Ay) (i := k) (sz := 1) rfl rfl rfl rfl (by omega) (hyi.isSome (by omega)) | exact QRun.load rfl rfl (hra' _ _) | exact QRun.load rfl rfl (hrb' _ _)) ?_ | refine Nx.m_quiet_do rfl rfl rfl rfl rfl rfl rfl (by first | exact QRun.binr rfl rfl (run_boolne2 Tryz.underlying4 _ _ false (by first | (rw [decide_eq_true (by omega), decide_eq_true (by omega)]; rfl) | (rw [decide_eq_false (by omega), decide_eq_false (by omega)]; rfl))) | exact QRun.opr rfl | exact QRun.idx (A := Ax) (i := k) (sz := 1) rfl rfl rfl rfl (by omega) (hxi.isSome (by omega)) | exact QRun.idx (A := Ay) (i := k) (sz := 1) rfl rfl rfl rfl (by omega) (hyi.isSome (by omega)) | exact QRun.load rfl rfl (hra' _ _) | exact QRun.load rfl rfl (hrb' _ _)) ?_ | refine Nx.m ?_ | ((fail_if_success refine Nx.m_quiet_do rfl rfl rfl rfl rfl rfl rfl ?_ ?_); (fail_if_success refine Nx.m_loud_do rfl rfl rfl rfl rfl ?_); first | refine Nx.m_dec_t rfl rfl rfl rfl (by first | assumption | omega) ?_ | refine Nx.m_dec_f rfl rfl rfl rfl (by first | assumption | omega) ?_ | refine Nx.m_split rfl rfl rfl rfl (fun hc => ?_) (fun hc => ?_) | refine Nx.m_splitb rfl rfl rfl rfl (fun hc => ?_) (fun hc => ?_)))
      | ((fail_if_success (with_reducible refine Nx.is_at ?_)); (fail_if_success (with_reducible refine Nx.is_wp ?_)); (fail_if_success (with_reducible refine Nx.is_mix ?_)); first | refine Nx.ex ?_)
    exact Nx.imm_le hI46 (Nx.again (j + 1) hjt (by omega) ⟨rfl, rfl, rfl, rfl, rfl, rfl, rfl, trivial⟩ (by (exact Ent.auto)))
end Go.Proofs.YtcmdemfhbekabaaGreat
