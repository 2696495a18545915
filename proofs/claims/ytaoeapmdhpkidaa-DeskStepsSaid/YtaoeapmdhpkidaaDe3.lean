/- Contracts of functions of the given program, and lemmas about plain lists and numbers: what the laws of this seat lean on. -/
import Derived.Test.YtaoeapmdhpkidaaDe2
namespace Go.Proofs.Ytaoeapmdhpkidaa
open Go.Eng
attribute [local irreducible] opK wpList Code.wp Exit.then Exit.inBlock fnPost bodyPost Nx Calls Oper.wp Rd Rds Wr Ent Stars Blk Again Vec FnSpec wpMix QRun Stop Upto wpAt
/-! Shifts -/
abbrev Shift := List UInt8 × Int × Int
def shC (x : Shift) : List Value := [strV x.1, .int .i64 x.2.1, .int .i64 x.2.2]
def shV (x : Shift) : Value := .agg #[strV x.1, .int .i64 x.2.1, .int .i64 x.2.2]
def shOk (x : Shift) : Prop := 0 ≤ x.1.length ∧ I64 x.2.1 ∧ I64 x.2.2
theorem shOk.i {x : Shift} (h : shOk x) : -9223372036854775808 ≤ x.2.1 ∧ x.2.1 ≤ 9223372036854775807 ∧ -9223372036854775808 ≤ x.2.2 ∧ x.2.2 ≤ 9223372036854775807 := ⟨h.2.1.1, h.2.1.2, h.2.2.1, h.2.2.2⟩
abbrev Shifts := SliceN shC 3
def properB (x : Shift) : Bool := decide (0 ≤ x.2.1 ∧ x.2.1 < x.2.2 ∧ x.2.2 ≤ 1073741824)
def beforeB (a b : Shift) : Bool := decide (a.2.1 < b.2.1) || (decide (a.2.1 = b.2.1) && strLt a.1 b.1)
def meetB (y x : Shift) : Bool := (y.1 == x.1) && decide (y.2.1 < x.2.2 ∧ x.2.1 < y.2.2)
def meetsB (l : List Shift) (x : Shift) : Bool := l.any fun y => meetB y x
def cmpI (a b : Int) : Int := if a < b then -1 else if a > b then 1 else 0
def cmpS (a b : List UInt8) : Int := if strLt a b then -1 else if a == b then 0 else 1
def cmpSh (a b : Shift) : Int := if cmpI a.2.1 b.2.1 ≠ 0 then cmpI a.2.1 b.2.1 else cmpS a.1 b.1
set_option maxRecDepth 10000 in
theorem nanI_spec (a : Int) (I : PH) : FnSpec Try.prog 122 [.int .i64 a] I [] (fun v R' => v = .bool false ∧ R' = []) := by
  refine FnSpec.enterP Try.func122 rfl Try.ntmps122 rfl fun w F => ?_
  repeat' first
    | ((with_reducible refine Nx.is_wp ?_); first | refine Nx.wo ?_ | refine Nx.p_dec rfl rfl (fun hc => ?_) (fun hc => ?_) | refine Nx.p_bool rfl rfl (fun hc => ?_) (fun hc => ?_))
    | ((first | refine Nx.at_op rfl rfl ?_ | refine Nx.m_loud rfl rfl rfl ?_ | refine Nx.at_do rfl rfl rfl rfl ?_ | refine Nx.m_loud_do rfl rfl rfl rfl rfl ?_); first | refine Nx.opr rfl rfl ?_ | refine Nx.so ?_ | refine Nx.sb (fun bx => ?_) | refine Nx.sa (fun A2 c2 => ?_))
    | ((with_reducible refine Nx.is_at ?_); first | refine Nx.a ?_ | ((fail_if_success refine Nx.at_do rfl rfl rfl rfl ?_); first | refine Nx.at_dec_t rfl rfl rfl rfl (by first | assumption | omega) ?_ | refine Nx.at_dec_f rfl rfl rfl rfl (by first | assumption | omega) ?_ | refine Nx.at_split rfl rfl rfl rfl (fun hc => ?_) (fun hc => ?_) | refine Nx.at_splitb rfl rfl rfl rfl (fun hc => ?_) (fun hc => ?_)))
    | ((with_reducible refine Nx.is_mix ?_); first | refine Nx.m ?_ | ((fail_if_success refine Nx.m_quiet_do rfl rfl rfl rfl rfl rfl rfl ?_ ?_); (fail_if_success refine Nx.m_loud_do rfl rfl rfl rfl rfl ?_); first | refine Nx.m_dec_t rfl rfl rfl rfl (by first | assumption | omega) ?_ | refine Nx.m_dec_f rfl rfl rfl rfl (by first | assumption | omega) ?_ | refine Nx.m_split rfl rfl rfl rfl (fun hc => ?_) (fun hc => ?_) | refine Nx.m_splitb rfl rfl rfl rfl (fun hc => ?_) (fun hc => ?_)))
    | ((fail_if_success (with_reducible refine Nx.is_at ?_)); (fail_if_success (with_reducible refine Nx.is_wp ?_)); (fail_if_success (with_reducible refine Nx.is_mix ?_)); first | refine Nx.ex ?_)
  exact Nx.ret_fn rfl [] ⟨by simp, rfl⟩ (by (exact Ent.auto))
set_option maxRecDepth 10000 in
theorem cmpI_spec (a b : Int) (I : PH) : FnSpec Try.prog 97 [.int .i64 a, .int .i64 b] I [] (fun v R' => v = .int .i64 (cmpI a b) ∧ R' = []) := by
  refine FnSpec.enterP Try.func97 rfl Try.ntmps97 rfl fun w F => ?_
  repeat' first
    | ((with_reducible refine Nx.is_wp ?_); first | refine Nx.wo ?_ | refine Nx.p_dec rfl rfl (fun hc => ?_) (fun hc => ?_) | refine Nx.p_bool rfl rfl (fun hc => ?_) (fun hc => ?_))
    | ((first | refine Nx.at_op rfl rfl ?_ | refine Nx.m_loud rfl rfl rfl ?_ | refine Nx.at_do rfl rfl rfl rfl ?_ | refine Nx.m_loud_do rfl rfl rfl rfl rfl ?_); first | refine Nx.opr rfl rfl ?_ | refine Nx.callv rfl rfl rfl (by kernel_rfl) rfl (nanI_spec _ I) ?_ | refine Nx.so ?_ | refine Nx.sb (fun bx => ?_) | refine Nx.sa (fun A2 c2 => ?_))
    | ((with_reducible refine Nx.is_at ?_); first | refine Nx.a ?_ | ((fail_if_success refine Nx.at_do rfl rfl rfl rfl ?_); first | refine Nx.at_dec_t rfl rfl rfl rfl (by first | assumption | omega) ?_ | refine Nx.at_dec_f rfl rfl rfl rfl (by first | assumption | omega) ?_ | refine Nx.at_split rfl rfl rfl rfl (fun hc => ?_) (fun hc => ?_) | refine Nx.at_splitb rfl rfl rfl rfl (fun hc => ?_) (fun hc => ?_)))
    | ((with_reducible refine Nx.is_mix ?_); first | refine Nx.m ?_ | ((fail_if_success refine Nx.m_quiet_do rfl rfl rfl rfl rfl rfl rfl ?_ ?_); (fail_if_success refine Nx.m_loud_do rfl rfl rfl rfl rfl ?_); first | refine Nx.m_dec_t rfl rfl rfl rfl (by first | assumption | omega) ?_ | refine Nx.m_dec_f rfl rfl rfl rfl (by first | assumption | omega) ?_ | refine Nx.m_split rfl rfl rfl rfl (fun hc => ?_) (fun hc => ?_) | refine Nx.m_splitb rfl rfl rfl rfl (fun hc => ?_) (fun hc => ?_)))
    | ((fail_if_success (with_reducible refine Nx.is_at ?_)); (fail_if_success (with_reducible refine Nx.is_wp ?_)); (fail_if_success (with_reducible refine Nx.is_mix ?_)); first | refine Nx.ex ?_)
  all_goals
    refine Nx.ret_fn rfl [] ⟨?_, rfl⟩ (by (exact Ent.auto))
    unfold cmpI
    first | rw [if_pos (by assumption)] | rw [if_neg (by assumption), if_pos (by assumption)] | rw [if_neg (by assumption), if_neg (by assumption)]
set_option maxRecDepth 10000 in
theorem nanS_spec (a : List UInt8) (I : PH) : FnSpec Try.prog 123 [strV a] I [] (fun v R' => v = .bool false ∧ R' = []) := by
  refine FnSpec.enterP Try.func123 rfl Try.ntmps123 rfl fun w F => ?_
  repeat' first
    | ((with_reducible refine Nx.is_wp ?_); first | refine Nx.wo ?_ | refine Nx.p_dec rfl rfl (fun hc => ?_) (fun hc => ?_) | refine Nx.p_bool rfl rfl (fun hc => ?_) (fun hc => ?_))
    | ((first | refine Nx.at_op rfl rfl ?_ | refine Nx.m_loud rfl rfl rfl ?_ | refine Nx.at_do rfl rfl rfl rfl ?_ | refine Nx.m_loud_do rfl rfl rfl rfl rfl ?_); first | refine Nx.opr rfl rfl ?_ | refine Nx.binr rfl rfl run_neq_s rfl ?_ | refine Nx.so ?_ | refine Nx.sb (fun bx => ?_) | refine Nx.sa (fun A2 c2 => ?_))
    | ((with_reducible refine Nx.is_at ?_); first | refine Nx.a ?_ | ((fail_if_success refine Nx.at_do rfl rfl rfl rfl ?_); first | refine Nx.at_dec_t rfl rfl rfl rfl (by first | assumption | omega) ?_ | refine Nx.at_dec_f rfl rfl rfl rfl (by first | assumption | omega) ?_ | refine Nx.at_split rfl rfl rfl rfl (fun hc => ?_) (fun hc => ?_) | refine Nx.at_splitb rfl rfl rfl rfl (fun hc => ?_) (fun hc => ?_)))
    | ((with_reducible refine Nx.is_mix ?_); first | refine Nx.m ?_ | ((fail_if_success refine Nx.m_quiet_do rfl rfl rfl rfl rfl rfl rfl ?_ ?_); (fail_if_success refine Nx.m_loud_do rfl rfl rfl rfl rfl ?_); first | refine Nx.m_dec_t rfl rfl rfl rfl (by first | assumption | omega) ?_ | refine Nx.m_dec_f rfl rfl rfl rfl (by first | assumption | omega) ?_ | refine Nx.m_split rfl rfl rfl rfl (fun hc => ?_) (fun hc => ?_) | refine Nx.m_splitb rfl rfl rfl rfl (fun hc => ?_) (fun hc => ?_)))
    | ((fail_if_success (with_reducible refine Nx.is_at ?_)); (fail_if_success (with_reducible refine Nx.is_wp ?_)); (fail_if_success (with_reducible refine Nx.is_mix ?_)); first | refine Nx.ex ?_)
  refine Nx.ret_fn rfl [] ⟨by simp, rfl⟩ (by (exact Ent.auto))
set_option maxRecDepth 10000 in
theorem cmpS_spec (a b : List UInt8) (I : PH) : FnSpec Try.prog 98 [strV a, strV b] I [] (fun v R' => v = .int .i64 (cmpS a b) ∧ R' = []) := by
  refine FnSpec.enterP Try.func98 rfl Try.ntmps98 rfl fun w F => ?_
  repeat' first
    | ((with_reducible refine Nx.is_wp ?_); first | refine Nx.wo ?_ | refine Nx.p_dec rfl rfl (fun hc => ?_) (fun hc => ?_) | refine Nx.p_bool rfl rfl (fun hc => ?_) (fun hc => ?_))
    | ((first | refine Nx.at_op rfl rfl ?_ | refine Nx.m_loud rfl rfl rfl ?_ | refine Nx.at_do rfl rfl rfl rfl ?_ | refine Nx.m_loud_do rfl rfl rfl rfl rfl ?_); first | refine Nx.opr rfl rfl ?_ | refine Nx.callv rfl rfl rfl (by kernel_rfl) rfl (nanS_spec _ I) ?_ | refine Nx.binr rfl rfl run_lss_s rfl ?_ | refine Nx.binr rfl rfl run_gtr_s rfl ?_ | refine Nx.so ?_ | refine Nx.sb (fun bx => ?_) | refine Nx.sa (fun A2 c2 => ?_))
    | ((with_reducible refine Nx.is_at ?_); first | refine Nx.a ?_ | ((fail_if_success refine Nx.at_do rfl rfl rfl rfl ?_); first | refine Nx.at_dec_t rfl rfl rfl rfl (by first | assumption | omega) ?_ | refine Nx.at_dec_f rfl rfl rfl rfl (by first | assumption | omega) ?_ | refine Nx.at_split rfl rfl rfl rfl (fun hc => ?_) (fun hc => ?_) | refine Nx.at_splitb rfl rfl rfl rfl (fun hc => ?_) (fun hc => ?_)))
    | ((with_reducible refine Nx.is_mix ?_); first | refine Nx.m ?_ | ((fail_if_success refine Nx.m_quiet_do rfl rfl rfl rfl rfl rfl rfl ?_ ?_); (fail_if_success refine Nx.m_loud_do rfl rfl rfl rfl rfl ?_); first | refine Nx.m_dec_t rfl rfl rfl rfl (by first | assumption | omega) ?_ | refine Nx.m_dec_f rfl rfl rfl rfl (by first | assumption | omega) ?_ | refine Nx.m_split rfl rfl rfl rfl (fun hc => ?_) (fun hc => ?_) | refine Nx.m_splitb rfl rfl rfl rfl (fun hc => ?_) (fun hc => ?_)))
    | ((fail_if_success (with_reducible refine Nx.is_at ?_)); (fail_if_success (with_reducible refine Nx.is_wp ?_)); (fail_if_success (with_reducible refine Nx.is_mix ?_)); first | refine Nx.ex ?_)
  all_goals
    refine Nx.ret_fn rfl [] ⟨?_, rfl⟩ (by (exact Ent.auto))
    unfold cmpS strLt
    simp_all
set_option maxRecDepth 10000 in
/-- cmp.Or of two numbers. -/
theorem or_spec (b c : Nat) (p q : Int) (I : PH) (hI : Ints I (some ⟨b, 0, none⟩) c [p, q]) : FnSpec Try.prog 96 [.slice (some ⟨b, 0, none⟩) 2 c] I [] (fun v R' => v = .int .i64 (if p ≠ 0 then p else q) ∧ R' = []) := by
  refine FnSpec.enterP Try.func96 rfl Try.ntmps96 rfl fun w F => ?_
  repeat' first
    | ((with_reducible refine Nx.is_wp ?_); first | refine Nx.wo ?_ | refine Nx.p_dec rfl rfl (fun hc => ?_) (fun hc => ?_) | refine Nx.p_bool rfl rfl (fun hc => ?_) (fun hc => ?_))
    | ((first | refine Nx.at_op rfl rfl ?_ | refine Nx.m_loud rfl rfl rfl ?_ | refine Nx.at_do rfl rfl rfl rfl ?_ | refine Nx.m_loud_do rfl rfl rfl rfl rfl ?_); first | refine Nx.opr rfl rfl ?_ | refine Nx.so ?_ | refine Nx.sb (fun bx => ?_) | refine Nx.sa (fun A2 c2 => ?_))
    | ((with_reducible refine Nx.is_at ?_); first | refine Nx.a ?_ | ((fail_if_success refine Nx.at_do rfl rfl rfl rfl ?_); first | refine Nx.at_dec_t rfl rfl rfl rfl (by first | assumption | omega) ?_ | refine Nx.at_dec_f rfl rfl rfl rfl (by first | assumption | omega) ?_ | refine Nx.at_split rfl rfl rfl rfl (fun hc => ?_) (fun hc => ?_) | refine Nx.at_splitb rfl rfl rfl rfl (fun hc => ?_) (fun hc => ?_)))
    | ((with_reducible refine Nx.is_mix ?_); first | refine Nx.m ?_ | ((fail_if_success refine Nx.m_quiet_do rfl rfl rfl rfl rfl rfl rfl ?_ ?_); (fail_if_success refine Nx.m_loud_do rfl rfl rfl rfl rfl ?_); first | refine Nx.m_dec_t rfl rfl rfl rfl (by first | assumption | omega) ?_ | refine Nx.m_dec_f rfl rfl rfl rfl (by first | assumption | omega) ?_ | refine Nx.m_split rfl rfl rfl rfl (fun hc => ?_) (fun hc => ?_) | refine Nx.m_splitb rfl rfl rfl rfl (fun hc => ?_) (fun hc => ?_)))
    | ((fail_if_success (with_reducible refine Nx.is_at ?_)); (fail_if_success (with_reducible refine Nx.is_wp ?_)); (fail_if_success (with_reducible refine Nx.is_mix ?_)); first | refine Nx.ex ?_)
  refine Nx.p_loop (σ := Nat) (fun k => [(3, .int .i64 0), (6, .slice (some ⟨b, 0, none⟩) 2 c), (7, .int .i64 2), (8, .int .i64 (k : Int))])
    (fun _ => [F]) (fun k => k ≤ 2 ∧ (1 ≤ k → p = 0) ∧ (2 ≤ k → q = 0)) (fun k => 2 - k) 0 rfl ⟨by omega, by omega, by omega⟩ ⟨rfl, rfl, rfl, rfl, trivial⟩ (by (exact Ent.auto)) ?_
  rintro k ⟨hk, hp, hq⟩
  by_cases h0 : k = 0
  · subst h0
    repeat' first
      | ((with_reducible refine Nx.is_wp ?_); first | refine Nx.wo ?_ | refine Nx.p_dec rfl rfl (fun hc => ?_) (fun hc => ?_) | refine Nx.p_bool rfl rfl (fun hc => ?_) (fun hc => ?_))
      | ((first | refine Nx.at_op rfl rfl ?_ | refine Nx.m_loud rfl rfl rfl ?_ | refine Nx.at_do rfl rfl rfl rfl ?_ | refine Nx.m_loud_do rfl rfl rfl rfl rfl ?_); first | refine Nx.opr rfl rfl ?_ | refine Nx.indexAddr_nat (i := 0) rfl rfl rfl rfl rfl (by omega) rfl ?_ | refine Nx.load rfl rfl rfl (hI.rd (k := 0) (by simp)) ?_ | refine Nx.so ?_ | refine Nx.sb (fun bx => ?_) | refine Nx.sa (fun A2 c2 => ?_))
      | ((with_reducible refine Nx.is_at ?_); first | refine Nx.a ?_ | ((fail_if_success refine Nx.at_do rfl rfl rfl rfl ?_); first | refine Nx.at_dec_t rfl rfl rfl rfl (by first | assumption | omega) ?_ | refine Nx.at_dec_f rfl rfl rfl rfl (by first | assumption | omega) ?_ | refine Nx.at_split rfl rfl rfl rfl (fun hc => ?_) (fun hc => ?_) | refine Nx.at_splitb rfl rfl rfl rfl (fun hc => ?_) (fun hc => ?_)))
      | ((with_reducible refine Nx.is_mix ?_); first | refine Nx.m ?_ | ((fail_if_success refine Nx.m_quiet_do rfl rfl rfl rfl rfl rfl rfl ?_ ?_); (fail_if_success refine Nx.m_loud_do rfl rfl rfl rfl rfl ?_); first | refine Nx.m_dec_t rfl rfl rfl rfl (by first | assumption | omega) ?_ | refine Nx.m_dec_f rfl rfl rfl rfl (by first | assumption | omega) ?_ | refine Nx.m_split rfl rfl rfl rfl (fun hc => ?_) (fun hc => ?_) | refine Nx.m_splitb rfl rfl rfl rfl (fun hc => ?_) (fun hc => ?_)))
      | ((fail_if_success (with_reducible refine Nx.is_at ?_)); (fail_if_success (with_reducible refine Nx.is_wp ?_)); (fail_if_success (with_reducible refine Nx.is_mix ?_)); first | refine Nx.ex ?_)
    · exact Nx.ret_fn rfl [] ⟨by rw [if_pos (show p ≠ 0 from hc)]; rfl, rfl⟩ (by (exact Ent.auto))
    · exact Nx.again 1 ⟨by omega, fun _ => by simpa using hc, by omega⟩ (by omega) ⟨rfl, rfl, rfl, rfl, trivial⟩ (by (exact Ent.auto))
  · by_cases h1 : k = 1
    · subst h1
      have hp := hp (by omega)
      repeat' first
        | ((with_reducible refine Nx.is_wp ?_); first | refine Nx.wo ?_ | refine Nx.p_dec rfl rfl (fun hc => ?_) (fun hc => ?_) | refine Nx.p_bool rfl rfl (fun hc => ?_) (fun hc => ?_))
        | ((first | refine Nx.at_op rfl rfl ?_ | refine Nx.m_loud rfl rfl rfl ?_ | refine Nx.at_do rfl rfl rfl rfl ?_ | refine Nx.m_loud_do rfl rfl rfl rfl rfl ?_); first | refine Nx.opr rfl rfl ?_ | refine Nx.indexAddr_nat (i := 1) rfl rfl rfl rfl rfl (by omega) rfl ?_ | refine Nx.load rfl rfl rfl (hI.rd (k := 1) (by simp)) ?_ | refine Nx.so ?_ | refine Nx.sb (fun bx => ?_) | refine Nx.sa (fun A2 c2 => ?_))
        | ((with_reducible refine Nx.is_at ?_); first | refine Nx.a ?_ | ((fail_if_success refine Nx.at_do rfl rfl rfl rfl ?_); first | refine Nx.at_dec_t rfl rfl rfl rfl (by first | assumption | omega) ?_ | refine Nx.at_dec_f rfl rfl rfl rfl (by first | assumption | omega) ?_ | refine Nx.at_split rfl rfl rfl rfl (fun hc => ?_) (fun hc => ?_) | refine Nx.at_splitb rfl rfl rfl rfl (fun hc => ?_) (fun hc => ?_)))
        | ((with_reducible refine Nx.is_mix ?_); first | refine Nx.m ?_ | ((fail_if_success refine Nx.m_quiet_do rfl rfl rfl rfl rfl rfl rfl ?_ ?_); (fail_if_success refine Nx.m_loud_do rfl rfl rfl rfl rfl ?_); first | refine Nx.m_dec_t rfl rfl rfl rfl (by first | assumption | omega) ?_ | refine Nx.m_dec_f rfl rfl rfl rfl (by first | assumption | omega) ?_ | refine Nx.m_split rfl rfl rfl rfl (fun hc => ?_) (fun hc => ?_) | refine Nx.m_splitb rfl rfl rfl rfl (fun hc => ?_) (fun hc => ?_)))
        | ((fail_if_success (with_reducible refine Nx.is_at ?_)); (fail_if_success (with_reducible refine Nx.is_wp ?_)); (fail_if_success (with_reducible refine Nx.is_mix ?_)); first | refine Nx.ex ?_)
      · exact Nx.ret_fn rfl [] ⟨by rw [if_neg (by omega)]; rfl, rfl⟩ (by (exact Ent.auto))
      · exact Nx.again 2 ⟨by omega, fun _ => hp, fun _ => by simpa using hc⟩ (by omega) ⟨rfl, rfl, rfl, rfl, trivial⟩ (by (exact Ent.auto))
    · have hk2 : k = 2 := by omega
      subst hk2
      have hp := hp (by omega)
      have hq := hq (by omega)
      repeat' first
        | ((with_reducible refine Nx.is_wp ?_); first | refine Nx.wo ?_ | refine Nx.p_dec rfl rfl (fun hc => ?_) (fun hc => ?_) | refine Nx.p_bool rfl rfl (fun hc => ?_) (fun hc => ?_))
        | ((first | refine Nx.at_op rfl rfl ?_ | refine Nx.m_loud rfl rfl rfl ?_ | refine Nx.at_do rfl rfl rfl rfl ?_ | refine Nx.m_loud_do rfl rfl rfl rfl rfl ?_); first | refine Nx.opr rfl rfl ?_ | refine Nx.so ?_ | refine Nx.sb (fun bx => ?_) | refine Nx.sa (fun A2 c2 => ?_))
        | ((with_reducible refine Nx.is_at ?_); first | refine Nx.a ?_ | ((fail_if_success refine Nx.at_do rfl rfl rfl rfl ?_); first | refine Nx.at_dec_t rfl rfl rfl rfl (by first | assumption | omega) ?_ | refine Nx.at_dec_f rfl rfl rfl rfl (by first | assumption | omega) ?_ | refine Nx.at_split rfl rfl rfl rfl (fun hc => ?_) (fun hc => ?_) | refine Nx.at_splitb rfl rfl rfl rfl (fun hc => ?_) (fun hc => ?_)))
        | ((with_reducible refine Nx.is_mix ?_); first | refine Nx.m ?_ | ((fail_if_success refine Nx.m_quiet_do rfl rfl rfl rfl rfl rfl rfl ?_ ?_); (fail_if_success refine Nx.m_loud_do rfl rfl rfl rfl rfl ?_); first | refine Nx.m_dec_t rfl rfl rfl rfl (by first | assumption | omega) ?_ | refine Nx.m_dec_f rfl rfl rfl rfl (by first | assumption | omega) ?_ | refine Nx.m_split rfl rfl rfl rfl (fun hc => ?_) (fun hc => ?_) | refine Nx.m_splitb rfl rfl rfl rfl (fun hc => ?_) (fun hc => ?_)))
        | ((fail_if_success (with_reducible refine Nx.is_at ?_)); (fail_if_success (with_reducible refine Nx.is_wp ?_)); (fail_if_success (with_reducible refine Nx.is_mix ?_)); first | refine Nx.ex ?_)
      exact Nx.ret_fn rfl [] ⟨by rw [if_neg (by omega), hq], rfl⟩ (by (exact Ent.auto))
set_option maxRecDepth 10000 in
theorem compare_spec (x y : Shift) (I : PH) : FnSpec Try.prog 74 [shV x, shV y] I [] (fun v R' => v = .int .i64 (cmpSh x y) ∧ R' = []) := by
  refine FnSpec.enterP Try.func74 rfl Try.ntmps74 rfl fun w F => ?_
  repeat' first
    | ((with_reducible refine Nx.is_wp ?_); first | refine Nx.wo ?_ | refine Nx.p_drawF (id := 1) rfl [0, 1, 2, 3, 5, 6, 7, 8, 4] [4] [9, 10, 11, 12] _ rfl rfl (by kernel_rfl) (by kernel_rfl) rfl (by repeat first | exact PanicOk.fn | refine PanicOk.then_ ?_ | refine PanicOk.inB ?_) (Ent.refl _) ?_ | refine Nx.p_dec rfl rfl (fun hc => ?_) (fun hc => ?_) | refine Nx.p_bool rfl rfl (fun hc => ?_) (fun hc => ?_))
    | ((first | refine Nx.at_op rfl rfl ?_ | refine Nx.m_loud rfl rfl rfl ?_ | refine Nx.at_do rfl rfl rfl rfl ?_ | refine Nx.m_loud_do rfl rfl rfl rfl rfl ?_); first | refine Nx.opr rfl rfl ?_ | refine Nx.callv rfl rfl rfl (by kernel_rfl) rfl (cmpI_spec _ _ I) ?_ | refine Nx.callv rfl rfl rfl (by kernel_rfl) rfl (cmpS_spec _ _ I) ?_ | (refine Nx.call_lendR 0 rfl rfl rfl (by kernel_rfl) rfl rfl (fun m I' hI hm h => or_spec _ _ _ _ I' (Blk.sliceOf (f := fun x : Int => Value.int .i64 x) (l := [cmpI x.2.1 y.2.1, cmpS x.1 y.1]) hm h (by simp [maxLen]))) ?_; rintro _ R' ⟨rfl, rfl⟩) | refine Nx.so ?_ | refine Nx.sb (fun bx => ?_) | refine Nx.sa (fun A2 c2 => ?_))
    | ((with_reducible refine Nx.is_at ?_); first | refine Nx.a ?_ | ((fail_if_success refine Nx.at_do rfl rfl rfl rfl ?_); first | refine Nx.at_dec_t rfl rfl rfl rfl (by first | assumption | omega) ?_ | refine Nx.at_dec_f rfl rfl rfl rfl (by first | assumption | omega) ?_ | refine Nx.at_split rfl rfl rfl rfl (fun hc => ?_) (fun hc => ?_) | refine Nx.at_splitb rfl rfl rfl rfl (fun hc => ?_) (fun hc => ?_)))
    | ((with_reducible refine Nx.is_mix ?_); first | refine Nx.m ?_ | ((fail_if_success refine Nx.m_quiet_do rfl rfl rfl rfl rfl rfl rfl ?_ ?_); (fail_if_success refine Nx.m_loud_do rfl rfl rfl rfl rfl ?_); first | refine Nx.m_dec_t rfl rfl rfl rfl (by first | assumption | omega) ?_ | refine Nx.m_dec_f rfl rfl rfl rfl (by first | assumption | omega) ?_ | refine Nx.m_split rfl rfl rfl rfl (fun hc => ?_) (fun hc => ?_) | refine Nx.m_splitb rfl rfl rfl rfl (fun hc => ?_) (fun hc => ?_)))
    | ((fail_if_success (with_reducible refine Nx.is_at ?_)); (fail_if_success (with_reducible refine Nx.is_wp ?_)); (fail_if_success (with_reducible refine Nx.is_mix ?_)); first | refine Nx.ex ?_)
  exact Nx.ret_fn rfl [] ⟨rfl, rfl⟩ (by (exact Ent.auto))
end Go.Proofs.Ytaoeapmdhpkidaa
/- Contracts of functions of the given program, and lemmas about plain lists and numbers: what the laws of this seat lean on. -/
namespace Go.Proofs.Ytaoeapmdhpkidaa
open Go.Eng
attribute [local irreducible] opK wpList Code.wp Exit.then Exit.inBlock fnPost bodyPost Nx Calls Oper.wp Rd Rds Wr Ent Stars Blk Again Vec FnSpec wpMix QRun Stop Upto wpAt
def singleE (x : Shift) : Int := if nameB x.1 = true then (if properB x = true then 0 else 43) else 3
set_option maxRecDepth 10000 in
theorem single_spec (x : Shift) (hx : shOk x) (I : PH) : FnSpec Try.prog 71 [shV x] I [] (fun v R' => v = .int .i64 (singleE x) ∧ R' = []) := by
  by_cases hn : nameB x.1 = true
  · by_cases hp : properB x = true
    · have hp' := of_decide_eq_true hp
      have e : singleE x = 0 := by unfold singleE; rw [if_pos hn, if_pos hp]
      rw [e]
      refine FnSpec.enterP Try.func71 rfl Try.ntmps71 rfl fun w F => ?_
      repeat' first
        | ((with_reducible refine Nx.is_wp ?_); first | refine Nx.wo ?_ | refine Nx.p_dec rfl rfl (fun hc => ?_) (fun hc => ?_) | refine Nx.p_bool rfl rfl (fun hc => ?_) (fun hc => ?_))
        | ((first | refine Nx.at_op rfl rfl ?_ | refine Nx.m_loud rfl rfl rfl ?_ | refine Nx.at_do rfl rfl rfl rfl ?_ | refine Nx.m_loud_do rfl rfl rfl rfl rfl ?_); first | refine Nx.opr rfl rfl ?_ | refine Nx.callv rfl rfl rfl (by kernel_rfl) rfl (Name_spec x.1 hx.1 I) ?_ | refine Nx.so ?_ | refine Nx.sb (fun bx => ?_) | refine Nx.sa (fun A2 c2 => ?_))
        | ((with_reducible refine Nx.is_at ?_); first | refine Nx.a ?_ | ((fail_if_success refine Nx.at_do rfl rfl rfl rfl ?_); first | refine Nx.at_dec_t rfl rfl rfl rfl (by first | assumption | omega) ?_ | refine Nx.at_dec_f rfl rfl rfl rfl (by first | assumption | omega) ?_ | refine Nx.at_split rfl rfl rfl rfl (fun hc => ?_) (fun hc => ?_) | refine Nx.at_splitb rfl rfl rfl rfl (fun hc => ?_) (fun hc => ?_)))
        | ((with_reducible refine Nx.is_mix ?_); first | refine Nx.m ?_ | ((fail_if_success refine Nx.m_quiet_do rfl rfl rfl rfl rfl rfl rfl ?_ ?_); (fail_if_success refine Nx.m_loud_do rfl rfl rfl rfl rfl ?_); first | refine Nx.m_dec_t rfl rfl rfl rfl (by first | assumption | omega) ?_ | refine Nx.m_dec_f rfl rfl rfl rfl (by first | assumption | omega) ?_ | refine Nx.m_split rfl rfl rfl rfl (fun hc => ?_) (fun hc => ?_) | refine Nx.m_splitb rfl rfl rfl rfl (fun hc => ?_) (fun hc => ?_)))
        | ((fail_if_success (with_reducible refine Nx.is_at ?_)); (fail_if_success (with_reducible refine Nx.is_wp ?_)); (fail_if_success (with_reducible refine Nx.is_mix ?_)); first | refine Nx.ex ?_)
      all_goals first | exact Nx.ret_fn rfl [] ⟨rfl, rfl⟩ (by (exact Ent.auto)) | (exfalso; simp_all; done)
    · have hp0 : properB x = false := by simpa using hp
      have hp' := of_decide_eq_false hp0
      have e : singleE x = 43 := by unfold singleE; rw [if_pos hn, if_neg hp]
      rw [e]
      refine FnSpec.enterP Try.func71 rfl Try.ntmps71 rfl fun w F => ?_
      repeat' first
        | ((with_reducible refine Nx.is_wp ?_); first | refine Nx.wo ?_ | refine Nx.p_dec rfl rfl (fun hc => ?_) (fun hc => ?_) | refine Nx.p_bool rfl rfl (fun hc => ?_) (fun hc => ?_))
        | ((first | refine Nx.at_op rfl rfl ?_ | refine Nx.m_loud rfl rfl rfl ?_ | refine Nx.at_do rfl rfl rfl rfl ?_ | refine Nx.m_loud_do rfl rfl rfl rfl rfl ?_); first | refine Nx.opr rfl rfl ?_ | refine Nx.callv rfl rfl rfl (by kernel_rfl) rfl (Name_spec x.1 hx.1 I) ?_ | refine Nx.so ?_ | refine Nx.sb (fun bx => ?_) | refine Nx.sa (fun A2 c2 => ?_))
        | ((with_reducible refine Nx.is_at ?_); first | refine Nx.a ?_ | ((fail_if_success refine Nx.at_do rfl rfl rfl rfl ?_); first | refine Nx.at_dec_t rfl rfl rfl rfl (by first | assumption | omega) ?_ | refine Nx.at_dec_f rfl rfl rfl rfl (by first | assumption | omega) ?_ | refine Nx.at_split rfl rfl rfl rfl (fun hc => ?_) (fun hc => ?_) | refine Nx.at_splitb rfl rfl rfl rfl (fun hc => ?_) (fun hc => ?_)))
        | ((with_reducible refine Nx.is_mix ?_); first | refine Nx.m ?_ | ((fail_if_success refine Nx.m_quiet_do rfl rfl rfl rfl rfl rfl rfl ?_ ?_); (fail_if_success refine Nx.m_loud_do rfl rfl rfl rfl rfl ?_); first | refine Nx.m_dec_t rfl rfl rfl rfl (by first | assumption | omega) ?_ | refine Nx.m_dec_f rfl rfl rfl rfl (by first | assumption | omega) ?_ | refine Nx.m_split rfl rfl rfl rfl (fun hc => ?_) (fun hc => ?_) | refine Nx.m_splitb rfl rfl rfl rfl (fun hc => ?_) (fun hc => ?_)))
        | ((fail_if_success (with_reducible refine Nx.is_at ?_)); (fail_if_success (with_reducible refine Nx.is_wp ?_)); (fail_if_success (with_reducible refine Nx.is_mix ?_)); first | refine Nx.ex ?_)
      all_goals first | exact Nx.ret_fn rfl [] ⟨rfl, rfl⟩ (by (exact Ent.auto)) | (exfalso; simp_all; done)
  · have e : singleE x = 3 := by unfold singleE; rw [if_neg hn]
    rw [e]
    refine FnSpec.enterP Try.func71 rfl Try.ntmps71 rfl fun w F => ?_
    repeat' first
      | ((with_reducible refine Nx.is_wp ?_); first | refine Nx.wo ?_ | refine Nx.p_dec rfl rfl (fun hc => ?_) (fun hc => ?_) | refine Nx.p_bool rfl rfl (fun hc => ?_) (fun hc => ?_))
      | ((first | refine Nx.at_op rfl rfl ?_ | refine Nx.m_loud rfl rfl rfl ?_ | refine Nx.at_do rfl rfl rfl rfl ?_ | refine Nx.m_loud_do rfl rfl rfl rfl rfl ?_); first | refine Nx.opr rfl rfl ?_ | refine Nx.callv rfl rfl rfl (by kernel_rfl) rfl (Name_spec x.1 hx.1 I) ?_ | refine Nx.so ?_ | refine Nx.sb (fun bx => ?_) | refine Nx.sa (fun A2 c2 => ?_))
      | ((with_reducible refine Nx.is_at ?_); first | refine Nx.a ?_ | ((fail_if_success refine Nx.at_do rfl rfl rfl rfl ?_); first | refine Nx.at_dec_t rfl rfl rfl rfl (by first | assumption | omega) ?_ | refine Nx.at_dec_f rfl rfl rfl rfl (by first | assumption | omega) ?_ | refine Nx.at_split rfl rfl rfl rfl (fun hc => ?_) (fun hc => ?_) | refine Nx.at_splitb rfl rfl rfl rfl (fun hc => ?_) (fun hc => ?_)))
      | ((with_reducible refine Nx.is_mix ?_); first | refine Nx.m ?_ | ((fail_if_success refine Nx.m_quiet_do rfl rfl rfl rfl rfl rfl rfl ?_ ?_); (fail_if_success refine Nx.m_loud_do rfl rfl rfl rfl rfl ?_); first | refine Nx.m_dec_t rfl rfl rfl rfl (by first | assumption | omega) ?_ | refine Nx.m_dec_f rfl rfl rfl rfl (by first | assumption | omega) ?_ | refine Nx.m_split rfl rfl rfl rfl (fun hc => ?_) (fun hc => ?_) | refine Nx.m_splitb rfl rfl rfl rfl (fun hc => ?_) (fun hc => ?_)))
      | ((fail_if_success (with_reducible refine Nx.is_at ?_)); (fail_if_success (with_reducible refine Nx.is_wp ?_)); (fail_if_success (with_reducible refine Nx.is_mix ?_)); first | refine Nx.ex ?_)
    all_goals first | exact Nx.ret_fn rfl [] ⟨rfl, rfl⟩ (by (exact Ent.auto)) | (exfalso; simp_all; done)
set_option maxRecDepth 10000 in
theorem proper_spec (x : Shift) (I : PH) : FnSpec Try.prog 77 [shV x] I [] (fun v R' => v = .bool (properB x) ∧ R' = []) := by
  by_cases hp : properB x = true
  · have hp' := of_decide_eq_true hp
    rw [hp]
    refine FnSpec.enterP Try.func77 rfl Try.ntmps77 rfl fun w F => ?_
    repeat' first
      | ((with_reducible refine Nx.is_wp ?_); first | refine Nx.wo ?_ | refine Nx.p_dec rfl rfl (fun hc => ?_) (fun hc => ?_) | refine Nx.p_bool rfl rfl (fun hc => ?_) (fun hc => ?_))
      | ((first | refine Nx.at_op rfl rfl ?_ | refine Nx.m_loud rfl rfl rfl ?_ | refine Nx.at_do rfl rfl rfl rfl ?_ | refine Nx.m_loud_do rfl rfl rfl rfl rfl ?_); first | refine Nx.opr rfl rfl ?_ | refine Nx.so ?_ | refine Nx.sb (fun bx => ?_) | refine Nx.sa (fun A2 c2 => ?_))
      | ((with_reducible refine Nx.is_at ?_); first | refine Nx.a ?_ | ((fail_if_success refine Nx.at_do rfl rfl rfl rfl ?_); first | refine Nx.at_dec_t rfl rfl rfl rfl (by first | assumption | omega) ?_ | refine Nx.at_dec_f rfl rfl rfl rfl (by first | assumption | omega) ?_ | refine Nx.at_split rfl rfl rfl rfl (fun hc => ?_) (fun hc => ?_) | refine Nx.at_splitb rfl rfl rfl rfl (fun hc => ?_) (fun hc => ?_)))
      | ((with_reducible refine Nx.is_mix ?_); first | refine Nx.m ?_ | ((fail_if_success refine Nx.m_quiet_do rfl rfl rfl rfl rfl rfl rfl ?_ ?_); (fail_if_success refine Nx.m_loud_do rfl rfl rfl rfl rfl ?_); first | refine Nx.m_dec_t rfl rfl rfl rfl (by first | assumption | omega) ?_ | refine Nx.m_dec_f rfl rfl rfl rfl (by first | assumption | omega) ?_ | refine Nx.m_split rfl rfl rfl rfl (fun hc => ?_) (fun hc => ?_) | refine Nx.m_splitb rfl rfl rfl rfl (fun hc => ?_) (fun hc => ?_)))
      | ((fail_if_success (with_reducible refine Nx.is_at ?_)); (fail_if_success (with_reducible refine Nx.is_wp ?_)); (fail_if_success (with_reducible refine Nx.is_mix ?_)); first | refine Nx.ex ?_)
    exact Nx.ret_fn rfl [] ⟨by first | rfl | simp [hp'], rfl⟩ (by (exact Ent.auto))
  · have hp0 : properB x = false := by simpa using hp
    have hp' := of_decide_eq_false hp0
    rw [hp0]
    refine FnSpec.enterP Try.func77 rfl Try.ntmps77 rfl fun w F => ?_
    repeat' first
      | ((with_reducible refine Nx.is_wp ?_); first | refine Nx.wo ?_ | refine Nx.p_dec rfl rfl (fun hc => ?_) (fun hc => ?_) | refine Nx.p_bool rfl rfl (fun hc => ?_) (fun hc => ?_))
      | ((first | refine Nx.at_op rfl rfl ?_ | refine Nx.m_loud rfl rfl rfl ?_ | refine Nx.at_do rfl rfl rfl rfl ?_ | refine Nx.m_loud_do rfl rfl rfl rfl rfl ?_); first | refine Nx.opr rfl rfl ?_ | refine Nx.so ?_ | refine Nx.sb (fun bx => ?_) | refine Nx.sa (fun A2 c2 => ?_))
      | ((with_reducible refine Nx.is_at ?_); first | refine Nx.a ?_ | ((fail_if_success refine Nx.at_do rfl rfl rfl rfl ?_); first | refine Nx.at_dec_t rfl rfl rfl rfl (by first | assumption | omega) ?_ | refine Nx.at_dec_f rfl rfl rfl rfl (by first | assumption | omega) ?_ | refine Nx.at_split rfl rfl rfl rfl (fun hc => ?_) (fun hc => ?_) | refine Nx.at_splitb rfl rfl rfl rfl (fun hc => ?_) (fun hc => ?_)))
      | ((with_reducible refine Nx.is_mix ?_); first | refine Nx.m ?_ | ((fail_if_success refine Nx.m_quiet_do rfl rfl rfl rfl rfl rfl rfl ?_ ?_); (fail_if_success refine Nx.m_loud_do rfl rfl rfl rfl rfl ?_); first | refine Nx.m_dec_t rfl rfl rfl rfl (by first | assumption | omega) ?_ | refine Nx.m_dec_f rfl rfl rfl rfl (by first | assumption | omega) ?_ | refine Nx.m_split rfl rfl rfl rfl (fun hc => ?_) (fun hc => ?_) | refine Nx.m_splitb rfl rfl rfl rfl (fun hc => ?_) (fun hc => ?_)))
      | ((fail_if_success (with_reducible refine Nx.is_at ?_)); (fail_if_success (with_reducible refine Nx.is_wp ?_)); (fail_if_success (with_reducible refine Nx.is_mix ?_)); first | refine Nx.ex ?_)
    all_goals exact Nx.ret_fn rfl [] ⟨by first | rfl | (simp; omega), rfl⟩ (by (exact Ent.auto))
set_option maxRecDepth 10000 in
theorem before_spec (a b : Shift) (I : PH) : FnSpec Try.prog 78 [shV a, shV b] I [] (fun v R' => v = .bool (beforeB a b) ∧ R' = []) := by
  refine FnSpec.enterP Try.func78 rfl Try.ntmps78 rfl fun w F => ?_
  repeat' first
    | ((with_reducible refine Nx.is_wp ?_); first | refine Nx.wo ?_ | refine Nx.p_dec rfl rfl (fun hc => ?_) (fun hc => ?_) | refine Nx.p_bool rfl rfl (fun hc => ?_) (fun hc => ?_))
    | ((first | refine Nx.at_op rfl rfl ?_ | refine Nx.m_loud rfl rfl rfl ?_ | refine Nx.at_do rfl rfl rfl rfl ?_ | refine Nx.m_loud_do rfl rfl rfl rfl rfl ?_); first | refine Nx.opr rfl rfl ?_ | refine Nx.binr rfl rfl run_lss_s rfl ?_ | refine Nx.so ?_ | refine Nx.sb (fun bx => ?_) | refine Nx.sa (fun A2 c2 => ?_))
    | ((with_reducible refine Nx.is_at ?_); first | refine Nx.a ?_ | ((fail_if_success refine Nx.at_do rfl rfl rfl rfl ?_); first | refine Nx.at_dec_t rfl rfl rfl rfl (by first | assumption | omega) ?_ | refine Nx.at_dec_f rfl rfl rfl rfl (by first | assumption | omega) ?_ | refine Nx.at_split rfl rfl rfl rfl (fun hc => ?_) (fun hc => ?_) | refine Nx.at_splitb rfl rfl rfl rfl (fun hc => ?_) (fun hc => ?_)))
    | ((with_reducible refine Nx.is_mix ?_); first | refine Nx.m ?_ | ((fail_if_success refine Nx.m_quiet_do rfl rfl rfl rfl rfl rfl rfl ?_ ?_); (fail_if_success refine Nx.m_loud_do rfl rfl rfl rfl rfl ?_); first | refine Nx.m_dec_t rfl rfl rfl rfl (by first | assumption | omega) ?_ | refine Nx.m_dec_f rfl rfl rfl rfl (by first | assumption | omega) ?_ | refine Nx.m_split rfl rfl rfl rfl (fun hc => ?_) (fun hc => ?_) | refine Nx.m_splitb rfl rfl rfl rfl (fun hc => ?_) (fun hc => ?_)))
    | ((fail_if_success (with_reducible refine Nx.is_at ?_)); (fail_if_success (with_reducible refine Nx.is_wp ?_)); (fail_if_success (with_reducible refine Nx.is_mix ?_)); first | refine Nx.ex ?_)
  all_goals exact Nx.ret_fn rfl [] ⟨by unfold beforeB strLt; simp_all, rfl⟩ (by (exact Ent.auto))
set_option maxRecDepth 10000 in
theorem meet_spec (b : Nat) (x y : Shift) (I : PH) (hb : ∀ (W : World) (R : List Res) (k : Nat) (v : Value), nthL (shC x) k = some v → Rd W I R ⟨b, k, none⟩ v) :
    FnSpec Try.prog 94 [shV y, .pointer (some ⟨b, 0, none⟩)] I [] (fun v R' => v = .bool (meetB y x) ∧ R' = []) := by
  refine FnSpec.enterP Try.func94 rfl Try.ntmps94 rfl fun w F => ?_
  repeat' first
    | ((with_reducible refine Nx.is_wp ?_); first | refine Nx.wo ?_ | refine Nx.p_dec rfl rfl (fun hc => ?_) (fun hc => ?_) | refine Nx.p_bool rfl rfl (fun hc => ?_) (fun hc => ?_))
    | ((first | refine Nx.at_op rfl rfl ?_ | refine Nx.m_loud rfl rfl rfl ?_ | refine Nx.at_do rfl rfl rfl rfl ?_ | refine Nx.m_loud_do rfl rfl rfl rfl rfl ?_); first | refine Nx.opr rfl rfl ?_ | refine Nx.load rfl rfl rfl (hb _ _ 0 _ rfl) ?_ | refine Nx.load rfl rfl rfl (hb _ _ 1 _ rfl) ?_ | refine Nx.load rfl rfl rfl (hb _ _ 2 _ rfl) ?_ | refine Nx.binr rfl rfl run_eql_s rfl ?_ | refine Nx.so ?_ | refine Nx.sb (fun bx => ?_) | refine Nx.sa (fun A2 c2 => ?_))
    | ((with_reducible refine Nx.is_at ?_); first | refine Nx.a ?_ | ((fail_if_success refine Nx.at_do rfl rfl rfl rfl ?_); first | refine Nx.at_dec_t rfl rfl rfl rfl (by first | assumption | omega) ?_ | refine Nx.at_dec_f rfl rfl rfl rfl (by first | assumption | omega) ?_ | refine Nx.at_split rfl rfl rfl rfl (fun hc => ?_) (fun hc => ?_) | refine Nx.at_splitb rfl rfl rfl rfl (fun hc => ?_) (fun hc => ?_)))
    | ((with_reducible refine Nx.is_mix ?_); first | refine Nx.m ?_ | ((fail_if_success refine Nx.m_quiet_do rfl rfl rfl rfl rfl rfl rfl ?_ ?_); (fail_if_success refine Nx.m_loud_do rfl rfl rfl rfl rfl ?_); first | refine Nx.m_dec_t rfl rfl rfl rfl (by first | assumption | omega) ?_ | refine Nx.m_dec_f rfl rfl rfl rfl (by first | assumption | omega) ?_ | refine Nx.m_split rfl rfl rfl rfl (fun hc => ?_) (fun hc => ?_) | refine Nx.m_splitb rfl rfl rfl rfl (fun hc => ?_) (fun hc => ?_)))
    | ((fail_if_success (with_reducible refine Nx.is_at ?_)); (fail_if_success (with_reducible refine Nx.is_wp ?_)); (fail_if_success (with_reducible refine Nx.is_mix ?_)); first | refine Nx.ex ?_)
  all_goals exact Nx.ret_fn rfl [] ⟨by unfold meetB; first | (simp_all; done) | (simp_all; omega), rfl⟩ (by (exact Ent.auto))
set_option maxRecDepth 10000 in
theorem IndexSh_spec (f : FuncId) (cap : List Value) (p : Shift → Bool) (A : Option Addr) (cp : Nat) (l : List Shift) (I : PH) (hl : Shifts I A cp l) (hcall : callable Try.prog f = true)
    (hp : ∀ x ∈ l, FnSpec Try.prog f (shV x :: cap) I [] (fun v R' => v = .bool (p x) ∧ R' = [])) :
    FnSpec Try.prog 113 [.slice A l.length cp, .func (.func f) #[] cap.toArray] I []
      (fun v R' => ∃ i : Int, v = .int .i64 i ∧ (decide (0 ≤ i) = l.any p) ∧ R' = []) := by
  refine FnSpec.enterP Try.func113 rfl Try.ntmps113 rfl fun w F => ?_
  repeat' first
    | ((with_reducible refine Nx.is_wp ?_); first | refine Nx.wo ?_ | refine Nx.p_dec rfl rfl (fun hc => ?_) (fun hc => ?_) | refine Nx.p_bool rfl rfl (fun hc => ?_) (fun hc => ?_))
    | ((first | refine Nx.at_op rfl rfl ?_ | refine Nx.m_loud rfl rfl rfl ?_ | refine Nx.at_do rfl rfl rfl rfl ?_ | refine Nx.m_loud_do rfl rfl rfl rfl rfl ?_); first | refine Nx.opr rfl rfl ?_ | refine Nx.so ?_ | refine Nx.sb (fun bx => ?_) | refine Nx.sa (fun A2 c2 => ?_))
    | ((with_reducible refine Nx.is_at ?_); first | refine Nx.a ?_ | ((fail_if_success refine Nx.at_do rfl rfl rfl rfl ?_); first | refine Nx.at_dec_t rfl rfl rfl rfl (by first | assumption | omega) ?_ | refine Nx.at_dec_f rfl rfl rfl rfl (by first | assumption | omega) ?_ | refine Nx.at_split rfl rfl rfl rfl (fun hc => ?_) (fun hc => ?_) | refine Nx.at_splitb rfl rfl rfl rfl (fun hc => ?_) (fun hc => ?_)))
    | ((with_reducible refine Nx.is_mix ?_); first | refine Nx.m ?_ | ((fail_if_success refine Nx.m_quiet_do rfl rfl rfl rfl rfl rfl rfl ?_ ?_); (fail_if_success refine Nx.m_loud_do rfl rfl rfl rfl rfl ?_); first | refine Nx.m_dec_t rfl rfl rfl rfl (by first | assumption | omega) ?_ | refine Nx.m_dec_f rfl rfl rfl rfl (by first | assumption | omega) ?_ | refine Nx.m_split rfl rfl rfl rfl (fun hc => ?_) (fun hc => ?_) | refine Nx.m_splitb rfl rfl rfl rfl (fun hc => ?_) (fun hc => ?_)))
    | ((fail_if_success (with_reducible refine Nx.is_at ?_)); (fail_if_success (with_reducible refine Nx.is_wp ?_)); (fail_if_success (with_reducible refine Nx.is_mix ?_)); first | refine Nx.ex ?_)
  have hlen := hl.len
  refine Nx.p_loop (σ := Nat) (fun k => [(0, .slice A l.length cp), (1, .func (.func f) #[] cap.toArray), (7, .int .i64 l.length), (8, .int .i64 (k : Int))])
    (fun _ => [F]) (fun k => k ≤ l.length ∧ (l.take k).any p = false) (fun k => l.length - k) 0 rfl ⟨Nat.zero_le _, by simp⟩ ⟨rfl, rfl, rfl, rfl, trivial⟩ (Ent.refl _) ?_
  rintro k ⟨hk, hnone⟩
  by_cases hlt : k < l.length
  · have hmem : l.getD k default ∈ l := by rw [List.getD_eq_getElem?_getD, List.getElem?_eq_getElem hlt]; exact List.getElem_mem _
    repeat' first
      | ((with_reducible refine Nx.is_wp ?_); first | refine Nx.wo ?_ | refine Nx.p_dec rfl rfl (fun hc => ?_) (fun hc => ?_) | refine Nx.p_bool rfl rfl (fun hc => ?_) (fun hc => ?_))
      | ((first | refine Nx.at_op rfl rfl ?_ | refine Nx.m_loud rfl rfl rfl ?_ | refine Nx.at_do rfl rfl rfl rfl ?_ | refine Nx.m_loud_do rfl rfl rfl rfl rfl ?_); first | refine Nx.opr rfl rfl ?_ | refine Nx.indexAddr_nat rfl rfl rfl rfl rfl (by omega) (hl.isSome (by omega) (by omega)) ?_ | refine Nx.loads rfl rfl rfl rfl (hl.rds (by omega)) rfl ?_ | refine Nx.callv rfl rfl (by simp; rfl) hcall rfl (hp _ hmem) ?_ | refine Nx.so ?_ | refine Nx.sb (fun bx => ?_) | refine Nx.sa (fun A2 c2 => ?_))
      | ((with_reducible refine Nx.is_at ?_); first | refine Nx.a ?_ | ((fail_if_success refine Nx.at_do rfl rfl rfl rfl ?_); first | refine Nx.at_dec_t rfl rfl rfl rfl (by first | assumption | omega) ?_ | refine Nx.at_dec_f rfl rfl rfl rfl (by first | assumption | omega) ?_ | refine Nx.at_split rfl rfl rfl rfl (fun hc => ?_) (fun hc => ?_) | refine Nx.at_splitb rfl rfl rfl rfl (fun hc => ?_) (fun hc => ?_)))
      | ((with_reducible refine Nx.is_mix ?_); first | refine Nx.m ?_ | ((fail_if_success refine Nx.m_quiet_do rfl rfl rfl rfl rfl rfl rfl ?_ ?_); (fail_if_success refine Nx.m_loud_do rfl rfl rfl rfl rfl ?_); first | refine Nx.m_dec_t rfl rfl rfl rfl (by first | assumption | omega) ?_ | refine Nx.m_dec_f rfl rfl rfl rfl (by first | assumption | omega) ?_ | refine Nx.m_split rfl rfl rfl rfl (fun hc => ?_) (fun hc => ?_) | refine Nx.m_splitb rfl rfl rfl rfl (fun hc => ?_) (fun hc => ?_)))
      | ((fail_if_success (with_reducible refine Nx.is_at ?_)); (fail_if_success (with_reducible refine Nx.is_wp ?_)); (fail_if_success (with_reducible refine Nx.is_mix ?_)); first | refine Nx.ex ?_)
    · refine Nx.ret_fn rfl [] ⟨_, rfl, ?_, rfl⟩ (Ent.refl _)
      rw [show decide ((0 : Int) ≤ k) = true by simp, Eq.comm, List.any_eq_true]
      exact ⟨l.getD k default, hmem, hc⟩
    · refine Nx.again (k + 1) ⟨by omega, ?_⟩ (by omega) ⟨rfl, rfl, rfl, rfl, trivial⟩ (Ent.refl _)
      rw [List.take_succ_eq_append_getElem (by omega), List.any_append, hnone]
      have : l[k]'(by omega) = l.getD k default := by rw [List.getD_eq_getElem?_getD, List.getElem?_eq_getElem (by omega)]; rfl
      simp only [this, List.any_cons, List.any_nil, hc, Bool.or_self]
  · obtain rfl : k = l.length := by omega
    repeat' first
      | ((with_reducible refine Nx.is_wp ?_); first | refine Nx.wo ?_ | refine Nx.p_dec rfl rfl (fun hc => ?_) (fun hc => ?_) | refine Nx.p_bool rfl rfl (fun hc => ?_) (fun hc => ?_))
      | ((first | refine Nx.at_op rfl rfl ?_ | refine Nx.m_loud rfl rfl rfl ?_ | refine Nx.at_do rfl rfl rfl rfl ?_ | refine Nx.m_loud_do rfl rfl rfl rfl rfl ?_); first | refine Nx.opr rfl rfl ?_ | refine Nx.so ?_ | refine Nx.sb (fun bx => ?_) | refine Nx.sa (fun A2 c2 => ?_))
      | ((with_reducible refine Nx.is_at ?_); first | refine Nx.a ?_ | ((fail_if_success refine Nx.at_do rfl rfl rfl rfl ?_); first | refine Nx.at_dec_t rfl rfl rfl rfl (by first | assumption | omega) ?_ | refine Nx.at_dec_f rfl rfl rfl rfl (by first | assumption | omega) ?_ | refine Nx.at_split rfl rfl rfl rfl (fun hc => ?_) (fun hc => ?_) | refine Nx.at_splitb rfl rfl rfl rfl (fun hc => ?_) (fun hc => ?_)))
      | ((with_reducible refine Nx.is_mix ?_); first | refine Nx.m ?_ | ((fail_if_success refine Nx.m_quiet_do rfl rfl rfl rfl rfl rfl rfl ?_ ?_); (fail_if_success refine Nx.m_loud_do rfl rfl rfl rfl rfl ?_); first | refine Nx.m_dec_t rfl rfl rfl rfl (by first | assumption | omega) ?_ | refine Nx.m_dec_f rfl rfl rfl rfl (by first | assumption | omega) ?_ | refine Nx.m_split rfl rfl rfl rfl (fun hc => ?_) (fun hc => ?_) | refine Nx.m_splitb rfl rfl rfl rfl (fun hc => ?_) (fun hc => ?_)))
      | ((fail_if_success (with_reducible refine Nx.is_at ?_)); (fail_if_success (with_reducible refine Nx.is_wp ?_)); (fail_if_success (with_reducible refine Nx.is_mix ?_)); first | refine Nx.ex ?_)
    refine Nx.ret_fn rfl [] ⟨_, rfl, ?_, rfl⟩ (Ent.refl _)
    rw [List.take_length] at hnone
    rw [hnone]; rfl
set_option maxRecDepth 10000 in
theorem ContainsSh_spec (f : FuncId) (cap : List Value) (p : Shift → Bool) (A : Option Addr) (cp : Nat) (l : List Shift) (I : PH) (hl : Shifts I A cp l) (hcall : callable Try.prog f = true)
    (hp : ∀ x ∈ l, FnSpec Try.prog f (shV x :: cap) I [] (fun v R' => v = .bool (p x) ∧ R' = [])) :
    FnSpec Try.prog 93 [.slice A l.length cp, .func (.func f) #[] cap.toArray] I []
      (fun v R' => v = .bool (l.any p) ∧ R' = []) := by
  refine FnSpec.enterP Try.func93 rfl Try.ntmps93 rfl fun w F => ?_
  repeat' first
    | ((with_reducible refine Nx.is_wp ?_); first | refine Nx.wo ?_ | refine Nx.p_dec rfl rfl (fun hc => ?_) (fun hc => ?_) | refine Nx.p_bool rfl rfl (fun hc => ?_) (fun hc => ?_))
    | ((first | refine Nx.at_op rfl rfl ?_ | refine Nx.m_loud rfl rfl rfl ?_ | refine Nx.at_do rfl rfl rfl rfl ?_ | refine Nx.m_loud_do rfl rfl rfl rfl rfl ?_); first | refine Nx.opr rfl rfl ?_ | refine Nx.so ?_ | refine Nx.sb (fun bx => ?_) | refine Nx.sa (fun A2 c2 => ?_))
    | ((with_reducible refine Nx.is_at ?_); first | refine Nx.a ?_ | ((fail_if_success refine Nx.at_do rfl rfl rfl rfl ?_); first | refine Nx.at_dec_t rfl rfl rfl rfl (by first | assumption | omega) ?_ | refine Nx.at_dec_f rfl rfl rfl rfl (by first | assumption | omega) ?_ | refine Nx.at_split rfl rfl rfl rfl (fun hc => ?_) (fun hc => ?_) | refine Nx.at_splitb rfl rfl rfl rfl (fun hc => ?_) (fun hc => ?_)))
    | ((with_reducible refine Nx.is_mix ?_); first | refine Nx.m ?_ | ((fail_if_success refine Nx.m_quiet_do rfl rfl rfl rfl rfl rfl rfl ?_ ?_); (fail_if_success refine Nx.m_loud_do rfl rfl rfl rfl rfl ?_); first | refine Nx.m_dec_t rfl rfl rfl rfl (by first | assumption | omega) ?_ | refine Nx.m_dec_f rfl rfl rfl rfl (by first | assumption | omega) ?_ | refine Nx.m_split rfl rfl rfl rfl (fun hc => ?_) (fun hc => ?_) | refine Nx.m_splitb rfl rfl rfl rfl (fun hc => ?_) (fun hc => ?_)))
    | ((fail_if_success (with_reducible refine Nx.is_at ?_)); (fail_if_success (with_reducible refine Nx.is_wp ?_)); (fail_if_success (with_reducible refine Nx.is_mix ?_)); first | refine Nx.ex ?_)
  refine Nx.at_op rfl rfl ?_
  refine Nx.call rfl rfl rfl (by kernel_rfl) rfl (IndexSh_spec f cap p A cp l I hl hcall hp) (Ent.refl _) ?_
  rintro v R' ⟨i, rfl, hi, rfl⟩
  repeat' first
    | ((with_reducible refine Nx.is_wp ?_); first | refine Nx.wo ?_ | refine Nx.p_dec rfl rfl (fun hc => ?_) (fun hc => ?_) | refine Nx.p_bool rfl rfl (fun hc => ?_) (fun hc => ?_))
    | ((first | refine Nx.at_op rfl rfl ?_ | refine Nx.m_loud rfl rfl rfl ?_ | refine Nx.at_do rfl rfl rfl rfl ?_ | refine Nx.m_loud_do rfl rfl rfl rfl rfl ?_); first | refine Nx.opr rfl rfl ?_ | refine Nx.so ?_ | refine Nx.sb (fun bx => ?_) | refine Nx.sa (fun A2 c2 => ?_))
    | ((with_reducible refine Nx.is_at ?_); first | refine Nx.a ?_ | ((fail_if_success refine Nx.at_do rfl rfl rfl rfl ?_); first | refine Nx.at_dec_t rfl rfl rfl rfl (by first | assumption | omega) ?_ | refine Nx.at_dec_f rfl rfl rfl rfl (by first | assumption | omega) ?_ | refine Nx.at_split rfl rfl rfl rfl (fun hc => ?_) (fun hc => ?_) | refine Nx.at_splitb rfl rfl rfl rfl (fun hc => ?_) (fun hc => ?_)))
    | ((with_reducible refine Nx.is_mix ?_); first | refine Nx.m ?_ | ((fail_if_success refine Nx.m_quiet_do rfl rfl rfl rfl rfl rfl rfl ?_ ?_); (fail_if_success refine Nx.m_loud_do rfl rfl rfl rfl rfl ?_); first | refine Nx.m_dec_t rfl rfl rfl rfl (by first | assumption | omega) ?_ | refine Nx.m_dec_f rfl rfl rfl rfl (by first | assumption | omega) ?_ | refine Nx.m_split rfl rfl rfl rfl (fun hc => ?_) (fun hc => ?_) | refine Nx.m_splitb rfl rfl rfl rfl (fun hc => ?_) (fun hc => ?_)))
    | ((fail_if_success (with_reducible refine Nx.is_at ?_)); (fail_if_success (with_reducible refine Nx.is_wp ?_)); (fail_if_success (with_reducible refine Nx.is_mix ?_)); first | refine Nx.ex ?_)
  exact Nx.ret_fn rfl [] ⟨by rw [← hi], rfl⟩ (Ent.refl _)
set_option maxRecDepth 10000 in
theorem overlaps_spec (A : Option Addr) (c : Nat) (l : List Shift) (x : Shift) (I : PH) (hl : Shifts I A c l) :
    FnSpec Try.prog 72 [.slice A l.length c, shV x] I [] (fun v R' => v = .bool (meetsB l x) ∧ R' = []) := by
  refine FnSpec.enterP Try.func72 rfl Try.ntmps72 rfl fun w F => ?_
  repeat' first
    | ((with_reducible refine Nx.is_wp ?_); first | refine Nx.wo ?_ | refine Nx.p_dec rfl rfl (fun hc => ?_) (fun hc => ?_) | refine Nx.p_bool rfl rfl (fun hc => ?_) (fun hc => ?_))
    | ((first | refine Nx.at_op rfl rfl ?_ | refine Nx.m_loud rfl rfl rfl ?_ | refine Nx.at_do rfl rfl rfl rfl ?_ | refine Nx.m_loud_do rfl rfl rfl rfl rfl ?_); first | refine Nx.opr rfl rfl ?_ | refine Nx.so ?_ | refine Nx.sb (fun bx => ?_) | refine Nx.sa (fun A2 c2 => ?_))
    | ((with_reducible refine Nx.is_at ?_); first | refine Nx.a ?_ | ((fail_if_success refine Nx.at_do rfl rfl rfl rfl ?_); first | refine Nx.at_dec_t rfl rfl rfl rfl (by first | assumption | omega) ?_ | refine Nx.at_dec_f rfl rfl rfl rfl (by first | assumption | omega) ?_ | refine Nx.at_split rfl rfl rfl rfl (fun hc => ?_) (fun hc => ?_) | refine Nx.at_splitb rfl rfl rfl rfl (fun hc => ?_) (fun hc => ?_)))
    | ((with_reducible refine Nx.is_mix ?_); first | refine Nx.m ?_ | ((fail_if_success refine Nx.m_quiet_do rfl rfl rfl rfl rfl rfl rfl ?_ ?_); (fail_if_success refine Nx.m_loud_do rfl rfl rfl rfl rfl ?_); first | refine Nx.m_dec_t rfl rfl rfl rfl (by first | assumption | omega) ?_ | refine Nx.m_dec_f rfl rfl rfl rfl (by first | assumption | omega) ?_ | refine Nx.m_split rfl rfl rfl rfl (fun hc => ?_) (fun hc => ?_) | refine Nx.m_splitb rfl rfl rfl rfl (fun hc => ?_) (fun hc => ?_)))
    | ((fail_if_success (with_reducible refine Nx.is_at ?_)); (fail_if_success (with_reducible refine Nx.is_wp ?_)); (fail_if_success (with_reducible refine Nx.is_mix ?_)); first | refine Nx.ex ?_)
  refine Nx.freezeAt 0 rfl fun I1 m1 hI1 hm1 h1 => ?_
  have hb : ∀ (W : World) (R : List Res) (k : Nat) (v : Value), nthL (shC x) k = some v → Rd W I1 R ⟨bx, k, none⟩ v := fun W R k v hk => by
    exact Rd.imm (cellH_mono hm1 (Blk.cell h1 hk))
  repeat' first
    | ((with_reducible refine Nx.is_wp ?_); first | refine Nx.wo ?_ | refine Nx.p_dec rfl rfl (fun hc => ?_) (fun hc => ?_) | refine Nx.p_bool rfl rfl (fun hc => ?_) (fun hc => ?_))
    | ((first | refine Nx.at_op rfl rfl ?_ | refine Nx.m_loud rfl rfl rfl ?_ | refine Nx.at_do rfl rfl rfl rfl ?_ | refine Nx.m_loud_do rfl rfl rfl rfl rfl ?_); first | refine Nx.opr rfl rfl ?_ | refine Nx.callv rfl rfl rfl (by kernel_rfl) rfl (ContainsSh_spec 94 [.pointer (some ⟨bx, 0, none⟩)] (fun y => meetB y x) A c l I1 (hl.mono hI1) (by kernel_rfl) (fun y _ => meet_spec bx x y I1 hb)) ?_ | refine Nx.so ?_ | refine Nx.sb (fun bx => ?_) | refine Nx.sa (fun A2 c2 => ?_))
    | ((with_reducible refine Nx.is_at ?_); first | refine Nx.a ?_ | ((fail_if_success refine Nx.at_do rfl rfl rfl rfl ?_); first | refine Nx.at_dec_t rfl rfl rfl rfl (by first | assumption | omega) ?_ | refine Nx.at_dec_f rfl rfl rfl rfl (by first | assumption | omega) ?_ | refine Nx.at_split rfl rfl rfl rfl (fun hc => ?_) (fun hc => ?_) | refine Nx.at_splitb rfl rfl rfl rfl (fun hc => ?_) (fun hc => ?_)))
    | ((with_reducible refine Nx.is_mix ?_); first | refine Nx.m ?_ | ((fail_if_success refine Nx.m_quiet_do rfl rfl rfl rfl rfl rfl rfl ?_ ?_); (fail_if_success refine Nx.m_loud_do rfl rfl rfl rfl rfl ?_); first | refine Nx.m_dec_t rfl rfl rfl rfl (by first | assumption | omega) ?_ | refine Nx.m_dec_f rfl rfl rfl rfl (by first | assumption | omega) ?_ | refine Nx.m_split rfl rfl rfl rfl (fun hc => ?_) (fun hc => ?_) | refine Nx.m_splitb rfl rfl rfl rfl (fun hc => ?_) (fun hc => ?_)))
    | ((fail_if_success (with_reducible refine Nx.is_at ?_)); (fail_if_success (with_reducible refine Nx.is_wp ?_)); (fail_if_success (with_reducible refine Nx.is_mix ?_)); first | refine Nx.ex ?_)
  exact Nx.imm_le hI1 (Nx.ret_fn rfl [] ⟨rfl, rfl⟩ (by (exact Ent.auto)))
set_option maxRecDepth 10000 in
theorem meets_spec (A : Option Addr) (c : Nat) (l : List Shift) (x : Shift) (I : PH) (hl : Shifts I A c l) :
    FnSpec Try.prog 79 [.slice A l.length c, shV x] I [] (fun v R' => v = .bool (meetsB l x) ∧ R' = []) := by
  have hlen := hl.len
  refine FnSpec.enterP Try.func79 rfl Try.ntmps79 rfl fun w F => ?_
  repeat' first
    | ((with_reducible refine Nx.is_wp ?_); first | refine Nx.wo ?_ | refine Nx.p_dec rfl rfl (fun hc => ?_) (fun hc => ?_) | refine Nx.p_bool rfl rfl (fun hc => ?_) (fun hc => ?_))
    | ((first | refine Nx.at_op rfl rfl ?_ | refine Nx.m_loud rfl rfl rfl ?_ | refine Nx.at_do rfl rfl rfl rfl ?_ | refine Nx.m_loud_do rfl rfl rfl rfl rfl ?_); first | refine Nx.opr rfl rfl ?_ | refine Nx.so ?_ | refine Nx.sb (fun bx => ?_) | refine Nx.sa (fun A2 c2 => ?_))
    | ((with_reducible refine Nx.is_at ?_); first | refine Nx.a ?_ | ((fail_if_success refine Nx.at_do rfl rfl rfl rfl ?_); first | refine Nx.at_dec_t rfl rfl rfl rfl (by first | assumption | omega) ?_ | refine Nx.at_dec_f rfl rfl rfl rfl (by first | assumption | omega) ?_ | refine Nx.at_split rfl rfl rfl rfl (fun hc => ?_) (fun hc => ?_) | refine Nx.at_splitb rfl rfl rfl rfl (fun hc => ?_) (fun hc => ?_)))
    | ((with_reducible refine Nx.is_mix ?_); first | refine Nx.m ?_ | ((fail_if_success refine Nx.m_quiet_do rfl rfl rfl rfl rfl rfl rfl ?_ ?_); (fail_if_success refine Nx.m_loud_do rfl rfl rfl rfl rfl ?_); first | refine Nx.m_dec_t rfl rfl rfl rfl (by first | assumption | omega) ?_ | refine Nx.m_dec_f rfl rfl rfl rfl (by first | assumption | omega) ?_ | refine Nx.m_split rfl rfl rfl rfl (fun hc => ?_) (fun hc => ?_) | refine Nx.m_splitb rfl rfl rfl rfl (fun hc => ?_) (fun hc => ?_)))
    | ((fail_if_success (with_reducible refine Nx.is_at ?_)); (fail_if_success (with_reducible refine Nx.is_wp ?_)); (fail_if_success (with_reducible refine Nx.is_mix ?_)); first | refine Nx.ex ?_)
  revert bx; intro b3
  refine Nx.p_loop (σ := Nat) (fun k => [(3, .pointer (some ⟨b3, 0, none⟩)), (7, .slice A l.length c), (8, .int .i64 l.length), (9, .int .i64 (k : Int))])
    (fun _ => [Blk b3 40 (shC x), F]) (fun k => k ≤ l.length ∧ meetsB (l.take k) x = false) (fun k => l.length - k) 0 rfl ⟨Nat.zero_le _, by simp [meetsB]⟩ ⟨rfl, rfl, rfl, rfl, trivial⟩ (by (exact Ent.auto)) ?_
  rintro k ⟨hk, hnone⟩
  by_cases hlt : k < l.length
  · have hmem : l.getD k default ∈ l := by rw [List.getD_eq_getElem?_getD, List.getElem?_eq_getElem hlt]; exact List.getElem_mem _
    have hnext : meetsB (l.take (k + 1)) x = meetB (l.getD k default) x := by
      unfold meetsB at hnone ⊢
      rw [List.take_succ_eq_append_getElem (by omega), List.any_append, hnone]
      have : l[k]'(by omega) = l.getD k default := by rw [List.getD_eq_getElem?_getD, List.getElem?_eq_getElem (by omega)]; rfl
      simp [this]
    have hall : meetB (l.getD k default) x = true → meetsB l x = true := fun h => List.any_eq_true.2 ⟨_, hmem, h⟩
    repeat' first
      | ((with_reducible refine Nx.is_wp ?_); first | refine Nx.wo ?_ | refine Nx.p_dec rfl rfl (fun hc => ?_) (fun hc => ?_) | refine Nx.p_bool rfl rfl (fun hc => ?_) (fun hc => ?_))
      | ((first | refine Nx.at_op rfl rfl ?_ | refine Nx.m_loud rfl rfl rfl ?_ | refine Nx.at_do rfl rfl rfl rfl ?_ | refine Nx.m_loud_do rfl rfl rfl rfl rfl ?_); first | refine Nx.opr rfl rfl ?_ | refine Nx.indexAddr_nat rfl rfl rfl rfl rfl (by omega) (hl.isSome (by omega) (by omega)) ?_ | refine Nx.loads rfl rfl rfl rfl (hl.rds (by omega)) rfl ?_ | refine Nx.binr rfl rfl run_eql_s rfl ?_ | refine Nx.so ?_ | refine Nx.sb (fun bx => ?_) | refine Nx.sa (fun A2 c2 => ?_))
      | ((with_reducible refine Nx.is_at ?_); first | refine Nx.a ?_ | ((fail_if_success refine Nx.at_do rfl rfl rfl rfl ?_); first | refine Nx.at_dec_t rfl rfl rfl rfl (by first | assumption | omega) ?_ | refine Nx.at_dec_f rfl rfl rfl rfl (by first | assumption | omega) ?_ | refine Nx.at_split rfl rfl rfl rfl (fun hc => ?_) (fun hc => ?_) | refine Nx.at_splitb rfl rfl rfl rfl (fun hc => ?_) (fun hc => ?_)))
      | ((with_reducible refine Nx.is_mix ?_); first | refine Nx.m ?_ | ((fail_if_success refine Nx.m_quiet_do rfl rfl rfl rfl rfl rfl rfl ?_ ?_); (fail_if_success refine Nx.m_loud_do rfl rfl rfl rfl rfl ?_); first | refine Nx.m_dec_t rfl rfl rfl rfl (by first | assumption | omega) ?_ | refine Nx.m_dec_f rfl rfl rfl rfl (by first | assumption | omega) ?_ | refine Nx.m_split rfl rfl rfl rfl (fun hc => ?_) (fun hc => ?_) | refine Nx.m_splitb rfl rfl rfl rfl (fun hc => ?_) (fun hc => ?_)))
      | ((fail_if_success (with_reducible refine Nx.is_at ?_)); (fail_if_success (with_reducible refine Nx.is_wp ?_)); (fail_if_success (with_reducible refine Nx.is_mix ?_)); first | refine Nx.ex ?_)
    all_goals first
      | exact Nx.ret_fn rfl [] ⟨by rw [hall (by unfold meetB; simp_all)], rfl⟩ (by (exact Ent.auto))
      | exact Nx.again (k + 1) ⟨hlt, by rw [hnext]; unfold meetB; first | (simp_all; done) | (simp_all; omega)⟩ (by omega) ⟨rfl, rfl, rfl, rfl, trivial⟩ (by (exact Ent.auto))
  · obtain rfl : k = l.length := by omega
    rw [List.take_length] at hnone
    repeat' first
      | ((with_reducible refine Nx.is_wp ?_); first | refine Nx.wo ?_ | refine Nx.p_dec rfl rfl (fun hc => ?_) (fun hc => ?_) | refine Nx.p_bool rfl rfl (fun hc => ?_) (fun hc => ?_))
      | ((first | refine Nx.at_op rfl rfl ?_ | refine Nx.m_loud rfl rfl rfl ?_ | refine Nx.at_do rfl rfl rfl rfl ?_ | refine Nx.m_loud_do rfl rfl rfl rfl rfl ?_); first | refine Nx.opr rfl rfl ?_ | refine Nx.so ?_ | refine Nx.sb (fun bx => ?_) | refine Nx.sa (fun A2 c2 => ?_))
      | ((with_reducible refine Nx.is_at ?_); first | refine Nx.a ?_ | ((fail_if_success refine Nx.at_do rfl rfl rfl rfl ?_); first | refine Nx.at_dec_t rfl rfl rfl rfl (by first | assumption | omega) ?_ | refine Nx.at_dec_f rfl rfl rfl rfl (by first | assumption | omega) ?_ | refine Nx.at_split rfl rfl rfl rfl (fun hc => ?_) (fun hc => ?_) | refine Nx.at_splitb rfl rfl rfl rfl (fun hc => ?_) (fun hc => ?_)))
      | ((with_reducible refine Nx.is_mix ?_); first | refine Nx.m ?_ | ((fail_if_success refine Nx.m_quiet_do rfl rfl rfl rfl rfl rfl rfl ?_ ?_); (fail_if_success refine Nx.m_loud_do rfl rfl rfl rfl rfl ?_); first | refine Nx.m_dec_t rfl rfl rfl rfl (by first | assumption | omega) ?_ | refine Nx.m_dec_f rfl rfl rfl rfl (by first | assumption | omega) ?_ | refine Nx.m_split rfl rfl rfl rfl (fun hc => ?_) (fun hc => ?_) | refine Nx.m_splitb rfl rfl rfl rfl (fun hc => ?_) (fun hc => ?_)))
      | ((fail_if_success (with_reducible refine Nx.is_at ?_)); (fail_if_success (with_reducible refine Nx.is_wp ?_)); (fail_if_success (with_reducible refine Nx.is_mix ?_)); first | refine Nx.ex ?_)
    exact Nx.ret_fn rfl [] ⟨by rw [hnone], rfl⟩ (by (exact Ent.auto))
end Go.Proofs.Ytaoeapmdhpkidaa
/-
  The proof engine, part O: slicing where the order is open.
-/
namespace Go.Eng
variable {C : Cx} {e : Env} {S : World → Prop} {ty t el : TypeId} {pos : String} {after : Array Edge} {g : Option (Nat × Bool)} {x y : Operand} {A : Option Addr} {n c : Nat} {dst : Option Tmp}
theorem QRun.slice_hi {k : IntKind} {h sz : Nat} (hx : evo e x = some (.slice A n c)) (hy : evo e y = some (.int k (h : Int))) (ht : C.P.underlying t = some (.slice el)) (hsz : cellsIn C.P el = some sz) (h2 : h ≤ c) :
    QRun C e S ⟨dst, .slice t x none (some y) none, ty, pos, after, g⟩ (.slice A h c) := fun a w ha _ => by
  simp only [execOp, ha.eval hx, ha.eval hy, Option.map_some, Option.map_none]
  refine run_v ?_
  have := run_slice_of (A := A) (n := n) (c := c) (lo := none) (hi := some (.int k (h : Int))) (l := 0) (h := h) ht hsz w (by simp [Instr.sliceBounds, run_sliceBound, h2])
  rw [offA_zero] at this
  exact this
theorem QRun.slice_lo {k : IntKind} {l sz : Nat} (hx : evo e x = some (.slice A n c)) (hy : evo e y = some (.int k (l : Int))) (ht : C.P.underlying t = some (.slice el)) (hsz : cellsIn C.P el = some sz) (h2 : l ≤ n) :
    QRun C e S ⟨dst, .slice t x (some y) none none, ty, pos, after, g⟩ (.slice (offA A c l sz) (n - l) (c - l)) := fun a w ha _ => by
  simp only [execOp, ha.eval hx, ha.eval hy, Option.map_some, Option.map_none]
  refine run_v ?_
  exact run_slice_of (A := A) (n := n) (c := c) (lo := some (.int k (l : Int))) (hi := none) (l := l) (h := n) ht hsz w (by simp [Instr.sliceBounds, run_sliceBound, h2])
end Go.Eng
/- Contracts of functions of the given program, and lemmas about plain lists and numbers: what the laws of this seat lean on. -/
namespace Go.Proofs.Ytaoeapmdhpkidaa
open Go.Eng
attribute [local irreducible] opK wpList Code.wp Exit.then Exit.inBlock fnPost bodyPost Nx Calls Oper.wp Rd Rds Wr Ent Stars Blk Again Vec FnSpec wpMix QRun Stop Upto wpAt
/-- The first error of a rota from number k on. -/
def checkAt (l : List Shift) (k : Nat) : Int :=
  if singleE (l.getD k default) ≠ 0 then singleE (l.getD k default)
  else if 0 < k ∧ beforeB (l.getD (k - 1) default) (l.getD k default) = false then 11
  else if meetsB (l.take k) (l.getD k default) = true then 46 else 0
def checkN (l : List Shift) : Nat → Int
  | 0 => 0
  | k + 1 => if checkN l k ≠ 0 then checkN l k else checkAt l k
def checkE (l : List Shift) : Int := if 60 < l.length then 1 else checkN l l.length
theorem checkN_stop {l : List Shift} {k : Nat} (h0 : checkN l k = 0) (h : checkAt l k ≠ 0) : ∀ n, k < n → checkN l n = checkAt l k
  | 0, hn => by omega
  | n + 1, hn => by
    unfold checkN
    by_cases hk : k = n
    · subst hk
      rw [if_neg (by omega)]
    · rw [checkN_stop h0 h n (by omega), if_pos h]
theorem cmpSh_before (a b : Shift) : decide (0 ≤ cmpSh a b) = !(beforeB a b) := by
  unfold cmpSh beforeB cmpI cmpS
  by_cases h1 : a.2.1 < b.2.1
  · simp [h1]
  · by_cases h2 : b.2.1 < a.2.1
    · have h3 : ¬ a.2.1 = b.2.1 := by omega
      simp [h1, h2, h3]
    · have h3 : a.2.1 = b.2.1 := by omega
      simp [h3]
      cases strLt a.1 b.1 <;> simp
      by_cases h4 : a.1 = b.1 <;> simp [h4]
theorem sh_mem {l : List Shift} {k : Nat} (h : k < l.length) : l.getD k default ∈ l := by
  rw [List.getD_eq_getElem?_getD, List.getElem?_eq_getElem h]; exact List.getElem_mem _
theorem shifts_take {α : Type} {f : α → List Value} {sz : Nat} {I : PH} {A : Option Addr} {c : Nat} {l : List α} (h : SliceN f sz I A c l) (k : Nat) : SliceN f sz I A c (l.take k) := by
  refine ⟨fun j u hj => ?_, by have := h.cap; rw [List.length_take]; omega, h.max, fun x hx => h.cells x (List.mem_of_mem_take hx)⟩
  refine h.arr j u ?_
  have e : l.flatMap f = (l.take k).flatMap f ++ (l.drop k).flatMap f := by rw [← List.flatMap_append, List.take_append_drop]
  rw [e, List.getElem?_append_left (List.getElem?_eq_some_iff.1 hj).1]
  exact hj
set_option maxHeartbeats 2000000 in
set_option maxRecDepth 10000 in
theorem Check_spec (A : Option Addr) (c : Nat) (l : List Shift) (I : PH) (hl : Shifts I A c l) (ho : ∀ x ∈ l, shOk x) :
    FnSpec Try.prog 44 [.slice A l.length c] I [] (fun v R' => v = .int .i64 (checkE l) ∧ R' = []) := by
  have hlen := hl.len
  have hcap := hl.cap
  by_cases h60 : 60 < l.length
  · have e : checkE l = 1 := by unfold checkE; rw [if_pos h60]
    rw [e]
    refine FnSpec.enterP Try.func44 rfl Try.ntmps44 rfl fun w F => ?_
    repeat' first
      | ((with_reducible refine Nx.is_wp ?_); first | refine Nx.wo ?_ | refine Nx.p_dec rfl rfl (fun hc => ?_) (fun hc => ?_) | refine Nx.p_bool rfl rfl (fun hc => ?_) (fun hc => ?_))
      | ((first | refine Nx.at_op rfl rfl ?_ | refine Nx.m_loud rfl rfl rfl ?_ | refine Nx.at_do rfl rfl rfl rfl ?_ | refine Nx.m_loud_do rfl rfl rfl rfl rfl ?_); first | refine Nx.opr rfl rfl ?_ | refine Nx.so ?_ | refine Nx.sb (fun bx => ?_) | refine Nx.sa (fun A2 c2 => ?_))
      | ((with_reducible refine Nx.is_at ?_); first | refine Nx.a ?_ | ((fail_if_success refine Nx.at_do rfl rfl rfl rfl ?_); first | refine Nx.at_dec_t rfl rfl rfl rfl (by first | assumption | omega) ?_ | refine Nx.at_dec_f rfl rfl rfl rfl (by first | assumption | omega) ?_ | refine Nx.at_split rfl rfl rfl rfl (fun hc => ?_) (fun hc => ?_) | refine Nx.at_splitb rfl rfl rfl rfl (fun hc => ?_) (fun hc => ?_)))
      | ((with_reducible refine Nx.is_mix ?_); first | refine Nx.m ?_ | ((fail_if_success refine Nx.m_quiet_do rfl rfl rfl rfl rfl rfl rfl ?_ ?_); (fail_if_success refine Nx.m_loud_do rfl rfl rfl rfl rfl ?_); first | refine Nx.m_dec_t rfl rfl rfl rfl (by first | assumption | omega) ?_ | refine Nx.m_dec_f rfl rfl rfl rfl (by first | assumption | omega) ?_ | refine Nx.m_split rfl rfl rfl rfl (fun hc => ?_) (fun hc => ?_) | refine Nx.m_splitb rfl rfl rfl rfl (fun hc => ?_) (fun hc => ?_)))
      | ((fail_if_success (with_reducible refine Nx.is_at ?_)); (fail_if_success (with_reducible refine Nx.is_wp ?_)); (fail_if_success (with_reducible refine Nx.is_mix ?_)); first | refine Nx.ex ?_)
    exact Nx.ret_fn rfl [] ⟨rfl, rfl⟩ (by (exact Ent.auto))
  · have e : checkE l = checkN l l.length := by unfold checkE; rw [if_neg h60]
    rw [e]
    refine FnSpec.enterP Try.func44 rfl Try.ntmps44 rfl fun w F => ?_
    repeat' first
      | ((with_reducible refine Nx.is_wp ?_); first | refine Nx.wo ?_ | refine Nx.p_dec rfl rfl (fun hc => ?_) (fun hc => ?_) | refine Nx.p_bool rfl rfl (fun hc => ?_) (fun hc => ?_))
      | ((first | refine Nx.at_op rfl rfl ?_ | refine Nx.m_loud rfl rfl rfl ?_ | refine Nx.at_do rfl rfl rfl rfl ?_ | refine Nx.m_loud_do rfl rfl rfl rfl rfl ?_); first | refine Nx.opr rfl rfl ?_ | refine Nx.so ?_ | refine Nx.sb (fun bx => ?_) | refine Nx.sa (fun A2 c2 => ?_))
      | ((with_reducible refine Nx.is_at ?_); first | refine Nx.a ?_ | ((fail_if_success refine Nx.at_do rfl rfl rfl rfl ?_); first | refine Nx.at_dec_t rfl rfl rfl rfl (by first | assumption | omega) ?_ | refine Nx.at_dec_f rfl rfl rfl rfl (by first | assumption | omega) ?_ | refine Nx.at_split rfl rfl rfl rfl (fun hc => ?_) (fun hc => ?_) | refine Nx.at_splitb rfl rfl rfl rfl (fun hc => ?_) (fun hc => ?_)))
      | ((with_reducible refine Nx.is_mix ?_); first | refine Nx.m ?_ | ((fail_if_success refine Nx.m_quiet_do rfl rfl rfl rfl rfl rfl rfl ?_ ?_); (fail_if_success refine Nx.m_loud_do rfl rfl rfl rfl rfl ?_); first | refine Nx.m_dec_t rfl rfl rfl rfl (by first | assumption | omega) ?_ | refine Nx.m_dec_f rfl rfl rfl rfl (by first | assumption | omega) ?_ | refine Nx.m_split rfl rfl rfl rfl (fun hc => ?_) (fun hc => ?_) | refine Nx.m_splitb rfl rfl rfl rfl (fun hc => ?_) (fun hc => ?_)))
      | ((fail_if_success (with_reducible refine Nx.is_at ?_)); (fail_if_success (with_reducible refine Nx.is_wp ?_)); (fail_if_success (with_reducible refine Nx.is_mix ?_)); first | refine Nx.ex ?_)
    refine Nx.p_loop (σ := Nat) (fun k => [(0, .slice A l.length c), (9, .slice A l.length c), (10, .int .i64 l.length), (11, .int .i64 (k : Int))])
      (fun _ => [F]) (fun k => k ≤ l.length ∧ checkN l k = 0) (fun k => l.length - k) 0 rfl ⟨Nat.zero_le _, rfl⟩ ⟨rfl, rfl, rfl, rfl, trivial⟩ (by (exact Ent.auto)) ?_
    rintro k ⟨hk, h0⟩
    by_cases hlt : k < l.length
    · have hstop := fun h => checkN_stop h0 h l.length hlt
      have hgo : checkAt l k = 0 → checkN l (k + 1) = 0 := fun h => by
        show (if _ then _ else _) = _
        rw [h0, if_neg (by omega), h]
      have hx := ho _ (sh_mem hlt)
      have hxp := fun h : 0 < k => ho _ (sh_mem (l := l) (k := k - 1) (by omega))
      have htl : (l.take k).length = k := by rw [List.length_take]; omega
      have htk := shifts_take hl k
      repeat' first
        | ((with_reducible refine Nx.is_wp ?_); first | refine Nx.wo ?_ | refine Nx.p_dec rfl rfl (fun hc => ?_) (fun hc => ?_) | refine Nx.p_bool rfl rfl (fun hc => ?_) (fun hc => ?_))
        | ((first | refine Nx.at_op rfl rfl ?_ | refine Nx.m_loud rfl rfl rfl ?_ | refine Nx.at_do rfl rfl rfl rfl ?_ | refine Nx.m_loud_do rfl rfl rfl rfl rfl ?_); first | refine Nx.opr rfl rfl ?_ | refine Nx.indexAddr_nat rfl rfl rfl rfl rfl (by omega) (hl.isSome (by omega) (by omega)) ?_ | refine Nx.loads rfl rfl rfl rfl (hl.rds (by omega)) rfl ?_ | refine Nx.callv rfl rfl rfl (by kernel_rfl) rfl (single_spec _ hx I) ?_ | refine Nx.so ?_ | refine Nx.sb (fun bx => ?_) | refine Nx.sa (fun A2 c2 => ?_))
        | ((with_reducible refine Nx.is_at ?_); first | refine Nx.a ?_ | ((fail_if_success refine Nx.at_do rfl rfl rfl rfl ?_); first | refine Nx.at_dec_t rfl rfl rfl rfl (by first | assumption | omega) ?_ | refine Nx.at_dec_f rfl rfl rfl rfl (by first | assumption | omega) ?_ | refine Nx.at_split rfl rfl rfl rfl (fun hc => ?_) (fun hc => ?_) | refine Nx.at_splitb rfl rfl rfl rfl (fun hc => ?_) (fun hc => ?_)))
        | ((with_reducible refine Nx.is_mix ?_); first | refine Nx.m ?_ | ((fail_if_success refine Nx.m_quiet_do rfl rfl rfl rfl rfl rfl rfl ?_ ?_); (fail_if_success refine Nx.m_loud_do rfl rfl rfl rfl rfl ?_); first | refine Nx.m_dec_t rfl rfl rfl rfl (by first | assumption | omega) ?_ | refine Nx.m_dec_f rfl rfl rfl rfl (by first | assumption | omega) ?_ | refine Nx.m_split rfl rfl rfl rfl (fun hc => ?_) (fun hc => ?_) | refine Nx.m_splitb rfl rfl rfl rfl (fun hc => ?_) (fun hc => ?_)))
        | ((fail_if_success (with_reducible refine Nx.is_at ?_)); (fail_if_success (with_reducible refine Nx.is_wp ?_)); (fail_if_success (with_reducible refine Nx.is_mix ?_)); first | refine Nx.ex ?_)
      · have hc' : singleE (l.getD k default) ≠ 0 := hc
        have hca : checkAt l k = singleE (l.getD k default) := by unfold checkAt; rw [if_pos hc']
        exact Nx.ret_fn rfl [] ⟨by rw [hstop (by rw [hca]; exact hc'), hca], rfl⟩ (by (exact Ent.auto))
      · have hs0 : singleE (l.getD k default) = 0 := by simpa using hc
        have hkn : 0 < k → ((k : Int) - 1).toNat = k - 1 := fun h => by omega
        have hov := overlaps_spec A c (l.take k) (l.getD k default) I htk
        rw [htl] at hov
        by_cases hbf : 0 < k ∧ beforeB (l.getD (k - 1) default) (l.getD k default) = false
        · have hca : checkAt l k = 11 := by unfold checkAt; rw [if_neg (by omega), if_pos hbf]
          have hcm : 0 ≤ cmpSh (l.getD ((k : Int) - 1).toNat default) (l.getD k default) := by
            rw [hkn hbf.1]
            have := cmpSh_before (l.getD (k - 1) default) (l.getD k default)
            rw [hbf.2] at this
            simpa using this
          have hk0 := hbf.1
          repeat' first
            | ((with_reducible refine Nx.is_wp ?_); first | refine Nx.wo ?_ | refine Nx.p_draw (id := 9) rfl [0, 1, 2, 3, 4, 5, 6, 7, 8, 9, 10, 11] [9] _ rfl rfl (by kernel_rfl) (by kernel_rfl) rfl (by repeat first | exact PanicOk.fn | refine PanicOk.then_ ?_ | refine PanicOk.inB ?_) (Ent.refl _) ?_ | refine Nx.p_draw (id := 11) rfl [0, 1, 2, 3, 4] [4] _ rfl rfl (by kernel_rfl) (by kernel_rfl) rfl (by repeat first | exact PanicOk.fn | refine PanicOk.then_ ?_ | refine PanicOk.inB ?_) (Ent.refl _) ?_ | refine Nx.p_dec rfl rfl (fun hc => ?_) (fun hc => ?_) | refine Nx.p_bool rfl rfl (fun hc => ?_) (fun hc => ?_))
            | ((first | refine Nx.at_op rfl rfl ?_ | refine Nx.m_loud rfl rfl rfl ?_ | refine Nx.at_do rfl rfl rfl rfl ?_ | refine Nx.m_loud_do rfl rfl rfl rfl rfl ?_); first | refine Nx.opr rfl rfl ?_ | refine Nx.callv rfl rfl rfl (by kernel_rfl) rfl (compare_spec (l.getD ((k : Int) - 1).toNat default) (l.getD k default) I) ?_ | refine Nx.so ?_ | refine Nx.sb (fun bx => ?_) | refine Nx.sa (fun A2 c2 => ?_))
            | ((with_reducible refine Nx.is_at ?_); first | refine Nx.a ?_ | ((fail_if_success refine Nx.at_do rfl rfl rfl rfl ?_); first | refine Nx.at_dec_t rfl rfl rfl rfl (by first | assumption | omega) ?_ | refine Nx.at_dec_f rfl rfl rfl rfl (by first | assumption | omega) ?_ | refine Nx.at_split rfl rfl rfl rfl (fun hc => ?_) (fun hc => ?_) | refine Nx.at_splitb rfl rfl rfl rfl (fun hc => ?_) (fun hc => ?_)))
            | ((with_reducible refine Nx.is_mix ?_); first | refine Nx.m_quiet rfl rfl rfl rfl rfl (by first | exact QRun.opr rfl | exact QRun.idxi rfl rfl rfl rfl (by omega) (by omega) (hl.isSome (by omega) (by omega)) | exact QRun.loads rfl rfl rfl (hl.rds (k := ((k : Int) - 1).toNat) (by omega)) rfl | exact QRun.loads rfl rfl rfl (Rds.at_ 0 rfl) rfl) ?_ | refine Nx.m_quiet_do rfl rfl rfl rfl rfl rfl rfl (by first | exact QRun.opr rfl | exact QRun.idxi rfl rfl rfl rfl (by omega) (by omega) (hl.isSome (by omega) (by omega)) | exact QRun.loads rfl rfl rfl (hl.rds (k := ((k : Int) - 1).toNat) (by omega)) rfl | exact QRun.loads rfl rfl rfl (Rds.at_ 0 rfl) rfl) ?_ | refine Nx.m ?_ | ((fail_if_success refine Nx.m_quiet_do rfl rfl rfl rfl rfl rfl rfl ?_ ?_); (fail_if_success refine Nx.m_loud_do rfl rfl rfl rfl rfl ?_); first | refine Nx.m_dec_t rfl rfl rfl rfl (by first | assumption | omega) ?_ | refine Nx.m_dec_f rfl rfl rfl rfl (by first | assumption | omega) ?_ | refine Nx.m_split rfl rfl rfl rfl (fun hc => ?_) (fun hc => ?_) | refine Nx.m_splitb rfl rfl rfl rfl (fun hc => ?_) (fun hc => ?_)))
            | ((fail_if_success (with_reducible refine Nx.is_at ?_)); (fail_if_success (with_reducible refine Nx.is_wp ?_)); (fail_if_success (with_reducible refine Nx.is_mix ?_)); first | refine Nx.ex ?_)
          exact Nx.ret_fn rfl [] ⟨by rw [hstop (by rw [hca]; decide), hca], rfl⟩ (by (exact Ent.auto))
        · have hcm : 0 < k → cmpSh (l.getD ((k : Int) - 1).toNat default) (l.getD k default) < 0 := fun h => by
            rw [hkn h]
            have := cmpSh_before (l.getD (k - 1) default) (l.getD k default)
            have hb : beforeB (l.getD (k - 1) default) (l.getD k default) = true := by
              cases hb : beforeB (l.getD (k - 1) default) (l.getD k default) with
              | true => rfl
              | false => exact absurd ⟨h, hb⟩ hbf
            rw [hb] at this
            simpa using this
          by_cases hm : meetsB (l.take k) (l.getD k default) = true
          · have hca : checkAt l k = 46 := by unfold checkAt; rw [if_neg (by omega), if_neg hbf, if_pos hm]
            rw [hm] at hov
            by_cases hk0 : 0 < k
            · have hcm := hcm hk0
              repeat' first
                | ((with_reducible refine Nx.is_wp ?_); first | refine Nx.wo ?_ | refine Nx.p_draw (id := 9) rfl [0, 1, 2, 3, 4, 5, 6, 7, 8, 9, 10, 11] [9] _ rfl rfl (by kernel_rfl) (by kernel_rfl) rfl (by repeat first | exact PanicOk.fn | refine PanicOk.then_ ?_ | refine PanicOk.inB ?_) (Ent.refl _) ?_ | refine Nx.p_draw (id := 11) rfl [0, 1, 2, 3, 4] [4] _ rfl rfl (by kernel_rfl) (by kernel_rfl) rfl (by repeat first | exact PanicOk.fn | refine PanicOk.then_ ?_ | refine PanicOk.inB ?_) (Ent.refl _) ?_ | refine Nx.p_dec rfl rfl (fun hc => ?_) (fun hc => ?_) | refine Nx.p_bool rfl rfl (fun hc => ?_) (fun hc => ?_))
                | ((first | refine Nx.at_op rfl rfl ?_ | refine Nx.m_loud rfl rfl rfl ?_ | refine Nx.at_do rfl rfl rfl rfl ?_ | refine Nx.m_loud_do rfl rfl rfl rfl rfl ?_); first | refine Nx.opr rfl rfl ?_ | refine Nx.callv rfl rfl rfl (by kernel_rfl) rfl (compare_spec (l.getD ((k : Int) - 1).toNat default) (l.getD k default) I) ?_ | refine Nx.callv rfl rfl rfl (by kernel_rfl) rfl hov ?_ | refine Nx.so ?_ | refine Nx.sb (fun bx => ?_) | refine Nx.sa (fun A2 c2 => ?_))
                | ((with_reducible refine Nx.is_at ?_); first | refine Nx.a ?_ | ((fail_if_success refine Nx.at_do rfl rfl rfl rfl ?_); first | refine Nx.at_dec_t rfl rfl rfl rfl (by first | assumption | omega) ?_ | refine Nx.at_dec_f rfl rfl rfl rfl (by first | assumption | omega) ?_ | refine Nx.at_split rfl rfl rfl rfl (fun hc => ?_) (fun hc => ?_) | refine Nx.at_splitb rfl rfl rfl rfl (fun hc => ?_) (fun hc => ?_)))
                | ((with_reducible refine Nx.is_mix ?_); first | refine Nx.m_quiet rfl rfl rfl rfl rfl (by first | exact QRun.opr rfl | exact QRun.idxi rfl rfl rfl rfl (by omega) (by omega) (hl.isSome (by omega) (by omega)) | exact QRun.loads rfl rfl rfl (hl.rds (k := ((k : Int) - 1).toNat) (by omega)) rfl | exact QRun.loads rfl rfl rfl (Rds.at_ 0 rfl) rfl | exact QRun.slice_hi rfl rfl rfl rfl (by omega)) ?_ | refine Nx.m_quiet_do rfl rfl rfl rfl rfl rfl rfl (by first | exact QRun.opr rfl | exact QRun.idxi rfl rfl rfl rfl (by omega) (by omega) (hl.isSome (by omega) (by omega)) | exact QRun.loads rfl rfl rfl (hl.rds (k := ((k : Int) - 1).toNat) (by omega)) rfl | exact QRun.loads rfl rfl rfl (Rds.at_ 0 rfl) rfl | exact QRun.slice_hi rfl rfl rfl rfl (by omega)) ?_ | refine Nx.m ?_ | ((fail_if_success refine Nx.m_quiet_do rfl rfl rfl rfl rfl rfl rfl ?_ ?_); (fail_if_success refine Nx.m_loud_do rfl rfl rfl rfl rfl ?_); first | refine Nx.m_dec_t rfl rfl rfl rfl (by first | assumption | omega) ?_ | refine Nx.m_dec_f rfl rfl rfl rfl (by first | assumption | omega) ?_ | refine Nx.m_split rfl rfl rfl rfl (fun hc => ?_) (fun hc => ?_) | refine Nx.m_splitb rfl rfl rfl rfl (fun hc => ?_) (fun hc => ?_)))
                | ((fail_if_success (with_reducible refine Nx.is_at ?_)); (fail_if_success (with_reducible refine Nx.is_wp ?_)); (fail_if_success (with_reducible refine Nx.is_mix ?_)); first | refine Nx.ex ?_)
              exact Nx.ret_fn rfl [] ⟨by rw [hstop (by rw [hca]; decide), hca], rfl⟩ (by (exact Ent.auto))
            · repeat' first
                | ((with_reducible refine Nx.is_wp ?_); first | refine Nx.wo ?_ | refine Nx.p_draw (id := 9) rfl [0, 1, 2, 3, 4, 5, 6, 7, 8, 9, 10, 11] [9] _ rfl rfl (by kernel_rfl) (by kernel_rfl) rfl (by repeat first | exact PanicOk.fn | refine PanicOk.then_ ?_ | refine PanicOk.inB ?_) (Ent.refl _) ?_ | refine Nx.p_draw (id := 11) rfl [0, 1, 2, 3, 4] [4] _ rfl rfl (by kernel_rfl) (by kernel_rfl) rfl (by repeat first | exact PanicOk.fn | refine PanicOk.then_ ?_ | refine PanicOk.inB ?_) (Ent.refl _) ?_ | refine Nx.p_dec rfl rfl (fun hc => ?_) (fun hc => ?_) | refine Nx.p_bool rfl rfl (fun hc => ?_) (fun hc => ?_))
                | ((first | refine Nx.at_op rfl rfl ?_ | refine Nx.m_loud rfl rfl rfl ?_ | refine Nx.at_do rfl rfl rfl rfl ?_ | refine Nx.m_loud_do rfl rfl rfl rfl rfl ?_); first | refine Nx.opr rfl rfl ?_ | refine Nx.callv rfl rfl rfl (by kernel_rfl) rfl hov ?_ | refine Nx.so ?_ | refine Nx.sb (fun bx => ?_) | refine Nx.sa (fun A2 c2 => ?_))
                | ((with_reducible refine Nx.is_at ?_); first | refine Nx.a ?_ | ((fail_if_success refine Nx.at_do rfl rfl rfl rfl ?_); first | refine Nx.at_dec_t rfl rfl rfl rfl (by first | assumption | omega) ?_ | refine Nx.at_dec_f rfl rfl rfl rfl (by first | assumption | omega) ?_ | refine Nx.at_split rfl rfl rfl rfl (fun hc => ?_) (fun hc => ?_) | refine Nx.at_splitb rfl rfl rfl rfl (fun hc => ?_) (fun hc => ?_)))
                | ((with_reducible refine Nx.is_mix ?_); first | refine Nx.m_quiet rfl rfl rfl rfl rfl (by first | exact QRun.opr rfl | exact QRun.loads rfl rfl rfl (Rds.at_ 0 rfl) rfl | exact QRun.slice_hi rfl rfl rfl rfl (by omega)) ?_ | refine Nx.m_quiet_do rfl rfl rfl rfl rfl rfl rfl (by first | exact QRun.opr rfl | exact QRun.loads rfl rfl rfl (Rds.at_ 0 rfl) rfl | exact QRun.slice_hi rfl rfl rfl rfl (by omega)) ?_ | refine Nx.m ?_ | ((fail_if_success refine Nx.m_quiet_do rfl rfl rfl rfl rfl rfl rfl ?_ ?_); (fail_if_success refine Nx.m_loud_do rfl rfl rfl rfl rfl ?_); first | refine Nx.m_dec_t rfl rfl rfl rfl (by first | assumption | omega) ?_ | refine Nx.m_dec_f rfl rfl rfl rfl (by first | assumption | omega) ?_ | refine Nx.m_split rfl rfl rfl rfl (fun hc => ?_) (fun hc => ?_) | refine Nx.m_splitb rfl rfl rfl rfl (fun hc => ?_) (fun hc => ?_)))
                | ((fail_if_success (with_reducible refine Nx.is_at ?_)); (fail_if_success (with_reducible refine Nx.is_wp ?_)); (fail_if_success (with_reducible refine Nx.is_mix ?_)); first | refine Nx.ex ?_)
              exact Nx.ret_fn rfl [] ⟨by rw [hstop (by rw [hca]; decide), hca], rfl⟩ (by (exact Ent.auto))
          · have hm0 : meetsB (l.take k) (l.getD k default) = false := by simpa using hm
            have hca : checkAt l k = 0 := by unfold checkAt; rw [if_neg (by omega), if_neg hbf, if_neg hm]
            rw [hm0] at hov
            by_cases hk0 : 0 < k
            · have hcm := hcm hk0
              repeat' first
                | ((with_reducible refine Nx.is_wp ?_); first | refine Nx.wo ?_ | refine Nx.p_draw (id := 9) rfl [0, 1, 2, 3, 4, 5, 6, 7, 8, 9, 10, 11] [9] _ rfl rfl (by kernel_rfl) (by kernel_rfl) rfl (by repeat first | exact PanicOk.fn | refine PanicOk.then_ ?_ | refine PanicOk.inB ?_) (Ent.refl _) ?_ | refine Nx.p_draw (id := 11) rfl [0, 1, 2, 3, 4] [4] _ rfl rfl (by kernel_rfl) (by kernel_rfl) rfl (by repeat first | exact PanicOk.fn | refine PanicOk.then_ ?_ | refine PanicOk.inB ?_) (Ent.refl _) ?_ | refine Nx.p_dec rfl rfl (fun hc => ?_) (fun hc => ?_) | refine Nx.p_bool rfl rfl (fun hc => ?_) (fun hc => ?_))
                | ((first | refine Nx.at_op rfl rfl ?_ | refine Nx.m_loud rfl rfl rfl ?_ | refine Nx.at_do rfl rfl rfl rfl ?_ | refine Nx.m_loud_do rfl rfl rfl rfl rfl ?_); first | refine Nx.opr rfl rfl ?_ | refine Nx.callv rfl rfl rfl (by kernel_rfl) rfl (compare_spec (l.getD ((k : Int) - 1).toNat default) (l.getD k default) I) ?_ | refine Nx.callv rfl rfl rfl (by kernel_rfl) rfl hov ?_ | refine Nx.so ?_ | refine Nx.sb (fun bx => ?_) | refine Nx.sa (fun A2 c2 => ?_))
                | ((with_reducible refine Nx.is_at ?_); first | refine Nx.a ?_ | ((fail_if_success refine Nx.at_do rfl rfl rfl rfl ?_); first | refine Nx.at_dec_t rfl rfl rfl rfl (by first | assumption | omega) ?_ | refine Nx.at_dec_f rfl rfl rfl rfl (by first | assumption | omega) ?_ | refine Nx.at_split rfl rfl rfl rfl (fun hc => ?_) (fun hc => ?_) | refine Nx.at_splitb rfl rfl rfl rfl (fun hc => ?_) (fun hc => ?_)))
                | ((with_reducible refine Nx.is_mix ?_); first | refine Nx.m_quiet rfl rfl rfl rfl rfl (by first | exact QRun.opr rfl | exact QRun.idxi rfl rfl rfl rfl (by omega) (by omega) (hl.isSome (by omega) (by omega)) | exact QRun.loads rfl rfl rfl (hl.rds (k := ((k : Int) - 1).toNat) (by omega)) rfl | exact QRun.loads rfl rfl rfl (Rds.at_ 0 rfl) rfl | exact QRun.slice_hi rfl rfl rfl rfl (by omega)) ?_ | refine Nx.m_quiet_do rfl rfl rfl rfl rfl rfl rfl (by first | exact QRun.opr rfl | exact QRun.idxi rfl rfl rfl rfl (by omega) (by omega) (hl.isSome (by omega) (by omega)) | exact QRun.loads rfl rfl rfl (hl.rds (k := ((k : Int) - 1).toNat) (by omega)) rfl | exact QRun.loads rfl rfl rfl (Rds.at_ 0 rfl) rfl | exact QRun.slice_hi rfl rfl rfl rfl (by omega)) ?_ | refine Nx.m ?_ | ((fail_if_success refine Nx.m_quiet_do rfl rfl rfl rfl rfl rfl rfl ?_ ?_); (fail_if_success refine Nx.m_loud_do rfl rfl rfl rfl rfl ?_); first | refine Nx.m_dec_t rfl rfl rfl rfl (by first | assumption | omega) ?_ | refine Nx.m_dec_f rfl rfl rfl rfl (by first | assumption | omega) ?_ | refine Nx.m_split rfl rfl rfl rfl (fun hc => ?_) (fun hc => ?_) | refine Nx.m_splitb rfl rfl rfl rfl (fun hc => ?_) (fun hc => ?_)))
                | ((fail_if_success (with_reducible refine Nx.is_at ?_)); (fail_if_success (with_reducible refine Nx.is_wp ?_)); (fail_if_success (with_reducible refine Nx.is_mix ?_)); first | refine Nx.ex ?_)
              exact Nx.again (k + 1) ⟨hlt, hgo hca⟩ (by omega) ⟨rfl, rfl, rfl, rfl, trivial⟩ (by (exact Ent.auto))
            · repeat' first
                | ((with_reducible refine Nx.is_wp ?_); first | refine Nx.wo ?_ | refine Nx.p_draw (id := 9) rfl [0, 1, 2, 3, 4, 5, 6, 7, 8, 9, 10, 11] [9] _ rfl rfl (by kernel_rfl) (by kernel_rfl) rfl (by repeat first | exact PanicOk.fn | refine PanicOk.then_ ?_ | refine PanicOk.inB ?_) (Ent.refl _) ?_ | refine Nx.p_draw (id := 11) rfl [0, 1, 2, 3, 4] [4] _ rfl rfl (by kernel_rfl) (by kernel_rfl) rfl (by repeat first | exact PanicOk.fn | refine PanicOk.then_ ?_ | refine PanicOk.inB ?_) (Ent.refl _) ?_ | refine Nx.p_dec rfl rfl (fun hc => ?_) (fun hc => ?_) | refine Nx.p_bool rfl rfl (fun hc => ?_) (fun hc => ?_))
                | ((first | refine Nx.at_op rfl rfl ?_ | refine Nx.m_loud rfl rfl rfl ?_ | refine Nx.at_do rfl rfl rfl rfl ?_ | refine Nx.m_loud_do rfl rfl rfl rfl rfl ?_); first | refine Nx.opr rfl rfl ?_ | refine Nx.callv rfl rfl rfl (by kernel_rfl) rfl hov ?_ | refine Nx.so ?_ | refine Nx.sb (fun bx => ?_) | refine Nx.sa (fun A2 c2 => ?_))
                | ((with_reducible refine Nx.is_at ?_); first | refine Nx.a ?_ | ((fail_if_success refine Nx.at_do rfl rfl rfl rfl ?_); first | refine Nx.at_dec_t rfl rfl rfl rfl (by first | assumption | omega) ?_ | refine Nx.at_dec_f rfl rfl rfl rfl (by first | assumption | omega) ?_ | refine Nx.at_split rfl rfl rfl rfl (fun hc => ?_) (fun hc => ?_) | refine Nx.at_splitb rfl rfl rfl rfl (fun hc => ?_) (fun hc => ?_)))
                | ((with_reducible refine Nx.is_mix ?_); first | refine Nx.m_quiet rfl rfl rfl rfl rfl (by first | exact QRun.opr rfl | exact QRun.loads rfl rfl rfl (Rds.at_ 0 rfl) rfl | exact QRun.slice_hi rfl rfl rfl rfl (by omega)) ?_ | refine Nx.m_quiet_do rfl rfl rfl rfl rfl rfl rfl (by first | exact QRun.opr rfl | exact QRun.loads rfl rfl rfl (Rds.at_ 0 rfl) rfl | exact QRun.slice_hi rfl rfl rfl rfl (by omega)) ?_ | refine Nx.m ?_ | ((fail_if_success refine Nx.m_quiet_do rfl rfl rfl rfl rfl rfl rfl ?_ ?_); (fail_if_success refine Nx.m_loud_do rfl rfl rfl rfl rfl ?_); first | refine Nx.m_dec_t rfl rfl rfl rfl (by first | assumption | omega) ?_ | refine Nx.m_dec_f rfl rfl rfl rfl (by first | assumption | omega) ?_ | refine Nx.m_split rfl rfl rfl rfl (fun hc => ?_) (fun hc => ?_) | refine Nx.m_splitb rfl rfl rfl rfl (fun hc => ?_) (fun hc => ?_)))
                | ((fail_if_success (with_reducible refine Nx.is_at ?_)); (fail_if_success (with_reducible refine Nx.is_wp ?_)); (fail_if_success (with_reducible refine Nx.is_mix ?_)); first | refine Nx.ex ?_)
              exact Nx.again (k + 1) ⟨hlt, hgo hca⟩ (by omega) ⟨rfl, rfl, rfl, rfl, trivial⟩ (by (exact Ent.auto))
    · obtain rfl : k = l.length := by omega
      repeat' first
        | ((with_reducible refine Nx.is_wp ?_); first | refine Nx.wo ?_ | refine Nx.p_dec rfl rfl (fun hc => ?_) (fun hc => ?_) | refine Nx.p_bool rfl rfl (fun hc => ?_) (fun hc => ?_))
        | ((first | refine Nx.at_op rfl rfl ?_ | refine Nx.m_loud rfl rfl rfl ?_ | refine Nx.at_do rfl rfl rfl rfl ?_ | refine Nx.m_loud_do rfl rfl rfl rfl rfl ?_); first | refine Nx.opr rfl rfl ?_ | refine Nx.so ?_ | refine Nx.sb (fun bx => ?_) | refine Nx.sa (fun A2 c2 => ?_))
        | ((with_reducible refine Nx.is_at ?_); first | refine Nx.a ?_ | ((fail_if_success refine Nx.at_do rfl rfl rfl rfl ?_); first | refine Nx.at_dec_t rfl rfl rfl rfl (by first | assumption | omega) ?_ | refine Nx.at_dec_f rfl rfl rfl rfl (by first | assumption | omega) ?_ | refine Nx.at_split rfl rfl rfl rfl (fun hc => ?_) (fun hc => ?_) | refine Nx.at_splitb rfl rfl rfl rfl (fun hc => ?_) (fun hc => ?_)))
        | ((with_reducible refine Nx.is_mix ?_); first | refine Nx.m ?_ | ((fail_if_success refine Nx.m_quiet_do rfl rfl rfl rfl rfl rfl rfl ?_ ?_); (fail_if_success refine Nx.m_loud_do rfl rfl rfl rfl rfl ?_); first | refine Nx.m_dec_t rfl rfl rfl rfl (by first | assumption | omega) ?_ | refine Nx.m_dec_f rfl rfl rfl rfl (by first | assumption | omega) ?_ | refine Nx.m_split rfl rfl rfl rfl (fun hc => ?_) (fun hc => ?_) | refine Nx.m_splitb rfl rfl rfl rfl (fun hc => ?_) (fun hc => ?_)))
        | ((fail_if_success (with_reducible refine Nx.is_at ?_)); (fail_if_success (with_reducible refine Nx.is_wp ?_)); (fail_if_success (with_reducible refine Nx.is_mix ?_)); first | refine Nx.ex ?_)
      exact Nx.ret_fn rfl [] ⟨by rw [h0], rfl⟩ (by (exact Ent.auto))
end Go.Proofs.Ytaoeapmdhpkidaa
/- Contracts of functions of the given program, and lemmas about plain lists and numbers: what the laws of this seat lean on. -/
namespace Go.Proofs.Ytaoeapmdhpkidaa
open Go.Eng
section
attribute [local irreducible] opK wpList Code.wp Exit.then Exit.inBlock fnPost bodyPost Nx Calls Oper.wp Rd Rds Wr Ent Stars Blk Again Vec FnSpec wpMix QRun Stop Upto wpAt
attribute [local irreducible] strV
set_option maxHeartbeats 4000000 in
set_option maxRecDepth 10000 in
theorem rName0_spec (s : List UInt8) (hs : 0 ≤ s.length) (I : PH) : FnSpec Try.prog 99 [strV s] I [] (fun v R' => v = .bool (nameB s) ∧ R' = []) := by
  by_cases hh : headB s = true
  · have hh' := of_decide_eq_true hh
    refine FnSpec.enterP Try.func99 rfl Try.ntmps99 rfl fun w F => ?_
    repeat' first
      | ((with_reducible refine Nx.is_wp ?_); first | refine Nx.wo ?_ | refine Nx.p_dec rfl rfl (fun hc => ?_) (fun hc => ?_) | refine Nx.p_bool rfl rfl (fun hc => ?_) (fun hc => ?_))
      | ((first | refine Nx.at_op rfl rfl ?_ | refine Nx.m_loud rfl rfl rfl ?_ | refine Nx.at_do rfl rfl rfl rfl ?_ | refine Nx.m_loud_do rfl rfl rfl rfl rfl ?_); first | refine Nx.opr rfl rfl ?_ | refine Nx.len_strV rfl rfl rfl rfl ?_ | refine Nx.index_str (i := 0) rfl rfl rfl rfl (by omega) ?_ | refine Nx.so ?_ | refine Nx.sb (fun bx => ?_) | refine Nx.sa (fun A2 c2 => ?_))
      | ((with_reducible refine Nx.is_at ?_); first | refine Nx.a ?_ | ((fail_if_success refine Nx.at_do rfl rfl rfl rfl ?_); first | refine Nx.at_dec_t rfl rfl rfl rfl (by first | assumption | omega) ?_ | refine Nx.at_dec_f rfl rfl rfl rfl (by first | assumption | omega) ?_ | refine Nx.at_split rfl rfl rfl rfl (fun hc => ?_) (fun hc => ?_) | refine Nx.at_splitb rfl rfl rfl rfl (fun hc => ?_) (fun hc => ?_)))
      | ((with_reducible refine Nx.is_mix ?_); first | refine Nx.m ?_ | ((fail_if_success refine Nx.m_quiet_do rfl rfl rfl rfl rfl rfl rfl ?_ ?_); (fail_if_success refine Nx.m_loud_do rfl rfl rfl rfl rfl ?_); first | refine Nx.m_dec_t rfl rfl rfl rfl (by first | assumption | omega) ?_ | refine Nx.m_dec_f rfl rfl rfl rfl (by first | assumption | omega) ?_ | refine Nx.m_split rfl rfl rfl rfl (fun hc => ?_) (fun hc => ?_) | refine Nx.m_splitb rfl rfl rfl rfl (fun hc => ?_) (fun hc => ?_)))
      | ((fail_if_success (with_reducible refine Nx.is_at ?_)); (fail_if_success (with_reducible refine Nx.is_wp ?_)); (fail_if_success (with_reducible refine Nx.is_mix ?_)); first | refine Nx.ex ?_)
    refine Nx.p_loop (σ := Nat) (fun k => [(0, strV s), (3, .int .i64 (k : Int))])
      (fun _ => [F]) (fun k => k ≤ s.length ∧ (s.take k).all chB = true) (fun k => s.length - k) 0 rfl ⟨Nat.zero_le _, rfl⟩ ⟨rfl, rfl, trivial⟩ (by (exact Ent.auto)) ?_
    rintro k ⟨hk, hal⟩
    by_cases hlt : k < s.length
    · have ht := all_take hlt
      rw [hal, Bool.true_and] at ht
      have hf := all_false hlt
      by_cases hc : chB (s.getD k default) = true
      · rw [hc] at ht
        have hc' := of_decide_eq_true hc
        repeat' first
          | ((with_reducible refine Nx.is_wp ?_); first | refine Nx.wo ?_ | refine Nx.p_dec rfl rfl (fun hc => ?_) (fun hc => ?_) | refine Nx.p_bool rfl rfl (fun hc => ?_) (fun hc => ?_))
          | ((first | refine Nx.at_op rfl rfl ?_ | refine Nx.m_loud rfl rfl rfl ?_ | refine Nx.at_do rfl rfl rfl rfl ?_ | refine Nx.m_loud_do rfl rfl rfl rfl rfl ?_); first | refine Nx.opr rfl rfl ?_ | refine Nx.len_strV rfl rfl rfl rfl ?_ | refine Nx.index_str rfl rfl rfl rfl hlt ?_ | refine Nx.so ?_ | refine Nx.sb (fun bx => ?_) | refine Nx.sa (fun A2 c2 => ?_))
          | ((with_reducible refine Nx.is_at ?_); first | refine Nx.a ?_ | ((fail_if_success refine Nx.at_do rfl rfl rfl rfl ?_); first | refine Nx.at_dec_t rfl rfl rfl rfl (by first | assumption | omega) ?_ | refine Nx.at_dec_f rfl rfl rfl rfl (by first | assumption | omega) ?_ | refine Nx.at_split rfl rfl rfl rfl (fun hc => ?_) (fun hc => ?_) | refine Nx.at_splitb rfl rfl rfl rfl (fun hc => ?_) (fun hc => ?_)))
          | ((with_reducible refine Nx.is_mix ?_); first | refine Nx.m ?_ | ((fail_if_success refine Nx.m_quiet_do rfl rfl rfl rfl rfl rfl rfl ?_ ?_); (fail_if_success refine Nx.m_loud_do rfl rfl rfl rfl rfl ?_); first | refine Nx.m_dec_t rfl rfl rfl rfl (by first | assumption | omega) ?_ | refine Nx.m_dec_f rfl rfl rfl rfl (by first | assumption | omega) ?_ | refine Nx.m_split rfl rfl rfl rfl (fun hc => ?_) (fun hc => ?_) | refine Nx.m_splitb rfl rfl rfl rfl (fun hc => ?_) (fun hc => ?_)))
          | ((fail_if_success (with_reducible refine Nx.is_at ?_)); (fail_if_success (with_reducible refine Nx.is_wp ?_)); (fail_if_success (with_reducible refine Nx.is_mix ?_)); first | refine Nx.ex ?_)
        all_goals first
          | exact Nx.again (k + 1) ⟨hlt, ht⟩ (by omega) ⟨rfl, rfl, trivial⟩ (by (exact Ent.auto))
          | (exfalso; first | (rw [Bool.not_eq_true', decide_eq_false_iff_not] at hc; omega) | (rw [Bool.not_eq_false', decide_eq_true_eq] at hc; omega))
      · have hc0 : chB (s.getD k default) = false := by simpa using hc
        have hc' := of_decide_eq_false hc0
        have hn : nameB s = false := by unfold nameB; rw [hf hc0]; simp
        rw [hn]
        repeat' first
          | ((with_reducible refine Nx.is_wp ?_); first | refine Nx.wo ?_ | refine Nx.p_dec rfl rfl (fun hc => ?_) (fun hc => ?_) | refine Nx.p_bool rfl rfl (fun hc => ?_) (fun hc => ?_))
          | ((first | refine Nx.at_op rfl rfl ?_ | refine Nx.m_loud rfl rfl rfl ?_ | refine Nx.at_do rfl rfl rfl rfl ?_ | refine Nx.m_loud_do rfl rfl rfl rfl rfl ?_); first | refine Nx.opr rfl rfl ?_ | refine Nx.len_strV rfl rfl rfl rfl ?_ | refine Nx.index_str rfl rfl rfl rfl hlt ?_ | refine Nx.so ?_ | refine Nx.sb (fun bx => ?_) | refine Nx.sa (fun A2 c2 => ?_))
          | ((with_reducible refine Nx.is_at ?_); first | refine Nx.a ?_ | ((fail_if_success refine Nx.at_do rfl rfl rfl rfl ?_); first | refine Nx.at_dec_t rfl rfl rfl rfl (by first | assumption | omega) ?_ | refine Nx.at_dec_f rfl rfl rfl rfl (by first | assumption | omega) ?_ | refine Nx.at_split rfl rfl rfl rfl (fun hc => ?_) (fun hc => ?_) | refine Nx.at_splitb rfl rfl rfl rfl (fun hc => ?_) (fun hc => ?_)))
          | ((with_reducible refine Nx.is_mix ?_); first | refine Nx.m ?_ | ((fail_if_success refine Nx.m_quiet_do rfl rfl rfl rfl rfl rfl rfl ?_ ?_); (fail_if_success refine Nx.m_loud_do rfl rfl rfl rfl rfl ?_); first | refine Nx.m_dec_t rfl rfl rfl rfl (by first | assumption | omega) ?_ | refine Nx.m_dec_f rfl rfl rfl rfl (by first | assumption | omega) ?_ | refine Nx.m_split rfl rfl rfl rfl (fun hc => ?_) (fun hc => ?_) | refine Nx.m_splitb rfl rfl rfl rfl (fun hc => ?_) (fun hc => ?_)))
          | ((fail_if_success (with_reducible refine Nx.is_at ?_)); (fail_if_success (with_reducible refine Nx.is_wp ?_)); (fail_if_success (with_reducible refine Nx.is_mix ?_)); first | refine Nx.ex ?_)
        all_goals first
          | exact Nx.ret_fn rfl [] ⟨rfl, rfl⟩ (by (exact Ent.auto))
          | (exfalso; first | (rw [Bool.not_eq_true', decide_eq_false_iff_not] at hc; omega) | (rw [Bool.not_eq_false', decide_eq_true_eq] at hc; omega))
    · obtain rfl : k = s.length := by omega
      rw [List.take_length] at hal
      have hnb : nameB s = !(words.contains s) := by unfold nameB; rw [hh, hal]; rfl
      repeat' first
        | ((with_reducible refine Nx.is_wp ?_); first | refine Nx.p_bool_t rfl rfl (by assumption) ?_ | refine Nx.p_bool_f rfl rfl (by assumption) ?_ | refine Nx.wo ?_ | refine Nx.p_dec rfl rfl (fun hc => ?_) (fun hc => ?_) | refine Nx.p_bool rfl rfl (fun hc => ?_) (fun hc => ?_))
        | ((first | refine Nx.at_op rfl rfl ?_ | refine Nx.m_loud rfl rfl rfl ?_ | refine Nx.at_do rfl rfl rfl rfl ?_ | refine Nx.m_loud_do rfl rfl rfl rfl rfl ?_); first | refine Nx.opr rfl rfl ?_ | refine Nx.len_strV rfl rfl rfl rfl ?_ | refine Nx.binr rfl rfl run_eql_c rfl ?_ | refine Nx.so ?_ | refine Nx.sb (fun bx => ?_) | refine Nx.sa (fun A2 c2 => ?_))
        | ((with_reducible refine Nx.is_at ?_); first | refine Nx.a ?_ | ((fail_if_success refine Nx.at_do rfl rfl rfl rfl ?_); first | refine Nx.at_dec_t rfl rfl rfl rfl (by first | assumption | omega) ?_ | refine Nx.at_dec_f rfl rfl rfl rfl (by first | assumption | omega) ?_ | refine Nx.at_split rfl rfl rfl rfl (fun hc => ?_) (fun hc => ?_) | refine Nx.at_splitb rfl rfl rfl rfl (fun hc => ?_) (fun hc => ?_)))
        | ((with_reducible refine Nx.is_mix ?_); first | refine Nx.m ?_ | ((fail_if_success refine Nx.m_quiet_do rfl rfl rfl rfl rfl rfl rfl ?_ ?_); (fail_if_success refine Nx.m_loud_do rfl rfl rfl rfl rfl ?_); first | refine Nx.m_dec_t rfl rfl rfl rfl (by first | assumption | omega) ?_ | refine Nx.m_dec_f rfl rfl rfl rfl (by first | assumption | omega) ?_ | refine Nx.m_split rfl rfl rfl rfl (fun hc => ?_) (fun hc => ?_) | refine Nx.m_splitb rfl rfl rfl rfl (fun hc => ?_) (fun hc => ?_)))
        | ((fail_if_success (with_reducible refine Nx.is_at ?_)); (fail_if_success (with_reducible refine Nx.is_wp ?_)); (fail_if_success (with_reducible refine Nx.is_mix ?_)); first | refine Nx.ex ?_)
      all_goals
        refine Nx.ret_fn rfl [] ⟨?_, rfl⟩ (by (exact Ent.auto))
        rw [hnb]
        simp only [beq_iff_eq, beq_eq_false_iff_ne] at *
        simp [words, *]
  · have hh0 : headB s = false := by simpa using hh
    have hh' := of_decide_eq_false hh0
    have hn : nameB s = false := by unfold nameB; rw [hh0]; rfl
    rw [hn]
    by_cases h1 : 1 ≤ s.length
    · refine FnSpec.enterP Try.func99 rfl Try.ntmps99 rfl fun w F => ?_
      repeat' first
        | ((with_reducible refine Nx.is_wp ?_); first | refine Nx.wo ?_ | refine Nx.p_dec rfl rfl (fun hc => ?_) (fun hc => ?_) | refine Nx.p_bool rfl rfl (fun hc => ?_) (fun hc => ?_))
        | ((first | refine Nx.at_op rfl rfl ?_ | refine Nx.m_loud rfl rfl rfl ?_ | refine Nx.at_do rfl rfl rfl rfl ?_ | refine Nx.m_loud_do rfl rfl rfl rfl rfl ?_); first | refine Nx.opr rfl rfl ?_ | refine Nx.len_strV rfl rfl rfl rfl ?_ | refine Nx.index_str (i := 0) rfl rfl rfl rfl (by omega) ?_ | refine Nx.so ?_ | refine Nx.sb (fun bx => ?_) | refine Nx.sa (fun A2 c2 => ?_))
        | ((with_reducible refine Nx.is_at ?_); first | refine Nx.a ?_ | ((fail_if_success refine Nx.at_do rfl rfl rfl rfl ?_); first | refine Nx.at_dec_t rfl rfl rfl rfl (by first | assumption | omega) ?_ | refine Nx.at_dec_f rfl rfl rfl rfl (by first | assumption | omega) ?_ | refine Nx.at_split rfl rfl rfl rfl (fun hc => ?_) (fun hc => ?_) | refine Nx.at_splitb rfl rfl rfl rfl (fun hc => ?_) (fun hc => ?_)))
        | ((with_reducible refine Nx.is_mix ?_); first | refine Nx.m ?_ | ((fail_if_success refine Nx.m_quiet_do rfl rfl rfl rfl rfl rfl rfl ?_ ?_); (fail_if_success refine Nx.m_loud_do rfl rfl rfl rfl rfl ?_); first | refine Nx.m_dec_t rfl rfl rfl rfl (by first | assumption | omega) ?_ | refine Nx.m_dec_f rfl rfl rfl rfl (by first | assumption | omega) ?_ | refine Nx.m_split rfl rfl rfl rfl (fun hc => ?_) (fun hc => ?_) | refine Nx.m_splitb rfl rfl rfl rfl (fun hc => ?_) (fun hc => ?_)))
        | ((fail_if_success (with_reducible refine Nx.is_at ?_)); (fail_if_success (with_reducible refine Nx.is_wp ?_)); (fail_if_success (with_reducible refine Nx.is_mix ?_)); first | refine Nx.ex ?_)
      all_goals exact Nx.ret_fn rfl [] ⟨rfl, rfl⟩ (by (exact Ent.auto))
    · refine FnSpec.enterP Try.func99 rfl Try.ntmps99 rfl fun w F => ?_
      repeat' first
        | ((with_reducible refine Nx.is_wp ?_); first | refine Nx.wo ?_ | refine Nx.p_dec rfl rfl (fun hc => ?_) (fun hc => ?_) | refine Nx.p_bool rfl rfl (fun hc => ?_) (fun hc => ?_))
        | ((first | refine Nx.at_op rfl rfl ?_ | refine Nx.m_loud rfl rfl rfl ?_ | refine Nx.at_do rfl rfl rfl rfl ?_ | refine Nx.m_loud_do rfl rfl rfl rfl rfl ?_); first | refine Nx.opr rfl rfl ?_ | refine Nx.len_strV rfl rfl rfl rfl ?_ | refine Nx.so ?_ | refine Nx.sb (fun bx => ?_) | refine Nx.sa (fun A2 c2 => ?_))
        | ((with_reducible refine Nx.is_at ?_); first | refine Nx.a ?_ | ((fail_if_success refine Nx.at_do rfl rfl rfl rfl ?_); first | refine Nx.at_dec_t rfl rfl rfl rfl (by first | assumption | omega) ?_ | refine Nx.at_dec_f rfl rfl rfl rfl (by first | assumption | omega) ?_ | refine Nx.at_split rfl rfl rfl rfl (fun hc => ?_) (fun hc => ?_) | refine Nx.at_splitb rfl rfl rfl rfl (fun hc => ?_) (fun hc => ?_)))
        | ((with_reducible refine Nx.is_mix ?_); first | refine Nx.m ?_ | ((fail_if_success refine Nx.m_quiet_do rfl rfl rfl rfl rfl rfl rfl ?_ ?_); (fail_if_success refine Nx.m_loud_do rfl rfl rfl rfl rfl ?_); first | refine Nx.m_dec_t rfl rfl rfl rfl (by first | assumption | omega) ?_ | refine Nx.m_dec_f rfl rfl rfl rfl (by first | assumption | omega) ?_ | refine Nx.m_split rfl rfl rfl rfl (fun hc => ?_) (fun hc => ?_) | refine Nx.m_splitb rfl rfl rfl rfl (fun hc => ?_) (fun hc => ?_)))
        | ((fail_if_success (with_reducible refine Nx.is_at ?_)); (fail_if_success (with_reducible refine Nx.is_wp ?_)); (fail_if_success (with_reducible refine Nx.is_mix ?_)); first | refine Nx.ex ?_)
      all_goals exact Nx.ret_fn rfl [] ⟨rfl, rfl⟩ (by (exact Ent.auto))
set_option maxRecDepth 10000 in
theorem rName_spec (s : List UInt8) (hs : 0 ≤ s.length) (I : PH) : FnSpec Try.prog 76 [strV s] I [] (fun v R' => v = .bool (nameB s) ∧ R' = []) := by
  refine FnSpec.enterP Try.func76 rfl Try.ntmps76 rfl fun w F => ?_
  repeat' first
    | ((with_reducible refine Nx.is_wp ?_); first | refine Nx.wo ?_ | refine Nx.p_dec rfl rfl (fun hc => ?_) (fun hc => ?_) | refine Nx.p_bool rfl rfl (fun hc => ?_) (fun hc => ?_))
    | ((first | refine Nx.at_op rfl rfl ?_ | refine Nx.m_loud rfl rfl rfl ?_ | refine Nx.at_do rfl rfl rfl rfl ?_ | refine Nx.m_loud_do rfl rfl rfl rfl rfl ?_); first | refine Nx.opr rfl rfl ?_ | refine Nx.callv rfl rfl rfl (by kernel_rfl) rfl (rName0_spec s hs I) ?_ | refine Nx.so ?_ | refine Nx.sb (fun bx => ?_) | refine Nx.sa (fun A2 c2 => ?_))
    | ((with_reducible refine Nx.is_at ?_); first | refine Nx.a ?_ | ((fail_if_success refine Nx.at_do rfl rfl rfl rfl ?_); first | refine Nx.at_dec_t rfl rfl rfl rfl (by first | assumption | omega) ?_ | refine Nx.at_dec_f rfl rfl rfl rfl (by first | assumption | omega) ?_ | refine Nx.at_split rfl rfl rfl rfl (fun hc => ?_) (fun hc => ?_) | refine Nx.at_splitb rfl rfl rfl rfl (fun hc => ?_) (fun hc => ?_)))
    | ((with_reducible refine Nx.is_mix ?_); first | refine Nx.m ?_ | ((fail_if_success refine Nx.m_quiet_do rfl rfl rfl rfl rfl rfl rfl ?_ ?_); (fail_if_success refine Nx.m_loud_do rfl rfl rfl rfl rfl ?_); first | refine Nx.m_dec_t rfl rfl rfl rfl (by first | assumption | omega) ?_ | refine Nx.m_dec_f rfl rfl rfl rfl (by first | assumption | omega) ?_ | refine Nx.m_split rfl rfl rfl rfl (fun hc => ?_) (fun hc => ?_) | refine Nx.m_splitb rfl rfl rfl rfl (fun hc => ?_) (fun hc => ?_)))
    | ((fail_if_success (with_reducible refine Nx.is_at ?_)); (fail_if_success (with_reducible refine Nx.is_wp ?_)); (fail_if_success (with_reducible refine Nx.is_mix ?_)); first | refine Nx.ex ?_)
  exact Nx.ret_fn rfl [] ⟨rfl, rfl⟩ (by (exact Ent.auto))
end
end Go.Proofs.Ytaoeapmdhpkidaa
/- Contracts of functions of the given program, and lemmas about plain lists and numbers: what the laws of this seat lean on. -/
namespace Go.Proofs.Ytaoeapmdhpkidaa
open Go.Eng
attribute [local irreducible] opK wpList Code.wp Exit.then Exit.inBlock fnPost bodyPost Nx Calls Oper.wp Rd Rds Wr Ent Stars Blk Again Vec FnSpec wpMix QRun Stop Upto wpAt
set_option maxHeartbeats 2000000 in
set_option maxRecDepth 10000 in
theorem RCheck_spec (A : Option Addr) (c : Nat) (l : List Shift) (I : PH) (hl : Shifts I A c l) (ho : ∀ x ∈ l, shOk x) :
    FnSpec Try.prog 46 [.slice A l.length c] I [] (fun v R' => v = .int .i64 (checkE l) ∧ R' = []) := by
  have hlen := hl.len
  have hcap := hl.cap
  by_cases h60 : 60 < l.length
  · have e : checkE l = 1 := by unfold checkE; rw [if_pos h60]
    rw [e]
    refine FnSpec.enterP Try.func46 rfl Try.ntmps46 rfl fun w F => ?_
    repeat' first
      | ((with_reducible refine Nx.is_wp ?_); first | refine Nx.wo ?_ | refine Nx.p_dec rfl rfl (fun hc => ?_) (fun hc => ?_) | refine Nx.p_bool rfl rfl (fun hc => ?_) (fun hc => ?_))
      | ((first | refine Nx.at_op rfl rfl ?_ | refine Nx.m_loud rfl rfl rfl ?_ | refine Nx.at_do rfl rfl rfl rfl ?_ | refine Nx.m_loud_do rfl rfl rfl rfl rfl ?_); first | refine Nx.opr rfl rfl ?_ | refine Nx.so ?_ | refine Nx.sb (fun bx => ?_) | refine Nx.sa (fun A2 c2 => ?_))
      | ((with_reducible refine Nx.is_at ?_); first | refine Nx.a ?_ | ((fail_if_success refine Nx.at_do rfl rfl rfl rfl ?_); first | refine Nx.at_dec_t rfl rfl rfl rfl (by first | assumption | omega) ?_ | refine Nx.at_dec_f rfl rfl rfl rfl (by first | assumption | omega) ?_ | refine Nx.at_split rfl rfl rfl rfl (fun hc => ?_) (fun hc => ?_) | refine Nx.at_splitb rfl rfl rfl rfl (fun hc => ?_) (fun hc => ?_)))
      | ((with_reducible refine Nx.is_mix ?_); first | refine Nx.m ?_ | ((fail_if_success refine Nx.m_quiet_do rfl rfl rfl rfl rfl rfl rfl ?_ ?_); (fail_if_success refine Nx.m_loud_do rfl rfl rfl rfl rfl ?_); first | refine Nx.m_dec_t rfl rfl rfl rfl (by first | assumption | omega) ?_ | refine Nx.m_dec_f rfl rfl rfl rfl (by first | assumption | omega) ?_ | refine Nx.m_split rfl rfl rfl rfl (fun hc => ?_) (fun hc => ?_) | refine Nx.m_splitb rfl rfl rfl rfl (fun hc => ?_) (fun hc => ?_)))
      | ((fail_if_success (with_reducible refine Nx.is_at ?_)); (fail_if_success (with_reducible refine Nx.is_wp ?_)); (fail_if_success (with_reducible refine Nx.is_mix ?_)); first | refine Nx.ex ?_)
    exact Nx.ret_fn rfl [] ⟨rfl, rfl⟩ (by (exact Ent.auto))
  · have e : checkE l = checkN l l.length := by unfold checkE; rw [if_neg h60]
    rw [e]
    refine FnSpec.enterP Try.func46 rfl Try.ntmps46 rfl fun w F => ?_
    repeat' first
      | ((with_reducible refine Nx.is_wp ?_); first | refine Nx.wo ?_ | refine Nx.p_dec rfl rfl (fun hc => ?_) (fun hc => ?_) | refine Nx.p_bool rfl rfl (fun hc => ?_) (fun hc => ?_))
      | ((first | refine Nx.at_op rfl rfl ?_ | refine Nx.m_loud rfl rfl rfl ?_ | refine Nx.at_do rfl rfl rfl rfl ?_ | refine Nx.m_loud_do rfl rfl rfl rfl rfl ?_); first | refine Nx.opr rfl rfl ?_ | refine Nx.so ?_ | refine Nx.sb (fun bx => ?_) | refine Nx.sa (fun A2 c2 => ?_))
      | ((with_reducible refine Nx.is_at ?_); first | refine Nx.a ?_ | ((fail_if_success refine Nx.at_do rfl rfl rfl rfl ?_); first | refine Nx.at_dec_t rfl rfl rfl rfl (by first | assumption | omega) ?_ | refine Nx.at_dec_f rfl rfl rfl rfl (by first | assumption | omega) ?_ | refine Nx.at_split rfl rfl rfl rfl (fun hc => ?_) (fun hc => ?_) | refine Nx.at_splitb rfl rfl rfl rfl (fun hc => ?_) (fun hc => ?_)))
      | ((with_reducible refine Nx.is_mix ?_); first | refine Nx.m ?_ | ((fail_if_success refine Nx.m_quiet_do rfl rfl rfl rfl rfl rfl rfl ?_ ?_); (fail_if_success refine Nx.m_loud_do rfl rfl rfl rfl rfl ?_); first | refine Nx.m_dec_t rfl rfl rfl rfl (by first | assumption | omega) ?_ | refine Nx.m_dec_f rfl rfl rfl rfl (by first | assumption | omega) ?_ | refine Nx.m_split rfl rfl rfl rfl (fun hc => ?_) (fun hc => ?_) | refine Nx.m_splitb rfl rfl rfl rfl (fun hc => ?_) (fun hc => ?_)))
      | ((fail_if_success (with_reducible refine Nx.is_at ?_)); (fail_if_success (with_reducible refine Nx.is_wp ?_)); (fail_if_success (with_reducible refine Nx.is_mix ?_)); first | refine Nx.ex ?_)
    refine Nx.p_loop (σ := Nat) (fun k => [(0, .slice A l.length c), (8, .slice A l.length c), (9, .int .i64 l.length), (10, .int .i64 (k : Int))])
      (fun _ => [F]) (fun k => k ≤ l.length ∧ checkN l k = 0) (fun k => l.length - k) 0 rfl ⟨Nat.zero_le _, rfl⟩ ⟨rfl, rfl, rfl, rfl, trivial⟩ (by (exact Ent.auto)) ?_
    rintro k ⟨hk, h0⟩
    by_cases hlt : k < l.length
    · have hstop := fun h => checkN_stop h0 h l.length hlt
      have hgo : checkAt l k = 0 → checkN l (k + 1) = 0 := fun h => by
        show (if _ then _ else _) = _
        rw [h0, if_neg (by omega), h]
      have hx := ho _ (sh_mem hlt)
      have hxp := fun h : 0 < k => ho _ (sh_mem (l := l) (k := k - 1) (by omega))
      have htl : (l.take k).length = k := by rw [List.length_take]; omega
      have htk := shifts_take hl k
      have hbs := before_spec (l.getD ((k : Int) - 1).toNat default) (l.getD k default) I
      by_cases hs0 : singleE (l.getD k default) ≠ 0
      · have hca : checkAt l k = singleE (l.getD k default) := by unfold checkAt; rw [if_pos hs0]
        have hse : singleE (l.getD k default) = if nameB (l.getD k default).1 = true then (if properB (l.getD k default) = true then 0 else 43) else 3 := rfl
        have hret := hstop (by rw [hca]; exact hs0)
        rw [hca, hse] at hret
        repeat' first
          | ((with_reducible refine Nx.is_wp ?_); first | refine Nx.wo ?_ | refine Nx.p_dec rfl rfl (fun hc => ?_) (fun hc => ?_) | refine Nx.p_bool rfl rfl (fun hc => ?_) (fun hc => ?_))
          | ((first | refine Nx.at_op rfl rfl ?_ | refine Nx.m_loud rfl rfl rfl ?_ | refine Nx.at_do rfl rfl rfl rfl ?_ | refine Nx.m_loud_do rfl rfl rfl rfl rfl ?_); first | refine Nx.opr rfl rfl ?_ | refine Nx.indexAddr_nat rfl rfl rfl rfl rfl (by omega) (hl.isSome (by omega) (by omega)) ?_ | refine Nx.loads rfl rfl rfl rfl (hl.rds (by omega)) rfl ?_ | refine Nx.callv rfl rfl rfl (by kernel_rfl) rfl (rName_spec (l.getD k default).1 hx.1 I) ?_ | refine Nx.callv rfl rfl rfl (by kernel_rfl) rfl (proper_spec (l.getD k default) I) ?_ | refine Nx.so ?_ | refine Nx.sb (fun bx => ?_) | refine Nx.sa (fun A2 c2 => ?_))
          | ((with_reducible refine Nx.is_at ?_); first | refine Nx.a ?_ | ((fail_if_success refine Nx.at_do rfl rfl rfl rfl ?_); first | refine Nx.at_dec_t rfl rfl rfl rfl (by first | assumption | omega) ?_ | refine Nx.at_dec_f rfl rfl rfl rfl (by first | assumption | omega) ?_ | refine Nx.at_split rfl rfl rfl rfl (fun hc => ?_) (fun hc => ?_) | refine Nx.at_splitb rfl rfl rfl rfl (fun hc => ?_) (fun hc => ?_)))
          | ((with_reducible refine Nx.is_mix ?_); first | refine Nx.m ?_ | ((fail_if_success refine Nx.m_quiet_do rfl rfl rfl rfl rfl rfl rfl ?_ ?_); (fail_if_success refine Nx.m_loud_do rfl rfl rfl rfl rfl ?_); first | refine Nx.m_dec_t rfl rfl rfl rfl (by first | assumption | omega) ?_ | refine Nx.m_dec_f rfl rfl rfl rfl (by first | assumption | omega) ?_ | refine Nx.m_split rfl rfl rfl rfl (fun hc => ?_) (fun hc => ?_) | refine Nx.m_splitb rfl rfl rfl rfl (fun hc => ?_) (fun hc => ?_)))
          | ((fail_if_success (with_reducible refine Nx.is_at ?_)); (fail_if_success (with_reducible refine Nx.is_wp ?_)); (fail_if_success (with_reducible refine Nx.is_mix ?_)); first | refine Nx.ex ?_)
        all_goals first
          | exact Nx.ret_fn rfl [] ⟨by rw [hret]; simp_all, rfl⟩ (by (exact Ent.auto))
          | (exfalso; simp_all; done)
      · have hs0 : singleE (l.getD k default) = 0 := by omega
        have hnm : nameB (l.getD k default).1 = true := by
          cases hb : nameB (l.getD k default).1 with
          | true => rfl
          | false => unfold singleE at hs0; rw [hb] at hs0; simp at hs0
        have hpr : properB (l.getD k default) = true := by
          cases hb : properB (l.getD k default) with
          | true => rfl
          | false => unfold singleE at hs0; rw [hb, hnm] at hs0; simp at hs0
        have hNm := rName_spec (l.getD k default).1 hx.1 I
        have hPr := proper_spec (l.getD k default) I
        rw [hnm] at hNm
        rw [hpr] at hPr
        have hkn : 0 < k → ((k : Int) - 1).toNat = k - 1 := fun h => by omega
        have hov := meets_spec A c (l.take k) (l.getD k default) I htk
        rw [htl] at hov
        by_cases hbf : 0 < k ∧ beforeB (l.getD (k - 1) default) (l.getD k default) = false
        · have hca : checkAt l k = 11 := by unfold checkAt; rw [if_neg (by omega), if_pos hbf]
          rw [show beforeB (l.getD ((k : Int) - 1).toNat default) (l.getD k default) = false by rw [hkn hbf.1]; exact hbf.2] at hbs
          have hk0 := hbf.1
          repeat' first
            | ((with_reducible refine Nx.is_wp ?_); first | refine Nx.wo ?_ | refine Nx.p_draw (id := 10) rfl [0, 1, 2, 3, 4, 5, 6, 7, 8, 9, 10, 11, 12] [9] _ rfl rfl (by kernel_rfl) (by kernel_rfl) rfl (by repeat first | exact PanicOk.fn | refine PanicOk.then_ ?_ | refine PanicOk.inB ?_) (Ent.refl _) ?_ | refine Nx.p_draw (id := 12) rfl [0, 1, 2, 3, 4, 5] [4] _ rfl rfl (by kernel_rfl) (by kernel_rfl) rfl (by repeat first | exact PanicOk.fn | refine PanicOk.then_ ?_ | refine PanicOk.inB ?_) (Ent.refl _) ?_ | refine Nx.p_dec rfl rfl (fun hc => ?_) (fun hc => ?_) | refine Nx.p_bool rfl rfl (fun hc => ?_) (fun hc => ?_))
            | ((first | refine Nx.at_op rfl rfl ?_ | refine Nx.m_loud rfl rfl rfl ?_ | refine Nx.at_do rfl rfl rfl rfl ?_ | refine Nx.m_loud_do rfl rfl rfl rfl rfl ?_); first | refine Nx.opr rfl rfl ?_ | refine Nx.indexAddr_nat rfl rfl rfl rfl rfl (by omega) (hl.isSome (by omega) (by omega)) ?_ | refine Nx.loads rfl rfl rfl rfl (hl.rds (by omega)) rfl ?_ | refine Nx.callv rfl rfl rfl (by kernel_rfl) rfl hNm ?_ | refine Nx.callv rfl rfl rfl (by kernel_rfl) rfl hPr ?_ | refine Nx.callv rfl rfl rfl (by kernel_rfl) rfl hbs ?_ | refine Nx.so ?_ | refine Nx.sb (fun bx => ?_) | refine Nx.sa (fun A2 c2 => ?_))
            | ((with_reducible refine Nx.is_at ?_); first | refine Nx.a ?_ | ((fail_if_success refine Nx.at_do rfl rfl rfl rfl ?_); first | refine Nx.at_dec_t rfl rfl rfl rfl (by first | assumption | omega) ?_ | refine Nx.at_dec_f rfl rfl rfl rfl (by first | assumption | omega) ?_ | refine Nx.at_split rfl rfl rfl rfl (fun hc => ?_) (fun hc => ?_) | refine Nx.at_splitb rfl rfl rfl rfl (fun hc => ?_) (fun hc => ?_)))
            | ((with_reducible refine Nx.is_mix ?_); first | refine Nx.m_quiet rfl rfl rfl rfl rfl (by first | exact QRun.opr rfl | exact QRun.idxi rfl rfl rfl rfl (by omega) (by omega) (hl.isSome (by omega) (by omega)) | exact QRun.loads rfl rfl rfl (hl.rds (k := ((k : Int) - 1).toNat) (by omega)) rfl | exact QRun.loads rfl rfl rfl (Rds.at_ 0 rfl) rfl) ?_ | refine Nx.m_quiet_do rfl rfl rfl rfl rfl rfl rfl (by first | exact QRun.opr rfl | exact QRun.idxi rfl rfl rfl rfl (by omega) (by omega) (hl.isSome (by omega) (by omega)) | exact QRun.loads rfl rfl rfl (hl.rds (k := ((k : Int) - 1).toNat) (by omega)) rfl | exact QRun.loads rfl rfl rfl (Rds.at_ 0 rfl) rfl) ?_ | refine Nx.m ?_ | ((fail_if_success refine Nx.m_quiet_do rfl rfl rfl rfl rfl rfl rfl ?_ ?_); (fail_if_success refine Nx.m_loud_do rfl rfl rfl rfl rfl ?_); first | refine Nx.m_dec_t rfl rfl rfl rfl (by first | assumption | omega) ?_ | refine Nx.m_dec_f rfl rfl rfl rfl (by first | assumption | omega) ?_ | refine Nx.m_split rfl rfl rfl rfl (fun hc => ?_) (fun hc => ?_) | refine Nx.m_splitb rfl rfl rfl rfl (fun hc => ?_) (fun hc => ?_)))
            | ((fail_if_success (with_reducible refine Nx.is_at ?_)); (fail_if_success (with_reducible refine Nx.is_wp ?_)); (fail_if_success (with_reducible refine Nx.is_mix ?_)); first | refine Nx.ex ?_)
          exact Nx.ret_fn rfl [] ⟨by rw [hstop (by rw [hca]; decide), hca], rfl⟩ (by (exact Ent.auto))
        · have hcm : 0 < k → beforeB (l.getD ((k : Int) - 1).toNat default) (l.getD k default) = true := fun h => by
            rw [hkn h]
            cases hb : beforeB (l.getD (k - 1) default) (l.getD k default) with
            | true => rfl
            | false => exact absurd ⟨h, hb⟩ hbf
          by_cases hm : meetsB (l.take k) (l.getD k default) = true
          · have hca : checkAt l k = 46 := by unfold checkAt; rw [if_neg (by omega), if_neg hbf, if_pos hm]
            rw [hm] at hov
            by_cases hk0 : 0 < k
            · have hcm := hcm hk0
              rw [hcm] at hbs
              repeat' first
                | ((with_reducible refine Nx.is_wp ?_); first | refine Nx.wo ?_ | refine Nx.p_draw (id := 10) rfl [0, 1, 2, 3, 4, 5, 6, 7, 8, 9, 10, 11, 12] [9] _ rfl rfl (by kernel_rfl) (by kernel_rfl) rfl (by repeat first | exact PanicOk.fn | refine PanicOk.then_ ?_ | refine PanicOk.inB ?_) (Ent.refl _) ?_ | refine Nx.p_draw (id := 12) rfl [0, 1, 2, 3, 4, 5] [4] _ rfl rfl (by kernel_rfl) (by kernel_rfl) rfl (by repeat first | exact PanicOk.fn | refine PanicOk.then_ ?_ | refine PanicOk.inB ?_) (Ent.refl _) ?_ | refine Nx.p_dec rfl rfl (fun hc => ?_) (fun hc => ?_) | refine Nx.p_bool rfl rfl (fun hc => ?_) (fun hc => ?_))
                | ((first | refine Nx.at_op rfl rfl ?_ | refine Nx.m_loud rfl rfl rfl ?_ | refine Nx.at_do rfl rfl rfl rfl ?_ | refine Nx.m_loud_do rfl rfl rfl rfl rfl ?_); first | refine Nx.opr rfl rfl ?_ | refine Nx.indexAddr_nat rfl rfl rfl rfl rfl (by omega) (hl.isSome (by omega) (by omega)) ?_ | refine Nx.loads rfl rfl rfl rfl (hl.rds (by omega)) rfl ?_ | refine Nx.callv rfl rfl rfl (by kernel_rfl) rfl hNm ?_ | refine Nx.callv rfl rfl rfl (by kernel_rfl) rfl hPr ?_ | refine Nx.callv rfl rfl rfl (by kernel_rfl) rfl hbs ?_ | refine Nx.callv rfl rfl rfl (by kernel_rfl) rfl hov ?_ | refine Nx.so ?_ | refine Nx.sb (fun bx => ?_) | refine Nx.sa (fun A2 c2 => ?_))
                | ((with_reducible refine Nx.is_at ?_); first | refine Nx.a ?_ | ((fail_if_success refine Nx.at_do rfl rfl rfl rfl ?_); first | refine Nx.at_dec_t rfl rfl rfl rfl (by first | assumption | omega) ?_ | refine Nx.at_dec_f rfl rfl rfl rfl (by first | assumption | omega) ?_ | refine Nx.at_split rfl rfl rfl rfl (fun hc => ?_) (fun hc => ?_) | refine Nx.at_splitb rfl rfl rfl rfl (fun hc => ?_) (fun hc => ?_)))
                | ((with_reducible refine Nx.is_mix ?_); first | refine Nx.m_quiet rfl rfl rfl rfl rfl (by first | exact QRun.opr rfl | exact QRun.idxi rfl rfl rfl rfl (by omega) (by omega) (hl.isSome (by omega) (by omega)) | exact QRun.loads rfl rfl rfl (hl.rds (k := ((k : Int) - 1).toNat) (by omega)) rfl | exact QRun.loads rfl rfl rfl (Rds.at_ 0 rfl) rfl | exact QRun.slice_hi rfl rfl rfl rfl (by omega)) ?_ | refine Nx.m_quiet_do rfl rfl rfl rfl rfl rfl rfl (by first | exact QRun.opr rfl | exact QRun.idxi rfl rfl rfl rfl (by omega) (by omega) (hl.isSome (by omega) (by omega)) | exact QRun.loads rfl rfl rfl (hl.rds (k := ((k : Int) - 1).toNat) (by omega)) rfl | exact QRun.loads rfl rfl rfl (Rds.at_ 0 rfl) rfl | exact QRun.slice_hi rfl rfl rfl rfl (by omega)) ?_ | refine Nx.m ?_ | ((fail_if_success refine Nx.m_quiet_do rfl rfl rfl rfl rfl rfl rfl ?_ ?_); (fail_if_success refine Nx.m_loud_do rfl rfl rfl rfl rfl ?_); first | refine Nx.m_dec_t rfl rfl rfl rfl (by first | assumption | omega) ?_ | refine Nx.m_dec_f rfl rfl rfl rfl (by first | assumption | omega) ?_ | refine Nx.m_split rfl rfl rfl rfl (fun hc => ?_) (fun hc => ?_) | refine Nx.m_splitb rfl rfl rfl rfl (fun hc => ?_) (fun hc => ?_)))
                | ((fail_if_success (with_reducible refine Nx.is_at ?_)); (fail_if_success (with_reducible refine Nx.is_wp ?_)); (fail_if_success (with_reducible refine Nx.is_mix ?_)); first | refine Nx.ex ?_)
              exact Nx.ret_fn rfl [] ⟨by rw [hstop (by rw [hca]; decide), hca], rfl⟩ (by (exact Ent.auto))
            · repeat' first
                | ((with_reducible refine Nx.is_wp ?_); first | refine Nx.wo ?_ | refine Nx.p_draw (id := 10) rfl [0, 1, 2, 3, 4, 5, 6, 7, 8, 9, 10, 11, 12] [9] _ rfl rfl (by kernel_rfl) (by kernel_rfl) rfl (by repeat first | exact PanicOk.fn | refine PanicOk.then_ ?_ | refine PanicOk.inB ?_) (Ent.refl _) ?_ | refine Nx.p_draw (id := 12) rfl [0, 1, 2, 3, 4, 5] [4] _ rfl rfl (by kernel_rfl) (by kernel_rfl) rfl (by repeat first | exact PanicOk.fn | refine PanicOk.then_ ?_ | refine PanicOk.inB ?_) (Ent.refl _) ?_ | refine Nx.p_dec rfl rfl (fun hc => ?_) (fun hc => ?_) | refine Nx.p_bool rfl rfl (fun hc => ?_) (fun hc => ?_))
                | ((first | refine Nx.at_op rfl rfl ?_ | refine Nx.m_loud rfl rfl rfl ?_ | refine Nx.at_do rfl rfl rfl rfl ?_ | refine Nx.m_loud_do rfl rfl rfl rfl rfl ?_); first | refine Nx.opr rfl rfl ?_ | refine Nx.indexAddr_nat rfl rfl rfl rfl rfl (by omega) (hl.isSome (by omega) (by omega)) ?_ | refine Nx.loads rfl rfl rfl rfl (hl.rds (by omega)) rfl ?_ | refine Nx.callv rfl rfl rfl (by kernel_rfl) rfl hNm ?_ | refine Nx.callv rfl rfl rfl (by kernel_rfl) rfl hPr ?_ | refine Nx.callv rfl rfl rfl (by kernel_rfl) rfl hov ?_ | refine Nx.so ?_ | refine Nx.sb (fun bx => ?_) | refine Nx.sa (fun A2 c2 => ?_))
                | ((with_reducible refine Nx.is_at ?_); first | refine Nx.a ?_ | ((fail_if_success refine Nx.at_do rfl rfl rfl rfl ?_); first | refine Nx.at_dec_t rfl rfl rfl rfl (by first | assumption | omega) ?_ | refine Nx.at_dec_f rfl rfl rfl rfl (by first | assumption | omega) ?_ | refine Nx.at_split rfl rfl rfl rfl (fun hc => ?_) (fun hc => ?_) | refine Nx.at_splitb rfl rfl rfl rfl (fun hc => ?_) (fun hc => ?_)))
                | ((with_reducible refine Nx.is_mix ?_); first | refine Nx.m_quiet rfl rfl rfl rfl rfl (by first | exact QRun.opr rfl | exact QRun.loads rfl rfl rfl (Rds.at_ 0 rfl) rfl | exact QRun.slice_hi rfl rfl rfl rfl (by omega)) ?_ | refine Nx.m_quiet_do rfl rfl rfl rfl rfl rfl rfl (by first | exact QRun.opr rfl | exact QRun.loads rfl rfl rfl (Rds.at_ 0 rfl) rfl | exact QRun.slice_hi rfl rfl rfl rfl (by omega)) ?_ | refine Nx.m ?_ | ((fail_if_success refine Nx.m_quiet_do rfl rfl rfl rfl rfl rfl rfl ?_ ?_); (fail_if_success refine Nx.m_loud_do rfl rfl rfl rfl rfl ?_); first | refine Nx.m_dec_t rfl rfl rfl rfl (by first | assumption | omega) ?_ | refine Nx.m_dec_f rfl rfl rfl rfl (by first | assumption | omega) ?_ | refine Nx.m_split rfl rfl rfl rfl (fun hc => ?_) (fun hc => ?_) | refine Nx.m_splitb rfl rfl rfl rfl (fun hc => ?_) (fun hc => ?_)))
                | ((fail_if_success (with_reducible refine Nx.is_at ?_)); (fail_if_success (with_reducible refine Nx.is_wp ?_)); (fail_if_success (with_reducible refine Nx.is_mix ?_)); first | refine Nx.ex ?_)
              exact Nx.ret_fn rfl [] ⟨by rw [hstop (by rw [hca]; decide), hca], rfl⟩ (by (exact Ent.auto))
          · have hm0 : meetsB (l.take k) (l.getD k default) = false := by simpa using hm
            have hca : checkAt l k = 0 := by unfold checkAt; rw [if_neg (by omega), if_neg hbf, if_neg hm]
            rw [hm0] at hov
            by_cases hk0 : 0 < k
            · have hcm := hcm hk0
              rw [hcm] at hbs
              repeat' first
                | ((with_reducible refine Nx.is_wp ?_); first | refine Nx.wo ?_ | refine Nx.p_draw (id := 10) rfl [0, 1, 2, 3, 4, 5, 6, 7, 8, 9, 10, 11, 12] [9] _ rfl rfl (by kernel_rfl) (by kernel_rfl) rfl (by repeat first | exact PanicOk.fn | refine PanicOk.then_ ?_ | refine PanicOk.inB ?_) (Ent.refl _) ?_ | refine Nx.p_draw (id := 12) rfl [0, 1, 2, 3, 4, 5] [4] _ rfl rfl (by kernel_rfl) (by kernel_rfl) rfl (by repeat first | exact PanicOk.fn | refine PanicOk.then_ ?_ | refine PanicOk.inB ?_) (Ent.refl _) ?_ | refine Nx.p_dec rfl rfl (fun hc => ?_) (fun hc => ?_) | refine Nx.p_bool rfl rfl (fun hc => ?_) (fun hc => ?_))
                | ((first | refine Nx.at_op rfl rfl ?_ | refine Nx.m_loud rfl rfl rfl ?_ | refine Nx.at_do rfl rfl rfl rfl ?_ | refine Nx.m_loud_do rfl rfl rfl rfl rfl ?_); first | refine Nx.opr rfl rfl ?_ | refine Nx.indexAddr_nat rfl rfl rfl rfl rfl (by omega) (hl.isSome (by omega) (by omega)) ?_ | refine Nx.loads rfl rfl rfl rfl (hl.rds (by omega)) rfl ?_ | refine Nx.callv rfl rfl rfl (by kernel_rfl) rfl hNm ?_ | refine Nx.callv rfl rfl rfl (by kernel_rfl) rfl hPr ?_ | refine Nx.callv rfl rfl rfl (by kernel_rfl) rfl hbs ?_ | refine Nx.callv rfl rfl rfl (by kernel_rfl) rfl hov ?_ | refine Nx.so ?_ | refine Nx.sb (fun bx => ?_) | refine Nx.sa (fun A2 c2 => ?_))
                | ((with_reducible refine Nx.is_at ?_); first | refine Nx.a ?_ | ((fail_if_success refine Nx.at_do rfl rfl rfl rfl ?_); first | refine Nx.at_dec_t rfl rfl rfl rfl (by first | assumption | omega) ?_ | refine Nx.at_dec_f rfl rfl rfl rfl (by first | assumption | omega) ?_ | refine Nx.at_split rfl rfl rfl rfl (fun hc => ?_) (fun hc => ?_) | refine Nx.at_splitb rfl rfl rfl rfl (fun hc => ?_) (fun hc => ?_)))
                | ((with_reducible refine Nx.is_mix ?_); first | refine Nx.m_quiet rfl rfl rfl rfl rfl (by first | exact QRun.opr rfl | exact QRun.idxi rfl rfl rfl rfl (by omega) (by omega) (hl.isSome (by omega) (by omega)) | exact QRun.loads rfl rfl rfl (hl.rds (k := ((k : Int) - 1).toNat) (by omega)) rfl | exact QRun.loads rfl rfl rfl (Rds.at_ 0 rfl) rfl | exact QRun.slice_hi rfl rfl rfl rfl (by omega)) ?_ | refine Nx.m_quiet_do rfl rfl rfl rfl rfl rfl rfl (by first | exact QRun.opr rfl | exact QRun.idxi rfl rfl rfl rfl (by omega) (by omega) (hl.isSome (by omega) (by omega)) | exact QRun.loads rfl rfl rfl (hl.rds (k := ((k : Int) - 1).toNat) (by omega)) rfl | exact QRun.loads rfl rfl rfl (Rds.at_ 0 rfl) rfl | exact QRun.slice_hi rfl rfl rfl rfl (by omega)) ?_ | refine Nx.m ?_ | ((fail_if_success refine Nx.m_quiet_do rfl rfl rfl rfl rfl rfl rfl ?_ ?_); (fail_if_success refine Nx.m_loud_do rfl rfl rfl rfl rfl ?_); first | refine Nx.m_dec_t rfl rfl rfl rfl (by first | assumption | omega) ?_ | refine Nx.m_dec_f rfl rfl rfl rfl (by first | assumption | omega) ?_ | refine Nx.m_split rfl rfl rfl rfl (fun hc => ?_) (fun hc => ?_) | refine Nx.m_splitb rfl rfl rfl rfl (fun hc => ?_) (fun hc => ?_)))
                | ((fail_if_success (with_reducible refine Nx.is_at ?_)); (fail_if_success (with_reducible refine Nx.is_wp ?_)); (fail_if_success (with_reducible refine Nx.is_mix ?_)); first | refine Nx.ex ?_)
              exact Nx.again (k + 1) ⟨hlt, hgo hca⟩ (by omega) ⟨rfl, rfl, rfl, rfl, trivial⟩ (by (exact Ent.auto))
            · repeat' first
                | ((with_reducible refine Nx.is_wp ?_); first | refine Nx.wo ?_ | refine Nx.p_draw (id := 10) rfl [0, 1, 2, 3, 4, 5, 6, 7, 8, 9, 10, 11, 12] [9] _ rfl rfl (by kernel_rfl) (by kernel_rfl) rfl (by repeat first | exact PanicOk.fn | refine PanicOk.then_ ?_ | refine PanicOk.inB ?_) (Ent.refl _) ?_ | refine Nx.p_draw (id := 12) rfl [0, 1, 2, 3, 4, 5] [4] _ rfl rfl (by kernel_rfl) (by kernel_rfl) rfl (by repeat first | exact PanicOk.fn | refine PanicOk.then_ ?_ | refine PanicOk.inB ?_) (Ent.refl _) ?_ | refine Nx.p_dec rfl rfl (fun hc => ?_) (fun hc => ?_) | refine Nx.p_bool rfl rfl (fun hc => ?_) (fun hc => ?_))
                | ((first | refine Nx.at_op rfl rfl ?_ | refine Nx.m_loud rfl rfl rfl ?_ | refine Nx.at_do rfl rfl rfl rfl ?_ | refine Nx.m_loud_do rfl rfl rfl rfl rfl ?_); first | refine Nx.opr rfl rfl ?_ | refine Nx.indexAddr_nat rfl rfl rfl rfl rfl (by omega) (hl.isSome (by omega) (by omega)) ?_ | refine Nx.loads rfl rfl rfl rfl (hl.rds (by omega)) rfl ?_ | refine Nx.callv rfl rfl rfl (by kernel_rfl) rfl hNm ?_ | refine Nx.callv rfl rfl rfl (by kernel_rfl) rfl hPr ?_ | refine Nx.callv rfl rfl rfl (by kernel_rfl) rfl hov ?_ | refine Nx.so ?_ | refine Nx.sb (fun bx => ?_) | refine Nx.sa (fun A2 c2 => ?_))
                | ((with_reducible refine Nx.is_at ?_); first | refine Nx.a ?_ | ((fail_if_success refine Nx.at_do rfl rfl rfl rfl ?_); first | refine Nx.at_dec_t rfl rfl rfl rfl (by first | assumption | omega) ?_ | refine Nx.at_dec_f rfl rfl rfl rfl (by first | assumption | omega) ?_ | refine Nx.at_split rfl rfl rfl rfl (fun hc => ?_) (fun hc => ?_) | refine Nx.at_splitb rfl rfl rfl rfl (fun hc => ?_) (fun hc => ?_)))
                | ((with_reducible refine Nx.is_mix ?_); first | refine Nx.m_quiet rfl rfl rfl rfl rfl (by first | exact QRun.opr rfl | exact QRun.loads rfl rfl rfl (Rds.at_ 0 rfl) rfl | exact QRun.slice_hi rfl rfl rfl rfl (by omega)) ?_ | refine Nx.m_quiet_do rfl rfl rfl rfl rfl rfl rfl (by first | exact QRun.opr rfl | exact QRun.loads rfl rfl rfl (Rds.at_ 0 rfl) rfl | exact QRun.slice_hi rfl rfl rfl rfl (by omega)) ?_ | refine Nx.m ?_ | ((fail_if_success refine Nx.m_quiet_do rfl rfl rfl rfl rfl rfl rfl ?_ ?_); (fail_if_success refine Nx.m_loud_do rfl rfl rfl rfl rfl ?_); first | refine Nx.m_dec_t rfl rfl rfl rfl (by first | assumption | omega) ?_ | refine Nx.m_dec_f rfl rfl rfl rfl (by first | assumption | omega) ?_ | refine Nx.m_split rfl rfl rfl rfl (fun hc => ?_) (fun hc => ?_) | refine Nx.m_splitb rfl rfl rfl rfl (fun hc => ?_) (fun hc => ?_)))
                | ((fail_if_success (with_reducible refine Nx.is_at ?_)); (fail_if_success (with_reducible refine Nx.is_wp ?_)); (fail_if_success (with_reducible refine Nx.is_mix ?_)); first | refine Nx.ex ?_)
              exact Nx.again (k + 1) ⟨hlt, hgo hca⟩ (by omega) ⟨rfl, rfl, rfl, rfl, trivial⟩ (by (exact Ent.auto))
    · obtain rfl : k = l.length := by omega
      repeat' first
        | ((with_reducible refine Nx.is_wp ?_); first | refine Nx.wo ?_ | refine Nx.p_dec rfl rfl (fun hc => ?_) (fun hc => ?_) | refine Nx.p_bool rfl rfl (fun hc => ?_) (fun hc => ?_))
        | ((first | refine Nx.at_op rfl rfl ?_ | refine Nx.m_loud rfl rfl rfl ?_ | refine Nx.at_do rfl rfl rfl rfl ?_ | refine Nx.m_loud_do rfl rfl rfl rfl rfl ?_); first | refine Nx.opr rfl rfl ?_ | refine Nx.so ?_ | refine Nx.sb (fun bx => ?_) | refine Nx.sa (fun A2 c2 => ?_))
        | ((with_reducible refine Nx.is_at ?_); first | refine Nx.a ?_ | ((fail_if_success refine Nx.at_do rfl rfl rfl rfl ?_); first | refine Nx.at_dec_t rfl rfl rfl rfl (by first | assumption | omega) ?_ | refine Nx.at_dec_f rfl rfl rfl rfl (by first | assumption | omega) ?_ | refine Nx.at_split rfl rfl rfl rfl (fun hc => ?_) (fun hc => ?_) | refine Nx.at_splitb rfl rfl rfl rfl (fun hc => ?_) (fun hc => ?_)))
        | ((with_reducible refine Nx.is_mix ?_); first | refine Nx.m ?_ | ((fail_if_success refine Nx.m_quiet_do rfl rfl rfl rfl rfl rfl rfl ?_ ?_); (fail_if_success refine Nx.m_loud_do rfl rfl rfl rfl rfl ?_); first | refine Nx.m_dec_t rfl rfl rfl rfl (by first | assumption | omega) ?_ | refine Nx.m_dec_f rfl rfl rfl rfl (by first | assumption | omega) ?_ | refine Nx.m_split rfl rfl rfl rfl (fun hc => ?_) (fun hc => ?_) | refine Nx.m_splitb rfl rfl rfl rfl (fun hc => ?_) (fun hc => ?_)))
        | ((fail_if_success (with_reducible refine Nx.is_at ?_)); (fail_if_success (with_reducible refine Nx.is_wp ?_)); (fail_if_success (with_reducible refine Nx.is_mix ?_)); first | refine Nx.ex ?_)
      exact Nx.ret_fn rfl [] ⟨by rw [h0], rfl⟩ (by (exact Ent.auto))
end Go.Proofs.Ytaoeapmdhpkidaa
