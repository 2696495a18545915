import Derived.Test.YtcnkjmkcoahdmaaR8
namespace Go.Proofs.Ytcnkjmkcoahdmaa
open Go.Eng
attribute [local irreducible] opK wpList Code.wp Exit.then Exit.inBlock fnPost bodyPost Nx Calls Oper.wp Rd Rds Wr Ent Stars Blk Again Vec FnSpec wpMix QRun Stop Upto wpAt
def oneCell (k am f s : Int) : TC := ⟨(none, 0, 0), k, 0, am, f, s, (none, 0, 0)⟩
theorem tableB_one (d k am f s : Int) : tableB 1 d 0 0 [oneCell k am f s] = ((if 1 ≤ k ∧ k < 1 then [((1 : Int), (0 : Int))] else []) ++ (if d * am < 100 * f then [(2, 0)] else [])) ++ (if f ≠ 0 ∧ 100 * (am - f - s) < 0 * f then [(3, 0)] else []) := by
  simp [tableB, fromB, cellB, oneCell]
  rfl
theorem aloneE {n d : Int} (hn : 1 ≤ n) (hd : d ≤ 99) : tableB 1 d 0 0 [oneCell 1 n n 0] = [(2, 0)] := by
  have h : d * n ≤ 99 * n := Int.mul_le_mul_of_nonneg_right hd (by omega)
  rw [tableB_one, if_neg (by omega), if_pos (by omega), if_neg (by omega)]
  rfl
theorem many1 {n k : Int} (hn : 1 ≤ n) (hk : 1 ≤ k) : 0 ≤ n * k - n - n * min 1 (k - 1) := by
  by_cases h1 : k = 1
  · subst h1; rw [show min (1 : Int) (1 - 1) = 0 by decide]; omega
  · have : min 1 (k - 1) = 1 := by omega
    rw [this]
    have : n * 2 ≤ n * k := Int.mul_le_mul_of_nonneg_left (by omega) (by omega)
    omega
theorem manyE {n k d : Int} (hn : 1 ≤ n) (hk : 1 ≤ k) : tableB 1 d 0 0 [oneCell k (n * k) n (n * min 1 (k - 1))] = if d * k < 100 then [(2, 0)] else [] := by
  have h3 := many1 hn hk
  have e : d * (n * k) < 100 * n ↔ d * k < 100 := by
    rw [show d * (n * k) = (d * k) * n by rw [Int.mul_assoc, Int.mul_comm n k]]
    constructor
    · intro h; exact Int.lt_of_mul_lt_mul_right h (by omega)
    · intro h; exact Int.mul_lt_mul_of_pos_right h (by omega)
  rw [tableB_one, if_neg (by omega), List.nil_append, if_neg (c := n ≠ 0 ∧ _) (by omega), List.append_nil]
  by_cases h : d * k < 100
  · rw [if_pos (e.2 h), if_pos h]
  · rw [if_neg (fun hh => h (e.1 hh)), if_neg h]
theorem nk_small {n k : Int} (hn : 1 ≤ n ∧ n ≤ 65536) (hk : 1 ≤ k ∧ k ≤ 256) : 1 ≤ n * k ∧ n * k ≤ 16777216 := by
  have h1 : n * k ≤ 65536 * 256 := Int.mul_le_mul hn.2 hk.2 (by omega) (by omega)
  have h2 : 1 * 1 ≤ n * k := Int.mul_le_mul hn.1 hk.1 (by omega) (by omega)
  omega
theorem RulesAlone_spec (p q r : Int) (hp : 0 ≤ p ∧ p < 65536) (hq : 0 ≤ q ∧ q < 256) (hr : 0 ≤ r ∧ r < 256) (I : PH) :
    FnSpec Try.prog 3 [.int .u16 p, .int .u8 q, .int .u8 r] I [] (fun v R' => v = .bool true ∧ R' = []) := by
  have hn : 1 ≤ 1 + p ∧ 1 + p ≤ 65536 := by omega
  have hk : 1 ≤ 1 + q ∧ 1 + q ≤ 256 := by omega
  have hd : 1 ≤ 1 + r % 99 ∧ 1 + r % 99 ≤ 99 := by omega
  have hnk := nk_small hn hk
  have hm : 0 ≤ min 1 (1 + q - 1) ∧ min 1 (1 + q - 1) ≤ 1 := by omega
  have hnm : 0 ≤ (1 + p) * min 1 (1 + q - 1) ∧ (1 + p) * min 1 (1 + q - 1) ≤ 65536 := by
    have h1 : (1 + p) * min 1 (1 + q - 1) ≤ 65536 * 1 := Int.mul_le_mul hn.2 hm.2 hm.1 (by omega)
    have h2 := Int.mul_nonneg (show 0 ≤ 1 + p by omega) hm.1
    omega
  have hdk : 0 ≤ (1 + r % 99) * (1 + q) ∧ (1 + r % 99) * (1 + q) ≤ 25344 := by
    have h1 : (1 + r % 99) * (1 + q) ≤ 99 * 256 := Int.mul_le_mul hd.2 hk.2 (by omega) (by omega)
    have h2 := Int.mul_nonneg (show 0 ≤ 1 + r % 99 by omega) (show 0 ≤ 1 + q by omega)
    omega
  have hchk : checkE 1 (1 + r % 99) 0 0 = 0 := by unfold checkE; rw [if_neg (by omega)]
  refine FnSpec.enterP Try.func3 rfl Try.ntmps3 rfl fun w F => ?_
  repeat' first
    | ((with_reducible refine Nx.is_at ?_); first
        | (refine Nx.at_op rfl rfl ?_; first
            | refine Nx.opr rfl rfl ?_
            | ((with_reducible refine Nx.is_load ?_); first | refine Nx.load rfl rfl rfl (by first | exact Rd.at_ 0 rfl rfl | exact Rd.at_ 1 rfl rfl | exact Rd.at_ 2 rfl rfl | exact Rd.at_ 3 rfl rfl | exact Rd.at_ 4 rfl rfl | exact Rd.at_ 5 rfl rfl) ?_ | refine Nx.loads rfl rfl rfl rfl (by first | exact Rds.at_ 0 rfl | exact Rds.at_ 1 rfl | exact Rds.at_ 2 rfl | exact Rds.at_ 3 rfl | exact Rds.at_ 4 rfl | exact Rds.at_ 5 rfl) rfl ?_)
            | ((with_reducible refine Nx.is_bin ?_); first | refine Nx.add rfl rfl (by unfold I64; omega) rfl ?_ | refine Nx.sub rfl rfl (by unfold I64; omega) rfl ?_ | refine Nx.mul rfl rfl (by unfold I64; omega) rfl ?_ | refine Nx.rem rfl rfl (by omega) (by omega) rfl ?_ | refine Nx.quo rfl rfl (by omega) (by omega) (by unfold I64; omega) rfl ?_)
            | ((with_reducible refine Nx.is_conv ?_); first | refine Nx.conv_i64 rfl rfl rfl (by unfold I64; omega) rfl ?_)
            | ((with_reducible refine Nx.is_un ?_); first | refine Nx.not_dec rfl rfl ?_ | refine Nx.neg rfl (by unfold I64; omega) rfl ?_)
            | ((with_reducible refine Nx.is_build ?_); first | refine Nx.build rfl rfl (by kernel_rfl) rfl ?_)
            | ((with_reducible refine Nx.is_box ?_); first | refine Nx.box_agg rfl rfl (fun bx => ?_) | refine Nx.box1 rfl rfl rfl (fun bx => ?_))
            | ((with_reducible refine Nx.is_alloc ?_); first | refine Nx.alloc rfl rfl (fun bx => ?_))
            | ((with_reducible refine Nx.is_lit ?_); first | refine Nx.buildSlice rfl rfl rfl rfl rfl rfl rfl rfl rfl (fun bx => ?_))
            | ((with_reducible refine Nx.is_store ?_); first | refine Nx.store_blk 0 rfl rfl rfl rfl rfl rfl rfl ?_ | refine Nx.store_blk 1 rfl rfl rfl rfl rfl rfl rfl ?_ | refine Nx.store_blk 2 rfl rfl rfl rfl rfl rfl rfl ?_ | refine Nx.store_blk 3 rfl rfl rfl rfl rfl rfl rfl ?_ | refine Nx.store_blk 4 rfl rfl rfl rfl rfl rfl rfl ?_)
            | ((with_reducible refine Nx.is_append ?_); first | refine Nx.append_lit 0 rfl rfl rfl rfl (by kernel_rfl) rfl rfl rfl rfl (by omega) (fun A2 c2 => ?_) | refine Nx.append_lit 1 rfl rfl rfl rfl (by kernel_rfl) rfl rfl rfl rfl (by omega) (fun A2 c2 => ?_) | refine Nx.append_lit 2 rfl rfl rfl rfl (by kernel_rfl) rfl rfl rfl rfl (by omega) (fun A2 c2 => ?_) | refine Nx.append_lit 3 rfl rfl rfl rfl (by kernel_rfl) rfl rfl rfl rfl (by omega) (fun A2 c2 => ?_) | refine Nx.append_lit 4 rfl rfl rfl rfl (by kernel_rfl) rfl rfl rfl rfl (by omega) (fun A2 c2 => ?_))
            | ((with_reducible refine Nx.is_call ?_); first | refine Nx.min2 rfl rfl rfl ?_ | refine Nx.max2 rfl rfl rfl ?_)
            | refine Nx.makeFunc rfl rfl rfl ?_
            | refine Nx.fieldAddr rfl rfl rfl ?_)
        | refine Nx.at_no rfl rfl rfl rfl rfl rfl ?_
        | (refine Nx.at_do rfl rfl rfl rfl ?_; first
            | refine Nx.opr rfl rfl ?_
            | ((with_reducible refine Nx.is_load ?_); first | refine Nx.load rfl rfl rfl (by first | exact Rd.at_ 0 rfl rfl | exact Rd.at_ 1 rfl rfl | exact Rd.at_ 2 rfl rfl | exact Rd.at_ 3 rfl rfl | exact Rd.at_ 4 rfl rfl | exact Rd.at_ 5 rfl rfl) ?_ | refine Nx.loads rfl rfl rfl rfl (by first | exact Rds.at_ 0 rfl | exact Rds.at_ 1 rfl | exact Rds.at_ 2 rfl | exact Rds.at_ 3 rfl | exact Rds.at_ 4 rfl | exact Rds.at_ 5 rfl) rfl ?_)
            | ((with_reducible refine Nx.is_bin ?_); first | refine Nx.add rfl rfl (by unfold I64; omega) rfl ?_ | refine Nx.sub rfl rfl (by unfold I64; omega) rfl ?_ | refine Nx.mul rfl rfl (by unfold I64; omega) rfl ?_ | refine Nx.rem rfl rfl (by omega) (by omega) rfl ?_ | refine Nx.quo rfl rfl (by omega) (by omega) (by unfold I64; omega) rfl ?_)
            | ((with_reducible refine Nx.is_conv ?_); first | refine Nx.conv_i64 rfl rfl rfl (by unfold I64; omega) rfl ?_)
            | ((with_reducible refine Nx.is_un ?_); first | refine Nx.not_dec rfl rfl ?_ | refine Nx.neg rfl (by unfold I64; omega) rfl ?_)
            | ((with_reducible refine Nx.is_build ?_); first | refine Nx.build rfl rfl (by kernel_rfl) rfl ?_)
            | ((with_reducible refine Nx.is_box ?_); first | refine Nx.box_agg rfl rfl (fun bx => ?_) | refine Nx.box1 rfl rfl rfl (fun bx => ?_))
            | ((with_reducible refine Nx.is_alloc ?_); first | refine Nx.alloc rfl rfl (fun bx => ?_))
            | ((with_reducible refine Nx.is_lit ?_); first | refine Nx.buildSlice rfl rfl rfl rfl rfl rfl rfl rfl rfl (fun bx => ?_))
            | ((with_reducible refine Nx.is_store ?_); first | refine Nx.store_blk 0 rfl rfl rfl rfl rfl rfl rfl ?_ | refine Nx.store_blk 1 rfl rfl rfl rfl rfl rfl rfl ?_ | refine Nx.store_blk 2 rfl rfl rfl rfl rfl rfl rfl ?_ | refine Nx.store_blk 3 rfl rfl rfl rfl rfl rfl rfl ?_ | refine Nx.store_blk 4 rfl rfl rfl rfl rfl rfl rfl ?_)
            | ((with_reducible refine Nx.is_append ?_); first | refine Nx.append_lit 0 rfl rfl rfl rfl (by kernel_rfl) rfl rfl rfl rfl (by omega) (fun A2 c2 => ?_) | refine Nx.append_lit 1 rfl rfl rfl rfl (by kernel_rfl) rfl rfl rfl rfl (by omega) (fun A2 c2 => ?_) | refine Nx.append_lit 2 rfl rfl rfl rfl (by kernel_rfl) rfl rfl rfl rfl (by omega) (fun A2 c2 => ?_) | refine Nx.append_lit 3 rfl rfl rfl rfl (by kernel_rfl) rfl rfl rfl rfl (by omega) (fun A2 c2 => ?_) | refine Nx.append_lit 4 rfl rfl rfl rfl (by kernel_rfl) rfl rfl rfl rfl (by omega) (fun A2 c2 => ?_))
            | ((with_reducible refine Nx.is_call ?_); first | refine Nx.min2 rfl rfl rfl ?_ | refine Nx.max2 rfl rfl rfl ?_)
            | refine Nx.makeFunc rfl rfl rfl ?_
            | refine Nx.fieldAddr rfl rfl rfl ?_)
        | refine Nx.at_endt rfl ?_
        | ((fail_if_success refine Nx.at_do rfl rfl rfl rfl ?_); first | refine Nx.at_dec_t rfl rfl rfl rfl (by first | assumption | omega) ?_ | refine Nx.at_dec_f rfl rfl rfl rfl (by first | assumption | omega) ?_ | refine Nx.at_split rfl rfl rfl rfl (fun hc => ?_) (fun hc => ?_) | refine Nx.at_splitb rfl rfl rfl rfl (fun hc => ?_) (fun hc => ?_))
        | refine Nx.at_no0 rfl rfl rfl rfl rfl ?_
        | refine Nx.at_end rfl ?_)
    | ((with_reducible refine Nx.is_wp ?_); first
        | refine Nx.p_seq rfl ?_
        | refine Nx.p_region rfl ?_
        | refine Nx.p_ret rfl ?_
        | refine Nx.p_skip rfl ?_
        | refine Nx.p_exit rfl rfl ?_
        | refine Nx.p_block rfl rfl ?_
        | refine Nx.p_t rfl rfl ?_
        | refine Nx.p_f rfl rfl ?_
        | refine Nx.p_dec_t rfl rfl (by omega) ?_
        | refine Nx.p_dec_f rfl rfl (by omega) ?_
        | refine Nx.p_dec rfl rfl (fun hc => ?_) (fun hc => ?_)
        | refine Nx.p_bool rfl rfl (fun hc => ?_) (fun hc => ?_)
        | refine Nx.p_label rfl ?_)
    | with_reducible refine Nx.then_ret ?_
    | with_reducible refine Nx.in_ret ?_
    | with_reducible refine Nx.then_normal ?_
    | with_reducible refine Nx.in_normal ?_
    | with_reducible refine Nx.then_exit ?_
    | with_reducible refine Nx.in_exit ?_
    | refine Nx.in_other rfl ?_
    | ((with_reducible refine Nx.is_mix ?_); first
        | refine Nx.m_quiet rfl rfl rfl rfl rfl (by first
            | exact QRun.opr rfl
            | exact QRun.load rfl rfl (by first | exact Rd.at_ 0 rfl rfl | exact Rd.at_ 1 rfl rfl | exact Rd.at_ 2 rfl rfl | exact Rd.at_ 3 rfl rfl | exact Rd.at_ 4 rfl rfl | exact Rd.at_ 5 rfl rfl)
            | exact QRun.loads rfl rfl rfl (by first | exact Rds.at_ 0 rfl | exact Rds.at_ 1 rfl | exact Rds.at_ 2 rfl | exact Rds.at_ 3 rfl | exact Rds.at_ 4 rfl | exact Rds.at_ 5 rfl) rfl
            | exact QRun.add rfl rfl (by unfold I64; omega)
            | exact QRun.sub rfl rfl (by unfold I64; omega)
            | exact QRun.mul rfl rfl (by unfold I64; omega)) ?_
        | refine Nx.m_quiet_do rfl rfl rfl rfl rfl rfl rfl (by first
            | exact QRun.opr rfl
            | exact QRun.load rfl rfl (by first | exact Rd.at_ 0 rfl rfl | exact Rd.at_ 1 rfl rfl | exact Rd.at_ 2 rfl rfl | exact Rd.at_ 3 rfl rfl | exact Rd.at_ 4 rfl rfl | exact Rd.at_ 5 rfl rfl)
            | exact QRun.loads rfl rfl rfl (by first | exact Rds.at_ 0 rfl | exact Rds.at_ 1 rfl | exact Rds.at_ 2 rfl | exact Rds.at_ 3 rfl | exact Rds.at_ 4 rfl | exact Rds.at_ 5 rfl) rfl
            | exact QRun.add rfl rfl (by unfold I64; omega)
            | exact QRun.sub rfl rfl (by unfold I64; omega)
            | exact QRun.mul rfl rfl (by unfold I64; omega)) ?_
        | with_reducible refine Nx.mix_nil_then ?_
        | with_reducible refine Nx.mix_nil ?_
        | refine Nx.m_quiet_no rfl rfl rfl rfl rfl rfl rfl ?_
        | ((fail_if_success refine Nx.m_quiet_do rfl rfl rfl rfl rfl rfl rfl ?_ ?_); (fail_if_success refine Nx.m_loud_do rfl rfl rfl rfl rfl ?_); first | refine Nx.m_split rfl rfl rfl rfl (fun hc => ?_) (fun hc => ?_) | refine Nx.m_splitb rfl rfl rfl rfl (fun hc => ?_) (fun hc => ?_))
        | (refine Nx.m_loud rfl rfl rfl ?_; first
            | refine Nx.opr rfl rfl ?_
            | ((with_reducible refine Nx.is_load ?_); first | refine Nx.load rfl rfl rfl (by first | exact Rd.at_ 0 rfl rfl | exact Rd.at_ 1 rfl rfl | exact Rd.at_ 2 rfl rfl | exact Rd.at_ 3 rfl rfl | exact Rd.at_ 4 rfl rfl | exact Rd.at_ 5 rfl rfl) ?_ | refine Nx.loads rfl rfl rfl rfl (by first | exact Rds.at_ 0 rfl | exact Rds.at_ 1 rfl | exact Rds.at_ 2 rfl | exact Rds.at_ 3 rfl | exact Rds.at_ 4 rfl | exact Rds.at_ 5 rfl) rfl ?_)
            | ((with_reducible refine Nx.is_bin ?_); first | refine Nx.add rfl rfl (by unfold I64; omega) rfl ?_ | refine Nx.sub rfl rfl (by unfold I64; omega) rfl ?_ | refine Nx.mul rfl rfl (by unfold I64; omega) rfl ?_ | refine Nx.rem rfl rfl (by omega) (by omega) rfl ?_ | refine Nx.quo rfl rfl (by omega) (by omega) (by unfold I64; omega) rfl ?_)
            | ((with_reducible refine Nx.is_conv ?_); first | refine Nx.conv_i64 rfl rfl rfl (by unfold I64; omega) rfl ?_)
            | ((with_reducible refine Nx.is_un ?_); first | refine Nx.not_dec rfl rfl ?_ | refine Nx.neg rfl (by unfold I64; omega) rfl ?_)
            | ((with_reducible refine Nx.is_build ?_); first | refine Nx.build rfl rfl (by kernel_rfl) rfl ?_)
            | ((with_reducible refine Nx.is_box ?_); first | refine Nx.box_agg rfl rfl (fun bx => ?_) | refine Nx.box1 rfl rfl rfl (fun bx => ?_))
            | ((with_reducible refine Nx.is_alloc ?_); first | refine Nx.alloc rfl rfl (fun bx => ?_))
            | ((with_reducible refine Nx.is_lit ?_); first | refine Nx.buildSlice rfl rfl rfl rfl rfl rfl rfl rfl rfl (fun bx => ?_))
            | ((with_reducible refine Nx.is_store ?_); first | refine Nx.store_blk 0 rfl rfl rfl rfl rfl rfl rfl ?_ | refine Nx.store_blk 1 rfl rfl rfl rfl rfl rfl rfl ?_ | refine Nx.store_blk 2 rfl rfl rfl rfl rfl rfl rfl ?_ | refine Nx.store_blk 3 rfl rfl rfl rfl rfl rfl rfl ?_ | refine Nx.store_blk 4 rfl rfl rfl rfl rfl rfl rfl ?_)
            | ((with_reducible refine Nx.is_append ?_); first | refine Nx.append_lit 0 rfl rfl rfl rfl (by kernel_rfl) rfl rfl rfl rfl (by omega) (fun A2 c2 => ?_) | refine Nx.append_lit 1 rfl rfl rfl rfl (by kernel_rfl) rfl rfl rfl rfl (by omega) (fun A2 c2 => ?_) | refine Nx.append_lit 2 rfl rfl rfl rfl (by kernel_rfl) rfl rfl rfl rfl (by omega) (fun A2 c2 => ?_) | refine Nx.append_lit 3 rfl rfl rfl rfl (by kernel_rfl) rfl rfl rfl rfl (by omega) (fun A2 c2 => ?_) | refine Nx.append_lit 4 rfl rfl rfl rfl (by kernel_rfl) rfl rfl rfl rfl (by omega) (fun A2 c2 => ?_))
            | ((with_reducible refine Nx.is_call ?_); first | refine Nx.min2 rfl rfl rfl ?_ | refine Nx.max2 rfl rfl rfl ?_)
            | refine Nx.makeFunc rfl rfl rfl ?_
            | refine Nx.fieldAddr rfl rfl rfl ?_)
        | (refine Nx.m_loud_do rfl rfl rfl rfl rfl ?_; first
            | refine Nx.opr rfl rfl ?_
            | ((with_reducible refine Nx.is_load ?_); first | refine Nx.load rfl rfl rfl (by first | exact Rd.at_ 0 rfl rfl | exact Rd.at_ 1 rfl rfl | exact Rd.at_ 2 rfl rfl | exact Rd.at_ 3 rfl rfl | exact Rd.at_ 4 rfl rfl | exact Rd.at_ 5 rfl rfl) ?_ | refine Nx.loads rfl rfl rfl rfl (by first | exact Rds.at_ 0 rfl | exact Rds.at_ 1 rfl | exact Rds.at_ 2 rfl | exact Rds.at_ 3 rfl | exact Rds.at_ 4 rfl | exact Rds.at_ 5 rfl) rfl ?_)
            | ((with_reducible refine Nx.is_bin ?_); first | refine Nx.add rfl rfl (by unfold I64; omega) rfl ?_ | refine Nx.sub rfl rfl (by unfold I64; omega) rfl ?_ | refine Nx.mul rfl rfl (by unfold I64; omega) rfl ?_ | refine Nx.rem rfl rfl (by omega) (by omega) rfl ?_ | refine Nx.quo rfl rfl (by omega) (by omega) (by unfold I64; omega) rfl ?_)
            | ((with_reducible refine Nx.is_conv ?_); first | refine Nx.conv_i64 rfl rfl rfl (by unfold I64; omega) rfl ?_)
            | ((with_reducible refine Nx.is_un ?_); first | refine Nx.not_dec rfl rfl ?_ | refine Nx.neg rfl (by unfold I64; omega) rfl ?_)
            | ((with_reducible refine Nx.is_build ?_); first | refine Nx.build rfl rfl (by kernel_rfl) rfl ?_)
            | ((with_reducible refine Nx.is_box ?_); first | refine Nx.box_agg rfl rfl (fun bx => ?_) | refine Nx.box1 rfl rfl rfl (fun bx => ?_))
            | ((with_reducible refine Nx.is_alloc ?_); first | refine Nx.alloc rfl rfl (fun bx => ?_))
            | ((with_reducible refine Nx.is_lit ?_); first | refine Nx.buildSlice rfl rfl rfl rfl rfl rfl rfl rfl rfl (fun bx => ?_))
            | ((with_reducible refine Nx.is_store ?_); first | refine Nx.store_blk 0 rfl rfl rfl rfl rfl rfl rfl ?_ | refine Nx.store_blk 1 rfl rfl rfl rfl rfl rfl rfl ?_ | refine Nx.store_blk 2 rfl rfl rfl rfl rfl rfl rfl ?_ | refine Nx.store_blk 3 rfl rfl rfl rfl rfl rfl rfl ?_ | refine Nx.store_blk 4 rfl rfl rfl rfl rfl rfl rfl ?_)
            | ((with_reducible refine Nx.is_append ?_); first | refine Nx.append_lit 0 rfl rfl rfl rfl (by kernel_rfl) rfl rfl rfl rfl (by omega) (fun A2 c2 => ?_) | refine Nx.append_lit 1 rfl rfl rfl rfl (by kernel_rfl) rfl rfl rfl rfl (by omega) (fun A2 c2 => ?_) | refine Nx.append_lit 2 rfl rfl rfl rfl (by kernel_rfl) rfl rfl rfl rfl (by omega) (fun A2 c2 => ?_) | refine Nx.append_lit 3 rfl rfl rfl rfl (by kernel_rfl) rfl rfl rfl rfl (by omega) (fun A2 c2 => ?_) | refine Nx.append_lit 4 rfl rfl rfl rfl (by kernel_rfl) rfl rfl rfl rfl (by omega) (fun A2 c2 => ?_))
            | ((with_reducible refine Nx.is_call ?_); first | refine Nx.min2 rfl rfl rfl ?_ | refine Nx.max2 rfl rfl rfl ?_)
            | refine Nx.makeFunc rfl rfl rfl ?_
            | refine Nx.fieldAddr rfl rfl rfl ?_)
        | refine Nx.m_loud_no rfl rfl rfl rfl rfl rfl rfl ?_)
    | ((with_reducible refine Nx.is_mixS ?_); refine Nx.mix_S (by first | exact Ent.refl _ | exact Ent.drop (Ent.refl _) | exact Ent.drop (Ent.drop (Ent.refl _)) | exact Ent.drop (Ent.drop (Ent.drop (Ent.refl _)))) ?_)
  rename_i b1
  refine Nx.at_op rfl rfl ?_
  refine Nx.call_lendR 0 rfl rfl rfl (by kernel_rfl) rfl rfl (fun m I' hI hm hv =>
    Breaches_table 1 (1 + r % 99) 0 0 0 (some ⟨bx, 0, none⟩) 1 [oneCell 1 (1 + p) (1 + p) 0] I' hchk (Blk.sliceN (f := TC.cells) (sz := 7) (l := [oneCell 1 (1 + p) (1 + p) 0]) hm hv (fun _ _ => rfl) (by simp [maxLen])) (by simp) (by simp [usedT, oneCell]; omega) (by simp [TC.small, oneCell]; omega)) ?_
  rintro v R' ⟨A1, c1, rfl, rfl⟩
  rw [aloneE hn.1 hd.2]
  refine Nx.pull 1 rfl (Nx.vec_fact fun _ _ _ hA1 => ?_)
  repeat' first
    | ((with_reducible refine Nx.is_at ?_); first
        | (refine Nx.at_op rfl rfl ?_; first
            | refine Nx.opr rfl rfl ?_
            | ((with_reducible refine Nx.is_load ?_); first | refine Nx.load rfl rfl rfl (by first | exact Rd.at_ 0 rfl rfl | exact Rd.at_ 1 rfl rfl | exact Rd.at_ 2 rfl rfl | exact Rd.at_ 3 rfl rfl | exact Rd.at_ 4 rfl rfl | exact Rd.at_ 5 rfl rfl) ?_ | refine Nx.loads rfl rfl rfl rfl (by first | exact Rds.at_ 0 rfl | exact Rds.at_ 1 rfl | exact Rds.at_ 2 rfl | exact Rds.at_ 3 rfl | exact Rds.at_ 4 rfl | exact Rds.at_ 5 rfl) rfl ?_)
            | ((with_reducible refine Nx.is_bin ?_); first | refine Nx.add rfl rfl (by unfold I64; omega) rfl ?_ | refine Nx.sub rfl rfl (by unfold I64; omega) rfl ?_ | refine Nx.mul rfl rfl (by unfold I64; omega) rfl ?_ | refine Nx.rem rfl rfl (by omega) (by omega) rfl ?_ | refine Nx.quo rfl rfl (by omega) (by omega) (by unfold I64; omega) rfl ?_)
            | ((with_reducible refine Nx.is_conv ?_); first | refine Nx.conv_i64 rfl rfl rfl (by unfold I64; omega) rfl ?_)
            | ((with_reducible refine Nx.is_un ?_); first | refine Nx.not_dec rfl rfl ?_ | refine Nx.neg rfl (by unfold I64; omega) rfl ?_)
            | ((with_reducible refine Nx.is_build ?_); first | refine Nx.build rfl rfl (by kernel_rfl) rfl ?_)
            | ((with_reducible refine Nx.is_box ?_); first | refine Nx.box_agg rfl rfl (fun bx => ?_) | refine Nx.box1 rfl rfl rfl (fun bx => ?_))
            | ((with_reducible refine Nx.is_alloc ?_); first | refine Nx.alloc rfl rfl (fun bx => ?_))
            | ((with_reducible refine Nx.is_lit ?_); first | refine Nx.buildSlice rfl rfl rfl rfl rfl rfl rfl rfl rfl (fun bx => ?_))
            | ((with_reducible refine Nx.is_store ?_); first | refine Nx.store_blk 0 rfl rfl rfl rfl rfl rfl rfl ?_ | refine Nx.store_blk 1 rfl rfl rfl rfl rfl rfl rfl ?_ | refine Nx.store_blk 2 rfl rfl rfl rfl rfl rfl rfl ?_ | refine Nx.store_blk 3 rfl rfl rfl rfl rfl rfl rfl ?_ | refine Nx.store_blk 4 rfl rfl rfl rfl rfl rfl rfl ?_)
            | ((with_reducible refine Nx.is_append ?_); first | refine Nx.append_lit 0 rfl rfl rfl rfl (by kernel_rfl) rfl rfl rfl rfl (by omega) (fun A2 c2 => ?_) | refine Nx.append_lit 1 rfl rfl rfl rfl (by kernel_rfl) rfl rfl rfl rfl (by omega) (fun A2 c2 => ?_) | refine Nx.append_lit 2 rfl rfl rfl rfl (by kernel_rfl) rfl rfl rfl rfl (by omega) (fun A2 c2 => ?_) | refine Nx.append_lit 3 rfl rfl rfl rfl (by kernel_rfl) rfl rfl rfl rfl (by omega) (fun A2 c2 => ?_) | refine Nx.append_lit 4 rfl rfl rfl rfl (by kernel_rfl) rfl rfl rfl rfl (by omega) (fun A2 c2 => ?_))
            | ((with_reducible refine Nx.is_call ?_); first | refine Nx.min2 rfl rfl rfl ?_ | refine Nx.max2 rfl rfl rfl ?_)
            | refine Nx.makeFunc rfl rfl rfl ?_
            | refine Nx.fieldAddr rfl rfl rfl ?_)
        | refine Nx.at_no rfl rfl rfl rfl rfl rfl ?_
        | (refine Nx.at_do rfl rfl rfl rfl ?_; first
            | refine Nx.opr rfl rfl ?_
            | ((with_reducible refine Nx.is_load ?_); first | refine Nx.load rfl rfl rfl (by first | exact Rd.at_ 0 rfl rfl | exact Rd.at_ 1 rfl rfl | exact Rd.at_ 2 rfl rfl | exact Rd.at_ 3 rfl rfl | exact Rd.at_ 4 rfl rfl | exact Rd.at_ 5 rfl rfl) ?_ | refine Nx.loads rfl rfl rfl rfl (by first | exact Rds.at_ 0 rfl | exact Rds.at_ 1 rfl | exact Rds.at_ 2 rfl | exact Rds.at_ 3 rfl | exact Rds.at_ 4 rfl | exact Rds.at_ 5 rfl) rfl ?_)
            | ((with_reducible refine Nx.is_bin ?_); first | refine Nx.add rfl rfl (by unfold I64; omega) rfl ?_ | refine Nx.sub rfl rfl (by unfold I64; omega) rfl ?_ | refine Nx.mul rfl rfl (by unfold I64; omega) rfl ?_ | refine Nx.rem rfl rfl (by omega) (by omega) rfl ?_ | refine Nx.quo rfl rfl (by omega) (by omega) (by unfold I64; omega) rfl ?_)
            | ((with_reducible refine Nx.is_conv ?_); first | refine Nx.conv_i64 rfl rfl rfl (by unfold I64; omega) rfl ?_)
            | ((with_reducible refine Nx.is_un ?_); first | refine Nx.not_dec rfl rfl ?_ | refine Nx.neg rfl (by unfold I64; omega) rfl ?_)
            | ((with_reducible refine Nx.is_build ?_); first | refine Nx.build rfl rfl (by kernel_rfl) rfl ?_)
            | ((with_reducible refine Nx.is_box ?_); first | refine Nx.box_agg rfl rfl (fun bx => ?_) | refine Nx.box1 rfl rfl rfl (fun bx => ?_))
            | ((with_reducible refine Nx.is_alloc ?_); first | refine Nx.alloc rfl rfl (fun bx => ?_))
            | ((with_reducible refine Nx.is_lit ?_); first | refine Nx.buildSlice rfl rfl rfl rfl rfl rfl rfl rfl rfl (fun bx => ?_))
            | ((with_reducible refine Nx.is_store ?_); first | refine Nx.store_blk 0 rfl rfl rfl rfl rfl rfl rfl ?_ | refine Nx.store_blk 1 rfl rfl rfl rfl rfl rfl rfl ?_ | refine Nx.store_blk 2 rfl rfl rfl rfl rfl rfl rfl ?_ | refine Nx.store_blk 3 rfl rfl rfl rfl rfl rfl rfl ?_ | refine Nx.store_blk 4 rfl rfl rfl rfl rfl rfl rfl ?_)
            | ((with_reducible refine Nx.is_append ?_); first | refine Nx.append_lit 0 rfl rfl rfl rfl (by kernel_rfl) rfl rfl rfl rfl (by omega) (fun A2 c2 => ?_) | refine Nx.append_lit 1 rfl rfl rfl rfl (by kernel_rfl) rfl rfl rfl rfl (by omega) (fun A2 c2 => ?_) | refine Nx.append_lit 2 rfl rfl rfl rfl (by kernel_rfl) rfl rfl rfl rfl (by omega) (fun A2 c2 => ?_) | refine Nx.append_lit 3 rfl rfl rfl rfl (by kernel_rfl) rfl rfl rfl rfl (by omega) (fun A2 c2 => ?_) | refine Nx.append_lit 4 rfl rfl rfl rfl (by kernel_rfl) rfl rfl rfl rfl (by omega) (fun A2 c2 => ?_))
            | ((with_reducible refine Nx.is_call ?_); first | refine Nx.min2 rfl rfl rfl ?_ | refine Nx.max2 rfl rfl rfl ?_)
            | refine Nx.makeFunc rfl rfl rfl ?_
            | refine Nx.fieldAddr rfl rfl rfl ?_)
        | refine Nx.at_endt rfl ?_
        | ((fail_if_success refine Nx.at_do rfl rfl rfl rfl ?_); first | refine Nx.at_dec_t rfl rfl rfl rfl (by first | assumption | omega) ?_ | refine Nx.at_dec_f rfl rfl rfl rfl (by first | assumption | omega) ?_ | refine Nx.at_split rfl rfl rfl rfl (fun hc => ?_) (fun hc => ?_) | refine Nx.at_splitb rfl rfl rfl rfl (fun hc => ?_) (fun hc => ?_))
        | refine Nx.at_no0 rfl rfl rfl rfl rfl ?_
        | refine Nx.at_end rfl ?_)
    | ((with_reducible refine Nx.is_wp ?_); first
        | refine Nx.p_seq rfl ?_
        | refine Nx.p_region rfl ?_
        | refine Nx.p_ret rfl ?_
        | refine Nx.p_skip rfl ?_
        | refine Nx.p_exit rfl rfl ?_
        | refine Nx.p_block rfl rfl ?_
        | refine Nx.p_t rfl rfl ?_
        | refine Nx.p_f rfl rfl ?_
        | refine Nx.p_dec_t rfl rfl (by omega) ?_
        | refine Nx.p_dec_f rfl rfl (by omega) ?_
        | refine Nx.p_dec rfl rfl (fun hc => ?_) (fun hc => ?_)
        | refine Nx.p_bool rfl rfl (fun hc => ?_) (fun hc => ?_)
        | refine Nx.p_label rfl ?_)
    | with_reducible refine Nx.then_ret ?_
    | with_reducible refine Nx.in_ret ?_
    | with_reducible refine Nx.then_normal ?_
    | with_reducible refine Nx.in_normal ?_
    | with_reducible refine Nx.then_exit ?_
    | with_reducible refine Nx.in_exit ?_
    | refine Nx.in_other rfl ?_
    | ((with_reducible refine Nx.is_mix ?_); first
        | refine Nx.m_quiet rfl rfl rfl rfl rfl (by first
            | exact QRun.opr rfl
            | exact QRun.load rfl rfl (by first | exact Rd.at_ 0 rfl rfl | exact Rd.at_ 1 rfl rfl | exact Rd.at_ 2 rfl rfl | exact Rd.at_ 3 rfl rfl | exact Rd.at_ 4 rfl rfl | exact Rd.at_ 5 rfl rfl)
            | exact QRun.loads rfl rfl rfl (by first | exact Rds.at_ 0 rfl | exact Rds.at_ 1 rfl | exact Rds.at_ 2 rfl | exact Rds.at_ 3 rfl | exact Rds.at_ 4 rfl | exact Rds.at_ 5 rfl) rfl
            | exact QRun.add rfl rfl (by unfold I64; omega)
            | exact QRun.sub rfl rfl (by unfold I64; omega)
            | exact QRun.mul rfl rfl (by unfold I64; omega)) ?_
        | refine Nx.m_quiet_do rfl rfl rfl rfl rfl rfl rfl (by first
            | exact QRun.opr rfl
            | exact QRun.load rfl rfl (by first | exact Rd.at_ 0 rfl rfl | exact Rd.at_ 1 rfl rfl | exact Rd.at_ 2 rfl rfl | exact Rd.at_ 3 rfl rfl | exact Rd.at_ 4 rfl rfl | exact Rd.at_ 5 rfl rfl)
            | exact QRun.loads rfl rfl rfl (by first | exact Rds.at_ 0 rfl | exact Rds.at_ 1 rfl | exact Rds.at_ 2 rfl | exact Rds.at_ 3 rfl | exact Rds.at_ 4 rfl | exact Rds.at_ 5 rfl) rfl
            | exact QRun.add rfl rfl (by unfold I64; omega)
            | exact QRun.sub rfl rfl (by unfold I64; omega)
            | exact QRun.mul rfl rfl (by unfold I64; omega)) ?_
        | with_reducible refine Nx.mix_nil_then ?_
        | with_reducible refine Nx.mix_nil ?_
        | refine Nx.m_quiet_no rfl rfl rfl rfl rfl rfl rfl ?_
        | ((fail_if_success refine Nx.m_quiet_do rfl rfl rfl rfl rfl rfl rfl ?_ ?_); (fail_if_success refine Nx.m_loud_do rfl rfl rfl rfl rfl ?_); first | refine Nx.m_split rfl rfl rfl rfl (fun hc => ?_) (fun hc => ?_) | refine Nx.m_splitb rfl rfl rfl rfl (fun hc => ?_) (fun hc => ?_))
        | (refine Nx.m_loud rfl rfl rfl ?_; first
            | refine Nx.opr rfl rfl ?_
            | ((with_reducible refine Nx.is_load ?_); first | refine Nx.load rfl rfl rfl (by first | exact Rd.at_ 0 rfl rfl | exact Rd.at_ 1 rfl rfl | exact Rd.at_ 2 rfl rfl | exact Rd.at_ 3 rfl rfl | exact Rd.at_ 4 rfl rfl | exact Rd.at_ 5 rfl rfl) ?_ | refine Nx.loads rfl rfl rfl rfl (by first | exact Rds.at_ 0 rfl | exact Rds.at_ 1 rfl | exact Rds.at_ 2 rfl | exact Rds.at_ 3 rfl | exact Rds.at_ 4 rfl | exact Rds.at_ 5 rfl) rfl ?_)
            | ((with_reducible refine Nx.is_bin ?_); first | refine Nx.add rfl rfl (by unfold I64; omega) rfl ?_ | refine Nx.sub rfl rfl (by unfold I64; omega) rfl ?_ | refine Nx.mul rfl rfl (by unfold I64; omega) rfl ?_ | refine Nx.rem rfl rfl (by omega) (by omega) rfl ?_ | refine Nx.quo rfl rfl (by omega) (by omega) (by unfold I64; omega) rfl ?_)
            | ((with_reducible refine Nx.is_conv ?_); first | refine Nx.conv_i64 rfl rfl rfl (by unfold I64; omega) rfl ?_)
            | ((with_reducible refine Nx.is_un ?_); first | refine Nx.not_dec rfl rfl ?_ | refine Nx.neg rfl (by unfold I64; omega) rfl ?_)
            | ((with_reducible refine Nx.is_build ?_); first | refine Nx.build rfl rfl (by kernel_rfl) rfl ?_)
            | ((with_reducible refine Nx.is_box ?_); first | refine Nx.box_agg rfl rfl (fun bx => ?_) | refine Nx.box1 rfl rfl rfl (fun bx => ?_))
            | ((with_reducible refine Nx.is_alloc ?_); first | refine Nx.alloc rfl rfl (fun bx => ?_))
            | ((with_reducible refine Nx.is_lit ?_); first | refine Nx.buildSlice rfl rfl rfl rfl rfl rfl rfl rfl rfl (fun bx => ?_))
            | ((with_reducible refine Nx.is_store ?_); first | refine Nx.store_blk 0 rfl rfl rfl rfl rfl rfl rfl ?_ | refine Nx.store_blk 1 rfl rfl rfl rfl rfl rfl rfl ?_ | refine Nx.store_blk 2 rfl rfl rfl rfl rfl rfl rfl ?_ | refine Nx.store_blk 3 rfl rfl rfl rfl rfl rfl rfl ?_ | refine Nx.store_blk 4 rfl rfl rfl rfl rfl rfl rfl ?_)
            | ((with_reducible refine Nx.is_append ?_); first | refine Nx.append_lit 0 rfl rfl rfl rfl (by kernel_rfl) rfl rfl rfl rfl (by omega) (fun A2 c2 => ?_) | refine Nx.append_lit 1 rfl rfl rfl rfl (by kernel_rfl) rfl rfl rfl rfl (by omega) (fun A2 c2 => ?_) | refine Nx.append_lit 2 rfl rfl rfl rfl (by kernel_rfl) rfl rfl rfl rfl (by omega) (fun A2 c2 => ?_) | refine Nx.append_lit 3 rfl rfl rfl rfl (by kernel_rfl) rfl rfl rfl rfl (by omega) (fun A2 c2 => ?_) | refine Nx.append_lit 4 rfl rfl rfl rfl (by kernel_rfl) rfl rfl rfl rfl (by omega) (fun A2 c2 => ?_))
            | ((with_reducible refine Nx.is_call ?_); first | refine Nx.min2 rfl rfl rfl ?_ | refine Nx.max2 rfl rfl rfl ?_)
            | refine Nx.makeFunc rfl rfl rfl ?_
            | refine Nx.fieldAddr rfl rfl rfl ?_)
        | (refine Nx.m_loud_do rfl rfl rfl rfl rfl ?_; first
            | refine Nx.opr rfl rfl ?_
            | ((with_reducible refine Nx.is_load ?_); first | refine Nx.load rfl rfl rfl (by first | exact Rd.at_ 0 rfl rfl | exact Rd.at_ 1 rfl rfl | exact Rd.at_ 2 rfl rfl | exact Rd.at_ 3 rfl rfl | exact Rd.at_ 4 rfl rfl | exact Rd.at_ 5 rfl rfl) ?_ | refine Nx.loads rfl rfl rfl rfl (by first | exact Rds.at_ 0 rfl | exact Rds.at_ 1 rfl | exact Rds.at_ 2 rfl | exact Rds.at_ 3 rfl | exact Rds.at_ 4 rfl | exact Rds.at_ 5 rfl) rfl ?_)
            | ((with_reducible refine Nx.is_bin ?_); first | refine Nx.add rfl rfl (by unfold I64; omega) rfl ?_ | refine Nx.sub rfl rfl (by unfold I64; omega) rfl ?_ | refine Nx.mul rfl rfl (by unfold I64; omega) rfl ?_ | refine Nx.rem rfl rfl (by omega) (by omega) rfl ?_ | refine Nx.quo rfl rfl (by omega) (by omega) (by unfold I64; omega) rfl ?_)
            | ((with_reducible refine Nx.is_conv ?_); first | refine Nx.conv_i64 rfl rfl rfl (by unfold I64; omega) rfl ?_)
            | ((with_reducible refine Nx.is_un ?_); first | refine Nx.not_dec rfl rfl ?_ | refine Nx.neg rfl (by unfold I64; omega) rfl ?_)
            | ((with_reducible refine Nx.is_build ?_); first | refine Nx.build rfl rfl (by kernel_rfl) rfl ?_)
            | ((with_reducible refine Nx.is_box ?_); first | refine Nx.box_agg rfl rfl (fun bx => ?_) | refine Nx.box1 rfl rfl rfl (fun bx => ?_))
            | ((with_reducible refine Nx.is_alloc ?_); first | refine Nx.alloc rfl rfl (fun bx => ?_))
            | ((with_reducible refine Nx.is_lit ?_); first | refine Nx.buildSlice rfl rfl rfl rfl rfl rfl rfl rfl rfl (fun bx => ?_))
            | ((with_reducible refine Nx.is_store ?_); first | refine Nx.store_blk 0 rfl rfl rfl rfl rfl rfl rfl ?_ | refine Nx.store_blk 1 rfl rfl rfl rfl rfl rfl rfl ?_ | refine Nx.store_blk 2 rfl rfl rfl rfl rfl rfl rfl ?_ | refine Nx.store_blk 3 rfl rfl rfl rfl rfl rfl rfl ?_ | refine Nx.store_blk 4 rfl rfl rfl rfl rfl rfl rfl ?_)
            | ((with_reducible refine Nx.is_append ?_); first | refine Nx.append_lit 0 rfl rfl rfl rfl (by kernel_rfl) rfl rfl rfl rfl (by omega) (fun A2 c2 => ?_) | refine Nx.append_lit 1 rfl rfl rfl rfl (by kernel_rfl) rfl rfl rfl rfl (by omega) (fun A2 c2 => ?_) | refine Nx.append_lit 2 rfl rfl rfl rfl (by kernel_rfl) rfl rfl rfl rfl (by omega) (fun A2 c2 => ?_) | refine Nx.append_lit 3 rfl rfl rfl rfl (by kernel_rfl) rfl rfl rfl rfl (by omega) (fun A2 c2 => ?_) | refine Nx.append_lit 4 rfl rfl rfl rfl (by kernel_rfl) rfl rfl rfl rfl (by omega) (fun A2 c2 => ?_))
            | ((with_reducible refine Nx.is_call ?_); first | refine Nx.min2 rfl rfl rfl ?_ | refine Nx.max2 rfl rfl rfl ?_)
            | refine Nx.makeFunc rfl rfl rfl ?_
            | refine Nx.fieldAddr rfl rfl rfl ?_)
        | refine Nx.m_loud_no rfl rfl rfl rfl rfl rfl rfl ?_)
    | ((with_reducible refine Nx.is_mixS ?_); refine Nx.mix_S (by first | exact Ent.refl _ | exact Ent.drop (Ent.refl _) | exact Ent.drop (Ent.drop (Ent.refl _)) | exact Ent.drop (Ent.drop (Ent.drop (Ent.refl _)))) ?_)
  rename_i b2 _
  refine Nx.at_op rfl rfl ?_
  refine Nx.call_lendR 0 rfl rfl rfl (by kernel_rfl) rfl rfl (fun m I' hI hm hv =>
    Breaches_table 1 (1 + r % 99) 0 0 0 (some ⟨bx, 0, none⟩) 1 [oneCell (1 + q) ((1 + p) * (1 + q)) (1 + p) ((1 + p) * min 1 (1 + q - 1))] I' hchk (Blk.sliceN (f := TC.cells) (sz := 7) (l := [oneCell (1 + q) ((1 + p) * (1 + q)) (1 + p) ((1 + p) * min 1 (1 + q - 1))]) hm hv (fun _ _ => rfl) (by simp [maxLen])) (by simp) (by simp [usedT, oneCell]; omega) (by simp [TC.small, oneCell]; omega)) ?_
  rintro v R' ⟨A2, c2, rfl, rfl⟩
  rw [manyE hn.1 hk.1]
  have hL : ∃ L, L = (if (1 + r % 99) * (1 + q) < 100 then [((2 : Int), (0 : Int))] else []) := ⟨_, rfl⟩
  obtain ⟨L, eL⟩ := hL
  rw [← eL]
  repeat' first
    | ((with_reducible refine Nx.is_at ?_); first
        | (refine Nx.at_op rfl rfl ?_; first
            | refine Nx.opr rfl rfl ?_
            | refine Nx.indexAddr rfl rfl rfl rfl rfl (by decide) (by decide) (hA1 (by decide)) ?_
            | refine Nx.load rfl rfl rfl (Rd.vecAt2 2 rfl rfl) ?_
            | refine Nx.callv rfl rfl rfl (by kernel_rfl) rfl (awake_spec _) ?_
            | ((with_reducible refine Nx.is_load ?_); first | refine Nx.load rfl rfl rfl (by first | exact Rd.at_ 0 rfl rfl | exact Rd.at_ 1 rfl rfl | exact Rd.at_ 2 rfl rfl | exact Rd.at_ 3 rfl rfl | exact Rd.at_ 4 rfl rfl | exact Rd.at_ 5 rfl rfl) ?_ | refine Nx.loads rfl rfl rfl rfl (by first | exact Rds.at_ 0 rfl | exact Rds.at_ 1 rfl | exact Rds.at_ 2 rfl | exact Rds.at_ 3 rfl | exact Rds.at_ 4 rfl | exact Rds.at_ 5 rfl) rfl ?_)
            | ((with_reducible refine Nx.is_bin ?_); first | refine Nx.add rfl rfl (by unfold I64; omega) rfl ?_ | refine Nx.sub rfl rfl (by unfold I64; omega) rfl ?_ | refine Nx.mul rfl rfl (by unfold I64; omega) rfl ?_ | refine Nx.rem rfl rfl (by omega) (by omega) rfl ?_ | refine Nx.quo rfl rfl (by omega) (by omega) (by unfold I64; omega) rfl ?_)
            | ((with_reducible refine Nx.is_conv ?_); first | refine Nx.conv_i64 rfl rfl rfl (by unfold I64; omega) rfl ?_)
            | ((with_reducible refine Nx.is_un ?_); first | refine Nx.not_dec rfl rfl ?_ | refine Nx.neg rfl (by unfold I64; omega) rfl ?_)
            | ((with_reducible refine Nx.is_build ?_); first | refine Nx.build rfl rfl (by kernel_rfl) rfl ?_)
            | ((with_reducible refine Nx.is_box ?_); first | refine Nx.box_agg rfl rfl (fun bx => ?_) | refine Nx.box1 rfl rfl rfl (fun bx => ?_))
            | ((with_reducible refine Nx.is_alloc ?_); first | refine Nx.alloc rfl rfl (fun bx => ?_))
            | ((with_reducible refine Nx.is_lit ?_); first | refine Nx.buildSlice rfl rfl rfl rfl rfl rfl rfl rfl rfl (fun bx => ?_))
            | ((with_reducible refine Nx.is_store ?_); first | refine Nx.store_blk 0 rfl rfl rfl rfl rfl rfl rfl ?_ | refine Nx.store_blk 1 rfl rfl rfl rfl rfl rfl rfl ?_ | refine Nx.store_blk 2 rfl rfl rfl rfl rfl rfl rfl ?_ | refine Nx.store_blk 3 rfl rfl rfl rfl rfl rfl rfl ?_ | refine Nx.store_blk 4 rfl rfl rfl rfl rfl rfl rfl ?_)
            | ((with_reducible refine Nx.is_append ?_); first | refine Nx.append_lit 0 rfl rfl rfl rfl (by kernel_rfl) rfl rfl rfl rfl (by omega) (fun A2 c2 => ?_) | refine Nx.append_lit 1 rfl rfl rfl rfl (by kernel_rfl) rfl rfl rfl rfl (by omega) (fun A2 c2 => ?_) | refine Nx.append_lit 2 rfl rfl rfl rfl (by kernel_rfl) rfl rfl rfl rfl (by omega) (fun A2 c2 => ?_) | refine Nx.append_lit 3 rfl rfl rfl rfl (by kernel_rfl) rfl rfl rfl rfl (by omega) (fun A2 c2 => ?_) | refine Nx.append_lit 4 rfl rfl rfl rfl (by kernel_rfl) rfl rfl rfl rfl (by omega) (fun A2 c2 => ?_))
            | ((with_reducible refine Nx.is_call ?_); first | refine Nx.min2 rfl rfl rfl ?_ | refine Nx.max2 rfl rfl rfl ?_)
            | refine Nx.makeFunc rfl rfl rfl ?_
            | refine Nx.fieldAddr rfl rfl rfl ?_)
        | refine Nx.at_no rfl rfl rfl rfl rfl rfl ?_
        | (refine Nx.at_do rfl rfl rfl rfl ?_; first
            | refine Nx.opr rfl rfl ?_
            | refine Nx.indexAddr rfl rfl rfl rfl rfl (by decide) (by decide) (hA1 (by decide)) ?_
            | refine Nx.load rfl rfl rfl (Rd.vecAt2 2 rfl rfl) ?_
            | refine Nx.callv rfl rfl rfl (by kernel_rfl) rfl (awake_spec _) ?_
            | ((with_reducible refine Nx.is_load ?_); first | refine Nx.load rfl rfl rfl (by first | exact Rd.at_ 0 rfl rfl | exact Rd.at_ 1 rfl rfl | exact Rd.at_ 2 rfl rfl | exact Rd.at_ 3 rfl rfl | exact Rd.at_ 4 rfl rfl | exact Rd.at_ 5 rfl rfl) ?_ | refine Nx.loads rfl rfl rfl rfl (by first | exact Rds.at_ 0 rfl | exact Rds.at_ 1 rfl | exact Rds.at_ 2 rfl | exact Rds.at_ 3 rfl | exact Rds.at_ 4 rfl | exact Rds.at_ 5 rfl) rfl ?_)
            | ((with_reducible refine Nx.is_bin ?_); first | refine Nx.add rfl rfl (by unfold I64; omega) rfl ?_ | refine Nx.sub rfl rfl (by unfold I64; omega) rfl ?_ | refine Nx.mul rfl rfl (by unfold I64; omega) rfl ?_ | refine Nx.rem rfl rfl (by omega) (by omega) rfl ?_ | refine Nx.quo rfl rfl (by omega) (by omega) (by unfold I64; omega) rfl ?_)
            | ((with_reducible refine Nx.is_conv ?_); first | refine Nx.conv_i64 rfl rfl rfl (by unfold I64; omega) rfl ?_)
            | ((with_reducible refine Nx.is_un ?_); first | refine Nx.not_dec rfl rfl ?_ | refine Nx.neg rfl (by unfold I64; omega) rfl ?_)
            | ((with_reducible refine Nx.is_build ?_); first | refine Nx.build rfl rfl (by kernel_rfl) rfl ?_)
            | ((with_reducible refine Nx.is_box ?_); first | refine Nx.box_agg rfl rfl (fun bx => ?_) | refine Nx.box1 rfl rfl rfl (fun bx => ?_))
            | ((with_reducible refine Nx.is_alloc ?_); first | refine Nx.alloc rfl rfl (fun bx => ?_))
            | ((with_reducible refine Nx.is_lit ?_); first | refine Nx.buildSlice rfl rfl rfl rfl rfl rfl rfl rfl rfl (fun bx => ?_))
            | ((with_reducible refine Nx.is_store ?_); first | refine Nx.store_blk 0 rfl rfl rfl rfl rfl rfl rfl ?_ | refine Nx.store_blk 1 rfl rfl rfl rfl rfl rfl rfl ?_ | refine Nx.store_blk 2 rfl rfl rfl rfl rfl rfl rfl ?_ | refine Nx.store_blk 3 rfl rfl rfl rfl rfl rfl rfl ?_ | refine Nx.store_blk 4 rfl rfl rfl rfl rfl rfl rfl ?_)
            | ((with_reducible refine Nx.is_append ?_); first | refine Nx.append_lit 0 rfl rfl rfl rfl (by kernel_rfl) rfl rfl rfl rfl (by omega) (fun A2 c2 => ?_) | refine Nx.append_lit 1 rfl rfl rfl rfl (by kernel_rfl) rfl rfl rfl rfl (by omega) (fun A2 c2 => ?_) | refine Nx.append_lit 2 rfl rfl rfl rfl (by kernel_rfl) rfl rfl rfl rfl (by omega) (fun A2 c2 => ?_) | refine Nx.append_lit 3 rfl rfl rfl rfl (by kernel_rfl) rfl rfl rfl rfl (by omega) (fun A2 c2 => ?_) | refine Nx.append_lit 4 rfl rfl rfl rfl (by kernel_rfl) rfl rfl rfl rfl (by omega) (fun A2 c2 => ?_))
            | ((with_reducible refine Nx.is_call ?_); first | refine Nx.min2 rfl rfl rfl ?_ | refine Nx.max2 rfl rfl rfl ?_)
            | refine Nx.makeFunc rfl rfl rfl ?_
            | refine Nx.fieldAddr rfl rfl rfl ?_)
        | refine Nx.at_endt rfl ?_
        | ((fail_if_success refine Nx.at_do rfl rfl rfl rfl ?_); first | refine Nx.at_dec_t rfl rfl rfl rfl (by first | assumption | omega) ?_ | refine Nx.at_dec_f rfl rfl rfl rfl (by first | assumption | omega) ?_ | refine Nx.at_split rfl rfl rfl rfl (fun hc => ?_) (fun hc => ?_) | refine Nx.at_splitb rfl rfl rfl rfl (fun hc => ?_) (fun hc => ?_))
        | refine Nx.at_no0 rfl rfl rfl rfl rfl ?_
        | refine Nx.at_end rfl ?_)
    | ((with_reducible refine Nx.is_wp ?_); first
        | refine Nx.p_seq rfl ?_
        | refine Nx.p_region rfl ?_
        | refine Nx.p_ret rfl ?_
        | refine Nx.p_skip rfl ?_
        | refine Nx.p_exit rfl rfl ?_
        | refine Nx.p_block rfl rfl ?_
        | refine Nx.p_t rfl rfl ?_
        | refine Nx.p_f rfl rfl ?_
        | refine Nx.p_dec_t rfl rfl (by omega) ?_
        | refine Nx.p_dec_f rfl rfl (by omega) ?_
        | refine Nx.p_dec rfl rfl (fun hc => ?_) (fun hc => ?_)
        | refine Nx.p_bool rfl rfl (fun hc => ?_) (fun hc => ?_)
        | refine Nx.p_label rfl ?_)
    | with_reducible refine Nx.then_ret ?_
    | with_reducible refine Nx.in_ret ?_
    | with_reducible refine Nx.then_normal ?_
    | with_reducible refine Nx.in_normal ?_
    | with_reducible refine Nx.then_exit ?_
    | with_reducible refine Nx.in_exit ?_
    | refine Nx.in_other rfl ?_
    | ((with_reducible refine Nx.is_mix ?_); first
        | refine Nx.m_quiet rfl rfl rfl rfl rfl (by first
            | exact QRun.opr rfl
            | exact QRun.load rfl rfl (by first | exact Rd.at_ 0 rfl rfl | exact Rd.at_ 1 rfl rfl | exact Rd.at_ 2 rfl rfl | exact Rd.at_ 3 rfl rfl | exact Rd.at_ 4 rfl rfl | exact Rd.at_ 5 rfl rfl)
            | exact QRun.loads rfl rfl rfl (by first | exact Rds.at_ 0 rfl | exact Rds.at_ 1 rfl | exact Rds.at_ 2 rfl | exact Rds.at_ 3 rfl | exact Rds.at_ 4 rfl | exact Rds.at_ 5 rfl) rfl
            | exact QRun.add rfl rfl (by unfold I64; omega)
            | exact QRun.sub rfl rfl (by unfold I64; omega)
            | exact QRun.mul rfl rfl (by unfold I64; omega)) ?_
        | refine Nx.m_quiet_do rfl rfl rfl rfl rfl rfl rfl (by first
            | exact QRun.opr rfl
            | exact QRun.load rfl rfl (by first | exact Rd.at_ 0 rfl rfl | exact Rd.at_ 1 rfl rfl | exact Rd.at_ 2 rfl rfl | exact Rd.at_ 3 rfl rfl | exact Rd.at_ 4 rfl rfl | exact Rd.at_ 5 rfl rfl)
            | exact QRun.loads rfl rfl rfl (by first | exact Rds.at_ 0 rfl | exact Rds.at_ 1 rfl | exact Rds.at_ 2 rfl | exact Rds.at_ 3 rfl | exact Rds.at_ 4 rfl | exact Rds.at_ 5 rfl) rfl
            | exact QRun.add rfl rfl (by unfold I64; omega)
            | exact QRun.sub rfl rfl (by unfold I64; omega)
            | exact QRun.mul rfl rfl (by unfold I64; omega)) ?_
        | with_reducible refine Nx.mix_nil_then ?_
        | with_reducible refine Nx.mix_nil ?_
        | refine Nx.m_quiet_no rfl rfl rfl rfl rfl rfl rfl ?_
        | ((fail_if_success refine Nx.m_quiet_do rfl rfl rfl rfl rfl rfl rfl ?_ ?_); (fail_if_success refine Nx.m_loud_do rfl rfl rfl rfl rfl ?_); first | refine Nx.m_split rfl rfl rfl rfl (fun hc => ?_) (fun hc => ?_) | refine Nx.m_splitb rfl rfl rfl rfl (fun hc => ?_) (fun hc => ?_))
        | (refine Nx.m_loud rfl rfl rfl ?_; first
            | refine Nx.opr rfl rfl ?_
            | refine Nx.indexAddr rfl rfl rfl rfl rfl (by decide) (by decide) (hA1 (by decide)) ?_
            | refine Nx.load rfl rfl rfl (Rd.vecAt2 2 rfl rfl) ?_
            | refine Nx.callv rfl rfl rfl (by kernel_rfl) rfl (awake_spec _) ?_
            | ((with_reducible refine Nx.is_load ?_); first | refine Nx.load rfl rfl rfl (by first | exact Rd.at_ 0 rfl rfl | exact Rd.at_ 1 rfl rfl | exact Rd.at_ 2 rfl rfl | exact Rd.at_ 3 rfl rfl | exact Rd.at_ 4 rfl rfl | exact Rd.at_ 5 rfl rfl) ?_ | refine Nx.loads rfl rfl rfl rfl (by first | exact Rds.at_ 0 rfl | exact Rds.at_ 1 rfl | exact Rds.at_ 2 rfl | exact Rds.at_ 3 rfl | exact Rds.at_ 4 rfl | exact Rds.at_ 5 rfl) rfl ?_)
            | ((with_reducible refine Nx.is_bin ?_); first | refine Nx.add rfl rfl (by unfold I64; omega) rfl ?_ | refine Nx.sub rfl rfl (by unfold I64; omega) rfl ?_ | refine Nx.mul rfl rfl (by unfold I64; omega) rfl ?_ | refine Nx.rem rfl rfl (by omega) (by omega) rfl ?_ | refine Nx.quo rfl rfl (by omega) (by omega) (by unfold I64; omega) rfl ?_)
            | ((with_reducible refine Nx.is_conv ?_); first | refine Nx.conv_i64 rfl rfl rfl (by unfold I64; omega) rfl ?_)
            | ((with_reducible refine Nx.is_un ?_); first | refine Nx.not_dec rfl rfl ?_ | refine Nx.neg rfl (by unfold I64; omega) rfl ?_)
            | ((with_reducible refine Nx.is_build ?_); first | refine Nx.build rfl rfl (by kernel_rfl) rfl ?_)
            | ((with_reducible refine Nx.is_box ?_); first | refine Nx.box_agg rfl rfl (fun bx => ?_) | refine Nx.box1 rfl rfl rfl (fun bx => ?_))
            | ((with_reducible refine Nx.is_alloc ?_); first | refine Nx.alloc rfl rfl (fun bx => ?_))
            | ((with_reducible refine Nx.is_lit ?_); first | refine Nx.buildSlice rfl rfl rfl rfl rfl rfl rfl rfl rfl (fun bx => ?_))
            | ((with_reducible refine Nx.is_store ?_); first | refine Nx.store_blk 0 rfl rfl rfl rfl rfl rfl rfl ?_ | refine Nx.store_blk 1 rfl rfl rfl rfl rfl rfl rfl ?_ | refine Nx.store_blk 2 rfl rfl rfl rfl rfl rfl rfl ?_ | refine Nx.store_blk 3 rfl rfl rfl rfl rfl rfl rfl ?_ | refine Nx.store_blk 4 rfl rfl rfl rfl rfl rfl rfl ?_)
            | ((with_reducible refine Nx.is_append ?_); first | refine Nx.append_lit 0 rfl rfl rfl rfl (by kernel_rfl) rfl rfl rfl rfl (by omega) (fun A2 c2 => ?_) | refine Nx.append_lit 1 rfl rfl rfl rfl (by kernel_rfl) rfl rfl rfl rfl (by omega) (fun A2 c2 => ?_) | refine Nx.append_lit 2 rfl rfl rfl rfl (by kernel_rfl) rfl rfl rfl rfl (by omega) (fun A2 c2 => ?_) | refine Nx.append_lit 3 rfl rfl rfl rfl (by kernel_rfl) rfl rfl rfl rfl (by omega) (fun A2 c2 => ?_) | refine Nx.append_lit 4 rfl rfl rfl rfl (by kernel_rfl) rfl rfl rfl rfl (by omega) (fun A2 c2 => ?_))
            | ((with_reducible refine Nx.is_call ?_); first | refine Nx.min2 rfl rfl rfl ?_ | refine Nx.max2 rfl rfl rfl ?_)
            | refine Nx.makeFunc rfl rfl rfl ?_
            | refine Nx.fieldAddr rfl rfl rfl ?_)
        | (refine Nx.m_loud_do rfl rfl rfl rfl rfl ?_; first
            | refine Nx.opr rfl rfl ?_
            | refine Nx.indexAddr rfl rfl rfl rfl rfl (by decide) (by decide) (hA1 (by decide)) ?_
            | refine Nx.load rfl rfl rfl (Rd.vecAt2 2 rfl rfl) ?_
            | refine Nx.callv rfl rfl rfl (by kernel_rfl) rfl (awake_spec _) ?_
            | ((with_reducible refine Nx.is_load ?_); first | refine Nx.load rfl rfl rfl (by first | exact Rd.at_ 0 rfl rfl | exact Rd.at_ 1 rfl rfl | exact Rd.at_ 2 rfl rfl | exact Rd.at_ 3 rfl rfl | exact Rd.at_ 4 rfl rfl | exact Rd.at_ 5 rfl rfl) ?_ | refine Nx.loads rfl rfl rfl rfl (by first | exact Rds.at_ 0 rfl | exact Rds.at_ 1 rfl | exact Rds.at_ 2 rfl | exact Rds.at_ 3 rfl | exact Rds.at_ 4 rfl | exact Rds.at_ 5 rfl) rfl ?_)
            | ((with_reducible refine Nx.is_bin ?_); first | refine Nx.add rfl rfl (by unfold I64; omega) rfl ?_ | refine Nx.sub rfl rfl (by unfold I64; omega) rfl ?_ | refine Nx.mul rfl rfl (by unfold I64; omega) rfl ?_ | refine Nx.rem rfl rfl (by omega) (by omega) rfl ?_ | refine Nx.quo rfl rfl (by omega) (by omega) (by unfold I64; omega) rfl ?_)
            | ((with_reducible refine Nx.is_conv ?_); first | refine Nx.conv_i64 rfl rfl rfl (by unfold I64; omega) rfl ?_)
            | ((with_reducible refine Nx.is_un ?_); first | refine Nx.not_dec rfl rfl ?_ | refine Nx.neg rfl (by unfold I64; omega) rfl ?_)
            | ((with_reducible refine Nx.is_build ?_); first | refine Nx.build rfl rfl (by kernel_rfl) rfl ?_)
            | ((with_reducible refine Nx.is_box ?_); first | refine Nx.box_agg rfl rfl (fun bx => ?_) | refine Nx.box1 rfl rfl rfl (fun bx => ?_))
            | ((with_reducible refine Nx.is_alloc ?_); first | refine Nx.alloc rfl rfl (fun bx => ?_))
            | ((with_reducible refine Nx.is_lit ?_); first | refine Nx.buildSlice rfl rfl rfl rfl rfl rfl rfl rfl rfl (fun bx => ?_))
            | ((with_reducible refine Nx.is_store ?_); first | refine Nx.store_blk 0 rfl rfl rfl rfl rfl rfl rfl ?_ | refine Nx.store_blk 1 rfl rfl rfl rfl rfl rfl rfl ?_ | refine Nx.store_blk 2 rfl rfl rfl rfl rfl rfl rfl ?_ | refine Nx.store_blk 3 rfl rfl rfl rfl rfl rfl rfl ?_ | refine Nx.store_blk 4 rfl rfl rfl rfl rfl rfl rfl ?_)
            | ((with_reducible refine Nx.is_append ?_); first | refine Nx.append_lit 0 rfl rfl rfl rfl (by kernel_rfl) rfl rfl rfl rfl (by omega) (fun A2 c2 => ?_) | refine Nx.append_lit 1 rfl rfl rfl rfl (by kernel_rfl) rfl rfl rfl rfl (by omega) (fun A2 c2 => ?_) | refine Nx.append_lit 2 rfl rfl rfl rfl (by kernel_rfl) rfl rfl rfl rfl (by omega) (fun A2 c2 => ?_) | refine Nx.append_lit 3 rfl rfl rfl rfl (by kernel_rfl) rfl rfl rfl rfl (by omega) (fun A2 c2 => ?_) | refine Nx.append_lit 4 rfl rfl rfl rfl (by kernel_rfl) rfl rfl rfl rfl (by omega) (fun A2 c2 => ?_))
            | ((with_reducible refine Nx.is_call ?_); first | refine Nx.min2 rfl rfl rfl ?_ | refine Nx.max2 rfl rfl rfl ?_)
            | refine Nx.makeFunc rfl rfl rfl ?_
            | refine Nx.fieldAddr rfl rfl rfl ?_)
        | refine Nx.m_loud_no rfl rfl rfl rfl rfl rfl rfl ?_)
    | ((with_reducible refine Nx.is_mixS ?_); refine Nx.mix_S (by first | exact Ent.refl _ | exact Ent.drop (Ent.refl _) | exact Ent.drop (Ent.drop (Ent.refl _)) | exact Ent.drop (Ent.drop (Ent.drop (Ent.refl _)))) ?_)
  · exact Nx.ret_fn rfl [] ⟨rfl, rfl⟩ (by (first | done | (repeat first | exact Ent.refl _ | exact Ent.nil _ | refine Ent.pick 0 rfl ?_ | refine Ent.pick 1 rfl ?_ | refine Ent.pick 2 rfl ?_ | refine Ent.pick 3 rfl ?_ | refine Ent.pick 4 rfl ?_ | refine Ent.pick 5 rfl ?_ | refine Ent.pick 6 rfl ?_)))
  · exact absurd (by rw [eL]; split <;> rename_i h <;> simp [h]) hc
end Go.Proofs.Ytcnkjmkcoahdmaa
