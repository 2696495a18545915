import Derived.Test.YtcnkjmkcoahdmaaProg
import Derived.Test.YtcnkjmkcoahdmaaEngZ
namespace Go.Proofs.Ytcnkjmkcoahdmaa
open Go.Eng
attribute [local irreducible] opK wpList Code.wp Exit.then Exit.inBlock fnPost bodyPost Nx Calls Oper.wp Rd Rds Wr Ent Stars Blk Again Vec FnSpec wpMix QRun Stop Upto wpAt
abbrev rulesV (a b c d : Int) : Value := .agg #[.int .i64 a, .int .i64 b, .int .i64 c, .int .i64 d]
theorem few_spec (a b c d n : Int) (I : PH) : FnSpec Try.prog 12 [.agg #[.int .i64 a, .int .i64 b, .int .i64 c, .int .i64 d], .int .i64 n] I [] (fun v R' => v = .bool (decide (1 ≤ n ∧ n < a)) ∧ R' = []) := by
  refine FnSpec.enterP Try.func12 rfl Try.ntmps12 rfl fun w F => ?_
  repeat' first
    | ((with_reducible refine Nx.is_at ?_); first
        | (refine Nx.at_op rfl rfl ?_; first
            | refine Nx.opr rfl rfl ?_
            | ((with_reducible refine Nx.is_load ?_); first | refine Nx.load rfl rfl rfl (by first | exact Rd.at_ 0 rfl rfl | exact Rd.at_ 1 rfl rfl | exact Rd.at_ 2 rfl rfl | exact Rd.at_ 3 rfl rfl | exact Rd.at_ 4 rfl rfl | exact Rd.at_ 5 rfl rfl) ?_ | refine Nx.loads rfl rfl rfl rfl (by first | exact Rds.at_ 0 rfl | exact Rds.at_ 1 rfl | exact Rds.at_ 2 rfl | exact Rds.at_ 3 rfl | exact Rds.at_ 4 rfl | exact Rds.at_ 5 rfl) rfl ?_)
            | ((with_reducible refine Nx.is_bin ?_); first | refine Nx.add rfl rfl (by unfold I64; omega) rfl ?_ | refine Nx.sub rfl rfl (by unfold I64; omega) rfl ?_ | refine Nx.mul rfl rfl (by unfold I64; omega) rfl ?_ | refine Nx.rem rfl rfl (by omega) (by omega) rfl ?_ | refine Nx.quo rfl rfl (by omega) (by omega) (by unfold I64; omega) rfl ?_)
            | ((with_reducible refine Nx.is_conv ?_); first | refine Nx.conv_i64 rfl rfl rfl (by unfold I64; omega) rfl ?_)
            | ((with_reducible refine Nx.is_un ?_); first | refine Nx.not_dec rfl rfl ?_ | refine Nx.neg rfl (by unfold I64; omega) rfl ?_)
            | ((with_reducible refine Nx.is_build ?_); first | refine Nx.build rfl rfl (by kernel_rfl) rfl ?_)
            | ((with_reducible refine Nx.is_box ?_); first | refine Nx.box_agg rfl rfl (fun bx => ?_) | refine Nx.box1 rfl rfl rfl (fun bx => ?_))
            | ((with_reducible refine Nx.is_alloc ?_); first | refine Nx.alloc rfl rfl (fun bx => ?_))
            | ((with_reducible refine Nx.is_lit ?_); first | refine Nx.buildSlice rfl rfl rfl rfl rfl rfl rfl rfl rfl (fun bx => ?_))
            | ((with_reducible refine Nx.is_store ?_); first | refine Nx.store_blk 0 rfl rfl rfl rfl rfl rfl rfl ?_ | refine Nx.store_blk 1 rfl rfl rfl rfl rfl rfl rfl ?_ | refine Nx.store_blk 2 rfl rfl rfl rfl rfl rfl rfl ?_ | refine Nx.store_blk 3 rfl rfl rfl rfl rfl rfl rfl ?_ | refine Nx.store_blk 4 rfl rfl rfl rfl rfl rfl rfl ?_)
            | ((with_reducible refine Nx.is_append ?_); first | refine Nx.append_lit 0 rfl rfl rfl rfl (by kernel_rfl) rfl rfl rfl rfl (by omega) (fun A2 c2 => ?_) | refine Nx.append_lit 1 rfl rfl rfl rfl (by kernel_rfl) rfl rfl rfl rfl (by omega) (fun A2 c2 => ?_) | refine Nx.append_lit 2 rfl rfl rfl rfl (by kernel_rfl) rfl rfl rfl rfl (by omega) (fun A2 c2 => ?_) | refine Nx.append_lit 3 rfl rfl rfl rfl (by kernel_rfl) rfl rfl rfl rfl (by omega) (fun A2 c2 => ?_) | refine Nx.append_lit 4 rfl rfl rfl rfl (by kernel_rfl) rfl rfl rfl rfl (by omega) (fun A2 c2 => ?_))
            | ((with_reducible refine Nx.is_call ?_); first | refine Nx.min2 rfl rfl rfl ?_ | refine Nx.max2 rfl rfl rfl ?_)
            | refine Nx.makeFunc rfl rfl rfl ?_
            | refine Nx.fieldAddr rfl rfl rfl ?_)
        | refine Nx.at_no rfl rfl rfl rfl rfl rfl ?_
        | (refine Nx.at_do rfl rfl rfl rfl ?_; first
            | refine Nx.opr rfl rfl ?_
            | ((with_reducible refine Nx.is_load ?_); first | refine Nx.load rfl rfl rfl (by first | exact Rd.at_ 0 rfl rfl | exact Rd.at_ 1 rfl rfl | exact Rd.at_ 2 rfl rfl | exact Rd.at_ 3 rfl rfl | exact Rd.at_ 4 rfl rfl | exact Rd.at_ 5 rfl rfl) ?_ | refine Nx.loads rfl rfl rfl rfl (by first | exact Rds.at_ 0 rfl | exact Rds.at_ 1 rfl | exact Rds.at_ 2 rfl | exact Rds.at_ 3 rfl | exact Rds.at_ 4 rfl | exact Rds.at_ 5 rfl) rfl ?_)
            | ((with_reducible refine Nx.is_bin ?_); first | refine Nx.add rfl rfl (by unfold I64; omega) rfl ?_ | refine Nx.sub rfl rfl (by unfold I64; omega) rfl ?_ | refine Nx.mul rfl rfl (by unfold I64; omega) rfl ?_ | refine Nx.rem rfl rfl (by omega) (by omega) rfl ?_ | refine Nx.quo rfl rfl (by omega) (by omega) (by unfold I64; omega) rfl ?_)
            | ((with_reducible refine Nx.is_conv ?_); first | refine Nx.conv_i64 rfl rfl rfl (by unfold I64; omega) rfl ?_)
            | ((with_reducible refine Nx.is_un ?_); first | refine Nx.not_dec rfl rfl ?_ | refine Nx.neg rfl (by unfold I64; omega) rfl ?_)
            | ((with_reducible refine Nx.is_build ?_); first | refine Nx.build rfl rfl (by kernel_rfl) rfl ?_)
            | ((with_reducible refine Nx.is_box ?_); first | refine Nx.box_agg rfl rfl (fun bx => ?_) | refine Nx.box1 rfl rfl rfl (fun bx => ?_))
            | ((with_reducible refine Nx.is_alloc ?_); first | refine Nx.alloc rfl rfl (fun bx => ?_))
            | ((with_reducible refine Nx.is_lit ?_); first | refine Nx.buildSlice rfl rfl rfl rfl rfl rfl rfl rfl rfl (fun bx => ?_))
            | ((with_reducible refine Nx.is_store ?_); first | refine Nx.store_blk 0 rfl rfl rfl rfl rfl rfl rfl ?_ | refine Nx.store_blk 1 rfl rfl rfl rfl rfl rfl rfl ?_ | refine Nx.store_blk 2 rfl rfl rfl rfl rfl rfl rfl ?_ | refine Nx.store_blk 3 rfl rfl rfl rfl rfl rfl rfl ?_ | refine Nx.store_blk 4 rfl rfl rfl rfl rfl rfl rfl ?_)
            | ((with_reducible refine Nx.is_append ?_); first | refine Nx.append_lit 0 rfl rfl rfl rfl (by kernel_rfl) rfl rfl rfl rfl (by omega) (fun A2 c2 => ?_) | refine Nx.append_lit 1 rfl rfl rfl rfl (by kernel_rfl) rfl rfl rfl rfl (by omega) (fun A2 c2 => ?_) | refine Nx.append_lit 2 rfl rfl rfl rfl (by kernel_rfl) rfl rfl rfl rfl (by omega) (fun A2 c2 => ?_) | refine Nx.append_lit 3 rfl rfl rfl rfl (by kernel_rfl) rfl rfl rfl rfl (by omega) (fun A2 c2 => ?_) | refine Nx.append_lit 4 rfl rfl rfl rfl (by kernel_rfl) rfl rfl rfl rfl (by omega) (fun A2 c2 => ?_))
            | ((with_reducible refine Nx.is_call ?_); first | refine Nx.min2 rfl rfl rfl ?_ | refine Nx.max2 rfl rfl rfl ?_)
            | refine Nx.makeFunc rfl rfl rfl ?_
            | refine Nx.fieldAddr rfl rfl rfl ?_)
        | refine Nx.at_endt rfl ?_
        | ((fail_if_success refine Nx.at_do rfl rfl rfl rfl ?_); first | refine Nx.at_split rfl rfl rfl rfl (fun hc => ?_) (fun hc => ?_) | refine Nx.at_splitb rfl rfl rfl rfl (fun hc => ?_) (fun hc => ?_))
        | refine Nx.at_no0 rfl rfl rfl rfl rfl ?_
        | refine Nx.at_end rfl ?_)
    | ((with_reducible refine Nx.is_wp ?_); first
        | refine Nx.p_seq rfl ?_
        | refine Nx.p_region rfl ?_
        | refine Nx.p_ret rfl ?_
        | refine Nx.p_skip rfl ?_
        | refine Nx.p_exit rfl rfl ?_
        | refine Nx.p_block rfl rfl ?_
        | refine Nx.p_t rfl rfl ?_
        | refine Nx.p_f rfl rfl ?_
        | refine Nx.p_dec rfl rfl (fun hc => ?_) (fun hc => ?_)
        | refine Nx.p_bool rfl rfl (fun hc => ?_) (fun hc => ?_)
        | refine Nx.p_label rfl ?_)
    | with_reducible refine Nx.then_ret ?_
    | with_reducible refine Nx.in_ret ?_
    | with_reducible refine Nx.then_normal ?_
    | with_reducible refine Nx.in_normal ?_
    | with_reducible refine Nx.then_exit ?_
    | with_reducible refine Nx.in_exit ?_
    | refine Nx.in_other rfl ?_
    | ((with_reducible refine Nx.is_mix ?_); first
        | refine Nx.m_quiet rfl rfl rfl rfl rfl (by first
            | exact QRun.opr rfl
            | exact QRun.load rfl rfl (by first | exact Rd.at_ 0 rfl rfl | exact Rd.at_ 1 rfl rfl | exact Rd.at_ 2 rfl rfl | exact Rd.at_ 3 rfl rfl | exact Rd.at_ 4 rfl rfl | exact Rd.at_ 5 rfl rfl)
            | exact QRun.loads rfl rfl rfl (by first | exact Rds.at_ 0 rfl | exact Rds.at_ 1 rfl | exact Rds.at_ 2 rfl | exact Rds.at_ 3 rfl | exact Rds.at_ 4 rfl | exact Rds.at_ 5 rfl) rfl
            | exact QRun.add rfl rfl (by unfold I64; omega)
            | exact QRun.sub rfl rfl (by unfold I64; omega)
            | exact QRun.mul rfl rfl (by unfold I64; omega)) ?_
        | refine Nx.m_quiet_do rfl rfl rfl rfl rfl rfl rfl (by first
            | exact QRun.opr rfl
            | exact QRun.load rfl rfl (by first | exact Rd.at_ 0 rfl rfl | exact Rd.at_ 1 rfl rfl | exact Rd.at_ 2 rfl rfl | exact Rd.at_ 3 rfl rfl | exact Rd.at_ 4 rfl rfl | exact Rd.at_ 5 rfl rfl)
            | exact QRun.loads rfl rfl rfl (by first | exact Rds.at_ 0 rfl | exact Rds.at_ 1 rfl | exact Rds.at_ 2 rfl | exact Rds.at_ 3 rfl | exact Rds.at_ 4 rfl | exact Rds.at_ 5 rfl) rfl
            | exact QRun.add rfl rfl (by unfold I64; omega)
            | exact QRun.sub rfl rfl (by unfold I64; omega)
            | exact QRun.mul rfl rfl (by unfold I64; omega)) ?_
        | with_reducible refine Nx.mix_nil_then ?_
        | with_reducible refine Nx.mix_nil ?_
        | refine Nx.m_quiet_no rfl rfl rfl rfl rfl rfl rfl ?_
        | ((fail_if_success refine Nx.m_quiet_do rfl rfl rfl rfl rfl rfl rfl ?_ ?_); (fail_if_success refine Nx.m_loud_do rfl rfl rfl rfl rfl ?_); first | refine Nx.m_split rfl rfl rfl rfl (fun hc => ?_) (fun hc => ?_) | refine Nx.m_splitb rfl rfl rfl rfl (fun hc => ?_) (fun hc => ?_))
        | (refine Nx.m_loud rfl rfl rfl ?_; first
            | refine Nx.opr rfl rfl ?_
            | ((with_reducible refine Nx.is_load ?_); first | refine Nx.load rfl rfl rfl (by first | exact Rd.at_ 0 rfl rfl | exact Rd.at_ 1 rfl rfl | exact Rd.at_ 2 rfl rfl | exact Rd.at_ 3 rfl rfl | exact Rd.at_ 4 rfl rfl | exact Rd.at_ 5 rfl rfl) ?_ | refine Nx.loads rfl rfl rfl rfl (by first | exact Rds.at_ 0 rfl | exact Rds.at_ 1 rfl | exact Rds.at_ 2 rfl | exact Rds.at_ 3 rfl | exact Rds.at_ 4 rfl | exact Rds.at_ 5 rfl) rfl ?_)
            | ((with_reducible refine Nx.is_bin ?_); first | refine Nx.add rfl rfl (by unfold I64; omega) rfl ?_ | refine Nx.sub rfl rfl (by unfold I64; omega) rfl ?_ | refine Nx.mul rfl rfl (by unfold I64; omega) rfl ?_ | refine Nx.rem rfl rfl (by omega) (by omega) rfl ?_ | refine Nx.quo rfl rfl (by omega) (by omega) (by unfold I64; omega) rfl ?_)
            | ((with_reducible refine Nx.is_conv ?_); first | refine Nx.conv_i64 rfl rfl rfl (by unfold I64; omega) rfl ?_)
            | ((with_reducible refine Nx.is_un ?_); first | refine Nx.not_dec rfl rfl ?_ | refine Nx.neg rfl (by unfold I64; omega) rfl ?_)
            | ((with_reducible refine Nx.is_build ?_); first | refine Nx.build rfl rfl (by kernel_rfl) rfl ?_)
            | ((with_reducible refine Nx.is_box ?_); first | refine Nx.box_agg rfl rfl (fun bx => ?_) | refine Nx.box1 rfl rfl rfl (fun bx => ?_))
            | ((with_reducible refine Nx.is_alloc ?_); first | refine Nx.alloc rfl rfl (fun bx => ?_))
            | ((with_reducible refine Nx.is_lit ?_); first | refine Nx.buildSlice rfl rfl rfl rfl rfl rfl rfl rfl rfl (fun bx => ?_))
            | ((with_reducible refine Nx.is_store ?_); first | refine Nx.store_blk 0 rfl rfl rfl rfl rfl rfl rfl ?_ | refine Nx.store_blk 1 rfl rfl rfl rfl rfl rfl rfl ?_ | refine Nx.store_blk 2 rfl rfl rfl rfl rfl rfl rfl ?_ | refine Nx.store_blk 3 rfl rfl rfl rfl rfl rfl rfl ?_ | refine Nx.store_blk 4 rfl rfl rfl rfl rfl rfl rfl ?_)
            | ((with_reducible refine Nx.is_append ?_); first | refine Nx.append_lit 0 rfl rfl rfl rfl (by kernel_rfl) rfl rfl rfl rfl (by omega) (fun A2 c2 => ?_) | refine Nx.append_lit 1 rfl rfl rfl rfl (by kernel_rfl) rfl rfl rfl rfl (by omega) (fun A2 c2 => ?_) | refine Nx.append_lit 2 rfl rfl rfl rfl (by kernel_rfl) rfl rfl rfl rfl (by omega) (fun A2 c2 => ?_) | refine Nx.append_lit 3 rfl rfl rfl rfl (by kernel_rfl) rfl rfl rfl rfl (by omega) (fun A2 c2 => ?_) | refine Nx.append_lit 4 rfl rfl rfl rfl (by kernel_rfl) rfl rfl rfl rfl (by omega) (fun A2 c2 => ?_))
            | ((with_reducible refine Nx.is_call ?_); first | refine Nx.min2 rfl rfl rfl ?_ | refine Nx.max2 rfl rfl rfl ?_)
            | refine Nx.makeFunc rfl rfl rfl ?_
            | refine Nx.fieldAddr rfl rfl rfl ?_)
        | (refine Nx.m_loud_do rfl rfl rfl rfl rfl ?_; first
            | refine Nx.opr rfl rfl ?_
            | ((with_reducible refine Nx.is_load ?_); first | refine Nx.load rfl rfl rfl (by first | exact Rd.at_ 0 rfl rfl | exact Rd.at_ 1 rfl rfl | exact Rd.at_ 2 rfl rfl | exact Rd.at_ 3 rfl rfl | exact Rd.at_ 4 rfl rfl | exact Rd.at_ 5 rfl rfl) ?_ | refine Nx.loads rfl rfl rfl rfl (by first | exact Rds.at_ 0 rfl | exact Rds.at_ 1 rfl | exact Rds.at_ 2 rfl | exact Rds.at_ 3 rfl | exact Rds.at_ 4 rfl | exact Rds.at_ 5 rfl) rfl ?_)
            | ((with_reducible refine Nx.is_bin ?_); first | refine Nx.add rfl rfl (by unfold I64; omega) rfl ?_ | refine Nx.sub rfl rfl (by unfold I64; omega) rfl ?_ | refine Nx.mul rfl rfl (by unfold I64; omega) rfl ?_ | refine Nx.rem rfl rfl (by omega) (by omega) rfl ?_ | refine Nx.quo rfl rfl (by omega) (by omega) (by unfold I64; omega) rfl ?_)
            | ((with_reducible refine Nx.is_conv ?_); first | refine Nx.conv_i64 rfl rfl rfl (by unfold I64; omega) rfl ?_)
            | ((with_reducible refine Nx.is_un ?_); first | refine Nx.not_dec rfl rfl ?_ | refine Nx.neg rfl (by unfold I64; omega) rfl ?_)
            | ((with_reducible refine Nx.is_build ?_); first | refine Nx.build rfl rfl (by kernel_rfl) rfl ?_)
            | ((with_reducible refine Nx.is_box ?_); first | refine Nx.box_agg rfl rfl (fun bx => ?_) | refine Nx.box1 rfl rfl rfl (fun bx => ?_))
            | ((with_reducible refine Nx.is_alloc ?_); first | refine Nx.alloc rfl rfl (fun bx => ?_))
            | ((with_reducible refine Nx.is_lit ?_); first | refine Nx.buildSlice rfl rfl rfl rfl rfl rfl rfl rfl rfl (fun bx => ?_))
            | ((with_reducible refine Nx.is_store ?_); first | refine Nx.store_blk 0 rfl rfl rfl rfl rfl rfl rfl ?_ | refine Nx.store_blk 1 rfl rfl rfl rfl rfl rfl rfl ?_ | refine Nx.store_blk 2 rfl rfl rfl rfl rfl rfl rfl ?_ | refine Nx.store_blk 3 rfl rfl rfl rfl rfl rfl rfl ?_ | refine Nx.store_blk 4 rfl rfl rfl rfl rfl rfl rfl ?_)
            | ((with_reducible refine Nx.is_append ?_); first | refine Nx.append_lit 0 rfl rfl rfl rfl (by kernel_rfl) rfl rfl rfl rfl (by omega) (fun A2 c2 => ?_) | refine Nx.append_lit 1 rfl rfl rfl rfl (by kernel_rfl) rfl rfl rfl rfl (by omega) (fun A2 c2 => ?_) | refine Nx.append_lit 2 rfl rfl rfl rfl (by kernel_rfl) rfl rfl rfl rfl (by omega) (fun A2 c2 => ?_) | refine Nx.append_lit 3 rfl rfl rfl rfl (by kernel_rfl) rfl rfl rfl rfl (by omega) (fun A2 c2 => ?_) | refine Nx.append_lit 4 rfl rfl rfl rfl (by kernel_rfl) rfl rfl rfl rfl (by omega) (fun A2 c2 => ?_))
            | ((with_reducible refine Nx.is_call ?_); first | refine Nx.min2 rfl rfl rfl ?_ | refine Nx.max2 rfl rfl rfl ?_)
            | refine Nx.makeFunc rfl rfl rfl ?_
            | refine Nx.fieldAddr rfl rfl rfl ?_)
        | refine Nx.m_loud_no rfl rfl rfl rfl rfl rfl rfl ?_)
    | ((with_reducible refine Nx.is_mixS ?_); refine Nx.mix_S (by first | exact Ent.refl _ | exact Ent.drop (Ent.refl _) | exact Ent.drop (Ent.drop (Ent.refl _)) | exact Ent.drop (Ent.drop (Ent.drop (Ent.refl _)))) ?_)
  · exact Nx.ret_fn rfl [] ⟨by congr 1; simp; omega, rfl⟩ (Ent.drop (Ent.refl _))
  · exact Nx.ret_fn rfl [] ⟨by congr 1; simp; omega, rfl⟩ (Ent.drop (Ent.refl _))
def checkE (a b c d : Int) : Int := if a < 1 ∨ a > 100 ∨ b < 1 ∨ b > 100 ∨ c < 0 ∨ c > 100 ∨ d < 0 ∨ d > 100 then 2 else 0
theorem Check_spec (a b c d : Int) (I : PH) : FnSpec Try.prog 15 [.agg #[.int .i64 a, .int .i64 b, .int .i64 c, .int .i64 d]] I [] (fun v R' => v = .int .i64 (checkE a b c d) ∧ R' = []) := by
  refine FnSpec.enterP Try.func15 rfl Try.ntmps15 rfl fun w F => ?_
  repeat' first
    | ((with_reducible refine Nx.is_at ?_); first
        | (refine Nx.at_op rfl rfl ?_; first
            | refine Nx.opr rfl rfl ?_
            | ((with_reducible refine Nx.is_load ?_); first | refine Nx.load rfl rfl rfl (by first | exact Rd.at_ 0 rfl rfl | exact Rd.at_ 1 rfl rfl | exact Rd.at_ 2 rfl rfl | exact Rd.at_ 3 rfl rfl | exact Rd.at_ 4 rfl rfl | exact Rd.at_ 5 rfl rfl) ?_ | refine Nx.loads rfl rfl rfl rfl (by first | exact Rds.at_ 0 rfl | exact Rds.at_ 1 rfl | exact Rds.at_ 2 rfl | exact Rds.at_ 3 rfl | exact Rds.at_ 4 rfl | exact Rds.at_ 5 rfl) rfl ?_)
            | ((with_reducible refine Nx.is_bin ?_); first | refine Nx.add rfl rfl (by unfold I64; omega) rfl ?_ | refine Nx.sub rfl rfl (by unfold I64; omega) rfl ?_ | refine Nx.mul rfl rfl (by unfold I64; omega) rfl ?_ | refine Nx.rem rfl rfl (by omega) (by omega) rfl ?_ | refine Nx.quo rfl rfl (by omega) (by omega) (by unfold I64; omega) rfl ?_)
            | ((with_reducible refine Nx.is_conv ?_); first | refine Nx.conv_i64 rfl rfl rfl (by unfold I64; omega) rfl ?_)
            | ((with_reducible refine Nx.is_un ?_); first | refine Nx.not_dec rfl rfl ?_ | refine Nx.neg rfl (by unfold I64; omega) rfl ?_)
            | ((with_reducible refine Nx.is_build ?_); first | refine Nx.build rfl rfl (by kernel_rfl) rfl ?_)
            | ((with_reducible refine Nx.is_box ?_); first | refine Nx.box_agg rfl rfl (fun bx => ?_) | refine Nx.box1 rfl rfl rfl (fun bx => ?_))
            | ((with_reducible refine Nx.is_alloc ?_); first | refine Nx.alloc rfl rfl (fun bx => ?_))
            | ((with_reducible refine Nx.is_lit ?_); first | refine Nx.buildSlice rfl rfl rfl rfl rfl rfl rfl rfl rfl (fun bx => ?_))
            | ((with_reducible refine Nx.is_store ?_); first | refine Nx.store_blk 0 rfl rfl rfl rfl rfl rfl rfl ?_ | refine Nx.store_blk 1 rfl rfl rfl rfl rfl rfl rfl ?_ | refine Nx.store_blk 2 rfl rfl rfl rfl rfl rfl rfl ?_ | refine Nx.store_blk 3 rfl rfl rfl rfl rfl rfl rfl ?_ | refine Nx.store_blk 4 rfl rfl rfl rfl rfl rfl rfl ?_)
            | ((with_reducible refine Nx.is_append ?_); first | refine Nx.append_lit 0 rfl rfl rfl rfl (by kernel_rfl) rfl rfl rfl rfl (by omega) (fun A2 c2 => ?_) | refine Nx.append_lit 1 rfl rfl rfl rfl (by kernel_rfl) rfl rfl rfl rfl (by omega) (fun A2 c2 => ?_) | refine Nx.append_lit 2 rfl rfl rfl rfl (by kernel_rfl) rfl rfl rfl rfl (by omega) (fun A2 c2 => ?_) | refine Nx.append_lit 3 rfl rfl rfl rfl (by kernel_rfl) rfl rfl rfl rfl (by omega) (fun A2 c2 => ?_) | refine Nx.append_lit 4 rfl rfl rfl rfl (by kernel_rfl) rfl rfl rfl rfl (by omega) (fun A2 c2 => ?_))
            | ((with_reducible refine Nx.is_call ?_); first | refine Nx.min2 rfl rfl rfl ?_ | refine Nx.max2 rfl rfl rfl ?_)
            | refine Nx.makeFunc rfl rfl rfl ?_
            | refine Nx.fieldAddr rfl rfl rfl ?_)
        | refine Nx.at_no rfl rfl rfl rfl rfl rfl ?_
        | (refine Nx.at_do rfl rfl rfl rfl ?_; first
            | refine Nx.opr rfl rfl ?_
            | ((with_reducible refine Nx.is_load ?_); first | refine Nx.load rfl rfl rfl (by first | exact Rd.at_ 0 rfl rfl | exact Rd.at_ 1 rfl rfl | exact Rd.at_ 2 rfl rfl | exact Rd.at_ 3 rfl rfl | exact Rd.at_ 4 rfl rfl | exact Rd.at_ 5 rfl rfl) ?_ | refine Nx.loads rfl rfl rfl rfl (by first | exact Rds.at_ 0 rfl | exact Rds.at_ 1 rfl | exact Rds.at_ 2 rfl | exact Rds.at_ 3 rfl | exact Rds.at_ 4 rfl | exact Rds.at_ 5 rfl) rfl ?_)
            | ((with_reducible refine Nx.is_bin ?_); first | refine Nx.add rfl rfl (by unfold I64; omega) rfl ?_ | refine Nx.sub rfl rfl (by unfold I64; omega) rfl ?_ | refine Nx.mul rfl rfl (by unfold I64; omega) rfl ?_ | refine Nx.rem rfl rfl (by omega) (by omega) rfl ?_ | refine Nx.quo rfl rfl (by omega) (by omega) (by unfold I64; omega) rfl ?_)
            | ((with_reducible refine Nx.is_conv ?_); first | refine Nx.conv_i64 rfl rfl rfl (by unfold I64; omega) rfl ?_)
            | ((with_reducible refine Nx.is_un ?_); first | refine Nx.not_dec rfl rfl ?_ | refine Nx.neg rfl (by unfold I64; omega) rfl ?_)
            | ((with_reducible refine Nx.is_build ?_); first | refine Nx.build rfl rfl (by kernel_rfl) rfl ?_)
            | ((with_reducible refine Nx.is_box ?_); first | refine Nx.box_agg rfl rfl (fun bx => ?_) | refine Nx.box1 rfl rfl rfl (fun bx => ?_))
            | ((with_reducible refine Nx.is_alloc ?_); first | refine Nx.alloc rfl rfl (fun bx => ?_))
            | ((with_reducible refine Nx.is_lit ?_); first | refine Nx.buildSlice rfl rfl rfl rfl rfl rfl rfl rfl rfl (fun bx => ?_))
            | ((with_reducible refine Nx.is_store ?_); first | refine Nx.store_blk 0 rfl rfl rfl rfl rfl rfl rfl ?_ | refine Nx.store_blk 1 rfl rfl rfl rfl rfl rfl rfl ?_ | refine Nx.store_blk 2 rfl rfl rfl rfl rfl rfl rfl ?_ | refine Nx.store_blk 3 rfl rfl rfl rfl rfl rfl rfl ?_ | refine Nx.store_blk 4 rfl rfl rfl rfl rfl rfl rfl ?_)
            | ((with_reducible refine Nx.is_append ?_); first | refine Nx.append_lit 0 rfl rfl rfl rfl (by kernel_rfl) rfl rfl rfl rfl (by omega) (fun A2 c2 => ?_) | refine Nx.append_lit 1 rfl rfl rfl rfl (by kernel_rfl) rfl rfl rfl rfl (by omega) (fun A2 c2 => ?_) | refine Nx.append_lit 2 rfl rfl rfl rfl (by kernel_rfl) rfl rfl rfl rfl (by omega) (fun A2 c2 => ?_) | refine Nx.append_lit 3 rfl rfl rfl rfl (by kernel_rfl) rfl rfl rfl rfl (by omega) (fun A2 c2 => ?_) | refine Nx.append_lit 4 rfl rfl rfl rfl (by kernel_rfl) rfl rfl rfl rfl (by omega) (fun A2 c2 => ?_))
            | ((with_reducible refine Nx.is_call ?_); first | refine Nx.min2 rfl rfl rfl ?_ | refine Nx.max2 rfl rfl rfl ?_)
            | refine Nx.makeFunc rfl rfl rfl ?_
            | refine Nx.fieldAddr rfl rfl rfl ?_)
        | refine Nx.at_endt rfl ?_
        | ((fail_if_success refine Nx.at_do rfl rfl rfl rfl ?_); first | refine Nx.at_split rfl rfl rfl rfl (fun hc => ?_) (fun hc => ?_) | refine Nx.at_splitb rfl rfl rfl rfl (fun hc => ?_) (fun hc => ?_))
        | refine Nx.at_no0 rfl rfl rfl rfl rfl ?_
        | refine Nx.at_end rfl ?_)
    | ((with_reducible refine Nx.is_wp ?_); first
        | refine Nx.p_seq rfl ?_
        | refine Nx.p_region rfl ?_
        | refine Nx.p_ret rfl ?_
        | refine Nx.p_skip rfl ?_
        | refine Nx.p_exit rfl rfl ?_
        | refine Nx.p_block rfl rfl ?_
        | refine Nx.p_t rfl rfl ?_
        | refine Nx.p_f rfl rfl ?_
        | refine Nx.p_dec rfl rfl (fun hc => ?_) (fun hc => ?_)
        | refine Nx.p_bool rfl rfl (fun hc => ?_) (fun hc => ?_)
        | refine Nx.p_label rfl ?_)
    | with_reducible refine Nx.then_ret ?_
    | with_reducible refine Nx.in_ret ?_
    | with_reducible refine Nx.then_normal ?_
    | with_reducible refine Nx.in_normal ?_
    | with_reducible refine Nx.then_exit ?_
    | with_reducible refine Nx.in_exit ?_
    | refine Nx.in_other rfl ?_
    | ((with_reducible refine Nx.is_mix ?_); first
        | refine Nx.m_quiet rfl rfl rfl rfl rfl (by first
            | exact QRun.opr rfl
            | exact QRun.load rfl rfl (by first | exact Rd.at_ 0 rfl rfl | exact Rd.at_ 1 rfl rfl | exact Rd.at_ 2 rfl rfl | exact Rd.at_ 3 rfl rfl | exact Rd.at_ 4 rfl rfl | exact Rd.at_ 5 rfl rfl)
            | exact QRun.loads rfl rfl rfl (by first | exact Rds.at_ 0 rfl | exact Rds.at_ 1 rfl | exact Rds.at_ 2 rfl | exact Rds.at_ 3 rfl | exact Rds.at_ 4 rfl | exact Rds.at_ 5 rfl) rfl
            | exact QRun.add rfl rfl (by unfold I64; omega)
            | exact QRun.sub rfl rfl (by unfold I64; omega)
            | exact QRun.mul rfl rfl (by unfold I64; omega)) ?_
        | refine Nx.m_quiet_do rfl rfl rfl rfl rfl rfl rfl (by first
            | exact QRun.opr rfl
            | exact QRun.load rfl rfl (by first | exact Rd.at_ 0 rfl rfl | exact Rd.at_ 1 rfl rfl | exact Rd.at_ 2 rfl rfl | exact Rd.at_ 3 rfl rfl | exact Rd.at_ 4 rfl rfl | exact Rd.at_ 5 rfl rfl)
            | exact QRun.loads rfl rfl rfl (by first | exact Rds.at_ 0 rfl | exact Rds.at_ 1 rfl | exact Rds.at_ 2 rfl | exact Rds.at_ 3 rfl | exact Rds.at_ 4 rfl | exact Rds.at_ 5 rfl) rfl
            | exact QRun.add rfl rfl (by unfold I64; omega)
            | exact QRun.sub rfl rfl (by unfold I64; omega)
            | exact QRun.mul rfl rfl (by unfold I64; omega)) ?_
        | with_reducible refine Nx.mix_nil_then ?_
        | with_reducible refine Nx.mix_nil ?_
        | refine Nx.m_quiet_no rfl rfl rfl rfl rfl rfl rfl ?_
        | ((fail_if_success refine Nx.m_quiet_do rfl rfl rfl rfl rfl rfl rfl ?_ ?_); (fail_if_success refine Nx.m_loud_do rfl rfl rfl rfl rfl ?_); first | refine Nx.m_split rfl rfl rfl rfl (fun hc => ?_) (fun hc => ?_) | refine Nx.m_splitb rfl rfl rfl rfl (fun hc => ?_) (fun hc => ?_))
        | (refine Nx.m_loud rfl rfl rfl ?_; first
            | refine Nx.opr rfl rfl ?_
            | ((with_reducible refine Nx.is_load ?_); first | refine Nx.load rfl rfl rfl (by first | exact Rd.at_ 0 rfl rfl | exact Rd.at_ 1 rfl rfl | exact Rd.at_ 2 rfl rfl | exact Rd.at_ 3 rfl rfl | exact Rd.at_ 4 rfl rfl | exact Rd.at_ 5 rfl rfl) ?_ | refine Nx.loads rfl rfl rfl rfl (by first | exact Rds.at_ 0 rfl | exact Rds.at_ 1 rfl | exact Rds.at_ 2 rfl | exact Rds.at_ 3 rfl | exact Rds.at_ 4 rfl | exact Rds.at_ 5 rfl) rfl ?_)
            | ((with_reducible refine Nx.is_bin ?_); first | refine Nx.add rfl rfl (by unfold I64; omega) rfl ?_ | refine Nx.sub rfl rfl (by unfold I64; omega) rfl ?_ | refine Nx.mul rfl rfl (by unfold I64; omega) rfl ?_ | refine Nx.rem rfl rfl (by omega) (by omega) rfl ?_ | refine Nx.quo rfl rfl (by omega) (by omega) (by unfold I64; omega) rfl ?_)
            | ((with_reducible refine Nx.is_conv ?_); first | refine Nx.conv_i64 rfl rfl rfl (by unfold I64; omega) rfl ?_)
            | ((with_reducible refine Nx.is_un ?_); first | refine Nx.not_dec rfl rfl ?_ | refine Nx.neg rfl (by unfold I64; omega) rfl ?_)
            | ((with_reducible refine Nx.is_build ?_); first | refine Nx.build rfl rfl (by kernel_rfl) rfl ?_)
            | ((with_reducible refine Nx.is_box ?_); first | refine Nx.box_agg rfl rfl (fun bx => ?_) | refine Nx.box1 rfl rfl rfl (fun bx => ?_))
            | ((with_reducible refine Nx.is_alloc ?_); first | refine Nx.alloc rfl rfl (fun bx => ?_))
            | ((with_reducible refine Nx.is_lit ?_); first | refine Nx.buildSlice rfl rfl rfl rfl rfl rfl rfl rfl rfl (fun bx => ?_))
            | ((with_reducible refine Nx.is_store ?_); first | refine Nx.store_blk 0 rfl rfl rfl rfl rfl rfl rfl ?_ | refine Nx.store_blk 1 rfl rfl rfl rfl rfl rfl rfl ?_ | refine Nx.store_blk 2 rfl rfl rfl rfl rfl rfl rfl ?_ | refine Nx.store_blk 3 rfl rfl rfl rfl rfl rfl rfl ?_ | refine Nx.store_blk 4 rfl rfl rfl rfl rfl rfl rfl ?_)
            | ((with_reducible refine Nx.is_append ?_); first | refine Nx.append_lit 0 rfl rfl rfl rfl (by kernel_rfl) rfl rfl rfl rfl (by omega) (fun A2 c2 => ?_) | refine Nx.append_lit 1 rfl rfl rfl rfl (by kernel_rfl) rfl rfl rfl rfl (by omega) (fun A2 c2 => ?_) | refine Nx.append_lit 2 rfl rfl rfl rfl (by kernel_rfl) rfl rfl rfl rfl (by omega) (fun A2 c2 => ?_) | refine Nx.append_lit 3 rfl rfl rfl rfl (by kernel_rfl) rfl rfl rfl rfl (by omega) (fun A2 c2 => ?_) | refine Nx.append_lit 4 rfl rfl rfl rfl (by kernel_rfl) rfl rfl rfl rfl (by omega) (fun A2 c2 => ?_))
            | ((with_reducible refine Nx.is_call ?_); first | refine Nx.min2 rfl rfl rfl ?_ | refine Nx.max2 rfl rfl rfl ?_)
            | refine Nx.makeFunc rfl rfl rfl ?_
            | refine Nx.fieldAddr rfl rfl rfl ?_)
        | (refine Nx.m_loud_do rfl rfl rfl rfl rfl ?_; first
            | refine Nx.opr rfl rfl ?_
            | ((with_reducible refine Nx.is_load ?_); first | refine Nx.load rfl rfl rfl (by first | exact Rd.at_ 0 rfl rfl | exact Rd.at_ 1 rfl rfl | exact Rd.at_ 2 rfl rfl | exact Rd.at_ 3 rfl rfl | exact Rd.at_ 4 rfl rfl | exact Rd.at_ 5 rfl rfl) ?_ | refine Nx.loads rfl rfl rfl rfl (by first | exact Rds.at_ 0 rfl | exact Rds.at_ 1 rfl | exact Rds.at_ 2 rfl | exact Rds.at_ 3 rfl | exact Rds.at_ 4 rfl | exact Rds.at_ 5 rfl) rfl ?_)
            | ((with_reducible refine Nx.is_bin ?_); first | refine Nx.add rfl rfl (by unfold I64; omega) rfl ?_ | refine Nx.sub rfl rfl (by unfold I64; omega) rfl ?_ | refine Nx.mul rfl rfl (by unfold I64; omega) rfl ?_ | refine Nx.rem rfl rfl (by omega) (by omega) rfl ?_ | refine Nx.quo rfl rfl (by omega) (by omega) (by unfold I64; omega) rfl ?_)
            | ((with_reducible refine Nx.is_conv ?_); first | refine Nx.conv_i64 rfl rfl rfl (by unfold I64; omega) rfl ?_)
            | ((with_reducible refine Nx.is_un ?_); first | refine Nx.not_dec rfl rfl ?_ | refine Nx.neg rfl (by unfold I64; omega) rfl ?_)
            | ((with_reducible refine Nx.is_build ?_); first | refine Nx.build rfl rfl (by kernel_rfl) rfl ?_)
            | ((with_reducible refine Nx.is_box ?_); first | refine Nx.box_agg rfl rfl (fun bx => ?_) | refine Nx.box1 rfl rfl rfl (fun bx => ?_))
            | ((with_reducible refine Nx.is_alloc ?_); first | refine Nx.alloc rfl rfl (fun bx => ?_))
            | ((with_reducible refine Nx.is_lit ?_); first | refine Nx.buildSlice rfl rfl rfl rfl rfl rfl rfl rfl rfl (fun bx => ?_))
            | ((with_reducible refine Nx.is_store ?_); first | refine Nx.store_blk 0 rfl rfl rfl rfl rfl rfl rfl ?_ | refine Nx.store_blk 1 rfl rfl rfl rfl rfl rfl rfl ?_ | refine Nx.store_blk 2 rfl rfl rfl rfl rfl rfl rfl ?_ | refine Nx.store_blk 3 rfl rfl rfl rfl rfl rfl rfl ?_ | refine Nx.store_blk 4 rfl rfl rfl rfl rfl rfl rfl ?_)
            | ((with_reducible refine Nx.is_append ?_); first | refine Nx.append_lit 0 rfl rfl rfl rfl (by kernel_rfl) rfl rfl rfl rfl (by omega) (fun A2 c2 => ?_) | refine Nx.append_lit 1 rfl rfl rfl rfl (by kernel_rfl) rfl rfl rfl rfl (by omega) (fun A2 c2 => ?_) | refine Nx.append_lit 2 rfl rfl rfl rfl (by kernel_rfl) rfl rfl rfl rfl (by omega) (fun A2 c2 => ?_) | refine Nx.append_lit 3 rfl rfl rfl rfl (by kernel_rfl) rfl rfl rfl rfl (by omega) (fun A2 c2 => ?_) | refine Nx.append_lit 4 rfl rfl rfl rfl (by kernel_rfl) rfl rfl rfl rfl (by omega) (fun A2 c2 => ?_))
            | ((with_reducible refine Nx.is_call ?_); first | refine Nx.min2 rfl rfl rfl ?_ | refine Nx.max2 rfl rfl rfl ?_)
            | refine Nx.makeFunc rfl rfl rfl ?_
            | refine Nx.fieldAddr rfl rfl rfl ?_)
        | refine Nx.m_loud_no rfl rfl rfl rfl rfl rfl rfl ?_)
    | ((with_reducible refine Nx.is_mixS ?_); refine Nx.mix_S (by first | exact Ent.refl _ | exact Ent.drop (Ent.refl _) | exact Ent.drop (Ent.drop (Ent.refl _)) | exact Ent.drop (Ent.drop (Ent.drop (Ent.refl _)))) ?_)
  all_goals exact Nx.ret_fn rfl [] ⟨by unfold checkE; first | rw [if_pos (by omega)] | rw [if_neg (by omega)], rfl⟩ (Ent.drop (Ent.refl _))
end Go.Proofs.Ytcnkjmkcoahdmaa
