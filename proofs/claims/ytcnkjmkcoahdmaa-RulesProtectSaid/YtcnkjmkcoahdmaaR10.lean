import Derived.Test.YtcnkjmkcoahdmaaR9
namespace Go.Proofs.Ytcnkjmkcoahdmaa
open Go.Eng
attribute [local irreducible] opK wpList Code.wp Exit.then Exit.inBlock fnPost bodyPost Nx Calls Oper.wp Rd Rds Wr Ent Stars Blk Again Vec FnSpec wpMix QRun Stop Upto wpAt
theorem protAt_prefix (a : Int) (l : List Int) (k : Nat) : ∀ j, ∃ r, protAt a l (k + j) = protAt a l k ++ r
  | 0 => ⟨[], by simp⟩
  | j + 1 => by
    obtain ⟨r, hr⟩ := protAt_prefix a l k j
    refine ⟨r ++ (if fewB a (l.getD (k + j) 0) then [((k + j : Nat) : Int)] else []), ?_⟩
    rw [show k + (j + 1) = (k + j) + 1 by omega, protAt_succ, hr, List.append_assoc]
theorem protAt_hit {a : Int} {l : List Int} {k n : Nat} (hf : fewB a (l.getD k 0) = true) (hk : k < n) : (protAt a l k).length < (protAt a l n).length ∧ (protAt a l n).getD (protAt a l k).length default = (k : Int) := by
  obtain ⟨r, hr⟩ := protAt_prefix a l (k + 1) (n - (k + 1))
  rw [show k + 1 + (n - (k + 1)) = n by omega, protAt_succ, if_pos hf] at hr
  rw [hr]
  refine ⟨by simp, ?_⟩
  rw [List.getD_eq_getElem?_getD, List.append_assoc, List.getElem?_append_right (Nat.le_refl _)]
  simp
theorem protAt_mono {a b : Int} (hab : a ≤ b) (l : List Int) : ∀ n, (protAt a l n).length ≤ (protAt b l n).length
  | 0 => by simp [protAt]
  | n + 1 => by
    have ih := protAt_mono hab l n
    rw [protAt_succ, protAt_succ, List.length_append, List.length_append]
    by_cases h : fewB a (l.getD n 0) = true
    · have h2 : fewB b (l.getD n 0) = true := by simp only [fewB, decide_eq_true_eq] at *; omega
      rw [if_pos h, if_pos h2]; simpa using ih
    · rw [if_neg h]; simp; omega
theorem Stricter_true (a a' b : Int) (I : PH) (h1 : checkE a b 0 0 = 0) (h2 : checkE a' b 0 0 = 0) (h : a' ≤ a) :
    FnSpec Try.prog 8 [.agg #[.int .i64 a, .int .i64 b, .int .i64 0, .int .i64 0], .agg #[.int .i64 a', .int .i64 b, .int .i64 0, .int .i64 0]] I [] (fun v R' => v = .bool true ∧ R' = []) := by
  refine FnSpec.enterP Try.func8 rfl Try.ntmps8 rfl fun w F => ?_
  repeat' first
    | ((with_reducible refine Nx.is_at ?_); first
        | (refine Nx.at_op rfl rfl ?_; first
            | refine Nx.opr rfl rfl ?_
            | refine Nx.callv rfl rfl rfl (by kernel_rfl) rfl (Check_spec _ _ _ _ _) ?_
            | ((with_reducible refine Nx.is_load ?_); first | refine Nx.load rfl rfl rfl (by first | exact Rd.at_ 0 rfl rfl | exact Rd.at_ 1 rfl rfl | exact Rd.at_ 2 rfl rfl | exact Rd.at_ 3 rfl rfl | exact Rd.at_ 4 rfl rfl | exact Rd.at_ 5 rfl rfl) ?_ | refine Nx.loads rfl rfl rfl rfl (by first | exact Rds.at_ 0 rfl | exact Rds.at_ 1 rfl | exact Rds.at_ 2 rfl | exact Rds.at_ 3 rfl | exact Rds.at_ 4 rfl | exact Rds.at_ 5 rfl) rfl ?_)
            | ((with_reducible refine Nx.is_bin ?_); first | refine Nx.add rfl rfl (by unfold I64; omega) rfl ?_ | refine Nx.sub rfl rfl (by unfold I64; omega) rfl ?_ | refine Nx.mul rfl rfl (by unfold I64; omega) rfl ?_ | refine Nx.rem rfl rfl (by omega) (by omega) rfl ?_ | refine Nx.quo rfl rfl (by omega) (by omega) (by unfold I64; omega) rfl ?_)
            | ((with_reducible refine Nx.is_conv ?_); first | refine Nx.conv_i64 rfl rfl rfl (by unfold I64; omega) rfl ?_)
            | ((with_reducible refine Nx.is_un ?_); first | refine Nx.not_dec rfl rfl ?_ | refine Nx.neg rfl (by unfold I64; omega) rfl ?_)
            | ((with_reducible refine Nx.is_build ?_); first | refine Nx.build rfl rfl (by kernel_rfl) rfl ?_)
            | ((with_reducible refine Nx.is_box ?_); first | refine Nx.box_agg rfl rfl (fun bx => ?_) | refine Nx.box1 rfl rfl rfl (fun bx => ?_))
            | ((with_reducible refine Nx.is_alloc ?_); first | refine Nx.alloc rfl rfl (fun bx => ?_))
            | ((with_reducible refine Nx.is_lit ?_); first | refine Nx.buildSlice rfl rfl rfl rfl rfl rfl rfl rfl rfl (fun bx => ?_))
            | ((with_reducible refine Nx.is_store ?_); first | refine Nx.store_blk 0 rfl rfl rfl rfl rfl rfl rfl ?_ | refine Nx.store_blk 1 rfl rfl rfl rfl rfl rfl rfl ?_ | refine Nx.store_blk 2 rfl rfl rfl rfl rfl rfl rfl ?_ | refine Nx.store_blk 3 rfl rfl rfl rfl rfl rfl rfl ?_ | refine Nx.store_blk 4 rfl rfl rfl rfl rfl rfl rfl ?_)
            | ((with_reducible refine Nx.is_append ?_); first | refine Nx.append_lit 0 rfl rfl rfl rfl (by kernel_rfl) rfl rfl rfl rfl (by omega) (fun A2 c2 => ?_) | refine Nx.append_lit 1 rfl rfl rfl rfl (by kernel_rfl) rfl rfl rfl rfl (by omega) (fun A2 c2 => ?_) | refine Nx.append_lit 2 rfl rfl rfl rfl (by kernel_rfl) rfl rfl rfl rfl (by omega) (fun A2 c2 => ?_) | refine Nx.append_lit 3 rfl rfl rfl rfl (by kernel_rfl) rfl rfl rfl rfl (by omega) (fun A2 c2 => ?_) | refine Nx.append_lit 4 rfl rfl rfl rfl (by kernel_rfl) rfl rfl rfl rfl (by omega) (fun A2 c2 => ?_))
            | ((with_reducible refine Nx.is_call ?_); first | refine Nx.min2 rfl rfl rfl ?_ | refine Nx.max2 rfl rfl rfl ?_)
            | refine Nx.makeFunc rfl rfl rfl ?_
            | refine Nx.fieldAddr rfl rfl rfl ?_)
        | refine Nx.at_no rfl rfl rfl rfl rfl rfl ?_
        | (refine Nx.at_do rfl rfl rfl rfl ?_; first
            | refine Nx.opr rfl rfl ?_
            | refine Nx.callv rfl rfl rfl (by kernel_rfl) rfl (Check_spec _ _ _ _ _) ?_
            | ((with_reducible refine Nx.is_load ?_); first | refine Nx.load rfl rfl rfl (by first | exact Rd.at_ 0 rfl rfl | exact Rd.at_ 1 rfl rfl | exact Rd.at_ 2 rfl rfl | exact Rd.at_ 3 rfl rfl | exact Rd.at_ 4 rfl rfl | exact Rd.at_ 5 rfl rfl) ?_ | refine Nx.loads rfl rfl rfl rfl (by first | exact Rds.at_ 0 rfl | exact Rds.at_ 1 rfl | exact Rds.at_ 2 rfl | exact Rds.at_ 3 rfl | exact Rds.at_ 4 rfl | exact Rds.at_ 5 rfl) rfl ?_)
            | ((with_reducible refine Nx.is_bin ?_); first | refine Nx.add rfl rfl (by unfold I64; omega) rfl ?_ | refine Nx.sub rfl rfl (by unfold I64; omega) rfl ?_ | refine Nx.mul rfl rfl (by unfold I64; omega) rfl ?_ | refine Nx.rem rfl rfl (by omega) (by omega) rfl ?_ | refine Nx.quo rfl rfl (by omega) (by omega) (by unfold I64; omega) rfl ?_)
            | ((with_reducible refine Nx.is_conv ?_); first | refine Nx.conv_i64 rfl rfl rfl (by unfold I64; omega) rfl ?_)
            | ((with_reducible refine Nx.is_un ?_); first | refine Nx.not_dec rfl rfl ?_ | refine Nx.neg rfl (by unfold I64; omega) rfl ?_)
            | ((with_reducible refine Nx.is_build ?_); first | refine Nx.build rfl rfl (by kernel_rfl) rfl ?_)
            | ((with_reducible refine Nx.is_box ?_); first | refine Nx.box_agg rfl rfl (fun bx => ?_) | refine Nx.box1 rfl rfl rfl (fun bx => ?_))
            | ((with_reducible refine Nx.is_alloc ?_); first | refine Nx.alloc rfl rfl (fun bx => ?_))
            | ((with_reducible refine Nx.is_lit ?_); first | refine Nx.buildSlice rfl rfl rfl rfl rfl rfl rfl rfl rfl (fun bx => ?_))
            | ((with_reducible refine Nx.is_store ?_); first | refine Nx.store_blk 0 rfl rfl rfl rfl rfl rfl rfl ?_ | refine Nx.store_blk 1 rfl rfl rfl rfl rfl rfl rfl ?_ | refine Nx.store_blk 2 rfl rfl rfl rfl rfl rfl rfl ?_ | refine Nx.store_blk 3 rfl rfl rfl rfl rfl rfl rfl ?_ | refine Nx.store_blk 4 rfl rfl rfl rfl rfl rfl rfl ?_)
            | ((with_reducible refine Nx.is_append ?_); first | refine Nx.append_lit 0 rfl rfl rfl rfl (by kernel_rfl) rfl rfl rfl rfl (by omega) (fun A2 c2 => ?_) | refine Nx.append_lit 1 rfl rfl rfl rfl (by kernel_rfl) rfl rfl rfl rfl (by omega) (fun A2 c2 => ?_) | refine Nx.append_lit 2 rfl rfl rfl rfl (by kernel_rfl) rfl rfl rfl rfl (by omega) (fun A2 c2 => ?_) | refine Nx.append_lit 3 rfl rfl rfl rfl (by kernel_rfl) rfl rfl rfl rfl (by omega) (fun A2 c2 => ?_) | refine Nx.append_lit 4 rfl rfl rfl rfl (by kernel_rfl) rfl rfl rfl rfl (by omega) (fun A2 c2 => ?_))
            | ((with_reducible refine Nx.is_call ?_); first | refine Nx.min2 rfl rfl rfl ?_ | refine Nx.max2 rfl rfl rfl ?_)
            | refine Nx.makeFunc rfl rfl rfl ?_
            | refine Nx.fieldAddr rfl rfl rfl ?_)
        | refine Nx.at_endt rfl ?_
        | ((fail_if_success refine Nx.at_do rfl rfl rfl rfl ?_); first | refine Nx.at_dec_t rfl rfl rfl rfl (by first | assumption | omega) ?_ | refine Nx.at_dec_f rfl rfl rfl rfl (by first | assumption | omega) ?_ | refine Nx.at_split rfl rfl rfl rfl (fun hc => ?_) (fun hc => ?_) | refine Nx.at_splitb rfl rfl rfl rfl (fun hc => ?_) (fun hc => ?_))
        | refine Nx.at_no0 rfl rfl rfl rfl rfl ?_
        | refine Nx.at_end rfl ?_)
    | ((with_reducible refine Nx.is_wp ?_); first
        | refine Nx.p_seq rfl ?_
        | refine Nx.p_region rfl ?_
        | refine Nx.p_ret rfl ?_
        | refine Nx.p_skip rfl ?_
        | refine Nx.p_exit rfl rfl ?_
        | refine Nx.p_block rfl rfl ?_
        | refine Nx.p_t rfl rfl ?_
        | refine Nx.p_f rfl rfl ?_
        | refine Nx.p_dec_t rfl rfl (by omega) ?_
        | refine Nx.p_dec_f rfl rfl (by omega) ?_
        | refine Nx.p_dec rfl rfl (fun hc => ?_) (fun hc => ?_)
        | refine Nx.p_bool rfl rfl (fun hc => ?_) (fun hc => ?_)
        | refine Nx.p_label rfl ?_)
    | with_reducible refine Nx.then_ret ?_
    | with_reducible refine Nx.in_ret ?_
    | with_reducible refine Nx.then_normal ?_
    | with_reducible refine Nx.in_normal ?_
    | with_reducible refine Nx.then_exit ?_
    | with_reducible refine Nx.in_exit ?_
    | refine Nx.in_other rfl ?_
    | ((with_reducible refine Nx.is_mix ?_); first
        | refine Nx.m_quiet rfl rfl rfl rfl rfl (by first
            | exact QRun.opr rfl
            | exact QRun.load rfl rfl (by first | exact Rd.at_ 0 rfl rfl | exact Rd.at_ 1 rfl rfl | exact Rd.at_ 2 rfl rfl | exact Rd.at_ 3 rfl rfl | exact Rd.at_ 4 rfl rfl | exact Rd.at_ 5 rfl rfl)
            | exact QRun.loads rfl rfl rfl (by first | exact Rds.at_ 0 rfl | exact Rds.at_ 1 rfl | exact Rds.at_ 2 rfl | exact Rds.at_ 3 rfl | exact Rds.at_ 4 rfl | exact Rds.at_ 5 rfl) rfl
            | exact QRun.add rfl rfl (by unfold I64; omega)
            | exact QRun.sub rfl rfl (by unfold I64; omega)
            | exact QRun.mul rfl rfl (by unfold I64; omega)) ?_
        | refine Nx.m_quiet_do rfl rfl rfl rfl rfl rfl rfl (by first
            | exact QRun.opr rfl
            | exact QRun.load rfl rfl (by first | exact Rd.at_ 0 rfl rfl | exact Rd.at_ 1 rfl rfl | exact Rd.at_ 2 rfl rfl | exact Rd.at_ 3 rfl rfl | exact Rd.at_ 4 rfl rfl | exact Rd.at_ 5 rfl rfl)
            | exact QRun.loads rfl rfl rfl (by first | exact Rds.at_ 0 rfl | exact Rds.at_ 1 rfl | exact Rds.at_ 2 rfl | exact Rds.at_ 3 rfl | exact Rds.at_ 4 rfl | exact Rds.at_ 5 rfl) rfl
            | exact QRun.add rfl rfl (by unfold I64; omega)
            | exact QRun.sub rfl rfl (by unfold I64; omega)
            | exact QRun.mul rfl rfl (by unfold I64; omega)) ?_
        | with_reducible refine Nx.mix_nil_then ?_
        | with_reducible refine Nx.mix_nil ?_
        | refine Nx.m_quiet_no rfl rfl rfl rfl rfl rfl rfl ?_
        | ((fail_if_success refine Nx.m_quiet_do rfl rfl rfl rfl rfl rfl rfl ?_ ?_); (fail_if_success refine Nx.m_loud_do rfl rfl rfl rfl rfl ?_); first | refine Nx.m_split rfl rfl rfl rfl (fun hc => ?_) (fun hc => ?_) | refine Nx.m_splitb rfl rfl rfl rfl (fun hc => ?_) (fun hc => ?_))
        | (refine Nx.m_loud rfl rfl rfl ?_; first
            | refine Nx.opr rfl rfl ?_
            | refine Nx.callv rfl rfl rfl (by kernel_rfl) rfl (Check_spec _ _ _ _ _) ?_
            | ((with_reducible refine Nx.is_load ?_); first | refine Nx.load rfl rfl rfl (by first | exact Rd.at_ 0 rfl rfl | exact Rd.at_ 1 rfl rfl | exact Rd.at_ 2 rfl rfl | exact Rd.at_ 3 rfl rfl | exact Rd.at_ 4 rfl rfl | exact Rd.at_ 5 rfl rfl) ?_ | refine Nx.loads rfl rfl rfl rfl (by first | exact Rds.at_ 0 rfl | exact Rds.at_ 1 rfl | exact Rds.at_ 2 rfl | exact Rds.at_ 3 rfl | exact Rds.at_ 4 rfl | exact Rds.at_ 5 rfl) rfl ?_)
            | ((with_reducible refine Nx.is_bin ?_); first | refine Nx.add rfl rfl (by unfold I64; omega) rfl ?_ | refine Nx.sub rfl rfl (by unfold I64; omega) rfl ?_ | refine Nx.mul rfl rfl (by unfold I64; omega) rfl ?_ | refine Nx.rem rfl rfl (by omega) (by omega) rfl ?_ | refine Nx.quo rfl rfl (by omega) (by omega) (by unfold I64; omega) rfl ?_)
            | ((with_reducible refine Nx.is_conv ?_); first | refine Nx.conv_i64 rfl rfl rfl (by unfold I64; omega) rfl ?_)
            | ((with_reducible refine Nx.is_un ?_); first | refine Nx.not_dec rfl rfl ?_ | refine Nx.neg rfl (by unfold I64; omega) rfl ?_)
            | ((with_reducible refine Nx.is_build ?_); first | refine Nx.build rfl rfl (by kernel_rfl) rfl ?_)
            | ((with_reducible refine Nx.is_box ?_); first | refine Nx.box_agg rfl rfl (fun bx => ?_) | refine Nx.box1 rfl rfl rfl (fun bx => ?_))
            | ((with_reducible refine Nx.is_alloc ?_); first | refine Nx.alloc rfl rfl (fun bx => ?_))
            | ((with_reducible refine Nx.is_lit ?_); first | refine Nx.buildSlice rfl rfl rfl rfl rfl rfl rfl rfl rfl (fun bx => ?_))
            | ((with_reducible refine Nx.is_store ?_); first | refine Nx.store_blk 0 rfl rfl rfl rfl rfl rfl rfl ?_ | refine Nx.store_blk 1 rfl rfl rfl rfl rfl rfl rfl ?_ | refine Nx.store_blk 2 rfl rfl rfl rfl rfl rfl rfl ?_ | refine Nx.store_blk 3 rfl rfl rfl rfl rfl rfl rfl ?_ | refine Nx.store_blk 4 rfl rfl rfl rfl rfl rfl rfl ?_)
            | ((with_reducible refine Nx.is_append ?_); first | refine Nx.append_lit 0 rfl rfl rfl rfl (by kernel_rfl) rfl rfl rfl rfl (by omega) (fun A2 c2 => ?_) | refine Nx.append_lit 1 rfl rfl rfl rfl (by kernel_rfl) rfl rfl rfl rfl (by omega) (fun A2 c2 => ?_) | refine Nx.append_lit 2 rfl rfl rfl rfl (by kernel_rfl) rfl rfl rfl rfl (by omega) (fun A2 c2 => ?_) | refine Nx.append_lit 3 rfl rfl rfl rfl (by kernel_rfl) rfl rfl rfl rfl (by omega) (fun A2 c2 => ?_) | refine Nx.append_lit 4 rfl rfl rfl rfl (by kernel_rfl) rfl rfl rfl rfl (by omega) (fun A2 c2 => ?_))
            | ((with_reducible refine Nx.is_call ?_); first | refine Nx.min2 rfl rfl rfl ?_ | refine Nx.max2 rfl rfl rfl ?_)
            | refine Nx.makeFunc rfl rfl rfl ?_
            | refine Nx.fieldAddr rfl rfl rfl ?_)
        | (refine Nx.m_loud_do rfl rfl rfl rfl rfl ?_; first
            | refine Nx.opr rfl rfl ?_
            | refine Nx.callv rfl rfl rfl (by kernel_rfl) rfl (Check_spec _ _ _ _ _) ?_
            | ((with_reducible refine Nx.is_load ?_); first | refine Nx.load rfl rfl rfl (by first | exact Rd.at_ 0 rfl rfl | exact Rd.at_ 1 rfl rfl | exact Rd.at_ 2 rfl rfl | exact Rd.at_ 3 rfl rfl | exact Rd.at_ 4 rfl rfl | exact Rd.at_ 5 rfl rfl) ?_ | refine Nx.loads rfl rfl rfl rfl (by first | exact Rds.at_ 0 rfl | exact Rds.at_ 1 rfl | exact Rds.at_ 2 rfl | exact Rds.at_ 3 rfl | exact Rds.at_ 4 rfl | exact Rds.at_ 5 rfl) rfl ?_)
            | ((with_reducible refine Nx.is_bin ?_); first | refine Nx.add rfl rfl (by unfold I64; omega) rfl ?_ | refine Nx.sub rfl rfl (by unfold I64; omega) rfl ?_ | refine Nx.mul rfl rfl (by unfold I64; omega) rfl ?_ | refine Nx.rem rfl rfl (by omega) (by omega) rfl ?_ | refine Nx.quo rfl rfl (by omega) (by omega) (by unfold I64; omega) rfl ?_)
            | ((with_reducible refine Nx.is_conv ?_); first | refine Nx.conv_i64 rfl rfl rfl (by unfold I64; omega) rfl ?_)
            | ((with_reducible refine Nx.is_un ?_); first | refine Nx.not_dec rfl rfl ?_ | refine Nx.neg rfl (by unfold I64; omega) rfl ?_)
            | ((with_reducible refine Nx.is_build ?_); first | refine Nx.build rfl rfl (by kernel_rfl) rfl ?_)
            | ((with_reducible refine Nx.is_box ?_); first | refine Nx.box_agg rfl rfl (fun bx => ?_) | refine Nx.box1 rfl rfl rfl (fun bx => ?_))
            | ((with_reducible refine Nx.is_alloc ?_); first | refine Nx.alloc rfl rfl (fun bx => ?_))
            | ((with_reducible refine Nx.is_lit ?_); first | refine Nx.buildSlice rfl rfl rfl rfl rfl rfl rfl rfl rfl (fun bx => ?_))
            | ((with_reducible refine Nx.is_store ?_); first | refine Nx.store_blk 0 rfl rfl rfl rfl rfl rfl rfl ?_ | refine Nx.store_blk 1 rfl rfl rfl rfl rfl rfl rfl ?_ | refine Nx.store_blk 2 rfl rfl rfl rfl rfl rfl rfl ?_ | refine Nx.store_blk 3 rfl rfl rfl rfl rfl rfl rfl ?_ | refine Nx.store_blk 4 rfl rfl rfl rfl rfl rfl rfl ?_)
            | ((with_reducible refine Nx.is_append ?_); first | refine Nx.append_lit 0 rfl rfl rfl rfl (by kernel_rfl) rfl rfl rfl rfl (by omega) (fun A2 c2 => ?_) | refine Nx.append_lit 1 rfl rfl rfl rfl (by kernel_rfl) rfl rfl rfl rfl (by omega) (fun A2 c2 => ?_) | refine Nx.append_lit 2 rfl rfl rfl rfl (by kernel_rfl) rfl rfl rfl rfl (by omega) (fun A2 c2 => ?_) | refine Nx.append_lit 3 rfl rfl rfl rfl (by kernel_rfl) rfl rfl rfl rfl (by omega) (fun A2 c2 => ?_) | refine Nx.append_lit 4 rfl rfl rfl rfl (by kernel_rfl) rfl rfl rfl rfl (by omega) (fun A2 c2 => ?_))
            | ((with_reducible refine Nx.is_call ?_); first | refine Nx.min2 rfl rfl rfl ?_ | refine Nx.max2 rfl rfl rfl ?_)
            | refine Nx.makeFunc rfl rfl rfl ?_
            | refine Nx.fieldAddr rfl rfl rfl ?_)
        | refine Nx.m_loud_no rfl rfl rfl rfl rfl rfl rfl ?_)
    | ((with_reducible refine Nx.is_mixS ?_); refine Nx.mix_S (by first | exact Ent.refl _ | exact Ent.drop (Ent.refl _) | exact Ent.drop (Ent.drop (Ent.refl _)) | exact Ent.drop (Ent.drop (Ent.drop (Ent.refl _)))) ?_)
  exact Nx.ret_fn rfl [] ⟨by rw [decide_eq_true (Int.le_refl b)], rfl⟩ (by (first | done | (repeat first | exact Ent.refl _ | exact Ent.nil _ | refine Ent.pick 0 rfl ?_ | refine Ent.pick 1 rfl ?_ | refine Ent.pick 2 rfl ?_ | refine Ent.pick 3 rfl ?_ | refine Ent.pick 4 rfl ?_ | refine Ent.pick 5 rfl ?_ | refine Ent.pick 6 rfl ?_)))
end Go.Proofs.Ytcnkjmkcoahdmaa
