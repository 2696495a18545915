import Derived.Test.YtcnkjmkcoahdmaaR10
namespace Go.Proofs.Ytcnkjmkcoahdmaa
open Go.Eng
attribute [local irreducible] opK wpList Code.wp Exit.then Exit.inBlock fnPost bodyPost Nx Calls Oper.wp Rd Rds Wr Ent Stars Blk Again Vec FnSpec wpMix QRun Stop Upto wpAt
def cnt (l : List Int) : List Int := l.map (· % 30)
theorem cnt_len (l : List Int) : (cnt l).length = l.length := by simp [cnt]
theorem cnt_succ (l : List Int) (k : Nat) (hk : k < l.length) : (cnt l).take (k + 1) = (cnt l).take k ++ [(l.getD k default) % 30] := by
  rw [List.take_succ_eq_append_getElem (by rw [cnt_len]; exact hk)]
  simp [cnt, List.getD_eq_getElem?_getD, List.getElem?_eq_getElem hk]
theorem RulesProtect_spec (A : Option Addr) (cp : Nat) (l : List Int) (q r : Int) (I : PH) (hl : SliceOf (fun x : Int => Value.int .u8 x) I A cp l) (hx : ∀ x ∈ l, 0 ≤ x ∧ x < 256) (hq : 0 ≤ q ∧ q < 256) (hr : 0 ≤ r ∧ r < 256) :
    FnSpec Try.prog 4 [.slice A l.length cp, .int .u8 q, .int .u8 r] I [] (fun v R' => v = .bool true ∧ R' = []) := by
  have hlen := hl.len
  obtain ⟨a, ha⟩ : ∃ a, a = 1 + q % 20 := ⟨_, rfl⟩
  have ha1 : 1 ≤ a ∧ a ≤ 20 := by omega
  have hchk : checkE a 90 0 0 = 0 := by unfold checkE; rw [if_neg (by omega)]
  have hchk2 : checkE (a + r % 20) 90 0 0 = 0 := by unfold checkE; rw [if_neg (by omega)]
  refine FnSpec.enterP Try.func4 rfl Try.ntmps4 rfl fun w F => ?_
  repeat' first
    | ((with_reducible refine Nx.is_at ?_); first
        | (refine Nx.at_op rfl rfl ?_; first
            | refine Nx.opr rfl rfl ?_
            | refine Nx.callv rfl rfl rfl (by kernel_rfl) rfl (awake_spec _) ?_
            | ((with_reducible refine Nx.is_load ?_); first | refine Nx.load rfl rfl rfl (by first | exact Rd.at_ 0 rfl rfl | exact Rd.at_ 1 rfl rfl | exact Rd.at_ 2 rfl rfl | exact Rd.at_ 3 rfl rfl | exact Rd.at_ 4 rfl rfl | exact Rd.at_ 5 rfl rfl) ?_ | refine Nx.loads rfl rfl rfl rfl (by first | exact Rds.at_ 0 rfl | exact Rds.at_ 1 rfl | exact Rds.at_ 2 rfl | exact Rds.at_ 3 rfl | exact Rds.at_ 4 rfl | exact Rds.at_ 5 rfl) rfl ?_)
            | ((with_reducible refine Nx.is_bin ?_); first | refine Nx.add rfl rfl (by unfold I64; omega) rfl ?_ | refine Nx.sub rfl rfl (by unfold I64; omega) rfl ?_ | refine Nx.mul rfl rfl (by unfold I64; omega) rfl ?_ | refine Nx.rem rfl rfl (by omega) (by omega) rfl ?_ | refine Nx.quo rfl rfl (by omega) (by omega) (by unfold I64; omega) rfl ?_)
            | ((with_reducible refine Nx.is_conv ?_); first | refine Nx.conv_i64 rfl rfl rfl (by unfold I64; omega) rfl ?_)
            | ((with_reducible refine Nx.is_un ?_); first | refine Nx.not_dec rfl rfl ?_ | refine Nx.neg rfl (by unfold I64; omega) rfl ?_)
            | ((with_reducible refine Nx.is_build ?_); first | refine Nx.build rfl rfl (by kernel_rfl) rfl ?_)
            | ((with_reducible refine Nx.is_box ?_); first | refine Nx.box_agg rfl rfl (fun bx => ?_) | refine Nx.box1 rfl rfl rfl (fun bx => ?_))
            | ((with_reducible refine Nx.is_alloc ?_); first | refine Nx.alloc rfl rfl (fun bx => ?_))
            | ((with_reducible refine Nx.is_lit ?_); first | refine Nx.buildSlice rfl rfl rfl rfl rfl rfl rfl rfl rfl (fun bx => ?_))
            | ((with_reducible refine Nx.is_store ?_); first | refine Nx.store_blk 0 rfl rfl rfl rfl rfl rfl rfl ?_ | refine Nx.store_blk 1 rfl rfl rfl rfl rfl rfl rfl ?_ | refine Nx.store_blk 2 rfl rfl rfl rfl rfl rfl rfl ?_ | refine Nx.store_blk 3 rfl rfl rfl rfl rfl rfl rfl ?_ | refine Nx.store_blk 4 rfl rfl rfl rfl rfl rfl rfl ?_)
            | ((with_reducible refine Nx.is_append ?_); first | refine Nx.append_lit 0 rfl rfl rfl rfl (by kernel_rfl) rfl rfl rfl rfl (by omega) (fun A2 c2 => ?_) | refine Nx.append_lit 1 rfl rfl rfl rfl (by kernel_rfl) rfl rfl rfl rfl (by omega) (fun A2 c2 => ?_) | refine Nx.append_lit 2 rfl rfl rfl rfl (by kernel_rfl) rfl rfl rfl rfl (by omega) (fun A2 c2 => ?_) | refine Nx.append_lit 3 rfl rfl rfl rfl (by kernel_rfl) rfl rfl rfl rfl (by omega) (fun A2 c2 => ?_) | refine Nx.append_lit 4 rfl rfl rfl rfl (by kernel_rfl) rfl rfl rfl rfl (by omega) (fun A2 c2 => ?_))
            | ((with_reducible refine Nx.is_call ?_); first | refine Nx.min2 rfl rfl rfl ?_ | refine Nx.max2 rfl rfl rfl ?_)
            | refine Nx.makeFunc rfl rfl rfl ?_
            | refine Nx.fieldAddr rfl rfl rfl ?_)
        | refine Nx.at_no rfl rfl rfl rfl rfl rfl ?_
        | (refine Nx.at_do rfl rfl rfl rfl ?_; first
            | refine Nx.opr rfl rfl ?_
            | refine Nx.callv rfl rfl rfl (by kernel_rfl) rfl (awake_spec _) ?_
            | ((with_reducible refine Nx.is_load ?_); first | refine Nx.load rfl rfl rfl (by first | exact Rd.at_ 0 rfl rfl | exact Rd.at_ 1 rfl rfl | exact Rd.at_ 2 rfl rfl | exact Rd.at_ 3 rfl rfl | exact Rd.at_ 4 rfl rfl | exact Rd.at_ 5 rfl rfl) ?_ | refine Nx.loads rfl rfl rfl rfl (by first | exact Rds.at_ 0 rfl | exact Rds.at_ 1 rfl | exact Rds.at_ 2 rfl | exact Rds.at_ 3 rfl | exact Rds.at_ 4 rfl | exact Rds.at_ 5 rfl) rfl ?_)
            | ((with_reducible refine Nx.is_bin ?_); first | refine Nx.add rfl rfl (by unfold I64; omega) rfl ?_ | refine Nx.sub rfl rfl (by unfold I64; omega) rfl ?_ | refine Nx.mul rfl rfl (by unfold I64; omega) rfl ?_ | refine Nx.rem rfl rfl (by omega) (by omega) rfl ?_ | refine Nx.quo rfl rfl (by omega) (by omega) (by unfold I64; omega) rfl ?_)
            | ((with_reducible refine Nx.is_conv ?_); first | refine Nx.conv_i64 rfl rfl rfl (by unfold I64; omega) rfl ?_)
            | ((with_reducible refine Nx.is_un ?_); first | refine Nx.not_dec rfl rfl ?_ | refine Nx.neg rfl (by unfold I64; omega) rfl ?_)
            | ((with_reducible refine Nx.is_build ?_); first | refine Nx.build rfl rfl (by kernel_rfl) rfl ?_)
            | ((with_reducible refine Nx.is_box ?_); first | refine Nx.box_agg rfl rfl (fun bx => ?_) | refine Nx.box1 rfl rfl rfl (fun bx => ?_))
            | ((with_reducible refine Nx.is_alloc ?_); first | refine Nx.alloc rfl rfl (fun bx => ?_))
            | ((with_reducible refine Nx.is_lit ?_); first | refine Nx.buildSlice rfl rfl rfl rfl rfl rfl rfl rfl rfl (fun bx => ?_))
            | ((with_reducible refine Nx.is_store ?_); first | refine Nx.store_blk 0 rfl rfl rfl rfl rfl rfl rfl ?_ | refine Nx.store_blk 1 rfl rfl rfl rfl rfl rfl rfl ?_ | refine Nx.store_blk 2 rfl rfl rfl rfl rfl rfl rfl ?_ | refine Nx.store_blk 3 rfl rfl rfl rfl rfl rfl rfl ?_ | refine Nx.store_blk 4 rfl rfl rfl rfl rfl rfl rfl ?_)
            | ((with_reducible refine Nx.is_append ?_); first | refine Nx.append_lit 0 rfl rfl rfl rfl (by kernel_rfl) rfl rfl rfl rfl (by omega) (fun A2 c2 => ?_) | refine Nx.append_lit 1 rfl rfl rfl rfl (by kernel_rfl) rfl rfl rfl rfl (by omega) (fun A2 c2 => ?_) | refine Nx.append_lit 2 rfl rfl rfl rfl (by kernel_rfl) rfl rfl rfl rfl (by omega) (fun A2 c2 => ?_) | refine Nx.append_lit 3 rfl rfl rfl rfl (by kernel_rfl) rfl rfl rfl rfl (by omega) (fun A2 c2 => ?_) | refine Nx.append_lit 4 rfl rfl rfl rfl (by kernel_rfl) rfl rfl rfl rfl (by omega) (fun A2 c2 => ?_))
            | ((with_reducible refine Nx.is_call ?_); first | refine Nx.min2 rfl rfl rfl ?_ | refine Nx.max2 rfl rfl rfl ?_)
            | refine Nx.makeFunc rfl rfl rfl ?_
            | refine Nx.fieldAddr rfl rfl rfl ?_)
        | refine Nx.at_endt rfl ?_
        | ((fail_if_success refine Nx.at_do rfl rfl rfl rfl ?_); first | refine Nx.at_dec_t rfl rfl rfl rfl (by first | assumption | omega) ?_ | refine Nx.at_dec_f rfl rfl rfl rfl (by first | assumption | omega) ?_ | refine Nx.at_split rfl rfl rfl rfl (fun hc => ?_) (fun hc => ?_) | refine Nx.at_splitb rfl rfl rfl rfl (fun hc => ?_) (fun hc => ?_))
        | refine Nx.at_no0 rfl rfl rfl rfl rfl ?_
        | refine Nx.at_end rfl ?_)
    | ((with_reducible refine Nx.is_wp ?_); first
        | refine Nx.p_seq rfl ?_
        | refine Nx.p_region rfl ?_
        | refine Nx.p_ret rfl ?_
        | refine Nx.p_skip rfl ?_
        | refine Nx.p_exit rfl rfl ?_
        | refine Nx.p_block rfl rfl ?_
        | refine Nx.p_t rfl rfl ?_
        | refine Nx.p_f rfl rfl ?_
        | refine Nx.p_dec_t rfl rfl (by omega) ?_
        | refine Nx.p_dec_f rfl rfl (by omega) ?_
        | refine Nx.p_dec rfl rfl (fun hc => ?_) (fun hc => ?_)
        | refine Nx.p_bool rfl rfl (fun hc => ?_) (fun hc => ?_)
        | refine Nx.p_label rfl ?_)
    | with_reducible refine Nx.then_ret ?_
    | with_reducible refine Nx.in_ret ?_
    | with_reducible refine Nx.then_normal ?_
    | with_reducible refine Nx.in_normal ?_
    | with_reducible refine Nx.then_exit ?_
    | with_reducible refine Nx.in_exit ?_
    | refine Nx.in_other rfl ?_
    | ((with_reducible refine Nx.is_mix ?_); first
        | refine Nx.m_quiet rfl rfl rfl rfl rfl (by first
            | exact QRun.opr rfl
            | exact QRun.load rfl rfl (by first | exact Rd.at_ 0 rfl rfl | exact Rd.at_ 1 rfl rfl | exact Rd.at_ 2 rfl rfl | exact Rd.at_ 3 rfl rfl | exact Rd.at_ 4 rfl rfl | exact Rd.at_ 5 rfl rfl)
            | exact QRun.loads rfl rfl rfl (by first | exact Rds.at_ 0 rfl | exact Rds.at_ 1 rfl | exact Rds.at_ 2 rfl | exact Rds.at_ 3 rfl | exact Rds.at_ 4 rfl | exact Rds.at_ 5 rfl) rfl
            | exact QRun.add rfl rfl (by unfold I64; omega)
            | exact QRun.sub rfl rfl (by unfold I64; omega)
            | exact QRun.mul rfl rfl (by unfold I64; omega)) ?_
        | refine Nx.m_quiet_do rfl rfl rfl rfl rfl rfl rfl (by first
            | exact QRun.opr rfl
            | exact QRun.load rfl rfl (by first | exact Rd.at_ 0 rfl rfl | exact Rd.at_ 1 rfl rfl | exact Rd.at_ 2 rfl rfl | exact Rd.at_ 3 rfl rfl | exact Rd.at_ 4 rfl rfl | exact Rd.at_ 5 rfl rfl)
            | exact QRun.loads rfl rfl rfl (by first | exact Rds.at_ 0 rfl | exact Rds.at_ 1 rfl | exact Rds.at_ 2 rfl | exact Rds.at_ 3 rfl | exact Rds.at_ 4 rfl | exact Rds.at_ 5 rfl) rfl
            | exact QRun.add rfl rfl (by unfold I64; omega)
            | exact QRun.sub rfl rfl (by unfold I64; omega)
            | exact QRun.mul rfl rfl (by unfold I64; omega)) ?_
        | with_reducible refine Nx.mix_nil_then ?_
        | with_reducible refine Nx.mix_nil ?_
        | refine Nx.m_quiet_no rfl rfl rfl rfl rfl rfl rfl ?_
        | ((fail_if_success refine Nx.m_quiet_do rfl rfl rfl rfl rfl rfl rfl ?_ ?_); (fail_if_success refine Nx.m_loud_do rfl rfl rfl rfl rfl ?_); first | refine Nx.m_split rfl rfl rfl rfl (fun hc => ?_) (fun hc => ?_) | refine Nx.m_splitb rfl rfl rfl rfl (fun hc => ?_) (fun hc => ?_))
        | (refine Nx.m_loud rfl rfl rfl ?_; first
            | refine Nx.opr rfl rfl ?_
            | refine Nx.callv rfl rfl rfl (by kernel_rfl) rfl (awake_spec _) ?_
            | ((with_reducible refine Nx.is_load ?_); first | refine Nx.load rfl rfl rfl (by first | exact Rd.at_ 0 rfl rfl | exact Rd.at_ 1 rfl rfl | exact Rd.at_ 2 rfl rfl | exact Rd.at_ 3 rfl rfl | exact Rd.at_ 4 rfl rfl | exact Rd.at_ 5 rfl rfl) ?_ | refine Nx.loads rfl rfl rfl rfl (by first | exact Rds.at_ 0 rfl | exact Rds.at_ 1 rfl | exact Rds.at_ 2 rfl | exact Rds.at_ 3 rfl | exact Rds.at_ 4 rfl | exact Rds.at_ 5 rfl) rfl ?_)
            | ((with_reducible refine Nx.is_bin ?_); first | refine Nx.add rfl rfl (by unfold I64; omega) rfl ?_ | refine Nx.sub rfl rfl (by unfold I64; omega) rfl ?_ | refine Nx.mul rfl rfl (by unfold I64; omega) rfl ?_ | refine Nx.rem rfl rfl (by omega) (by omega) rfl ?_ | refine Nx.quo rfl rfl (by omega) (by omega) (by unfold I64; omega) rfl ?_)
            | ((with_reducible refine Nx.is_conv ?_); first | refine Nx.conv_i64 rfl rfl rfl (by unfold I64; omega) rfl ?_)
            | ((with_reducible refine Nx.is_un ?_); first | refine Nx.not_dec rfl rfl ?_ | refine Nx.neg rfl (by unfold I64; omega) rfl ?_)
            | ((with_reducible refine Nx.is_build ?_); first | refine Nx.build rfl rfl (by kernel_rfl) rfl ?_)
            | ((with_reducible refine Nx.is_box ?_); first | refine Nx.box_agg rfl rfl (fun bx => ?_) | refine Nx.box1 rfl rfl rfl (fun bx => ?_))
            | ((with_reducible refine Nx.is_alloc ?_); first | refine Nx.alloc rfl rfl (fun bx => ?_))
            | ((with_reducible refine Nx.is_lit ?_); first | refine Nx.buildSlice rfl rfl rfl rfl rfl rfl rfl rfl rfl (fun bx => ?_))
            | ((with_reducible refine Nx.is_store ?_); first | refine Nx.store_blk 0 rfl rfl rfl rfl rfl rfl rfl ?_ | refine Nx.store_blk 1 rfl rfl rfl rfl rfl rfl rfl ?_ | refine Nx.store_blk 2 rfl rfl rfl rfl rfl rfl rfl ?_ | refine Nx.store_blk 3 rfl rfl rfl rfl rfl rfl rfl ?_ | refine Nx.store_blk 4 rfl rfl rfl rfl rfl rfl rfl ?_)
            | ((with_reducible refine Nx.is_append ?_); first | refine Nx.append_lit 0 rfl rfl rfl rfl (by kernel_rfl) rfl rfl rfl rfl (by omega) (fun A2 c2 => ?_) | refine Nx.append_lit 1 rfl rfl rfl rfl (by kernel_rfl) rfl rfl rfl rfl (by omega) (fun A2 c2 => ?_) | refine Nx.append_lit 2 rfl rfl rfl rfl (by kernel_rfl) rfl rfl rfl rfl (by omega) (fun A2 c2 => ?_) | refine Nx.append_lit 3 rfl rfl rfl rfl (by kernel_rfl) rfl rfl rfl rfl (by omega) (fun A2 c2 => ?_) | refine Nx.append_lit 4 rfl rfl rfl rfl (by kernel_rfl) rfl rfl rfl rfl (by omega) (fun A2 c2 => ?_))
            | ((with_reducible refine Nx.is_call ?_); first | refine Nx.min2 rfl rfl rfl ?_ | refine Nx.max2 rfl rfl rfl ?_)
            | refine Nx.makeFunc rfl rfl rfl ?_
            | refine Nx.fieldAddr rfl rfl rfl ?_)
        | (refine Nx.m_loud_do rfl rfl rfl rfl rfl ?_; first
            | refine Nx.opr rfl rfl ?_
            | refine Nx.callv rfl rfl rfl (by kernel_rfl) rfl (awake_spec _) ?_
            | ((with_reducible refine Nx.is_load ?_); first | refine Nx.load rfl rfl rfl (by first | exact Rd.at_ 0 rfl rfl | exact Rd.at_ 1 rfl rfl | exact Rd.at_ 2 rfl rfl | exact Rd.at_ 3 rfl rfl | exact Rd.at_ 4 rfl rfl | exact Rd.at_ 5 rfl rfl) ?_ | refine Nx.loads rfl rfl rfl rfl (by first | exact Rds.at_ 0 rfl | exact Rds.at_ 1 rfl | exact Rds.at_ 2 rfl | exact Rds.at_ 3 rfl | exact Rds.at_ 4 rfl | exact Rds.at_ 5 rfl) rfl ?_)
            | ((with_reducible refine Nx.is_bin ?_); first | refine Nx.add rfl rfl (by unfold I64; omega) rfl ?_ | refine Nx.sub rfl rfl (by unfold I64; omega) rfl ?_ | refine Nx.mul rfl rfl (by unfold I64; omega) rfl ?_ | refine Nx.rem rfl rfl (by omega) (by omega) rfl ?_ | refine Nx.quo rfl rfl (by omega) (by omega) (by unfold I64; omega) rfl ?_)
            | ((with_reducible refine Nx.is_conv ?_); first | refine Nx.conv_i64 rfl rfl rfl (by unfold I64; omega) rfl ?_)
            | ((with_reducible refine Nx.is_un ?_); first | refine Nx.not_dec rfl rfl ?_ | refine Nx.neg rfl (by unfold I64; omega) rfl ?_)
            | ((with_reducible refine Nx.is_build ?_); first | refine Nx.build rfl rfl (by kernel_rfl) rfl ?_)
            | ((with_reducible refine Nx.is_box ?_); first | refine Nx.box_agg rfl rfl (fun bx => ?_) | refine Nx.box1 rfl rfl rfl (fun bx => ?_))
            | ((with_reducible refine Nx.is_alloc ?_); first | refine Nx.alloc rfl rfl (fun bx => ?_))
            | ((with_reducible refine Nx.is_lit ?_); first | refine Nx.buildSlice rfl rfl rfl rfl rfl rfl rfl rfl rfl (fun bx => ?_))
            | ((with_reducible refine Nx.is_store ?_); first | refine Nx.store_blk 0 rfl rfl rfl rfl rfl rfl rfl ?_ | refine Nx.store_blk 1 rfl rfl rfl rfl rfl rfl rfl ?_ | refine Nx.store_blk 2 rfl rfl rfl rfl rfl rfl rfl ?_ | refine Nx.store_blk 3 rfl rfl rfl rfl rfl rfl rfl ?_ | refine Nx.store_blk 4 rfl rfl rfl rfl rfl rfl rfl ?_)
            | ((with_reducible refine Nx.is_append ?_); first | refine Nx.append_lit 0 rfl rfl rfl rfl (by kernel_rfl) rfl rfl rfl rfl (by omega) (fun A2 c2 => ?_) | refine Nx.append_lit 1 rfl rfl rfl rfl (by kernel_rfl) rfl rfl rfl rfl (by omega) (fun A2 c2 => ?_) | refine Nx.append_lit 2 rfl rfl rfl rfl (by kernel_rfl) rfl rfl rfl rfl (by omega) (fun A2 c2 => ?_) | refine Nx.append_lit 3 rfl rfl rfl rfl (by kernel_rfl) rfl rfl rfl rfl (by omega) (fun A2 c2 => ?_) | refine Nx.append_lit 4 rfl rfl rfl rfl (by kernel_rfl) rfl rfl rfl rfl (by omega) (fun A2 c2 => ?_))
            | ((with_reducible refine Nx.is_call ?_); first | refine Nx.min2 rfl rfl rfl ?_ | refine Nx.max2 rfl rfl rfl ?_)
            | refine Nx.makeFunc rfl rfl rfl ?_
            | refine Nx.fieldAddr rfl rfl rfl ?_)
        | refine Nx.m_loud_no rfl rfl rfl rfl rfl rfl rfl ?_)
    | ((with_reducible refine Nx.is_mixS ?_); refine Nx.mix_S (by first | exact Ent.refl _ | exact Ent.drop (Ent.refl _) | exact Ent.drop (Ent.drop (Ent.refl _)) | exact Ent.drop (Ent.drop (Ent.drop (Ent.refl _)))) ?_)
  · exact Nx.ret_fn rfl [] ⟨rfl, rfl⟩ (by (first | done | (repeat first | exact Ent.refl _ | exact Ent.nil _ | refine Ent.pick 0 rfl ?_ | refine Ent.pick 1 rfl ?_ | refine Ent.pick 2 rfl ?_ | refine Ent.pick 3 rfl ?_ | refine Ent.pick 4 rfl ?_ | refine Ent.pick 5 rfl ?_ | refine Ent.pick 6 rfl ?_)))
  rename_i b7
  refine Nx.p_loop (σ := Nat × Option Addr × Nat) (fun s => [(7, .pointer (some ⟨b7, 0, none⟩)), (8, .pointer (some ⟨bx, 0, none⟩)), (35, .slice A l.length cp), (36, .int .i64 l.length), (37, .int .i64 (s.1 : Int)), (9, .slice s.2.1 ((cnt l).take s.1).length s.2.2)])
    (fun s => [Vec 3 1 s.2.1 ((cnt l).take s.1).length s.2.2 (((cnt l).take s.1).map (.int .i64)), Blk bx 24 [.int .i64 (1 + q % 20 + r % 20), .int .i64 90, .int .i64 0, .int .i64 0], Blk b7 24 [.int .i64 (1 + q % 20), .int .i64 90, .int .i64 0, .int .i64 0], F]) (fun s => s.1 ≤ l.length) (fun s => l.length - s.1) (0, none, 0) rfl (Nat.zero_le _) ⟨rfl, rfl, rfl, rfl, rfl, rfl, trivial⟩ ?_ ?_
  · exact (Ent.vec_nil _ _ _).trans (by (first | done | (repeat first | exact Ent.refl _ | exact Ent.nil _ | refine Ent.pick 0 rfl ?_ | refine Ent.pick 1 rfl ?_ | refine Ent.pick 2 rfl ?_ | refine Ent.pick 3 rfl ?_ | refine Ent.pick 4 rfl ?_ | refine Ent.pick 5 rfl ?_ | refine Ent.pick 6 rfl ?_)))
  rintro ⟨k, A', c'⟩ hk
  dsimp only at hk ⊢
  have hpt : ((cnt l).take k).length ≤ k := List.length_take_le _ _
  have hxk : k < l.length → 0 ≤ l.getD k default ∧ l.getD k default < 256 := fun h => hx _ (by rw [List.getD_eq_getElem?_getD, List.getElem?_eq_getElem h]; exact List.getElem_mem _)
  repeat' first
    | ((with_reducible refine Nx.is_at ?_); first
        | (refine Nx.at_op rfl rfl ?_; first
            | refine Nx.opr rfl rfl ?_
            | refine Nx.indexAddr_nat rfl rfl rfl rfl rfl (by omega) (hl.isSome (by omega)) ?_
            | refine Nx.load rfl rfl rfl (hl.rd (by omega)) ?_
            | ((with_reducible refine Nx.is_load ?_); first | refine Nx.load rfl rfl rfl (by first | exact Rd.at_ 0 rfl rfl | exact Rd.at_ 1 rfl rfl | exact Rd.at_ 2 rfl rfl | exact Rd.at_ 3 rfl rfl | exact Rd.at_ 4 rfl rfl | exact Rd.at_ 5 rfl rfl) ?_ | refine Nx.loads rfl rfl rfl rfl (by first | exact Rds.at_ 0 rfl | exact Rds.at_ 1 rfl | exact Rds.at_ 2 rfl | exact Rds.at_ 3 rfl | exact Rds.at_ 4 rfl | exact Rds.at_ 5 rfl) rfl ?_)
            | ((with_reducible refine Nx.is_bin ?_); first | refine Nx.add rfl rfl (by unfold I64; omega) rfl ?_ | refine Nx.sub rfl rfl (by unfold I64; omega) rfl ?_ | refine Nx.mul rfl rfl (by unfold I64; omega) rfl ?_ | refine Nx.rem rfl rfl (by omega) (by omega) rfl ?_ | refine Nx.quo rfl rfl (by omega) (by omega) (by unfold I64; omega) rfl ?_)
            | ((with_reducible refine Nx.is_conv ?_); first | refine Nx.conv_i64 rfl rfl rfl (by unfold I64; omega) rfl ?_)
            | ((with_reducible refine Nx.is_un ?_); first | refine Nx.not_dec rfl rfl ?_ | refine Nx.neg rfl (by unfold I64; omega) rfl ?_)
            | ((with_reducible refine Nx.is_build ?_); first | refine Nx.build rfl rfl (by kernel_rfl) rfl ?_)
            | ((with_reducible refine Nx.is_box ?_); first | refine Nx.box_agg rfl rfl (fun bx => ?_) | refine Nx.box1 rfl rfl rfl (fun bx => ?_))
            | ((with_reducible refine Nx.is_alloc ?_); first | refine Nx.alloc rfl rfl (fun bx => ?_))
            | ((with_reducible refine Nx.is_lit ?_); first | refine Nx.buildSlice rfl rfl rfl rfl rfl rfl rfl rfl rfl (fun bx => ?_))
            | ((with_reducible refine Nx.is_store ?_); first | refine Nx.store_blk 0 rfl rfl rfl rfl rfl rfl rfl ?_ | refine Nx.store_blk 1 rfl rfl rfl rfl rfl rfl rfl ?_ | refine Nx.store_blk 2 rfl rfl rfl rfl rfl rfl rfl ?_ | refine Nx.store_blk 3 rfl rfl rfl rfl rfl rfl rfl ?_ | refine Nx.store_blk 4 rfl rfl rfl rfl rfl rfl rfl ?_)
            | ((with_reducible refine Nx.is_append ?_); first | refine Nx.append_lit 0 rfl rfl rfl rfl (by kernel_rfl) rfl rfl rfl rfl (by omega) (fun A2 c2 => ?_) | refine Nx.append_lit 1 rfl rfl rfl rfl (by kernel_rfl) rfl rfl rfl rfl (by omega) (fun A2 c2 => ?_) | refine Nx.append_lit 2 rfl rfl rfl rfl (by kernel_rfl) rfl rfl rfl rfl (by omega) (fun A2 c2 => ?_) | refine Nx.append_lit 3 rfl rfl rfl rfl (by kernel_rfl) rfl rfl rfl rfl (by omega) (fun A2 c2 => ?_) | refine Nx.append_lit 4 rfl rfl rfl rfl (by kernel_rfl) rfl rfl rfl rfl (by omega) (fun A2 c2 => ?_))
            | ((with_reducible refine Nx.is_call ?_); first | refine Nx.min2 rfl rfl rfl ?_ | refine Nx.max2 rfl rfl rfl ?_)
            | refine Nx.makeFunc rfl rfl rfl ?_
            | refine Nx.fieldAddr rfl rfl rfl ?_)
        | refine Nx.at_no rfl rfl rfl rfl rfl rfl ?_
        | (refine Nx.at_do rfl rfl rfl rfl ?_; first
            | refine Nx.opr rfl rfl ?_
            | refine Nx.indexAddr_nat rfl rfl rfl rfl rfl (by omega) (hl.isSome (by omega)) ?_
            | refine Nx.load rfl rfl rfl (hl.rd (by omega)) ?_
            | ((with_reducible refine Nx.is_load ?_); first | refine Nx.load rfl rfl rfl (by first | exact Rd.at_ 0 rfl rfl | exact Rd.at_ 1 rfl rfl | exact Rd.at_ 2 rfl rfl | exact Rd.at_ 3 rfl rfl | exact Rd.at_ 4 rfl rfl | exact Rd.at_ 5 rfl rfl) ?_ | refine Nx.loads rfl rfl rfl rfl (by first | exact Rds.at_ 0 rfl | exact Rds.at_ 1 rfl | exact Rds.at_ 2 rfl | exact Rds.at_ 3 rfl | exact Rds.at_ 4 rfl | exact Rds.at_ 5 rfl) rfl ?_)
            | ((with_reducible refine Nx.is_bin ?_); first | refine Nx.add rfl rfl (by unfold I64; omega) rfl ?_ | refine Nx.sub rfl rfl (by unfold I64; omega) rfl ?_ | refine Nx.mul rfl rfl (by unfold I64; omega) rfl ?_ | refine Nx.rem rfl rfl (by omega) (by omega) rfl ?_ | refine Nx.quo rfl rfl (by omega) (by omega) (by unfold I64; omega) rfl ?_)
            | ((with_reducible refine Nx.is_conv ?_); first | refine Nx.conv_i64 rfl rfl rfl (by unfold I64; omega) rfl ?_)
            | ((with_reducible refine Nx.is_un ?_); first | refine Nx.not_dec rfl rfl ?_ | refine Nx.neg rfl (by unfold I64; omega) rfl ?_)
            | ((with_reducible refine Nx.is_build ?_); first | refine Nx.build rfl rfl (by kernel_rfl) rfl ?_)
            | ((with_reducible refine Nx.is_box ?_); first | refine Nx.box_agg rfl rfl (fun bx => ?_) | refine Nx.box1 rfl rfl rfl (fun bx => ?_))
            | ((with_reducible refine Nx.is_alloc ?_); first | refine Nx.alloc rfl rfl (fun bx => ?_))
            | ((with_reducible refine Nx.is_lit ?_); first | refine Nx.buildSlice rfl rfl rfl rfl rfl rfl rfl rfl rfl (fun bx => ?_))
            | ((with_reducible refine Nx.is_store ?_); first | refine Nx.store_blk 0 rfl rfl rfl rfl rfl rfl rfl ?_ | refine Nx.store_blk 1 rfl rfl rfl rfl rfl rfl rfl ?_ | refine Nx.store_blk 2 rfl rfl rfl rfl rfl rfl rfl ?_ | refine Nx.store_blk 3 rfl rfl rfl rfl rfl rfl rfl ?_ | refine Nx.store_blk 4 rfl rfl rfl rfl rfl rfl rfl ?_)
            | ((with_reducible refine Nx.is_append ?_); first | refine Nx.append_lit 0 rfl rfl rfl rfl (by kernel_rfl) rfl rfl rfl rfl (by omega) (fun A2 c2 => ?_) | refine Nx.append_lit 1 rfl rfl rfl rfl (by kernel_rfl) rfl rfl rfl rfl (by omega) (fun A2 c2 => ?_) | refine Nx.append_lit 2 rfl rfl rfl rfl (by kernel_rfl) rfl rfl rfl rfl (by omega) (fun A2 c2 => ?_) | refine Nx.append_lit 3 rfl rfl rfl rfl (by kernel_rfl) rfl rfl rfl rfl (by omega) (fun A2 c2 => ?_) | refine Nx.append_lit 4 rfl rfl rfl rfl (by kernel_rfl) rfl rfl rfl rfl (by omega) (fun A2 c2 => ?_))
            | ((with_reducible refine Nx.is_call ?_); first | refine Nx.min2 rfl rfl rfl ?_ | refine Nx.max2 rfl rfl rfl ?_)
            | refine Nx.makeFunc rfl rfl rfl ?_
            | refine Nx.fieldAddr rfl rfl rfl ?_)
        | refine Nx.at_endt rfl ?_
        | ((fail_if_success refine Nx.at_do rfl rfl rfl rfl ?_); first | refine Nx.at_dec_t rfl rfl rfl rfl (by first | assumption | omega) ?_ | refine Nx.at_dec_f rfl rfl rfl rfl (by first | assumption | omega) ?_ | refine Nx.at_split rfl rfl rfl rfl (fun hc => ?_) (fun hc => ?_) | refine Nx.at_splitb rfl rfl rfl rfl (fun hc => ?_) (fun hc => ?_))
        | refine Nx.at_no0 rfl rfl rfl rfl rfl ?_
        | refine Nx.at_end rfl ?_)
    | ((with_reducible refine Nx.is_wp ?_); first
        | refine Nx.p_seq rfl ?_
        | refine Nx.p_region rfl ?_
        | refine Nx.p_ret rfl ?_
        | refine Nx.p_skip rfl ?_
        | refine Nx.p_exit rfl rfl ?_
        | refine Nx.p_block rfl rfl ?_
        | refine Nx.p_t rfl rfl ?_
        | refine Nx.p_f rfl rfl ?_
        | refine Nx.p_dec_t rfl rfl (by omega) ?_
        | refine Nx.p_dec_f rfl rfl (by omega) ?_
        | refine Nx.p_dec rfl rfl (fun hc => ?_) (fun hc => ?_)
        | refine Nx.p_bool rfl rfl (fun hc => ?_) (fun hc => ?_)
        | refine Nx.p_label rfl ?_)
    | with_reducible refine Nx.then_ret ?_
    | with_reducible refine Nx.in_ret ?_
    | with_reducible refine Nx.then_normal ?_
    | with_reducible refine Nx.in_normal ?_
    | with_reducible refine Nx.then_exit ?_
    | with_reducible refine Nx.in_exit ?_
    | refine Nx.in_other rfl ?_
    | ((with_reducible refine Nx.is_mix ?_); first
        | refine Nx.m_quiet rfl rfl rfl rfl rfl (by first
            | exact QRun.opr rfl
            | exact QRun.load rfl rfl (by first | exact Rd.at_ 0 rfl rfl | exact Rd.at_ 1 rfl rfl | exact Rd.at_ 2 rfl rfl | exact Rd.at_ 3 rfl rfl | exact Rd.at_ 4 rfl rfl | exact Rd.at_ 5 rfl rfl)
            | exact QRun.loads rfl rfl rfl (by first | exact Rds.at_ 0 rfl | exact Rds.at_ 1 rfl | exact Rds.at_ 2 rfl | exact Rds.at_ 3 rfl | exact Rds.at_ 4 rfl | exact Rds.at_ 5 rfl) rfl
            | exact QRun.add rfl rfl (by unfold I64; omega)
            | exact QRun.sub rfl rfl (by unfold I64; omega)
            | exact QRun.mul rfl rfl (by unfold I64; omega)) ?_
        | refine Nx.m_quiet_do rfl rfl rfl rfl rfl rfl rfl (by first
            | exact QRun.opr rfl
            | exact QRun.load rfl rfl (by first | exact Rd.at_ 0 rfl rfl | exact Rd.at_ 1 rfl rfl | exact Rd.at_ 2 rfl rfl | exact Rd.at_ 3 rfl rfl | exact Rd.at_ 4 rfl rfl | exact Rd.at_ 5 rfl rfl)
            | exact QRun.loads rfl rfl rfl (by first | exact Rds.at_ 0 rfl | exact Rds.at_ 1 rfl | exact Rds.at_ 2 rfl | exact Rds.at_ 3 rfl | exact Rds.at_ 4 rfl | exact Rds.at_ 5 rfl) rfl
            | exact QRun.add rfl rfl (by unfold I64; omega)
            | exact QRun.sub rfl rfl (by unfold I64; omega)
            | exact QRun.mul rfl rfl (by unfold I64; omega)) ?_
        | with_reducible refine Nx.mix_nil_then ?_
        | with_reducible refine Nx.mix_nil ?_
        | refine Nx.m_quiet_no rfl rfl rfl rfl rfl rfl rfl ?_
        | ((fail_if_success refine Nx.m_quiet_do rfl rfl rfl rfl rfl rfl rfl ?_ ?_); (fail_if_success refine Nx.m_loud_do rfl rfl rfl rfl rfl ?_); first | refine Nx.m_split rfl rfl rfl rfl (fun hc => ?_) (fun hc => ?_) | refine Nx.m_splitb rfl rfl rfl rfl (fun hc => ?_) (fun hc => ?_))
        | (refine Nx.m_loud rfl rfl rfl ?_; first
            | refine Nx.opr rfl rfl ?_
            | refine Nx.indexAddr_nat rfl rfl rfl rfl rfl (by omega) (hl.isSome (by omega)) ?_
            | refine Nx.load rfl rfl rfl (hl.rd (by omega)) ?_
            | ((with_reducible refine Nx.is_load ?_); first | refine Nx.load rfl rfl rfl (by first | exact Rd.at_ 0 rfl rfl | exact Rd.at_ 1 rfl rfl | exact Rd.at_ 2 rfl rfl | exact Rd.at_ 3 rfl rfl | exact Rd.at_ 4 rfl rfl | exact Rd.at_ 5 rfl rfl) ?_ | refine Nx.loads rfl rfl rfl rfl (by first | exact Rds.at_ 0 rfl | exact Rds.at_ 1 rfl | exact Rds.at_ 2 rfl | exact Rds.at_ 3 rfl | exact Rds.at_ 4 rfl | exact Rds.at_ 5 rfl) rfl ?_)
            | ((with_reducible refine Nx.is_bin ?_); first | refine Nx.add rfl rfl (by unfold I64; omega) rfl ?_ | refine Nx.sub rfl rfl (by unfold I64; omega) rfl ?_ | refine Nx.mul rfl rfl (by unfold I64; omega) rfl ?_ | refine Nx.rem rfl rfl (by omega) (by omega) rfl ?_ | refine Nx.quo rfl rfl (by omega) (by omega) (by unfold I64; omega) rfl ?_)
            | ((with_reducible refine Nx.is_conv ?_); first | refine Nx.conv_i64 rfl rfl rfl (by unfold I64; omega) rfl ?_)
            | ((with_reducible refine Nx.is_un ?_); first | refine Nx.not_dec rfl rfl ?_ | refine Nx.neg rfl (by unfold I64; omega) rfl ?_)
            | ((with_reducible refine Nx.is_build ?_); first | refine Nx.build rfl rfl (by kernel_rfl) rfl ?_)
            | ((with_reducible refine Nx.is_box ?_); first | refine Nx.box_agg rfl rfl (fun bx => ?_) | refine Nx.box1 rfl rfl rfl (fun bx => ?_))
            | ((with_reducible refine Nx.is_alloc ?_); first | refine Nx.alloc rfl rfl (fun bx => ?_))
            | ((with_reducible refine Nx.is_lit ?_); first | refine Nx.buildSlice rfl rfl rfl rfl rfl rfl rfl rfl rfl (fun bx => ?_))
            | ((with_reducible refine Nx.is_store ?_); first | refine Nx.store_blk 0 rfl rfl rfl rfl rfl rfl rfl ?_ | refine Nx.store_blk 1 rfl rfl rfl rfl rfl rfl rfl ?_ | refine Nx.store_blk 2 rfl rfl rfl rfl rfl rfl rfl ?_ | refine Nx.store_blk 3 rfl rfl rfl rfl rfl rfl rfl ?_ | refine Nx.store_blk 4 rfl rfl rfl rfl rfl rfl rfl ?_)
            | ((with_reducible refine Nx.is_append ?_); first | refine Nx.append_lit 0 rfl rfl rfl rfl (by kernel_rfl) rfl rfl rfl rfl (by omega) (fun A2 c2 => ?_) | refine Nx.append_lit 1 rfl rfl rfl rfl (by kernel_rfl) rfl rfl rfl rfl (by omega) (fun A2 c2 => ?_) | refine Nx.append_lit 2 rfl rfl rfl rfl (by kernel_rfl) rfl rfl rfl rfl (by omega) (fun A2 c2 => ?_) | refine Nx.append_lit 3 rfl rfl rfl rfl (by kernel_rfl) rfl rfl rfl rfl (by omega) (fun A2 c2 => ?_) | refine Nx.append_lit 4 rfl rfl rfl rfl (by kernel_rfl) rfl rfl rfl rfl (by omega) (fun A2 c2 => ?_))
            | ((with_reducible refine Nx.is_call ?_); first | refine Nx.min2 rfl rfl rfl ?_ | refine Nx.max2 rfl rfl rfl ?_)
            | refine Nx.makeFunc rfl rfl rfl ?_
            | refine Nx.fieldAddr rfl rfl rfl ?_)
        | (refine Nx.m_loud_do rfl rfl rfl rfl rfl ?_; first
            | refine Nx.opr rfl rfl ?_
            | refine Nx.indexAddr_nat rfl rfl rfl rfl rfl (by omega) (hl.isSome (by omega)) ?_
            | refine Nx.load rfl rfl rfl (hl.rd (by omega)) ?_
            | ((with_reducible refine Nx.is_load ?_); first | refine Nx.load rfl rfl rfl (by first | exact Rd.at_ 0 rfl rfl | exact Rd.at_ 1 rfl rfl | exact Rd.at_ 2 rfl rfl | exact Rd.at_ 3 rfl rfl | exact Rd.at_ 4 rfl rfl | exact Rd.at_ 5 rfl rfl) ?_ | refine Nx.loads rfl rfl rfl rfl (by first | exact Rds.at_ 0 rfl | exact Rds.at_ 1 rfl | exact Rds.at_ 2 rfl | exact Rds.at_ 3 rfl | exact Rds.at_ 4 rfl | exact Rds.at_ 5 rfl) rfl ?_)
            | ((with_reducible refine Nx.is_bin ?_); first | refine Nx.add rfl rfl (by unfold I64; omega) rfl ?_ | refine Nx.sub rfl rfl (by unfold I64; omega) rfl ?_ | refine Nx.mul rfl rfl (by unfold I64; omega) rfl ?_ | refine Nx.rem rfl rfl (by omega) (by omega) rfl ?_ | refine Nx.quo rfl rfl (by omega) (by omega) (by unfold I64; omega) rfl ?_)
            | ((with_reducible refine Nx.is_conv ?_); first | refine Nx.conv_i64 rfl rfl rfl (by unfold I64; omega) rfl ?_)
            | ((with_reducible refine Nx.is_un ?_); first | refine Nx.not_dec rfl rfl ?_ | refine Nx.neg rfl (by unfold I64; omega) rfl ?_)
            | ((with_reducible refine Nx.is_build ?_); first | refine Nx.build rfl rfl (by kernel_rfl) rfl ?_)
            | ((with_reducible refine Nx.is_box ?_); first | refine Nx.box_agg rfl rfl (fun bx => ?_) | refine Nx.box1 rfl rfl rfl (fun bx => ?_))
            | ((with_reducible refine Nx.is_alloc ?_); first | refine Nx.alloc rfl rfl (fun bx => ?_))
            | ((with_reducible refine Nx.is_lit ?_); first | refine Nx.buildSlice rfl rfl rfl rfl rfl rfl rfl rfl rfl (fun bx => ?_))
            | ((with_reducible refine Nx.is_store ?_); first | refine Nx.store_blk 0 rfl rfl rfl rfl rfl rfl rfl ?_ | refine Nx.store_blk 1 rfl rfl rfl rfl rfl rfl rfl ?_ | refine Nx.store_blk 2 rfl rfl rfl rfl rfl rfl rfl ?_ | refine Nx.store_blk 3 rfl rfl rfl rfl rfl rfl rfl ?_ | refine Nx.store_blk 4 rfl rfl rfl rfl rfl rfl rfl ?_)
            | ((with_reducible refine Nx.is_append ?_); first | refine Nx.append_lit 0 rfl rfl rfl rfl (by kernel_rfl) rfl rfl rfl rfl (by omega) (fun A2 c2 => ?_) | refine Nx.append_lit 1 rfl rfl rfl rfl (by kernel_rfl) rfl rfl rfl rfl (by omega) (fun A2 c2 => ?_) | refine Nx.append_lit 2 rfl rfl rfl rfl (by kernel_rfl) rfl rfl rfl rfl (by omega) (fun A2 c2 => ?_) | refine Nx.append_lit 3 rfl rfl rfl rfl (by kernel_rfl) rfl rfl rfl rfl (by omega) (fun A2 c2 => ?_) | refine Nx.append_lit 4 rfl rfl rfl rfl (by kernel_rfl) rfl rfl rfl rfl (by omega) (fun A2 c2 => ?_))
            | ((with_reducible refine Nx.is_call ?_); first | refine Nx.min2 rfl rfl rfl ?_ | refine Nx.max2 rfl rfl rfl ?_)
            | refine Nx.makeFunc rfl rfl rfl ?_
            | refine Nx.fieldAddr rfl rfl rfl ?_)
        | refine Nx.m_loud_no rfl rfl rfl rfl rfl rfl rfl ?_)
    | ((with_reducible refine Nx.is_mixS ?_); refine Nx.mix_S (by first | exact Ent.refl _ | exact Ent.drop (Ent.refl _) | exact Ent.drop (Ent.drop (Ent.refl _)) | exact Ent.drop (Ent.drop (Ent.drop (Ent.refl _)))) ?_)
  · have e1 := cnt_succ l k (by omega)
    refine Nx.again (k + 1, A2, c2) (by dsimp only; omega) (by dsimp only; omega) ⟨rfl, rfl, rfl, rfl, rfl, by rw [e1, List.length_append]; rfl, trivial⟩ ?_
    refine Ent.pickE 0 rfl (by rw [e1, List.map_append, List.length_append]; rfl) ?_
    (first | done | (repeat first | exact Ent.refl _ | exact Ent.nil _ | refine Ent.pick 0 rfl ?_ | refine Ent.pick 1 rfl ?_ | refine Ent.pick 2 rfl ?_ | refine Ent.pick 3 rfl ?_ | refine Ent.pick 4 rfl ?_ | refine Ent.pick 5 rfl ?_ | refine Ent.pick 6 rfl ?_))
  obtain rfl : k = l.length := by omega
  rw [← ha]
  obtain ⟨L, eL⟩ : ∃ L, L = cnt l := ⟨_, rfl⟩
  have hLl : L.length = l.length := by rw [eL, cnt_len]
  rw [← eL, ← hLl, List.take_length]
  refine Nx.at_op rfl rfl ?_
  refine Nx.call_lendR 0 rfl rfl rfl (by kernel_rfl) rfl rfl (fun m I' hI hm hv => Protected_spec a 90 0 0 A' c' L I' (Vec.sliceOf hm hv) hchk (by omega)) ?_
  rintro v R' ⟨A1, c1, rfl, rfl⟩
  repeat' first
    | ((with_reducible refine Nx.is_at ?_); first
        | (refine Nx.at_op rfl rfl ?_; first
            | refine Nx.opr rfl rfl ?_
            | ((with_reducible refine Nx.is_load ?_); first | refine Nx.load rfl rfl rfl (by first | exact Rd.at_ 0 rfl rfl | exact Rd.at_ 1 rfl rfl | exact Rd.at_ 2 rfl rfl | exact Rd.at_ 3 rfl rfl | exact Rd.at_ 4 rfl rfl | exact Rd.at_ 5 rfl rfl) ?_ | refine Nx.loads rfl rfl rfl rfl (by first | exact Rds.at_ 0 rfl | exact Rds.at_ 1 rfl | exact Rds.at_ 2 rfl | exact Rds.at_ 3 rfl | exact Rds.at_ 4 rfl | exact Rds.at_ 5 rfl) rfl ?_)
            | ((with_reducible refine Nx.is_bin ?_); first | refine Nx.add rfl rfl (by unfold I64; omega) rfl ?_ | refine Nx.sub rfl rfl (by unfold I64; omega) rfl ?_ | refine Nx.mul rfl rfl (by unfold I64; omega) rfl ?_ | refine Nx.rem rfl rfl (by omega) (by omega) rfl ?_ | refine Nx.quo rfl rfl (by omega) (by omega) (by unfold I64; omega) rfl ?_)
            | ((with_reducible refine Nx.is_conv ?_); first | refine Nx.conv_i64 rfl rfl rfl (by unfold I64; omega) rfl ?_)
            | ((with_reducible refine Nx.is_un ?_); first | refine Nx.not_dec rfl rfl ?_ | refine Nx.neg rfl (by unfold I64; omega) rfl ?_)
            | ((with_reducible refine Nx.is_build ?_); first | refine Nx.build rfl rfl (by kernel_rfl) rfl ?_)
            | ((with_reducible refine Nx.is_box ?_); first | refine Nx.box_agg rfl rfl (fun bx => ?_) | refine Nx.box1 rfl rfl rfl (fun bx => ?_))
            | ((with_reducible refine Nx.is_alloc ?_); first | refine Nx.alloc rfl rfl (fun bx => ?_))
            | ((with_reducible refine Nx.is_lit ?_); first | refine Nx.buildSlice rfl rfl rfl rfl rfl rfl rfl rfl rfl (fun bx => ?_))
            | ((with_reducible refine Nx.is_store ?_); first | refine Nx.store_blk 0 rfl rfl rfl rfl rfl rfl rfl ?_ | refine Nx.store_blk 1 rfl rfl rfl rfl rfl rfl rfl ?_ | refine Nx.store_blk 2 rfl rfl rfl rfl rfl rfl rfl ?_ | refine Nx.store_blk 3 rfl rfl rfl rfl rfl rfl rfl ?_ | refine Nx.store_blk 4 rfl rfl rfl rfl rfl rfl rfl ?_)
            | ((with_reducible refine Nx.is_append ?_); first | refine Nx.append_lit 0 rfl rfl rfl rfl (by kernel_rfl) rfl rfl rfl rfl (by omega) (fun A2 c2 => ?_) | refine Nx.append_lit 1 rfl rfl rfl rfl (by kernel_rfl) rfl rfl rfl rfl (by omega) (fun A2 c2 => ?_) | refine Nx.append_lit 2 rfl rfl rfl rfl (by kernel_rfl) rfl rfl rfl rfl (by omega) (fun A2 c2 => ?_) | refine Nx.append_lit 3 rfl rfl rfl rfl (by kernel_rfl) rfl rfl rfl rfl (by omega) (fun A2 c2 => ?_) | refine Nx.append_lit 4 rfl rfl rfl rfl (by kernel_rfl) rfl rfl rfl rfl (by omega) (fun A2 c2 => ?_))
            | ((with_reducible refine Nx.is_call ?_); first | refine Nx.min2 rfl rfl rfl ?_ | refine Nx.max2 rfl rfl rfl ?_)
            | refine Nx.makeFunc rfl rfl rfl ?_
            | refine Nx.fieldAddr rfl rfl rfl ?_)
        | refine Nx.at_no rfl rfl rfl rfl rfl rfl ?_
        | (refine Nx.at_do rfl rfl rfl rfl ?_; first
            | refine Nx.opr rfl rfl ?_
            | ((with_reducible refine Nx.is_load ?_); first | refine Nx.load rfl rfl rfl (by first | exact Rd.at_ 0 rfl rfl | exact Rd.at_ 1 rfl rfl | exact Rd.at_ 2 rfl rfl | exact Rd.at_ 3 rfl rfl | exact Rd.at_ 4 rfl rfl | exact Rd.at_ 5 rfl rfl) ?_ | refine Nx.loads rfl rfl rfl rfl (by first | exact Rds.at_ 0 rfl | exact Rds.at_ 1 rfl | exact Rds.at_ 2 rfl | exact Rds.at_ 3 rfl | exact Rds.at_ 4 rfl | exact Rds.at_ 5 rfl) rfl ?_)
            | ((with_reducible refine Nx.is_bin ?_); first | refine Nx.add rfl rfl (by unfold I64; omega) rfl ?_ | refine Nx.sub rfl rfl (by unfold I64; omega) rfl ?_ | refine Nx.mul rfl rfl (by unfold I64; omega) rfl ?_ | refine Nx.rem rfl rfl (by omega) (by omega) rfl ?_ | refine Nx.quo rfl rfl (by omega) (by omega) (by unfold I64; omega) rfl ?_)
            | ((with_reducible refine Nx.is_conv ?_); first | refine Nx.conv_i64 rfl rfl rfl (by unfold I64; omega) rfl ?_)
            | ((with_reducible refine Nx.is_un ?_); first | refine Nx.not_dec rfl rfl ?_ | refine Nx.neg rfl (by unfold I64; omega) rfl ?_)
            | ((with_reducible refine Nx.is_build ?_); first | refine Nx.build rfl rfl (by kernel_rfl) rfl ?_)
            | ((with_reducible refine Nx.is_box ?_); first | refine Nx.box_agg rfl rfl (fun bx => ?_) | refine Nx.box1 rfl rfl rfl (fun bx => ?_))
            | ((with_reducible refine Nx.is_alloc ?_); first | refine Nx.alloc rfl rfl (fun bx => ?_))
            | ((with_reducible refine Nx.is_lit ?_); first | refine Nx.buildSlice rfl rfl rfl rfl rfl rfl rfl rfl rfl (fun bx => ?_))
            | ((with_reducible refine Nx.is_store ?_); first | refine Nx.store_blk 0 rfl rfl rfl rfl rfl rfl rfl ?_ | refine Nx.store_blk 1 rfl rfl rfl rfl rfl rfl rfl ?_ | refine Nx.store_blk 2 rfl rfl rfl rfl rfl rfl rfl ?_ | refine Nx.store_blk 3 rfl rfl rfl rfl rfl rfl rfl ?_ | refine Nx.store_blk 4 rfl rfl rfl rfl rfl rfl rfl ?_)
            | ((with_reducible refine Nx.is_append ?_); first | refine Nx.append_lit 0 rfl rfl rfl rfl (by kernel_rfl) rfl rfl rfl rfl (by omega) (fun A2 c2 => ?_) | refine Nx.append_lit 1 rfl rfl rfl rfl (by kernel_rfl) rfl rfl rfl rfl (by omega) (fun A2 c2 => ?_) | refine Nx.append_lit 2 rfl rfl rfl rfl (by kernel_rfl) rfl rfl rfl rfl (by omega) (fun A2 c2 => ?_) | refine Nx.append_lit 3 rfl rfl rfl rfl (by kernel_rfl) rfl rfl rfl rfl (by omega) (fun A2 c2 => ?_) | refine Nx.append_lit 4 rfl rfl rfl rfl (by kernel_rfl) rfl rfl rfl rfl (by omega) (fun A2 c2 => ?_))
            | ((with_reducible refine Nx.is_call ?_); first | refine Nx.min2 rfl rfl rfl ?_ | refine Nx.max2 rfl rfl rfl ?_)
            | refine Nx.makeFunc rfl rfl rfl ?_
            | refine Nx.fieldAddr rfl rfl rfl ?_)
        | refine Nx.at_endt rfl ?_
        | ((fail_if_success refine Nx.at_do rfl rfl rfl rfl ?_); first | refine Nx.at_dec_t rfl rfl rfl rfl (by first | assumption | omega) ?_ | refine Nx.at_dec_f rfl rfl rfl rfl (by first | assumption | omega) ?_ | refine Nx.at_split rfl rfl rfl rfl (fun hc => ?_) (fun hc => ?_) | refine Nx.at_splitb rfl rfl rfl rfl (fun hc => ?_) (fun hc => ?_))
        | refine Nx.at_no0 rfl rfl rfl rfl rfl ?_
        | refine Nx.at_end rfl ?_)
    | ((with_reducible refine Nx.is_wp ?_); first
        | refine Nx.p_seq rfl ?_
        | refine Nx.p_region rfl ?_
        | refine Nx.p_ret rfl ?_
        | refine Nx.p_skip rfl ?_
        | refine Nx.p_exit rfl rfl ?_
        | refine Nx.p_block rfl rfl ?_
        | refine Nx.p_t rfl rfl ?_
        | refine Nx.p_f rfl rfl ?_
        | refine Nx.p_dec_t rfl rfl (by omega) ?_
        | refine Nx.p_dec_f rfl rfl (by omega) ?_
        | refine Nx.p_dec rfl rfl (fun hc => ?_) (fun hc => ?_)
        | refine Nx.p_bool rfl rfl (fun hc => ?_) (fun hc => ?_)
        | refine Nx.p_label rfl ?_)
    | with_reducible refine Nx.then_ret ?_
    | with_reducible refine Nx.in_ret ?_
    | with_reducible refine Nx.then_normal ?_
    | with_reducible refine Nx.in_normal ?_
    | with_reducible refine Nx.then_exit ?_
    | with_reducible refine Nx.in_exit ?_
    | refine Nx.in_other rfl ?_
    | ((with_reducible refine Nx.is_mix ?_); first
        | refine Nx.m_quiet rfl rfl rfl rfl rfl (by first
            | exact QRun.opr rfl
            | exact QRun.load rfl rfl (by first | exact Rd.at_ 0 rfl rfl | exact Rd.at_ 1 rfl rfl | exact Rd.at_ 2 rfl rfl | exact Rd.at_ 3 rfl rfl | exact Rd.at_ 4 rfl rfl | exact Rd.at_ 5 rfl rfl)
            | exact QRun.loads rfl rfl rfl (by first | exact Rds.at_ 0 rfl | exact Rds.at_ 1 rfl | exact Rds.at_ 2 rfl | exact Rds.at_ 3 rfl | exact Rds.at_ 4 rfl | exact Rds.at_ 5 rfl) rfl
            | exact QRun.add rfl rfl (by unfold I64; omega)
            | exact QRun.sub rfl rfl (by unfold I64; omega)
            | exact QRun.mul rfl rfl (by unfold I64; omega)) ?_
        | refine Nx.m_quiet_do rfl rfl rfl rfl rfl rfl rfl (by first
            | exact QRun.opr rfl
            | exact QRun.load rfl rfl (by first | exact Rd.at_ 0 rfl rfl | exact Rd.at_ 1 rfl rfl | exact Rd.at_ 2 rfl rfl | exact Rd.at_ 3 rfl rfl | exact Rd.at_ 4 rfl rfl | exact Rd.at_ 5 rfl rfl)
            | exact QRun.loads rfl rfl rfl (by first | exact Rds.at_ 0 rfl | exact Rds.at_ 1 rfl | exact Rds.at_ 2 rfl | exact Rds.at_ 3 rfl | exact Rds.at_ 4 rfl | exact Rds.at_ 5 rfl) rfl
            | exact QRun.add rfl rfl (by unfold I64; omega)
            | exact QRun.sub rfl rfl (by unfold I64; omega)
            | exact QRun.mul rfl rfl (by unfold I64; omega)) ?_
        | with_reducible refine Nx.mix_nil_then ?_
        | with_reducible refine Nx.mix_nil ?_
        | refine Nx.m_quiet_no rfl rfl rfl rfl rfl rfl rfl ?_
        | ((fail_if_success refine Nx.m_quiet_do rfl rfl rfl rfl rfl rfl rfl ?_ ?_); (fail_if_success refine Nx.m_loud_do rfl rfl rfl rfl rfl ?_); first | refine Nx.m_split rfl rfl rfl rfl (fun hc => ?_) (fun hc => ?_) | refine Nx.m_splitb rfl rfl rfl rfl (fun hc => ?_) (fun hc => ?_))
        | (refine Nx.m_loud rfl rfl rfl ?_; first
            | refine Nx.opr rfl rfl ?_
            | ((with_reducible refine Nx.is_load ?_); first | refine Nx.load rfl rfl rfl (by first | exact Rd.at_ 0 rfl rfl | exact Rd.at_ 1 rfl rfl | exact Rd.at_ 2 rfl rfl | exact Rd.at_ 3 rfl rfl | exact Rd.at_ 4 rfl rfl | exact Rd.at_ 5 rfl rfl) ?_ | refine Nx.loads rfl rfl rfl rfl (by first | exact Rds.at_ 0 rfl | exact Rds.at_ 1 rfl | exact Rds.at_ 2 rfl | exact Rds.at_ 3 rfl | exact Rds.at_ 4 rfl | exact Rds.at_ 5 rfl) rfl ?_)
            | ((with_reducible refine Nx.is_bin ?_); first | refine Nx.add rfl rfl (by unfold I64; omega) rfl ?_ | refine Nx.sub rfl rfl (by unfold I64; omega) rfl ?_ | refine Nx.mul rfl rfl (by unfold I64; omega) rfl ?_ | refine Nx.rem rfl rfl (by omega) (by omega) rfl ?_ | refine Nx.quo rfl rfl (by omega) (by omega) (by unfold I64; omega) rfl ?_)
            | ((with_reducible refine Nx.is_conv ?_); first | refine Nx.conv_i64 rfl rfl rfl (by unfold I64; omega) rfl ?_)
            | ((with_reducible refine Nx.is_un ?_); first | refine Nx.not_dec rfl rfl ?_ | refine Nx.neg rfl (by unfold I64; omega) rfl ?_)
            | ((with_reducible refine Nx.is_build ?_); first | refine Nx.build rfl rfl (by kernel_rfl) rfl ?_)
            | ((with_reducible refine Nx.is_box ?_); first | refine Nx.box_agg rfl rfl (fun bx => ?_) | refine Nx.box1 rfl rfl rfl (fun bx => ?_))
            | ((with_reducible refine Nx.is_alloc ?_); first | refine Nx.alloc rfl rfl (fun bx => ?_))
            | ((with_reducible refine Nx.is_lit ?_); first | refine Nx.buildSlice rfl rfl rfl rfl rfl rfl rfl rfl rfl (fun bx => ?_))
            | ((with_reducible refine Nx.is_store ?_); first | refine Nx.store_blk 0 rfl rfl rfl rfl rfl rfl rfl ?_ | refine Nx.store_blk 1 rfl rfl rfl rfl rfl rfl rfl ?_ | refine Nx.store_blk 2 rfl rfl rfl rfl rfl rfl rfl ?_ | refine Nx.store_blk 3 rfl rfl rfl rfl rfl rfl rfl ?_ | refine Nx.store_blk 4 rfl rfl rfl rfl rfl rfl rfl ?_)
            | ((with_reducible refine Nx.is_append ?_); first | refine Nx.append_lit 0 rfl rfl rfl rfl (by kernel_rfl) rfl rfl rfl rfl (by omega) (fun A2 c2 => ?_) | refine Nx.append_lit 1 rfl rfl rfl rfl (by kernel_rfl) rfl rfl rfl rfl (by omega) (fun A2 c2 => ?_) | refine Nx.append_lit 2 rfl rfl rfl rfl (by kernel_rfl) rfl rfl rfl rfl (by omega) (fun A2 c2 => ?_) | refine Nx.append_lit 3 rfl rfl rfl rfl (by kernel_rfl) rfl rfl rfl rfl (by omega) (fun A2 c2 => ?_) | refine Nx.append_lit 4 rfl rfl rfl rfl (by kernel_rfl) rfl rfl rfl rfl (by omega) (fun A2 c2 => ?_))
            | ((with_reducible refine Nx.is_call ?_); first | refine Nx.min2 rfl rfl rfl ?_ | refine Nx.max2 rfl rfl rfl ?_)
            | refine Nx.makeFunc rfl rfl rfl ?_
            | refine Nx.fieldAddr rfl rfl rfl ?_)
        | (refine Nx.m_loud_do rfl rfl rfl rfl rfl ?_; first
            | refine Nx.opr rfl rfl ?_
            | ((with_reducible refine Nx.is_load ?_); first | refine Nx.load rfl rfl rfl (by first | exact Rd.at_ 0 rfl rfl | exact Rd.at_ 1 rfl rfl | exact Rd.at_ 2 rfl rfl | exact Rd.at_ 3 rfl rfl | exact Rd.at_ 4 rfl rfl | exact Rd.at_ 5 rfl rfl) ?_ | refine Nx.loads rfl rfl rfl rfl (by first | exact Rds.at_ 0 rfl | exact Rds.at_ 1 rfl | exact Rds.at_ 2 rfl | exact Rds.at_ 3 rfl | exact Rds.at_ 4 rfl | exact Rds.at_ 5 rfl) rfl ?_)
            | ((with_reducible refine Nx.is_bin ?_); first | refine Nx.add rfl rfl (by unfold I64; omega) rfl ?_ | refine Nx.sub rfl rfl (by unfold I64; omega) rfl ?_ | refine Nx.mul rfl rfl (by unfold I64; omega) rfl ?_ | refine Nx.rem rfl rfl (by omega) (by omega) rfl ?_ | refine Nx.quo rfl rfl (by omega) (by omega) (by unfold I64; omega) rfl ?_)
            | ((with_reducible refine Nx.is_conv ?_); first | refine Nx.conv_i64 rfl rfl rfl (by unfold I64; omega) rfl ?_)
            | ((with_reducible refine Nx.is_un ?_); first | refine Nx.not_dec rfl rfl ?_ | refine Nx.neg rfl (by unfold I64; omega) rfl ?_)
            | ((with_reducible refine Nx.is_build ?_); first | refine Nx.build rfl rfl (by kernel_rfl) rfl ?_)
            | ((with_reducible refine Nx.is_box ?_); first | refine Nx.box_agg rfl rfl (fun bx => ?_) | refine Nx.box1 rfl rfl rfl (fun bx => ?_))
            | ((with_reducible refine Nx.is_alloc ?_); first | refine Nx.alloc rfl rfl (fun bx => ?_))
            | ((with_reducible refine Nx.is_lit ?_); first | refine Nx.buildSlice rfl rfl rfl rfl rfl rfl rfl rfl rfl (fun bx => ?_))
            | ((with_reducible refine Nx.is_store ?_); first | refine Nx.store_blk 0 rfl rfl rfl rfl rfl rfl rfl ?_ | refine Nx.store_blk 1 rfl rfl rfl rfl rfl rfl rfl ?_ | refine Nx.store_blk 2 rfl rfl rfl rfl rfl rfl rfl ?_ | refine Nx.store_blk 3 rfl rfl rfl rfl rfl rfl rfl ?_ | refine Nx.store_blk 4 rfl rfl rfl rfl rfl rfl rfl ?_)
            | ((with_reducible refine Nx.is_append ?_); first | refine Nx.append_lit 0 rfl rfl rfl rfl (by kernel_rfl) rfl rfl rfl rfl (by omega) (fun A2 c2 => ?_) | refine Nx.append_lit 1 rfl rfl rfl rfl (by kernel_rfl) rfl rfl rfl rfl (by omega) (fun A2 c2 => ?_) | refine Nx.append_lit 2 rfl rfl rfl rfl (by kernel_rfl) rfl rfl rfl rfl (by omega) (fun A2 c2 => ?_) | refine Nx.append_lit 3 rfl rfl rfl rfl (by kernel_rfl) rfl rfl rfl rfl (by omega) (fun A2 c2 => ?_) | refine Nx.append_lit 4 rfl rfl rfl rfl (by kernel_rfl) rfl rfl rfl rfl (by omega) (fun A2 c2 => ?_))
            | ((with_reducible refine Nx.is_call ?_); first | refine Nx.min2 rfl rfl rfl ?_ | refine Nx.max2 rfl rfl rfl ?_)
            | refine Nx.makeFunc rfl rfl rfl ?_
            | refine Nx.fieldAddr rfl rfl rfl ?_)
        | refine Nx.m_loud_no rfl rfl rfl rfl rfl rfl rfl ?_)
    | ((with_reducible refine Nx.is_mixS ?_); refine Nx.mix_S (by first | exact Ent.refl _ | exact Ent.drop (Ent.refl _) | exact Ent.drop (Ent.drop (Ent.refl _)) | exact Ent.drop (Ent.drop (Ent.drop (Ent.refl _)))) ?_)
  refine Nx.at_op rfl rfl ?_
  refine Nx.call_lendR 0 rfl rfl rfl (by kernel_rfl) rfl rfl (fun m I' hI hm hv => Protected_spec (a + r % 20) 90 0 0 A' c' L I' (Vec.sliceOf hm hv) hchk2 (by omega)) ?_
  rintro v R' ⟨A2, c2, rfl, rfl⟩
  have hmono := protAt_mono (show a ≤ a + r % 20 by omega) L L.length
  have hp1 := protAt_len a L L.length
  have hp2 := protAt_len (a + r % 20) L L.length
  refine Nx.vec_fact fun _ _ _ hA' => ?_
  refine Nx.pull 2 rfl (Nx.vec_fact fun _ _ _ hA1 => ?_)
  repeat' first
    | ((with_reducible refine Nx.is_at ?_); first
        | (refine Nx.at_op rfl rfl ?_; first
            | refine Nx.opr rfl rfl ?_
            | ((with_reducible refine Nx.is_load ?_); first | refine Nx.load rfl rfl rfl (by first | exact Rd.at_ 0 rfl rfl | exact Rd.at_ 1 rfl rfl | exact Rd.at_ 2 rfl rfl | exact Rd.at_ 3 rfl rfl | exact Rd.at_ 4 rfl rfl | exact Rd.at_ 5 rfl rfl) ?_ | refine Nx.loads rfl rfl rfl rfl (by first | exact Rds.at_ 0 rfl | exact Rds.at_ 1 rfl | exact Rds.at_ 2 rfl | exact Rds.at_ 3 rfl | exact Rds.at_ 4 rfl | exact Rds.at_ 5 rfl) rfl ?_)
            | ((with_reducible refine Nx.is_bin ?_); first | refine Nx.add rfl rfl (by unfold I64; omega) rfl ?_ | refine Nx.sub rfl rfl (by unfold I64; omega) rfl ?_ | refine Nx.mul rfl rfl (by unfold I64; omega) rfl ?_ | refine Nx.rem rfl rfl (by omega) (by omega) rfl ?_ | refine Nx.quo rfl rfl (by omega) (by omega) (by unfold I64; omega) rfl ?_)
            | ((with_reducible refine Nx.is_conv ?_); first | refine Nx.conv_i64 rfl rfl rfl (by unfold I64; omega) rfl ?_)
            | ((with_reducible refine Nx.is_un ?_); first | refine Nx.not_dec rfl rfl ?_ | refine Nx.neg rfl (by unfold I64; omega) rfl ?_)
            | ((with_reducible refine Nx.is_build ?_); first | refine Nx.build rfl rfl (by kernel_rfl) rfl ?_)
            | ((with_reducible refine Nx.is_box ?_); first | refine Nx.box_agg rfl rfl (fun bx => ?_) | refine Nx.box1 rfl rfl rfl (fun bx => ?_))
            | ((with_reducible refine Nx.is_alloc ?_); first | refine Nx.alloc rfl rfl (fun bx => ?_))
            | ((with_reducible refine Nx.is_lit ?_); first | refine Nx.buildSlice rfl rfl rfl rfl rfl rfl rfl rfl rfl (fun bx => ?_))
            | ((with_reducible refine Nx.is_store ?_); first | refine Nx.store_blk 0 rfl rfl rfl rfl rfl rfl rfl ?_ | refine Nx.store_blk 1 rfl rfl rfl rfl rfl rfl rfl ?_ | refine Nx.store_blk 2 rfl rfl rfl rfl rfl rfl rfl ?_ | refine Nx.store_blk 3 rfl rfl rfl rfl rfl rfl rfl ?_ | refine Nx.store_blk 4 rfl rfl rfl rfl rfl rfl rfl ?_)
            | ((with_reducible refine Nx.is_append ?_); first | refine Nx.append_lit 0 rfl rfl rfl rfl (by kernel_rfl) rfl rfl rfl rfl (by omega) (fun A2 c2 => ?_) | refine Nx.append_lit 1 rfl rfl rfl rfl (by kernel_rfl) rfl rfl rfl rfl (by omega) (fun A2 c2 => ?_) | refine Nx.append_lit 2 rfl rfl rfl rfl (by kernel_rfl) rfl rfl rfl rfl (by omega) (fun A2 c2 => ?_) | refine Nx.append_lit 3 rfl rfl rfl rfl (by kernel_rfl) rfl rfl rfl rfl (by omega) (fun A2 c2 => ?_) | refine Nx.append_lit 4 rfl rfl rfl rfl (by kernel_rfl) rfl rfl rfl rfl (by omega) (fun A2 c2 => ?_))
            | ((with_reducible refine Nx.is_call ?_); first | refine Nx.min2 rfl rfl rfl ?_ | refine Nx.max2 rfl rfl rfl ?_)
            | refine Nx.makeFunc rfl rfl rfl ?_
            | refine Nx.fieldAddr rfl rfl rfl ?_)
        | refine Nx.at_no rfl rfl rfl rfl rfl rfl ?_
        | (refine Nx.at_do rfl rfl rfl rfl ?_; first
            | refine Nx.opr rfl rfl ?_
            | ((with_reducible refine Nx.is_load ?_); first | refine Nx.load rfl rfl rfl (by first | exact Rd.at_ 0 rfl rfl | exact Rd.at_ 1 rfl rfl | exact Rd.at_ 2 rfl rfl | exact Rd.at_ 3 rfl rfl | exact Rd.at_ 4 rfl rfl | exact Rd.at_ 5 rfl rfl) ?_ | refine Nx.loads rfl rfl rfl rfl (by first | exact Rds.at_ 0 rfl | exact Rds.at_ 1 rfl | exact Rds.at_ 2 rfl | exact Rds.at_ 3 rfl | exact Rds.at_ 4 rfl | exact Rds.at_ 5 rfl) rfl ?_)
            | ((with_reducible refine Nx.is_bin ?_); first | refine Nx.add rfl rfl (by unfold I64; omega) rfl ?_ | refine Nx.sub rfl rfl (by unfold I64; omega) rfl ?_ | refine Nx.mul rfl rfl (by unfold I64; omega) rfl ?_ | refine Nx.rem rfl rfl (by omega) (by omega) rfl ?_ | refine Nx.quo rfl rfl (by omega) (by omega) (by unfold I64; omega) rfl ?_)
            | ((with_reducible refine Nx.is_conv ?_); first | refine Nx.conv_i64 rfl rfl rfl (by unfold I64; omega) rfl ?_)
            | ((with_reducible refine Nx.is_un ?_); first | refine Nx.not_dec rfl rfl ?_ | refine Nx.neg rfl (by unfold I64; omega) rfl ?_)
            | ((with_reducible refine Nx.is_build ?_); first | refine Nx.build rfl rfl (by kernel_rfl) rfl ?_)
            | ((with_reducible refine Nx.is_box ?_); first | refine Nx.box_agg rfl rfl (fun bx => ?_) | refine Nx.box1 rfl rfl rfl (fun bx => ?_))
            | ((with_reducible refine Nx.is_alloc ?_); first | refine Nx.alloc rfl rfl (fun bx => ?_))
            | ((with_reducible refine Nx.is_lit ?_); first | refine Nx.buildSlice rfl rfl rfl rfl rfl rfl rfl rfl rfl (fun bx => ?_))
            | ((with_reducible refine Nx.is_store ?_); first | refine Nx.store_blk 0 rfl rfl rfl rfl rfl rfl rfl ?_ | refine Nx.store_blk 1 rfl rfl rfl rfl rfl rfl rfl ?_ | refine Nx.store_blk 2 rfl rfl rfl rfl rfl rfl rfl ?_ | refine Nx.store_blk 3 rfl rfl rfl rfl rfl rfl rfl ?_ | refine Nx.store_blk 4 rfl rfl rfl rfl rfl rfl rfl ?_)
            | ((with_reducible refine Nx.is_append ?_); first | refine Nx.append_lit 0 rfl rfl rfl rfl (by kernel_rfl) rfl rfl rfl rfl (by omega) (fun A2 c2 => ?_) | refine Nx.append_lit 1 rfl rfl rfl rfl (by kernel_rfl) rfl rfl rfl rfl (by omega) (fun A2 c2 => ?_) | refine Nx.append_lit 2 rfl rfl rfl rfl (by kernel_rfl) rfl rfl rfl rfl (by omega) (fun A2 c2 => ?_) | refine Nx.append_lit 3 rfl rfl rfl rfl (by kernel_rfl) rfl rfl rfl rfl (by omega) (fun A2 c2 => ?_) | refine Nx.append_lit 4 rfl rfl rfl rfl (by kernel_rfl) rfl rfl rfl rfl (by omega) (fun A2 c2 => ?_))
            | ((with_reducible refine Nx.is_call ?_); first | refine Nx.min2 rfl rfl rfl ?_ | refine Nx.max2 rfl rfl rfl ?_)
            | refine Nx.makeFunc rfl rfl rfl ?_
            | refine Nx.fieldAddr rfl rfl rfl ?_)
        | refine Nx.at_endt rfl ?_
        | ((fail_if_success refine Nx.at_do rfl rfl rfl rfl ?_); first | refine Nx.at_dec_t rfl rfl rfl rfl (by first | assumption | omega) ?_ | refine Nx.at_dec_f rfl rfl rfl rfl (by first | assumption | omega) ?_ | refine Nx.at_split rfl rfl rfl rfl (fun hc => ?_) (fun hc => ?_) | refine Nx.at_splitb rfl rfl rfl rfl (fun hc => ?_) (fun hc => ?_))
        | refine Nx.at_no0 rfl rfl rfl rfl rfl ?_
        | refine Nx.at_end rfl ?_)
    | ((with_reducible refine Nx.is_wp ?_); first
        | refine Nx.p_seq rfl ?_
        | refine Nx.p_region rfl ?_
        | refine Nx.p_ret rfl ?_
        | refine Nx.p_skip rfl ?_
        | refine Nx.p_exit rfl rfl ?_
        | refine Nx.p_block rfl rfl ?_
        | refine Nx.p_t rfl rfl ?_
        | refine Nx.p_f rfl rfl ?_
        | refine Nx.p_dec_t rfl rfl (by omega) ?_
        | refine Nx.p_dec_f rfl rfl (by omega) ?_
        | refine Nx.p_dec rfl rfl (fun hc => ?_) (fun hc => ?_)
        | refine Nx.p_bool rfl rfl (fun hc => ?_) (fun hc => ?_)
        | refine Nx.p_label rfl ?_)
    | with_reducible refine Nx.then_ret ?_
    | with_reducible refine Nx.in_ret ?_
    | with_reducible refine Nx.then_normal ?_
    | with_reducible refine Nx.in_normal ?_
    | with_reducible refine Nx.then_exit ?_
    | with_reducible refine Nx.in_exit ?_
    | refine Nx.in_other rfl ?_
    | ((with_reducible refine Nx.is_mix ?_); first
        | refine Nx.m_quiet rfl rfl rfl rfl rfl (by first
            | exact QRun.opr rfl
            | exact QRun.load rfl rfl (by first | exact Rd.at_ 0 rfl rfl | exact Rd.at_ 1 rfl rfl | exact Rd.at_ 2 rfl rfl | exact Rd.at_ 3 rfl rfl | exact Rd.at_ 4 rfl rfl | exact Rd.at_ 5 rfl rfl)
            | exact QRun.loads rfl rfl rfl (by first | exact Rds.at_ 0 rfl | exact Rds.at_ 1 rfl | exact Rds.at_ 2 rfl | exact Rds.at_ 3 rfl | exact Rds.at_ 4 rfl | exact Rds.at_ 5 rfl) rfl
            | exact QRun.add rfl rfl (by unfold I64; omega)
            | exact QRun.sub rfl rfl (by unfold I64; omega)
            | exact QRun.mul rfl rfl (by unfold I64; omega)) ?_
        | refine Nx.m_quiet_do rfl rfl rfl rfl rfl rfl rfl (by first
            | exact QRun.opr rfl
            | exact QRun.load rfl rfl (by first | exact Rd.at_ 0 rfl rfl | exact Rd.at_ 1 rfl rfl | exact Rd.at_ 2 rfl rfl | exact Rd.at_ 3 rfl rfl | exact Rd.at_ 4 rfl rfl | exact Rd.at_ 5 rfl rfl)
            | exact QRun.loads rfl rfl rfl (by first | exact Rds.at_ 0 rfl | exact Rds.at_ 1 rfl | exact Rds.at_ 2 rfl | exact Rds.at_ 3 rfl | exact Rds.at_ 4 rfl | exact Rds.at_ 5 rfl) rfl
            | exact QRun.add rfl rfl (by unfold I64; omega)
            | exact QRun.sub rfl rfl (by unfold I64; omega)
            | exact QRun.mul rfl rfl (by unfold I64; omega)) ?_
        | with_reducible refine Nx.mix_nil_then ?_
        | with_reducible refine Nx.mix_nil ?_
        | refine Nx.m_quiet_no rfl rfl rfl rfl rfl rfl rfl ?_
        | ((fail_if_success refine Nx.m_quiet_do rfl rfl rfl rfl rfl rfl rfl ?_ ?_); (fail_if_success refine Nx.m_loud_do rfl rfl rfl rfl rfl ?_); first | refine Nx.m_split rfl rfl rfl rfl (fun hc => ?_) (fun hc => ?_) | refine Nx.m_splitb rfl rfl rfl rfl (fun hc => ?_) (fun hc => ?_))
        | (refine Nx.m_loud rfl rfl rfl ?_; first
            | refine Nx.opr rfl rfl ?_
            | ((with_reducible refine Nx.is_load ?_); first | refine Nx.load rfl rfl rfl (by first | exact Rd.at_ 0 rfl rfl | exact Rd.at_ 1 rfl rfl | exact Rd.at_ 2 rfl rfl | exact Rd.at_ 3 rfl rfl | exact Rd.at_ 4 rfl rfl | exact Rd.at_ 5 rfl rfl) ?_ | refine Nx.loads rfl rfl rfl rfl (by first | exact Rds.at_ 0 rfl | exact Rds.at_ 1 rfl | exact Rds.at_ 2 rfl | exact Rds.at_ 3 rfl | exact Rds.at_ 4 rfl | exact Rds.at_ 5 rfl) rfl ?_)
            | ((with_reducible refine Nx.is_bin ?_); first | refine Nx.add rfl rfl (by unfold I64; omega) rfl ?_ | refine Nx.sub rfl rfl (by unfold I64; omega) rfl ?_ | refine Nx.mul rfl rfl (by unfold I64; omega) rfl ?_ | refine Nx.rem rfl rfl (by omega) (by omega) rfl ?_ | refine Nx.quo rfl rfl (by omega) (by omega) (by unfold I64; omega) rfl ?_)
            | ((with_reducible refine Nx.is_conv ?_); first | refine Nx.conv_i64 rfl rfl rfl (by unfold I64; omega) rfl ?_)
            | ((with_reducible refine Nx.is_un ?_); first | refine Nx.not_dec rfl rfl ?_ | refine Nx.neg rfl (by unfold I64; omega) rfl ?_)
            | ((with_reducible refine Nx.is_build ?_); first | refine Nx.build rfl rfl (by kernel_rfl) rfl ?_)
            | ((with_reducible refine Nx.is_box ?_); first | refine Nx.box_agg rfl rfl (fun bx => ?_) | refine Nx.box1 rfl rfl rfl (fun bx => ?_))
            | ((with_reducible refine Nx.is_alloc ?_); first | refine Nx.alloc rfl rfl (fun bx => ?_))
            | ((with_reducible refine Nx.is_lit ?_); first | refine Nx.buildSlice rfl rfl rfl rfl rfl rfl rfl rfl rfl (fun bx => ?_))
            | ((with_reducible refine Nx.is_store ?_); first | refine Nx.store_blk 0 rfl rfl rfl rfl rfl rfl rfl ?_ | refine Nx.store_blk 1 rfl rfl rfl rfl rfl rfl rfl ?_ | refine Nx.store_blk 2 rfl rfl rfl rfl rfl rfl rfl ?_ | refine Nx.store_blk 3 rfl rfl rfl rfl rfl rfl rfl ?_ | refine Nx.store_blk 4 rfl rfl rfl rfl rfl rfl rfl ?_)
            | ((with_reducible refine Nx.is_append ?_); first | refine Nx.append_lit 0 rfl rfl rfl rfl (by kernel_rfl) rfl rfl rfl rfl (by omega) (fun A2 c2 => ?_) | refine Nx.append_lit 1 rfl rfl rfl rfl (by kernel_rfl) rfl rfl rfl rfl (by omega) (fun A2 c2 => ?_) | refine Nx.append_lit 2 rfl rfl rfl rfl (by kernel_rfl) rfl rfl rfl rfl (by omega) (fun A2 c2 => ?_) | refine Nx.append_lit 3 rfl rfl rfl rfl (by kernel_rfl) rfl rfl rfl rfl (by omega) (fun A2 c2 => ?_) | refine Nx.append_lit 4 rfl rfl rfl rfl (by kernel_rfl) rfl rfl rfl rfl (by omega) (fun A2 c2 => ?_))
            | ((with_reducible refine Nx.is_call ?_); first | refine Nx.min2 rfl rfl rfl ?_ | refine Nx.max2 rfl rfl rfl ?_)
            | refine Nx.makeFunc rfl rfl rfl ?_
            | refine Nx.fieldAddr rfl rfl rfl ?_)
        | (refine Nx.m_loud_do rfl rfl rfl rfl rfl ?_; first
            | refine Nx.opr rfl rfl ?_
            | ((with_reducible refine Nx.is_load ?_); first | refine Nx.load rfl rfl rfl (by first | exact Rd.at_ 0 rfl rfl | exact Rd.at_ 1 rfl rfl | exact Rd.at_ 2 rfl rfl | exact Rd.at_ 3 rfl rfl | exact Rd.at_ 4 rfl rfl | exact Rd.at_ 5 rfl rfl) ?_ | refine Nx.loads rfl rfl rfl rfl (by first | exact Rds.at_ 0 rfl | exact Rds.at_ 1 rfl | exact Rds.at_ 2 rfl | exact Rds.at_ 3 rfl | exact Rds.at_ 4 rfl | exact Rds.at_ 5 rfl) rfl ?_)
            | ((with_reducible refine Nx.is_bin ?_); first | refine Nx.add rfl rfl (by unfold I64; omega) rfl ?_ | refine Nx.sub rfl rfl (by unfold I64; omega) rfl ?_ | refine Nx.mul rfl rfl (by unfold I64; omega) rfl ?_ | refine Nx.rem rfl rfl (by omega) (by omega) rfl ?_ | refine Nx.quo rfl rfl (by omega) (by omega) (by unfold I64; omega) rfl ?_)
            | ((with_reducible refine Nx.is_conv ?_); first | refine Nx.conv_i64 rfl rfl rfl (by unfold I64; omega) rfl ?_)
            | ((with_reducible refine Nx.is_un ?_); first | refine Nx.not_dec rfl rfl ?_ | refine Nx.neg rfl (by unfold I64; omega) rfl ?_)
            | ((with_reducible refine Nx.is_build ?_); first | refine Nx.build rfl rfl (by kernel_rfl) rfl ?_)
            | ((with_reducible refine Nx.is_box ?_); first | refine Nx.box_agg rfl rfl (fun bx => ?_) | refine Nx.box1 rfl rfl rfl (fun bx => ?_))
            | ((with_reducible refine Nx.is_alloc ?_); first | refine Nx.alloc rfl rfl (fun bx => ?_))
            | ((with_reducible refine Nx.is_lit ?_); first | refine Nx.buildSlice rfl rfl rfl rfl rfl rfl rfl rfl rfl (fun bx => ?_))
            | ((with_reducible refine Nx.is_store ?_); first | refine Nx.store_blk 0 rfl rfl rfl rfl rfl rfl rfl ?_ | refine Nx.store_blk 1 rfl rfl rfl rfl rfl rfl rfl ?_ | refine Nx.store_blk 2 rfl rfl rfl rfl rfl rfl rfl ?_ | refine Nx.store_blk 3 rfl rfl rfl rfl rfl rfl rfl ?_ | refine Nx.store_blk 4 rfl rfl rfl rfl rfl rfl rfl ?_)
            | ((with_reducible refine Nx.is_append ?_); first | refine Nx.append_lit 0 rfl rfl rfl rfl (by kernel_rfl) rfl rfl rfl rfl (by omega) (fun A2 c2 => ?_) | refine Nx.append_lit 1 rfl rfl rfl rfl (by kernel_rfl) rfl rfl rfl rfl (by omega) (fun A2 c2 => ?_) | refine Nx.append_lit 2 rfl rfl rfl rfl (by kernel_rfl) rfl rfl rfl rfl (by omega) (fun A2 c2 => ?_) | refine Nx.append_lit 3 rfl rfl rfl rfl (by kernel_rfl) rfl rfl rfl rfl (by omega) (fun A2 c2 => ?_) | refine Nx.append_lit 4 rfl rfl rfl rfl (by kernel_rfl) rfl rfl rfl rfl (by omega) (fun A2 c2 => ?_))
            | ((with_reducible refine Nx.is_call ?_); first | refine Nx.min2 rfl rfl rfl ?_ | refine Nx.max2 rfl rfl rfl ?_)
            | refine Nx.makeFunc rfl rfl rfl ?_
            | refine Nx.fieldAddr rfl rfl rfl ?_)
        | refine Nx.m_loud_no rfl rfl rfl rfl rfl rfl rfl ?_)
    | ((with_reducible refine Nx.is_mixS ?_); refine Nx.mix_S (by first | exact Ent.refl _ | exact Ent.drop (Ent.refl _) | exact Ent.drop (Ent.drop (Ent.refl _)) | exact Ent.drop (Ent.drop (Ent.drop (Ent.refl _)))) ?_)
  refine Nx.p_loop (σ := Nat) (fun k => [(7, .pointer (some ⟨b7, 0, none⟩)), (8, .pointer (some ⟨bx, 0, none⟩)), (12, .slice A1 (protAt a L L.length).length c1), (13, .int .i64 0), (14, .slice A2 (protAt (a + r % 20) L L.length).length c2), (15, .int .i64 0), (60, .slice A' L.length c'), (61, .int .i64 L.length), (62, .int .i64 (k : Int)), (16, .int .i64 ((protAt a L k).length : Int))])
    (fun _ => [Vec 3 1 A1 (protAt a L L.length).length c1 ((protAt a L L.length).map (.int .i64)), Vec 3 1 A' L.length c' (L.map (.int .i64)), Blk bx 24 [.int .i64 (a + r % 20), .int .i64 90, .int .i64 0, .int .i64 0], Blk b7 24 [.int .i64 a, .int .i64 90, .int .i64 0, .int .i64 0], F]) (fun k => k ≤ L.length) (fun k => L.length - k) 0 rfl (Nat.zero_le _) ⟨rfl, rfl, rfl, rfl, rfl, rfl, rfl, rfl, rfl, rfl, trivial⟩ (by (first | done | (repeat first | exact Ent.refl _ | exact Ent.nil _ | refine Ent.pick 0 rfl ?_ | refine Ent.pick 1 rfl ?_ | refine Ent.pick 2 rfl ?_ | refine Ent.pick 3 rfl ?_ | refine Ent.pick 4 rfl ?_ | refine Ent.pick 5 rfl ?_ | refine Ent.pick 6 rfl ?_))) ?_
  intro k hk
  have hhit : k < L.length → fewB a (L.getD k 0) = true → (protAt a L k).length < (protAt a L L.length).length ∧ (protAt a L L.length).getD (protAt a L k).length default = (k : Int) := fun h1 h2 => protAt_hit h2 h1
  have hsuc := protAt_succ a L k
  have hpk := protAt_len a L k
  repeat' first
    | ((with_reducible refine Nx.is_at ?_); first
        | (refine Nx.at_op rfl rfl ?_; first
            | refine Nx.opr rfl rfl ?_
            | refine Nx.indexAddr_nat rfl rfl rfl rfl rfl (by omega) (hA' (by omega)) ?_
            | refine Nx.load rfl rfl rfl (Rd.vecEl 1 rfl (by omega)) ?_
            | ((with_reducible refine Nx.is_load ?_); first | refine Nx.load rfl rfl rfl (by first | exact Rd.at_ 0 rfl rfl | exact Rd.at_ 1 rfl rfl | exact Rd.at_ 2 rfl rfl | exact Rd.at_ 3 rfl rfl | exact Rd.at_ 4 rfl rfl | exact Rd.at_ 5 rfl rfl) ?_ | refine Nx.loads rfl rfl rfl rfl (by first | exact Rds.at_ 0 rfl | exact Rds.at_ 1 rfl | exact Rds.at_ 2 rfl | exact Rds.at_ 3 rfl | exact Rds.at_ 4 rfl | exact Rds.at_ 5 rfl) rfl ?_)
            | ((with_reducible refine Nx.is_bin ?_); first | refine Nx.add rfl rfl (by unfold I64; omega) rfl ?_ | refine Nx.sub rfl rfl (by unfold I64; omega) rfl ?_ | refine Nx.mul rfl rfl (by unfold I64; omega) rfl ?_ | refine Nx.rem rfl rfl (by omega) (by omega) rfl ?_ | refine Nx.quo rfl rfl (by omega) (by omega) (by unfold I64; omega) rfl ?_)
            | ((with_reducible refine Nx.is_conv ?_); first | refine Nx.conv_i64 rfl rfl rfl (by unfold I64; omega) rfl ?_)
            | ((with_reducible refine Nx.is_un ?_); first | refine Nx.not_dec rfl rfl ?_ | refine Nx.neg rfl (by unfold I64; omega) rfl ?_)
            | ((with_reducible refine Nx.is_build ?_); first | refine Nx.build rfl rfl (by kernel_rfl) rfl ?_)
            | ((with_reducible refine Nx.is_box ?_); first | refine Nx.box_agg rfl rfl (fun bx => ?_) | refine Nx.box1 rfl rfl rfl (fun bx => ?_))
            | ((with_reducible refine Nx.is_alloc ?_); first | refine Nx.alloc rfl rfl (fun bx => ?_))
            | ((with_reducible refine Nx.is_lit ?_); first | refine Nx.buildSlice rfl rfl rfl rfl rfl rfl rfl rfl rfl (fun bx => ?_))
            | ((with_reducible refine Nx.is_store ?_); first | refine Nx.store_blk 0 rfl rfl rfl rfl rfl rfl rfl ?_ | refine Nx.store_blk 1 rfl rfl rfl rfl rfl rfl rfl ?_ | refine Nx.store_blk 2 rfl rfl rfl rfl rfl rfl rfl ?_ | refine Nx.store_blk 3 rfl rfl rfl rfl rfl rfl rfl ?_ | refine Nx.store_blk 4 rfl rfl rfl rfl rfl rfl rfl ?_)
            | ((with_reducible refine Nx.is_append ?_); first | refine Nx.append_lit 0 rfl rfl rfl rfl (by kernel_rfl) rfl rfl rfl rfl (by omega) (fun A2 c2 => ?_) | refine Nx.append_lit 1 rfl rfl rfl rfl (by kernel_rfl) rfl rfl rfl rfl (by omega) (fun A2 c2 => ?_) | refine Nx.append_lit 2 rfl rfl rfl rfl (by kernel_rfl) rfl rfl rfl rfl (by omega) (fun A2 c2 => ?_) | refine Nx.append_lit 3 rfl rfl rfl rfl (by kernel_rfl) rfl rfl rfl rfl (by omega) (fun A2 c2 => ?_) | refine Nx.append_lit 4 rfl rfl rfl rfl (by kernel_rfl) rfl rfl rfl rfl (by omega) (fun A2 c2 => ?_))
            | ((with_reducible refine Nx.is_call ?_); first | refine Nx.min2 rfl rfl rfl ?_ | refine Nx.max2 rfl rfl rfl ?_)
            | refine Nx.makeFunc rfl rfl rfl ?_
            | refine Nx.fieldAddr rfl rfl rfl ?_)
        | refine Nx.at_no rfl rfl rfl rfl rfl rfl ?_
        | (refine Nx.at_do rfl rfl rfl rfl ?_; first
            | refine Nx.opr rfl rfl ?_
            | refine Nx.indexAddr_nat rfl rfl rfl rfl rfl (by omega) (hA' (by omega)) ?_
            | refine Nx.load rfl rfl rfl (Rd.vecEl 1 rfl (by omega)) ?_
            | ((with_reducible refine Nx.is_load ?_); first | refine Nx.load rfl rfl rfl (by first | exact Rd.at_ 0 rfl rfl | exact Rd.at_ 1 rfl rfl | exact Rd.at_ 2 rfl rfl | exact Rd.at_ 3 rfl rfl | exact Rd.at_ 4 rfl rfl | exact Rd.at_ 5 rfl rfl) ?_ | refine Nx.loads rfl rfl rfl rfl (by first | exact Rds.at_ 0 rfl | exact Rds.at_ 1 rfl | exact Rds.at_ 2 rfl | exact Rds.at_ 3 rfl | exact Rds.at_ 4 rfl | exact Rds.at_ 5 rfl) rfl ?_)
            | ((with_reducible refine Nx.is_bin ?_); first | refine Nx.add rfl rfl (by unfold I64; omega) rfl ?_ | refine Nx.sub rfl rfl (by unfold I64; omega) rfl ?_ | refine Nx.mul rfl rfl (by unfold I64; omega) rfl ?_ | refine Nx.rem rfl rfl (by omega) (by omega) rfl ?_ | refine Nx.quo rfl rfl (by omega) (by omega) (by unfold I64; omega) rfl ?_)
            | ((with_reducible refine Nx.is_conv ?_); first | refine Nx.conv_i64 rfl rfl rfl (by unfold I64; omega) rfl ?_)
            | ((with_reducible refine Nx.is_un ?_); first | refine Nx.not_dec rfl rfl ?_ | refine Nx.neg rfl (by unfold I64; omega) rfl ?_)
            | ((with_reducible refine Nx.is_build ?_); first | refine Nx.build rfl rfl (by kernel_rfl) rfl ?_)
            | ((with_reducible refine Nx.is_box ?_); first | refine Nx.box_agg rfl rfl (fun bx => ?_) | refine Nx.box1 rfl rfl rfl (fun bx => ?_))
            | ((with_reducible refine Nx.is_alloc ?_); first | refine Nx.alloc rfl rfl (fun bx => ?_))
            | ((with_reducible refine Nx.is_lit ?_); first | refine Nx.buildSlice rfl rfl rfl rfl rfl rfl rfl rfl rfl (fun bx => ?_))
            | ((with_reducible refine Nx.is_store ?_); first | refine Nx.store_blk 0 rfl rfl rfl rfl rfl rfl rfl ?_ | refine Nx.store_blk 1 rfl rfl rfl rfl rfl rfl rfl ?_ | refine Nx.store_blk 2 rfl rfl rfl rfl rfl rfl rfl ?_ | refine Nx.store_blk 3 rfl rfl rfl rfl rfl rfl rfl ?_ | refine Nx.store_blk 4 rfl rfl rfl rfl rfl rfl rfl ?_)
            | ((with_reducible refine Nx.is_append ?_); first | refine Nx.append_lit 0 rfl rfl rfl rfl (by kernel_rfl) rfl rfl rfl rfl (by omega) (fun A2 c2 => ?_) | refine Nx.append_lit 1 rfl rfl rfl rfl (by kernel_rfl) rfl rfl rfl rfl (by omega) (fun A2 c2 => ?_) | refine Nx.append_lit 2 rfl rfl rfl rfl (by kernel_rfl) rfl rfl rfl rfl (by omega) (fun A2 c2 => ?_) | refine Nx.append_lit 3 rfl rfl rfl rfl (by kernel_rfl) rfl rfl rfl rfl (by omega) (fun A2 c2 => ?_) | refine Nx.append_lit 4 rfl rfl rfl rfl (by kernel_rfl) rfl rfl rfl rfl (by omega) (fun A2 c2 => ?_))
            | ((with_reducible refine Nx.is_call ?_); first | refine Nx.min2 rfl rfl rfl ?_ | refine Nx.max2 rfl rfl rfl ?_)
            | refine Nx.makeFunc rfl rfl rfl ?_
            | refine Nx.fieldAddr rfl rfl rfl ?_)
        | refine Nx.at_endt rfl ?_
        | ((fail_if_success refine Nx.at_do rfl rfl rfl rfl ?_); first | refine Nx.at_dec_t rfl rfl rfl rfl (by first | assumption | omega) ?_ | refine Nx.at_dec_f rfl rfl rfl rfl (by first | assumption | omega) ?_ | refine Nx.at_split rfl rfl rfl rfl (fun hc => ?_) (fun hc => ?_) | refine Nx.at_splitb rfl rfl rfl rfl (fun hc => ?_) (fun hc => ?_))
        | refine Nx.at_no0 rfl rfl rfl rfl rfl ?_
        | refine Nx.at_end rfl ?_)
    | ((with_reducible refine Nx.is_wp ?_); first
        | refine Nx.p_seq rfl ?_
        | refine Nx.p_region rfl ?_
        | refine Nx.p_ret rfl ?_
        | refine Nx.p_skip rfl ?_
        | refine Nx.p_exit rfl rfl ?_
        | refine Nx.p_block rfl rfl ?_
        | refine Nx.p_t rfl rfl ?_
        | refine Nx.p_f rfl rfl ?_
        | refine Nx.p_dec_t rfl rfl (by omega) ?_
        | refine Nx.p_dec_f rfl rfl (by omega) ?_
        | refine Nx.p_dec rfl rfl (fun hc => ?_) (fun hc => ?_)
        | refine Nx.p_bool rfl rfl (fun hc => ?_) (fun hc => ?_)
        | refine Nx.p_label rfl ?_)
    | with_reducible refine Nx.then_ret ?_
    | with_reducible refine Nx.in_ret ?_
    | with_reducible refine Nx.then_normal ?_
    | with_reducible refine Nx.in_normal ?_
    | with_reducible refine Nx.then_exit ?_
    | with_reducible refine Nx.in_exit ?_
    | refine Nx.in_other rfl ?_
    | ((with_reducible refine Nx.is_mix ?_); first
        | refine Nx.m_quiet rfl rfl rfl rfl rfl (by first
            | exact QRun.opr rfl
            | exact QRun.load rfl rfl (by first | exact Rd.at_ 0 rfl rfl | exact Rd.at_ 1 rfl rfl | exact Rd.at_ 2 rfl rfl | exact Rd.at_ 3 rfl rfl | exact Rd.at_ 4 rfl rfl | exact Rd.at_ 5 rfl rfl)
            | exact QRun.loads rfl rfl rfl (by first | exact Rds.at_ 0 rfl | exact Rds.at_ 1 rfl | exact Rds.at_ 2 rfl | exact Rds.at_ 3 rfl | exact Rds.at_ 4 rfl | exact Rds.at_ 5 rfl) rfl
            | exact QRun.add rfl rfl (by unfold I64; omega)
            | exact QRun.sub rfl rfl (by unfold I64; omega)
            | exact QRun.mul rfl rfl (by unfold I64; omega)) ?_
        | refine Nx.m_quiet_do rfl rfl rfl rfl rfl rfl rfl (by first
            | exact QRun.opr rfl
            | exact QRun.load rfl rfl (by first | exact Rd.at_ 0 rfl rfl | exact Rd.at_ 1 rfl rfl | exact Rd.at_ 2 rfl rfl | exact Rd.at_ 3 rfl rfl | exact Rd.at_ 4 rfl rfl | exact Rd.at_ 5 rfl rfl)
            | exact QRun.loads rfl rfl rfl (by first | exact Rds.at_ 0 rfl | exact Rds.at_ 1 rfl | exact Rds.at_ 2 rfl | exact Rds.at_ 3 rfl | exact Rds.at_ 4 rfl | exact Rds.at_ 5 rfl) rfl
            | exact QRun.add rfl rfl (by unfold I64; omega)
            | exact QRun.sub rfl rfl (by unfold I64; omega)
            | exact QRun.mul rfl rfl (by unfold I64; omega)) ?_
        | with_reducible refine Nx.mix_nil_then ?_
        | with_reducible refine Nx.mix_nil ?_
        | refine Nx.m_quiet_no rfl rfl rfl rfl rfl rfl rfl ?_
        | ((fail_if_success refine Nx.m_quiet_do rfl rfl rfl rfl rfl rfl rfl ?_ ?_); (fail_if_success refine Nx.m_loud_do rfl rfl rfl rfl rfl ?_); first | refine Nx.m_split rfl rfl rfl rfl (fun hc => ?_) (fun hc => ?_) | refine Nx.m_splitb rfl rfl rfl rfl (fun hc => ?_) (fun hc => ?_))
        | (refine Nx.m_loud rfl rfl rfl ?_; first
            | refine Nx.opr rfl rfl ?_
            | refine Nx.indexAddr_nat rfl rfl rfl rfl rfl (by omega) (hA' (by omega)) ?_
            | refine Nx.load rfl rfl rfl (Rd.vecEl 1 rfl (by omega)) ?_
            | ((with_reducible refine Nx.is_load ?_); first | refine Nx.load rfl rfl rfl (by first | exact Rd.at_ 0 rfl rfl | exact Rd.at_ 1 rfl rfl | exact Rd.at_ 2 rfl rfl | exact Rd.at_ 3 rfl rfl | exact Rd.at_ 4 rfl rfl | exact Rd.at_ 5 rfl rfl) ?_ | refine Nx.loads rfl rfl rfl rfl (by first | exact Rds.at_ 0 rfl | exact Rds.at_ 1 rfl | exact Rds.at_ 2 rfl | exact Rds.at_ 3 rfl | exact Rds.at_ 4 rfl | exact Rds.at_ 5 rfl) rfl ?_)
            | ((with_reducible refine Nx.is_bin ?_); first | refine Nx.add rfl rfl (by unfold I64; omega) rfl ?_ | refine Nx.sub rfl rfl (by unfold I64; omega) rfl ?_ | refine Nx.mul rfl rfl (by unfold I64; omega) rfl ?_ | refine Nx.rem rfl rfl (by omega) (by omega) rfl ?_ | refine Nx.quo rfl rfl (by omega) (by omega) (by unfold I64; omega) rfl ?_)
            | ((with_reducible refine Nx.is_conv ?_); first | refine Nx.conv_i64 rfl rfl rfl (by unfold I64; omega) rfl ?_)
            | ((with_reducible refine Nx.is_un ?_); first | refine Nx.not_dec rfl rfl ?_ | refine Nx.neg rfl (by unfold I64; omega) rfl ?_)
            | ((with_reducible refine Nx.is_build ?_); first | refine Nx.build rfl rfl (by kernel_rfl) rfl ?_)
            | ((with_reducible refine Nx.is_box ?_); first | refine Nx.box_agg rfl rfl (fun bx => ?_) | refine Nx.box1 rfl rfl rfl (fun bx => ?_))
            | ((with_reducible refine Nx.is_alloc ?_); first | refine Nx.alloc rfl rfl (fun bx => ?_))
            | ((with_reducible refine Nx.is_lit ?_); first | refine Nx.buildSlice rfl rfl rfl rfl rfl rfl rfl rfl rfl (fun bx => ?_))
            | ((with_reducible refine Nx.is_store ?_); first | refine Nx.store_blk 0 rfl rfl rfl rfl rfl rfl rfl ?_ | refine Nx.store_blk 1 rfl rfl rfl rfl rfl rfl rfl ?_ | refine Nx.store_blk 2 rfl rfl rfl rfl rfl rfl rfl ?_ | refine Nx.store_blk 3 rfl rfl rfl rfl rfl rfl rfl ?_ | refine Nx.store_blk 4 rfl rfl rfl rfl rfl rfl rfl ?_)
            | ((with_reducible refine Nx.is_append ?_); first | refine Nx.append_lit 0 rfl rfl rfl rfl (by kernel_rfl) rfl rfl rfl rfl (by omega) (fun A2 c2 => ?_) | refine Nx.append_lit 1 rfl rfl rfl rfl (by kernel_rfl) rfl rfl rfl rfl (by omega) (fun A2 c2 => ?_) | refine Nx.append_lit 2 rfl rfl rfl rfl (by kernel_rfl) rfl rfl rfl rfl (by omega) (fun A2 c2 => ?_) | refine Nx.append_lit 3 rfl rfl rfl rfl (by kernel_rfl) rfl rfl rfl rfl (by omega) (fun A2 c2 => ?_) | refine Nx.append_lit 4 rfl rfl rfl rfl (by kernel_rfl) rfl rfl rfl rfl (by omega) (fun A2 c2 => ?_))
            | ((with_reducible refine Nx.is_call ?_); first | refine Nx.min2 rfl rfl rfl ?_ | refine Nx.max2 rfl rfl rfl ?_)
            | refine Nx.makeFunc rfl rfl rfl ?_
            | refine Nx.fieldAddr rfl rfl rfl ?_)
        | (refine Nx.m_loud_do rfl rfl rfl rfl rfl ?_; first
            | refine Nx.opr rfl rfl ?_
            | refine Nx.indexAddr_nat rfl rfl rfl rfl rfl (by omega) (hA' (by omega)) ?_
            | refine Nx.load rfl rfl rfl (Rd.vecEl 1 rfl (by omega)) ?_
            | ((with_reducible refine Nx.is_load ?_); first | refine Nx.load rfl rfl rfl (by first | exact Rd.at_ 0 rfl rfl | exact Rd.at_ 1 rfl rfl | exact Rd.at_ 2 rfl rfl | exact Rd.at_ 3 rfl rfl | exact Rd.at_ 4 rfl rfl | exact Rd.at_ 5 rfl rfl) ?_ | refine Nx.loads rfl rfl rfl rfl (by first | exact Rds.at_ 0 rfl | exact Rds.at_ 1 rfl | exact Rds.at_ 2 rfl | exact Rds.at_ 3 rfl | exact Rds.at_ 4 rfl | exact Rds.at_ 5 rfl) rfl ?_)
            | ((with_reducible refine Nx.is_bin ?_); first | refine Nx.add rfl rfl (by unfold I64; omega) rfl ?_ | refine Nx.sub rfl rfl (by unfold I64; omega) rfl ?_ | refine Nx.mul rfl rfl (by unfold I64; omega) rfl ?_ | refine Nx.rem rfl rfl (by omega) (by omega) rfl ?_ | refine Nx.quo rfl rfl (by omega) (by omega) (by unfold I64; omega) rfl ?_)
            | ((with_reducible refine Nx.is_conv ?_); first | refine Nx.conv_i64 rfl rfl rfl (by unfold I64; omega) rfl ?_)
            | ((with_reducible refine Nx.is_un ?_); first | refine Nx.not_dec rfl rfl ?_ | refine Nx.neg rfl (by unfold I64; omega) rfl ?_)
            | ((with_reducible refine Nx.is_build ?_); first | refine Nx.build rfl rfl (by kernel_rfl) rfl ?_)
            | ((with_reducible refine Nx.is_box ?_); first | refine Nx.box_agg rfl rfl (fun bx => ?_) | refine Nx.box1 rfl rfl rfl (fun bx => ?_))
            | ((with_reducible refine Nx.is_alloc ?_); first | refine Nx.alloc rfl rfl (fun bx => ?_))
            | ((with_reducible refine Nx.is_lit ?_); first | refine Nx.buildSlice rfl rfl rfl rfl rfl rfl rfl rfl rfl (fun bx => ?_))
            | ((with_reducible refine Nx.is_store ?_); first | refine Nx.store_blk 0 rfl rfl rfl rfl rfl rfl rfl ?_ | refine Nx.store_blk 1 rfl rfl rfl rfl rfl rfl rfl ?_ | refine Nx.store_blk 2 rfl rfl rfl rfl rfl rfl rfl ?_ | refine Nx.store_blk 3 rfl rfl rfl rfl rfl rfl rfl ?_ | refine Nx.store_blk 4 rfl rfl rfl rfl rfl rfl rfl ?_)
            | ((with_reducible refine Nx.is_append ?_); first | refine Nx.append_lit 0 rfl rfl rfl rfl (by kernel_rfl) rfl rfl rfl rfl (by omega) (fun A2 c2 => ?_) | refine Nx.append_lit 1 rfl rfl rfl rfl (by kernel_rfl) rfl rfl rfl rfl (by omega) (fun A2 c2 => ?_) | refine Nx.append_lit 2 rfl rfl rfl rfl (by kernel_rfl) rfl rfl rfl rfl (by omega) (fun A2 c2 => ?_) | refine Nx.append_lit 3 rfl rfl rfl rfl (by kernel_rfl) rfl rfl rfl rfl (by omega) (fun A2 c2 => ?_) | refine Nx.append_lit 4 rfl rfl rfl rfl (by kernel_rfl) rfl rfl rfl rfl (by omega) (fun A2 c2 => ?_))
            | ((with_reducible refine Nx.is_call ?_); first | refine Nx.min2 rfl rfl rfl ?_ | refine Nx.max2 rfl rfl rfl ?_)
            | refine Nx.makeFunc rfl rfl rfl ?_
            | refine Nx.fieldAddr rfl rfl rfl ?_)
        | refine Nx.m_loud_no rfl rfl rfl rfl rfl rfl rfl ?_)
    | ((with_reducible refine Nx.is_mixS ?_); refine Nx.mix_S (by first | exact Ent.refl _ | exact Ent.drop (Ent.refl _) | exact Ent.drop (Ent.drop (Ent.refl _)) | exact Ent.drop (Ent.drop (Ent.drop (Ent.refl _)))) ?_)
  · have h := (hhit (by omega) (by simp only [fewB, decide_eq_true_eq]; exact ⟨by assumption, by assumption⟩)).1
    omega
  · have h := hhit (by omega) (by simp only [fewB, decide_eq_true_eq]; exact ⟨by assumption, by assumption⟩)
    have h1 := h.1
    have h2 := h.2
    rw [if_pos (by simp only [fewB, decide_eq_true_eq]; exact ⟨by assumption, by assumption⟩)] at hsuc
    repeat' first
      | ((with_reducible refine Nx.is_at ?_); first
          | (refine Nx.at_op rfl rfl ?_; first
              | refine Nx.opr rfl rfl ?_
              | refine Nx.indexAddr_nat rfl rfl rfl rfl rfl (by omega) (hA1 (by omega)) ?_
              | refine Nx.load rfl rfl rfl (Rd.vecEl 0 rfl (by omega)) ?_
              | ((with_reducible refine Nx.is_load ?_); first | refine Nx.load rfl rfl rfl (by first | exact Rd.at_ 0 rfl rfl | exact Rd.at_ 1 rfl rfl | exact Rd.at_ 2 rfl rfl | exact Rd.at_ 3 rfl rfl | exact Rd.at_ 4 rfl rfl | exact Rd.at_ 5 rfl rfl) ?_ | refine Nx.loads rfl rfl rfl rfl (by first | exact Rds.at_ 0 rfl | exact Rds.at_ 1 rfl | exact Rds.at_ 2 rfl | exact Rds.at_ 3 rfl | exact Rds.at_ 4 rfl | exact Rds.at_ 5 rfl) rfl ?_)
              | ((with_reducible refine Nx.is_bin ?_); first | refine Nx.add rfl rfl (by unfold I64; omega) rfl ?_ | refine Nx.sub rfl rfl (by unfold I64; omega) rfl ?_ | refine Nx.mul rfl rfl (by unfold I64; omega) rfl ?_ | refine Nx.rem rfl rfl (by omega) (by omega) rfl ?_ | refine Nx.quo rfl rfl (by omega) (by omega) (by unfold I64; omega) rfl ?_)
              | ((with_reducible refine Nx.is_conv ?_); first | refine Nx.conv_i64 rfl rfl rfl (by unfold I64; omega) rfl ?_)
              | ((with_reducible refine Nx.is_un ?_); first | refine Nx.not_dec rfl rfl ?_ | refine Nx.neg rfl (by unfold I64; omega) rfl ?_)
              | ((with_reducible refine Nx.is_build ?_); first | refine Nx.build rfl rfl (by kernel_rfl) rfl ?_)
              | ((with_reducible refine Nx.is_box ?_); first | refine Nx.box_agg rfl rfl (fun bx => ?_) | refine Nx.box1 rfl rfl rfl (fun bx => ?_))
              | ((with_reducible refine Nx.is_alloc ?_); first | refine Nx.alloc rfl rfl (fun bx => ?_))
              | ((with_reducible refine Nx.is_lit ?_); first | refine Nx.buildSlice rfl rfl rfl rfl rfl rfl rfl rfl rfl (fun bx => ?_))
              | ((with_reducible refine Nx.is_store ?_); first | refine Nx.store_blk 0 rfl rfl rfl rfl rfl rfl rfl ?_ | refine Nx.store_blk 1 rfl rfl rfl rfl rfl rfl rfl ?_ | refine Nx.store_blk 2 rfl rfl rfl rfl rfl rfl rfl ?_ | refine Nx.store_blk 3 rfl rfl rfl rfl rfl rfl rfl ?_ | refine Nx.store_blk 4 rfl rfl rfl rfl rfl rfl rfl ?_)
              | ((with_reducible refine Nx.is_append ?_); first | refine Nx.append_lit 0 rfl rfl rfl rfl (by kernel_rfl) rfl rfl rfl rfl (by omega) (fun A2 c2 => ?_) | refine Nx.append_lit 1 rfl rfl rfl rfl (by kernel_rfl) rfl rfl rfl rfl (by omega) (fun A2 c2 => ?_) | refine Nx.append_lit 2 rfl rfl rfl rfl (by kernel_rfl) rfl rfl rfl rfl (by omega) (fun A2 c2 => ?_) | refine Nx.append_lit 3 rfl rfl rfl rfl (by kernel_rfl) rfl rfl rfl rfl (by omega) (fun A2 c2 => ?_) | refine Nx.append_lit 4 rfl rfl rfl rfl (by kernel_rfl) rfl rfl rfl rfl (by omega) (fun A2 c2 => ?_))
              | ((with_reducible refine Nx.is_call ?_); first | refine Nx.min2 rfl rfl rfl ?_ | refine Nx.max2 rfl rfl rfl ?_)
              | refine Nx.makeFunc rfl rfl rfl ?_
              | refine Nx.fieldAddr rfl rfl rfl ?_)
          | refine Nx.at_no rfl rfl rfl rfl rfl rfl ?_
          | (refine Nx.at_do rfl rfl rfl rfl ?_; first
              | refine Nx.opr rfl rfl ?_
              | refine Nx.indexAddr_nat rfl rfl rfl rfl rfl (by omega) (hA1 (by omega)) ?_
              | refine Nx.load rfl rfl rfl (Rd.vecEl 0 rfl (by omega)) ?_
              | ((with_reducible refine Nx.is_load ?_); first | refine Nx.load rfl rfl rfl (by first | exact Rd.at_ 0 rfl rfl | exact Rd.at_ 1 rfl rfl | exact Rd.at_ 2 rfl rfl | exact Rd.at_ 3 rfl rfl | exact Rd.at_ 4 rfl rfl | exact Rd.at_ 5 rfl rfl) ?_ | refine Nx.loads rfl rfl rfl rfl (by first | exact Rds.at_ 0 rfl | exact Rds.at_ 1 rfl | exact Rds.at_ 2 rfl | exact Rds.at_ 3 rfl | exact Rds.at_ 4 rfl | exact Rds.at_ 5 rfl) rfl ?_)
              | ((with_reducible refine Nx.is_bin ?_); first | refine Nx.add rfl rfl (by unfold I64; omega) rfl ?_ | refine Nx.sub rfl rfl (by unfold I64; omega) rfl ?_ | refine Nx.mul rfl rfl (by unfold I64; omega) rfl ?_ | refine Nx.rem rfl rfl (by omega) (by omega) rfl ?_ | refine Nx.quo rfl rfl (by omega) (by omega) (by unfold I64; omega) rfl ?_)
              | ((with_reducible refine Nx.is_conv ?_); first | refine Nx.conv_i64 rfl rfl rfl (by unfold I64; omega) rfl ?_)
              | ((with_reducible refine Nx.is_un ?_); first | refine Nx.not_dec rfl rfl ?_ | refine Nx.neg rfl (by unfold I64; omega) rfl ?_)
              | ((with_reducible refine Nx.is_build ?_); first | refine Nx.build rfl rfl (by kernel_rfl) rfl ?_)
              | ((with_reducible refine Nx.is_box ?_); first | refine Nx.box_agg rfl rfl (fun bx => ?_) | refine Nx.box1 rfl rfl rfl (fun bx => ?_))
              | ((with_reducible refine Nx.is_alloc ?_); first | refine Nx.alloc rfl rfl (fun bx => ?_))
              | ((with_reducible refine Nx.is_lit ?_); first | refine Nx.buildSlice rfl rfl rfl rfl rfl rfl rfl rfl rfl (fun bx => ?_))
              | ((with_reducible refine Nx.is_store ?_); first | refine Nx.store_blk 0 rfl rfl rfl rfl rfl rfl rfl ?_ | refine Nx.store_blk 1 rfl rfl rfl rfl rfl rfl rfl ?_ | refine Nx.store_blk 2 rfl rfl rfl rfl rfl rfl rfl ?_ | refine Nx.store_blk 3 rfl rfl rfl rfl rfl rfl rfl ?_ | refine Nx.store_blk 4 rfl rfl rfl rfl rfl rfl rfl ?_)
              | ((with_reducible refine Nx.is_append ?_); first | refine Nx.append_lit 0 rfl rfl rfl rfl (by kernel_rfl) rfl rfl rfl rfl (by omega) (fun A2 c2 => ?_) | refine Nx.append_lit 1 rfl rfl rfl rfl (by kernel_rfl) rfl rfl rfl rfl (by omega) (fun A2 c2 => ?_) | refine Nx.append_lit 2 rfl rfl rfl rfl (by kernel_rfl) rfl rfl rfl rfl (by omega) (fun A2 c2 => ?_) | refine Nx.append_lit 3 rfl rfl rfl rfl (by kernel_rfl) rfl rfl rfl rfl (by omega) (fun A2 c2 => ?_) | refine Nx.append_lit 4 rfl rfl rfl rfl (by kernel_rfl) rfl rfl rfl rfl (by omega) (fun A2 c2 => ?_))
              | ((with_reducible refine Nx.is_call ?_); first | refine Nx.min2 rfl rfl rfl ?_ | refine Nx.max2 rfl rfl rfl ?_)
              | refine Nx.makeFunc rfl rfl rfl ?_
              | refine Nx.fieldAddr rfl rfl rfl ?_)
          | refine Nx.at_endt rfl ?_
          | ((fail_if_success refine Nx.at_do rfl rfl rfl rfl ?_); first | refine Nx.at_dec_t rfl rfl rfl rfl (by first | assumption | omega) ?_ | refine Nx.at_dec_f rfl rfl rfl rfl (by first | assumption | omega) ?_ | refine Nx.at_split rfl rfl rfl rfl (fun hc => ?_) (fun hc => ?_) | refine Nx.at_splitb rfl rfl rfl rfl (fun hc => ?_) (fun hc => ?_))
          | refine Nx.at_no0 rfl rfl rfl rfl rfl ?_
          | refine Nx.at_end rfl ?_)
      | ((with_reducible refine Nx.is_wp ?_); first
          | refine Nx.p_seq rfl ?_
          | refine Nx.p_region rfl ?_
          | refine Nx.p_ret rfl ?_
          | refine Nx.p_skip rfl ?_
          | refine Nx.p_exit rfl rfl ?_
          | refine Nx.p_block rfl rfl ?_
          | refine Nx.p_t rfl rfl ?_
          | refine Nx.p_f rfl rfl ?_
          | refine Nx.p_dec_t rfl rfl (by omega) ?_
          | refine Nx.p_dec_f rfl rfl (by omega) ?_
          | refine Nx.p_dec rfl rfl (fun hc => ?_) (fun hc => ?_)
          | refine Nx.p_bool rfl rfl (fun hc => ?_) (fun hc => ?_)
          | refine Nx.p_label rfl ?_)
      | with_reducible refine Nx.then_ret ?_
      | with_reducible refine Nx.in_ret ?_
      | with_reducible refine Nx.then_normal ?_
      | with_reducible refine Nx.in_normal ?_
      | with_reducible refine Nx.then_exit ?_
      | with_reducible refine Nx.in_exit ?_
      | refine Nx.in_other rfl ?_
      | ((with_reducible refine Nx.is_mix ?_); first
          | refine Nx.m_quiet rfl rfl rfl rfl rfl (by first
              | exact QRun.opr rfl
              | exact QRun.load rfl rfl (by first | exact Rd.at_ 0 rfl rfl | exact Rd.at_ 1 rfl rfl | exact Rd.at_ 2 rfl rfl | exact Rd.at_ 3 rfl rfl | exact Rd.at_ 4 rfl rfl | exact Rd.at_ 5 rfl rfl)
              | exact QRun.loads rfl rfl rfl (by first | exact Rds.at_ 0 rfl | exact Rds.at_ 1 rfl | exact Rds.at_ 2 rfl | exact Rds.at_ 3 rfl | exact Rds.at_ 4 rfl | exact Rds.at_ 5 rfl) rfl
              | exact QRun.add rfl rfl (by unfold I64; omega)
              | exact QRun.sub rfl rfl (by unfold I64; omega)
              | exact QRun.mul rfl rfl (by unfold I64; omega)) ?_
          | refine Nx.m_quiet_do rfl rfl rfl rfl rfl rfl rfl (by first
              | exact QRun.opr rfl
              | exact QRun.load rfl rfl (by first | exact Rd.at_ 0 rfl rfl | exact Rd.at_ 1 rfl rfl | exact Rd.at_ 2 rfl rfl | exact Rd.at_ 3 rfl rfl | exact Rd.at_ 4 rfl rfl | exact Rd.at_ 5 rfl rfl)
              | exact QRun.loads rfl rfl rfl (by first | exact Rds.at_ 0 rfl | exact Rds.at_ 1 rfl | exact Rds.at_ 2 rfl | exact Rds.at_ 3 rfl | exact Rds.at_ 4 rfl | exact Rds.at_ 5 rfl) rfl
              | exact QRun.add rfl rfl (by unfold I64; omega)
              | exact QRun.sub rfl rfl (by unfold I64; omega)
              | exact QRun.mul rfl rfl (by unfold I64; omega)) ?_
          | with_reducible refine Nx.mix_nil_then ?_
          | with_reducible refine Nx.mix_nil ?_
          | refine Nx.m_quiet_no rfl rfl rfl rfl rfl rfl rfl ?_
          | ((fail_if_success refine Nx.m_quiet_do rfl rfl rfl rfl rfl rfl rfl ?_ ?_); (fail_if_success refine Nx.m_loud_do rfl rfl rfl rfl rfl ?_); first | refine Nx.m_split rfl rfl rfl rfl (fun hc => ?_) (fun hc => ?_) | refine Nx.m_splitb rfl rfl rfl rfl (fun hc => ?_) (fun hc => ?_))
          | (refine Nx.m_loud rfl rfl rfl ?_; first
              | refine Nx.opr rfl rfl ?_
              | refine Nx.indexAddr_nat rfl rfl rfl rfl rfl (by omega) (hA1 (by omega)) ?_
              | refine Nx.load rfl rfl rfl (Rd.vecEl 0 rfl (by omega)) ?_
              | ((with_reducible refine Nx.is_load ?_); first | refine Nx.load rfl rfl rfl (by first | exact Rd.at_ 0 rfl rfl | exact Rd.at_ 1 rfl rfl | exact Rd.at_ 2 rfl rfl | exact Rd.at_ 3 rfl rfl | exact Rd.at_ 4 rfl rfl | exact Rd.at_ 5 rfl rfl) ?_ | refine Nx.loads rfl rfl rfl rfl (by first | exact Rds.at_ 0 rfl | exact Rds.at_ 1 rfl | exact Rds.at_ 2 rfl | exact Rds.at_ 3 rfl | exact Rds.at_ 4 rfl | exact Rds.at_ 5 rfl) rfl ?_)
              | ((with_reducible refine Nx.is_bin ?_); first | refine Nx.add rfl rfl (by unfold I64; omega) rfl ?_ | refine Nx.sub rfl rfl (by unfold I64; omega) rfl ?_ | refine Nx.mul rfl rfl (by unfold I64; omega) rfl ?_ | refine Nx.rem rfl rfl (by omega) (by omega) rfl ?_ | refine Nx.quo rfl rfl (by omega) (by omega) (by unfold I64; omega) rfl ?_)
              | ((with_reducible refine Nx.is_conv ?_); first | refine Nx.conv_i64 rfl rfl rfl (by unfold I64; omega) rfl ?_)
              | ((with_reducible refine Nx.is_un ?_); first | refine Nx.not_dec rfl rfl ?_ | refine Nx.neg rfl (by unfold I64; omega) rfl ?_)
              | ((with_reducible refine Nx.is_build ?_); first | refine Nx.build rfl rfl (by kernel_rfl) rfl ?_)
              | ((with_reducible refine Nx.is_box ?_); first | refine Nx.box_agg rfl rfl (fun bx => ?_) | refine Nx.box1 rfl rfl rfl (fun bx => ?_))
              | ((with_reducible refine Nx.is_alloc ?_); first | refine Nx.alloc rfl rfl (fun bx => ?_))
              | ((with_reducible refine Nx.is_lit ?_); first | refine Nx.buildSlice rfl rfl rfl rfl rfl rfl rfl rfl rfl (fun bx => ?_))
              | ((with_reducible refine Nx.is_store ?_); first | refine Nx.store_blk 0 rfl rfl rfl rfl rfl rfl rfl ?_ | refine Nx.store_blk 1 rfl rfl rfl rfl rfl rfl rfl ?_ | refine Nx.store_blk 2 rfl rfl rfl rfl rfl rfl rfl ?_ | refine Nx.store_blk 3 rfl rfl rfl rfl rfl rfl rfl ?_ | refine Nx.store_blk 4 rfl rfl rfl rfl rfl rfl rfl ?_)
              | ((with_reducible refine Nx.is_append ?_); first | refine Nx.append_lit 0 rfl rfl rfl rfl (by kernel_rfl) rfl rfl rfl rfl (by omega) (fun A2 c2 => ?_) | refine Nx.append_lit 1 rfl rfl rfl rfl (by kernel_rfl) rfl rfl rfl rfl (by omega) (fun A2 c2 => ?_) | refine Nx.append_lit 2 rfl rfl rfl rfl (by kernel_rfl) rfl rfl rfl rfl (by omega) (fun A2 c2 => ?_) | refine Nx.append_lit 3 rfl rfl rfl rfl (by kernel_rfl) rfl rfl rfl rfl (by omega) (fun A2 c2 => ?_) | refine Nx.append_lit 4 rfl rfl rfl rfl (by kernel_rfl) rfl rfl rfl rfl (by omega) (fun A2 c2 => ?_))
              | ((with_reducible refine Nx.is_call ?_); first | refine Nx.min2 rfl rfl rfl ?_ | refine Nx.max2 rfl rfl rfl ?_)
              | refine Nx.makeFunc rfl rfl rfl ?_
              | refine Nx.fieldAddr rfl rfl rfl ?_)
          | (refine Nx.m_loud_do rfl rfl rfl rfl rfl ?_; first
              | refine Nx.opr rfl rfl ?_
              | refine Nx.indexAddr_nat rfl rfl rfl rfl rfl (by omega) (hA1 (by omega)) ?_
              | refine Nx.load rfl rfl rfl (Rd.vecEl 0 rfl (by omega)) ?_
              | ((with_reducible refine Nx.is_load ?_); first | refine Nx.load rfl rfl rfl (by first | exact Rd.at_ 0 rfl rfl | exact Rd.at_ 1 rfl rfl | exact Rd.at_ 2 rfl rfl | exact Rd.at_ 3 rfl rfl | exact Rd.at_ 4 rfl rfl | exact Rd.at_ 5 rfl rfl) ?_ | refine Nx.loads rfl rfl rfl rfl (by first | exact Rds.at_ 0 rfl | exact Rds.at_ 1 rfl | exact Rds.at_ 2 rfl | exact Rds.at_ 3 rfl | exact Rds.at_ 4 rfl | exact Rds.at_ 5 rfl) rfl ?_)
              | ((with_reducible refine Nx.is_bin ?_); first | refine Nx.add rfl rfl (by unfold I64; omega) rfl ?_ | refine Nx.sub rfl rfl (by unfold I64; omega) rfl ?_ | refine Nx.mul rfl rfl (by unfold I64; omega) rfl ?_ | refine Nx.rem rfl rfl (by omega) (by omega) rfl ?_ | refine Nx.quo rfl rfl (by omega) (by omega) (by unfold I64; omega) rfl ?_)
              | ((with_reducible refine Nx.is_conv ?_); first | refine Nx.conv_i64 rfl rfl rfl (by unfold I64; omega) rfl ?_)
              | ((with_reducible refine Nx.is_un ?_); first | refine Nx.not_dec rfl rfl ?_ | refine Nx.neg rfl (by unfold I64; omega) rfl ?_)
              | ((with_reducible refine Nx.is_build ?_); first | refine Nx.build rfl rfl (by kernel_rfl) rfl ?_)
              | ((with_reducible refine Nx.is_box ?_); first | refine Nx.box_agg rfl rfl (fun bx => ?_) | refine Nx.box1 rfl rfl rfl (fun bx => ?_))
              | ((with_reducible refine Nx.is_alloc ?_); first | refine Nx.alloc rfl rfl (fun bx => ?_))
              | ((with_reducible refine Nx.is_lit ?_); first | refine Nx.buildSlice rfl rfl rfl rfl rfl rfl rfl rfl rfl (fun bx => ?_))
              | ((with_reducible refine Nx.is_store ?_); first | refine Nx.store_blk 0 rfl rfl rfl rfl rfl rfl rfl ?_ | refine Nx.store_blk 1 rfl rfl rfl rfl rfl rfl rfl ?_ | refine Nx.store_blk 2 rfl rfl rfl rfl rfl rfl rfl ?_ | refine Nx.store_blk 3 rfl rfl rfl rfl rfl rfl rfl ?_ | refine Nx.store_blk 4 rfl rfl rfl rfl rfl rfl rfl ?_)
              | ((with_reducible refine Nx.is_append ?_); first | refine Nx.append_lit 0 rfl rfl rfl rfl (by kernel_rfl) rfl rfl rfl rfl (by omega) (fun A2 c2 => ?_) | refine Nx.append_lit 1 rfl rfl rfl rfl (by kernel_rfl) rfl rfl rfl rfl (by omega) (fun A2 c2 => ?_) | refine Nx.append_lit 2 rfl rfl rfl rfl (by kernel_rfl) rfl rfl rfl rfl (by omega) (fun A2 c2 => ?_) | refine Nx.append_lit 3 rfl rfl rfl rfl (by kernel_rfl) rfl rfl rfl rfl (by omega) (fun A2 c2 => ?_) | refine Nx.append_lit 4 rfl rfl rfl rfl (by kernel_rfl) rfl rfl rfl rfl (by omega) (fun A2 c2 => ?_))
              | ((with_reducible refine Nx.is_call ?_); first | refine Nx.min2 rfl rfl rfl ?_ | refine Nx.max2 rfl rfl rfl ?_)
              | refine Nx.makeFunc rfl rfl rfl ?_
              | refine Nx.fieldAddr rfl rfl rfl ?_)
          | refine Nx.m_loud_no rfl rfl rfl rfl rfl rfl rfl ?_)
      | ((with_reducible refine Nx.is_mixS ?_); refine Nx.mix_S (by first | exact Ent.refl _ | exact Ent.drop (Ent.refl _) | exact Ent.drop (Ent.drop (Ent.refl _)) | exact Ent.drop (Ent.drop (Ent.drop (Ent.refl _)))) ?_)
    refine Nx.again (k + 1) (by omega) (by omega) ⟨rfl, rfl, rfl, rfl, rfl, rfl, rfl, rfl, rfl, by rw [hsuc, List.length_append]; rfl, trivial⟩ (by (first | done | (repeat first | exact Ent.refl _ | exact Ent.nil _ | refine Ent.pick 0 rfl ?_ | refine Ent.pick 1 rfl ?_ | refine Ent.pick 2 rfl ?_ | refine Ent.pick 3 rfl ?_ | refine Ent.pick 4 rfl ?_ | refine Ent.pick 5 rfl ?_ | refine Ent.pick 6 rfl ?_)))
  · rw [if_neg (by simp only [fewB, decide_eq_true_eq]; exact fun h => hc h.2), List.append_nil] at hsuc
    refine Nx.again (k + 1) (by omega) (by omega) ⟨rfl, rfl, rfl, rfl, rfl, rfl, rfl, rfl, rfl, by rw [hsuc]; rfl, trivial⟩ (by (first | done | (repeat first | exact Ent.refl _ | exact Ent.nil _ | refine Ent.pick 0 rfl ?_ | refine Ent.pick 1 rfl ?_ | refine Ent.pick 2 rfl ?_ | refine Ent.pick 3 rfl ?_ | refine Ent.pick 4 rfl ?_ | refine Ent.pick 5 rfl ?_ | refine Ent.pick 6 rfl ?_)))
  · rw [if_neg (by simp only [fewB, decide_eq_true_eq]; exact fun h => hc h.1), List.append_nil] at hsuc
    refine Nx.again (k + 1) (by omega) (by omega) ⟨rfl, rfl, rfl, rfl, rfl, rfl, rfl, rfl, rfl, by rw [hsuc]; rfl, trivial⟩ (by (first | done | (repeat first | exact Ent.refl _ | exact Ent.nil _ | refine Ent.pick 0 rfl ?_ | refine Ent.pick 1 rfl ?_ | refine Ent.pick 2 rfl ?_ | refine Ent.pick 3 rfl ?_ | refine Ent.pick 4 rfl ?_ | refine Ent.pick 5 rfl ?_ | refine Ent.pick 6 rfl ?_)))
  · repeat' first
      | ((with_reducible refine Nx.is_at ?_); first
          | (refine Nx.at_op rfl rfl ?_; first
              | refine Nx.opr rfl rfl ?_
              | refine Nx.callv rfl rfl rfl (by kernel_rfl) rfl (Stricter_true _ _ _ _ hchk2 hchk (by omega)) ?_
              | refine Nx.callv rfl rfl rfl (by kernel_rfl) rfl (awake_spec _) ?_
              | ((with_reducible refine Nx.is_load ?_); first | refine Nx.load rfl rfl rfl (by first | exact Rd.at_ 0 rfl rfl | exact Rd.at_ 1 rfl rfl | exact Rd.at_ 2 rfl rfl | exact Rd.at_ 3 rfl rfl | exact Rd.at_ 4 rfl rfl | exact Rd.at_ 5 rfl rfl) ?_ | refine Nx.loads rfl rfl rfl rfl (by first | exact Rds.at_ 0 rfl | exact Rds.at_ 1 rfl | exact Rds.at_ 2 rfl | exact Rds.at_ 3 rfl | exact Rds.at_ 4 rfl | exact Rds.at_ 5 rfl) rfl ?_)
              | ((with_reducible refine Nx.is_bin ?_); first | refine Nx.add rfl rfl (by unfold I64; omega) rfl ?_ | refine Nx.sub rfl rfl (by unfold I64; omega) rfl ?_ | refine Nx.mul rfl rfl (by unfold I64; omega) rfl ?_ | refine Nx.rem rfl rfl (by omega) (by omega) rfl ?_ | refine Nx.quo rfl rfl (by omega) (by omega) (by unfold I64; omega) rfl ?_)
              | ((with_reducible refine Nx.is_conv ?_); first | refine Nx.conv_i64 rfl rfl rfl (by unfold I64; omega) rfl ?_)
              | ((with_reducible refine Nx.is_un ?_); first | refine Nx.not_dec rfl rfl ?_ | refine Nx.neg rfl (by unfold I64; omega) rfl ?_)
              | ((with_reducible refine Nx.is_build ?_); first | refine Nx.build rfl rfl (by kernel_rfl) rfl ?_)
              | ((with_reducible refine Nx.is_box ?_); first | refine Nx.box_agg rfl rfl (fun bx => ?_) | refine Nx.box1 rfl rfl rfl (fun bx => ?_))
              | ((with_reducible refine Nx.is_alloc ?_); first | refine Nx.alloc rfl rfl (fun bx => ?_))
              | ((with_reducible refine Nx.is_lit ?_); first | refine Nx.buildSlice rfl rfl rfl rfl rfl rfl rfl rfl rfl (fun bx => ?_))
              | ((with_reducible refine Nx.is_store ?_); first | refine Nx.store_blk 0 rfl rfl rfl rfl rfl rfl rfl ?_ | refine Nx.store_blk 1 rfl rfl rfl rfl rfl rfl rfl ?_ | refine Nx.store_blk 2 rfl rfl rfl rfl rfl rfl rfl ?_ | refine Nx.store_blk 3 rfl rfl rfl rfl rfl rfl rfl ?_ | refine Nx.store_blk 4 rfl rfl rfl rfl rfl rfl rfl ?_)
              | ((with_reducible refine Nx.is_append ?_); first | refine Nx.append_lit 0 rfl rfl rfl rfl (by kernel_rfl) rfl rfl rfl rfl (by omega) (fun A2 c2 => ?_) | refine Nx.append_lit 1 rfl rfl rfl rfl (by kernel_rfl) rfl rfl rfl rfl (by omega) (fun A2 c2 => ?_) | refine Nx.append_lit 2 rfl rfl rfl rfl (by kernel_rfl) rfl rfl rfl rfl (by omega) (fun A2 c2 => ?_) | refine Nx.append_lit 3 rfl rfl rfl rfl (by kernel_rfl) rfl rfl rfl rfl (by omega) (fun A2 c2 => ?_) | refine Nx.append_lit 4 rfl rfl rfl rfl (by kernel_rfl) rfl rfl rfl rfl (by omega) (fun A2 c2 => ?_))
              | ((with_reducible refine Nx.is_call ?_); first | refine Nx.min2 rfl rfl rfl ?_ | refine Nx.max2 rfl rfl rfl ?_)
              | refine Nx.makeFunc rfl rfl rfl ?_
              | refine Nx.fieldAddr rfl rfl rfl ?_)
          | refine Nx.at_no rfl rfl rfl rfl rfl rfl ?_
          | (refine Nx.at_do rfl rfl rfl rfl ?_; first
              | refine Nx.opr rfl rfl ?_
              | refine Nx.callv rfl rfl rfl (by kernel_rfl) rfl (Stricter_true _ _ _ _ hchk2 hchk (by omega)) ?_
              | refine Nx.callv rfl rfl rfl (by kernel_rfl) rfl (awake_spec _) ?_
              | ((with_reducible refine Nx.is_load ?_); first | refine Nx.load rfl rfl rfl (by first | exact Rd.at_ 0 rfl rfl | exact Rd.at_ 1 rfl rfl | exact Rd.at_ 2 rfl rfl | exact Rd.at_ 3 rfl rfl | exact Rd.at_ 4 rfl rfl | exact Rd.at_ 5 rfl rfl) ?_ | refine Nx.loads rfl rfl rfl rfl (by first | exact Rds.at_ 0 rfl | exact Rds.at_ 1 rfl | exact Rds.at_ 2 rfl | exact Rds.at_ 3 rfl | exact Rds.at_ 4 rfl | exact Rds.at_ 5 rfl) rfl ?_)
              | ((with_reducible refine Nx.is_bin ?_); first | refine Nx.add rfl rfl (by unfold I64; omega) rfl ?_ | refine Nx.sub rfl rfl (by unfold I64; omega) rfl ?_ | refine Nx.mul rfl rfl (by unfold I64; omega) rfl ?_ | refine Nx.rem rfl rfl (by omega) (by omega) rfl ?_ | refine Nx.quo rfl rfl (by omega) (by omega) (by unfold I64; omega) rfl ?_)
              | ((with_reducible refine Nx.is_conv ?_); first | refine Nx.conv_i64 rfl rfl rfl (by unfold I64; omega) rfl ?_)
              | ((with_reducible refine Nx.is_un ?_); first | refine Nx.not_dec rfl rfl ?_ | refine Nx.neg rfl (by unfold I64; omega) rfl ?_)
              | ((with_reducible refine Nx.is_build ?_); first | refine Nx.build rfl rfl (by kernel_rfl) rfl ?_)
              | ((with_reducible refine Nx.is_box ?_); first | refine Nx.box_agg rfl rfl (fun bx => ?_) | refine Nx.box1 rfl rfl rfl (fun bx => ?_))
              | ((with_reducible refine Nx.is_alloc ?_); first | refine Nx.alloc rfl rfl (fun bx => ?_))
              | ((with_reducible refine Nx.is_lit ?_); first | refine Nx.buildSlice rfl rfl rfl rfl rfl rfl rfl rfl rfl (fun bx => ?_))
              | ((with_reducible refine Nx.is_store ?_); first | refine Nx.store_blk 0 rfl rfl rfl rfl rfl rfl rfl ?_ | refine Nx.store_blk 1 rfl rfl rfl rfl rfl rfl rfl ?_ | refine Nx.store_blk 2 rfl rfl rfl rfl rfl rfl rfl ?_ | refine Nx.store_blk 3 rfl rfl rfl rfl rfl rfl rfl ?_ | refine Nx.store_blk 4 rfl rfl rfl rfl rfl rfl rfl ?_)
              | ((with_reducible refine Nx.is_append ?_); first | refine Nx.append_lit 0 rfl rfl rfl rfl (by kernel_rfl) rfl rfl rfl rfl (by omega) (fun A2 c2 => ?_) | refine Nx.append_lit 1 rfl rfl rfl rfl (by kernel_rfl) rfl rfl rfl rfl (by omega) (fun A2 c2 => ?_) | refine Nx.append_lit 2 rfl rfl rfl rfl (by kernel_rfl) rfl rfl rfl rfl (by omega) (fun A2 c2 => ?_) | refine Nx.append_lit 3 rfl rfl rfl rfl (by kernel_rfl) rfl rfl rfl rfl (by omega) (fun A2 c2 => ?_) | refine Nx.append_lit 4 rfl rfl rfl rfl (by kernel_rfl) rfl rfl rfl rfl (by omega) (fun A2 c2 => ?_))
              | ((with_reducible refine Nx.is_call ?_); first | refine Nx.min2 rfl rfl rfl ?_ | refine Nx.max2 rfl rfl rfl ?_)
              | refine Nx.makeFunc rfl rfl rfl ?_
              | refine Nx.fieldAddr rfl rfl rfl ?_)
          | refine Nx.at_endt rfl ?_
          | ((fail_if_success refine Nx.at_do rfl rfl rfl rfl ?_); first | refine Nx.at_dec_t rfl rfl rfl rfl (by first | assumption | omega) ?_ | refine Nx.at_dec_f rfl rfl rfl rfl (by first | assumption | omega) ?_ | refine Nx.at_split rfl rfl rfl rfl (fun hc => ?_) (fun hc => ?_) | refine Nx.at_splitb rfl rfl rfl rfl (fun hc => ?_) (fun hc => ?_))
          | refine Nx.at_no0 rfl rfl rfl rfl rfl ?_
          | refine Nx.at_end rfl ?_)
      | ((with_reducible refine Nx.is_wp ?_); first
          | refine Nx.p_seq rfl ?_
          | refine Nx.p_region rfl ?_
          | refine Nx.p_ret rfl ?_
          | refine Nx.p_skip rfl ?_
          | refine Nx.p_exit rfl rfl ?_
          | refine Nx.p_block rfl rfl ?_
          | refine Nx.p_t rfl rfl ?_
          | refine Nx.p_f rfl rfl ?_
          | refine Nx.p_dec_t rfl rfl (by omega) ?_
          | refine Nx.p_dec_f rfl rfl (by omega) ?_
          | refine Nx.p_dec rfl rfl (fun hc => ?_) (fun hc => ?_)
          | refine Nx.p_bool rfl rfl (fun hc => ?_) (fun hc => ?_)
          | refine Nx.p_label rfl ?_)
      | with_reducible refine Nx.then_ret ?_
      | with_reducible refine Nx.in_ret ?_
      | with_reducible refine Nx.then_normal ?_
      | with_reducible refine Nx.in_normal ?_
      | with_reducible refine Nx.then_exit ?_
      | with_reducible refine Nx.in_exit ?_
      | refine Nx.in_other rfl ?_
      | ((with_reducible refine Nx.is_mix ?_); first
          | refine Nx.m_quiet rfl rfl rfl rfl rfl (by first
              | exact QRun.opr rfl
              | exact QRun.load rfl rfl (by first | exact Rd.at_ 0 rfl rfl | exact Rd.at_ 1 rfl rfl | exact Rd.at_ 2 rfl rfl | exact Rd.at_ 3 rfl rfl | exact Rd.at_ 4 rfl rfl | exact Rd.at_ 5 rfl rfl)
              | exact QRun.loads rfl rfl rfl (by first | exact Rds.at_ 0 rfl | exact Rds.at_ 1 rfl | exact Rds.at_ 2 rfl | exact Rds.at_ 3 rfl | exact Rds.at_ 4 rfl | exact Rds.at_ 5 rfl) rfl
              | exact QRun.add rfl rfl (by unfold I64; omega)
              | exact QRun.sub rfl rfl (by unfold I64; omega)
              | exact QRun.mul rfl rfl (by unfold I64; omega)) ?_
          | refine Nx.m_quiet_do rfl rfl rfl rfl rfl rfl rfl (by first
              | exact QRun.opr rfl
              | exact QRun.load rfl rfl (by first | exact Rd.at_ 0 rfl rfl | exact Rd.at_ 1 rfl rfl | exact Rd.at_ 2 rfl rfl | exact Rd.at_ 3 rfl rfl | exact Rd.at_ 4 rfl rfl | exact Rd.at_ 5 rfl rfl)
              | exact QRun.loads rfl rfl rfl (by first | exact Rds.at_ 0 rfl | exact Rds.at_ 1 rfl | exact Rds.at_ 2 rfl | exact Rds.at_ 3 rfl | exact Rds.at_ 4 rfl | exact Rds.at_ 5 rfl) rfl
              | exact QRun.add rfl rfl (by unfold I64; omega)
              | exact QRun.sub rfl rfl (by unfold I64; omega)
              | exact QRun.mul rfl rfl (by unfold I64; omega)) ?_
          | with_reducible refine Nx.mix_nil_then ?_
          | with_reducible refine Nx.mix_nil ?_
          | refine Nx.m_quiet_no rfl rfl rfl rfl rfl rfl rfl ?_
          | ((fail_if_success refine Nx.m_quiet_do rfl rfl rfl rfl rfl rfl rfl ?_ ?_); (fail_if_success refine Nx.m_loud_do rfl rfl rfl rfl rfl ?_); first | refine Nx.m_split rfl rfl rfl rfl (fun hc => ?_) (fun hc => ?_) | refine Nx.m_splitb rfl rfl rfl rfl (fun hc => ?_) (fun hc => ?_))
          | (refine Nx.m_loud rfl rfl rfl ?_; first
              | refine Nx.opr rfl rfl ?_
              | refine Nx.callv rfl rfl rfl (by kernel_rfl) rfl (Stricter_true _ _ _ _ hchk2 hchk (by omega)) ?_
              | refine Nx.callv rfl rfl rfl (by kernel_rfl) rfl (awake_spec _) ?_
              | ((with_reducible refine Nx.is_load ?_); first | refine Nx.load rfl rfl rfl (by first | exact Rd.at_ 0 rfl rfl | exact Rd.at_ 1 rfl rfl | exact Rd.at_ 2 rfl rfl | exact Rd.at_ 3 rfl rfl | exact Rd.at_ 4 rfl rfl | exact Rd.at_ 5 rfl rfl) ?_ | refine Nx.loads rfl rfl rfl rfl (by first | exact Rds.at_ 0 rfl | exact Rds.at_ 1 rfl | exact Rds.at_ 2 rfl | exact Rds.at_ 3 rfl | exact Rds.at_ 4 rfl | exact Rds.at_ 5 rfl) rfl ?_)
              | ((with_reducible refine Nx.is_bin ?_); first | refine Nx.add rfl rfl (by unfold I64; omega) rfl ?_ | refine Nx.sub rfl rfl (by unfold I64; omega) rfl ?_ | refine Nx.mul rfl rfl (by unfold I64; omega) rfl ?_ | refine Nx.rem rfl rfl (by omega) (by omega) rfl ?_ | refine Nx.quo rfl rfl (by omega) (by omega) (by unfold I64; omega) rfl ?_)
              | ((with_reducible refine Nx.is_conv ?_); first | refine Nx.conv_i64 rfl rfl rfl (by unfold I64; omega) rfl ?_)
              | ((with_reducible refine Nx.is_un ?_); first | refine Nx.not_dec rfl rfl ?_ | refine Nx.neg rfl (by unfold I64; omega) rfl ?_)
              | ((with_reducible refine Nx.is_build ?_); first | refine Nx.build rfl rfl (by kernel_rfl) rfl ?_)
              | ((with_reducible refine Nx.is_box ?_); first | refine Nx.box_agg rfl rfl (fun bx => ?_) | refine Nx.box1 rfl rfl rfl (fun bx => ?_))
              | ((with_reducible refine Nx.is_alloc ?_); first | refine Nx.alloc rfl rfl (fun bx => ?_))
              | ((with_reducible refine Nx.is_lit ?_); first | refine Nx.buildSlice rfl rfl rfl rfl rfl rfl rfl rfl rfl (fun bx => ?_))
              | ((with_reducible refine Nx.is_store ?_); first | refine Nx.store_blk 0 rfl rfl rfl rfl rfl rfl rfl ?_ | refine Nx.store_blk 1 rfl rfl rfl rfl rfl rfl rfl ?_ | refine Nx.store_blk 2 rfl rfl rfl rfl rfl rfl rfl ?_ | refine Nx.store_blk 3 rfl rfl rfl rfl rfl rfl rfl ?_ | refine Nx.store_blk 4 rfl rfl rfl rfl rfl rfl rfl ?_)
              | ((with_reducible refine Nx.is_append ?_); first | refine Nx.append_lit 0 rfl rfl rfl rfl (by kernel_rfl) rfl rfl rfl rfl (by omega) (fun A2 c2 => ?_) | refine Nx.append_lit 1 rfl rfl rfl rfl (by kernel_rfl) rfl rfl rfl rfl (by omega) (fun A2 c2 => ?_) | refine Nx.append_lit 2 rfl rfl rfl rfl (by kernel_rfl) rfl rfl rfl rfl (by omega) (fun A2 c2 => ?_) | refine Nx.append_lit 3 rfl rfl rfl rfl (by kernel_rfl) rfl rfl rfl rfl (by omega) (fun A2 c2 => ?_) | refine Nx.append_lit 4 rfl rfl rfl rfl (by kernel_rfl) rfl rfl rfl rfl (by omega) (fun A2 c2 => ?_))
              | ((with_reducible refine Nx.is_call ?_); first | refine Nx.min2 rfl rfl rfl ?_ | refine Nx.max2 rfl rfl rfl ?_)
              | refine Nx.makeFunc rfl rfl rfl ?_
              | refine Nx.fieldAddr rfl rfl rfl ?_)
          | (refine Nx.m_loud_do rfl rfl rfl rfl rfl ?_; first
              | refine Nx.opr rfl rfl ?_
              | refine Nx.callv rfl rfl rfl (by kernel_rfl) rfl (Stricter_true _ _ _ _ hchk2 hchk (by omega)) ?_
              | refine Nx.callv rfl rfl rfl (by kernel_rfl) rfl (awake_spec _) ?_
              | ((with_reducible refine Nx.is_load ?_); first | refine Nx.load rfl rfl rfl (by first | exact Rd.at_ 0 rfl rfl | exact Rd.at_ 1 rfl rfl | exact Rd.at_ 2 rfl rfl | exact Rd.at_ 3 rfl rfl | exact Rd.at_ 4 rfl rfl | exact Rd.at_ 5 rfl rfl) ?_ | refine Nx.loads rfl rfl rfl rfl (by first | exact Rds.at_ 0 rfl | exact Rds.at_ 1 rfl | exact Rds.at_ 2 rfl | exact Rds.at_ 3 rfl | exact Rds.at_ 4 rfl | exact Rds.at_ 5 rfl) rfl ?_)
              | ((with_reducible refine Nx.is_bin ?_); first | refine Nx.add rfl rfl (by unfold I64; omega) rfl ?_ | refine Nx.sub rfl rfl (by unfold I64; omega) rfl ?_ | refine Nx.mul rfl rfl (by unfold I64; omega) rfl ?_ | refine Nx.rem rfl rfl (by omega) (by omega) rfl ?_ | refine Nx.quo rfl rfl (by omega) (by omega) (by unfold I64; omega) rfl ?_)
              | ((with_reducible refine Nx.is_conv ?_); first | refine Nx.conv_i64 rfl rfl rfl (by unfold I64; omega) rfl ?_)
              | ((with_reducible refine Nx.is_un ?_); first | refine Nx.not_dec rfl rfl ?_ | refine Nx.neg rfl (by unfold I64; omega) rfl ?_)
              | ((with_reducible refine Nx.is_build ?_); first | refine Nx.build rfl rfl (by kernel_rfl) rfl ?_)
              | ((with_reducible refine Nx.is_box ?_); first | refine Nx.box_agg rfl rfl (fun bx => ?_) | refine Nx.box1 rfl rfl rfl (fun bx => ?_))
              | ((with_reducible refine Nx.is_alloc ?_); first | refine Nx.alloc rfl rfl (fun bx => ?_))
              | ((with_reducible refine Nx.is_lit ?_); first | refine Nx.buildSlice rfl rfl rfl rfl rfl rfl rfl rfl rfl (fun bx => ?_))
              | ((with_reducible refine Nx.is_store ?_); first | refine Nx.store_blk 0 rfl rfl rfl rfl rfl rfl rfl ?_ | refine Nx.store_blk 1 rfl rfl rfl rfl rfl rfl rfl ?_ | refine Nx.store_blk 2 rfl rfl rfl rfl rfl rfl rfl ?_ | refine Nx.store_blk 3 rfl rfl rfl rfl rfl rfl rfl ?_ | refine Nx.store_blk 4 rfl rfl rfl rfl rfl rfl rfl ?_)
              | ((with_reducible refine Nx.is_append ?_); first | refine Nx.append_lit 0 rfl rfl rfl rfl (by kernel_rfl) rfl rfl rfl rfl (by omega) (fun A2 c2 => ?_) | refine Nx.append_lit 1 rfl rfl rfl rfl (by kernel_rfl) rfl rfl rfl rfl (by omega) (fun A2 c2 => ?_) | refine Nx.append_lit 2 rfl rfl rfl rfl (by kernel_rfl) rfl rfl rfl rfl (by omega) (fun A2 c2 => ?_) | refine Nx.append_lit 3 rfl rfl rfl rfl (by kernel_rfl) rfl rfl rfl rfl (by omega) (fun A2 c2 => ?_) | refine Nx.append_lit 4 rfl rfl rfl rfl (by kernel_rfl) rfl rfl rfl rfl (by omega) (fun A2 c2 => ?_))
              | ((with_reducible refine Nx.is_call ?_); first | refine Nx.min2 rfl rfl rfl ?_ | refine Nx.max2 rfl rfl rfl ?_)
              | refine Nx.makeFunc rfl rfl rfl ?_
              | refine Nx.fieldAddr rfl rfl rfl ?_)
          | refine Nx.m_loud_no rfl rfl rfl rfl rfl rfl rfl ?_)
      | ((with_reducible refine Nx.is_mixS ?_); refine Nx.mix_S (by first | exact Ent.refl _ | exact Ent.drop (Ent.refl _) | exact Ent.drop (Ent.drop (Ent.refl _)) | exact Ent.drop (Ent.drop (Ent.drop (Ent.refl _)))) ?_)
    exact Nx.ret_fn rfl [] ⟨rfl, rfl⟩ (by (first | done | (repeat first | exact Ent.refl _ | exact Ent.nil _ | refine Ent.pick 0 rfl ?_ | refine Ent.pick 1 rfl ?_ | refine Ent.pick 2 rfl ?_ | refine Ent.pick 3 rfl ?_ | refine Ent.pick 4 rfl ?_ | refine Ent.pick 5 rfl ?_ | refine Ent.pick 6 rfl ?_)))
  · obtain rfl : k = L.length := by omega
    exact absurd rfl hc
end Go.Proofs.Ytcnkjmkcoahdmaa
