import Derived.Test.YtcnkjmkcoahdmaaR1
namespace Go.Proofs.Ytcnkjmkcoahdmaa
open Go.Eng
attribute [local irreducible] opK wpList Code.wp Exit.then Exit.inBlock fnPost bodyPost Nx Calls Oper.wp Rd Rds Wr Ent Stars Blk Again Vec FnSpec wpMix QRun Stop Upto wpAt
def fewB (least n : Int) : Bool := decide (1 ≤ n ∧ n < least)
def protAt (least : Int) (l : List Int) (k : Nat) : List Int := ((List.range k).filter fun i => fewB least (l.getD i 0)).map fun (i : Nat) => (i : Int)
theorem protAt_succ (least : Int) (l : List Int) (k : Nat) : protAt least l (k + 1) = protAt least l k ++ (if fewB least (l.getD k 0) then [(k : Int)] else []) := by
  unfold protAt
  rw [List.range_succ, List.filter_append, List.map_append]
  congr 1
  by_cases h : fewB least (l.getD k 0) = true <;> simp only [List.filter_cons, h, if_true, if_false, List.filter_nil, List.map_cons, List.map_nil, Bool.false_eq_true]
theorem protAt_len (least : Int) (l : List Int) (k : Nat) : (protAt least l k).length ≤ k := by
  unfold protAt
  rw [List.length_map]
  exact Nat.le_trans (List.length_filter_le _ _) (by simp)
theorem Protected_spec (a b c d : Int) (A : Option Addr) (cp : Nat) (l : List Int) (I : PH) (hl : Ints I A cp l) (hr : checkE a b c d = 0) (h2 : l.length ≤ 2000) :
    FnSpec Try.prog 7 [.agg #[.int .i64 a, .int .i64 b, .int .i64 c, .int .i64 d], .slice A l.length cp] I []
      (fun v R' => ∃ A' c', v = .tuple #[.slice A' (protAt a l l.length).length c', .int .i64 0] ∧ R' = [Vec 3 1 A' (protAt a l l.length).length c' ((protAt a l l.length).map (.int .i64))]) := by
  refine FnSpec.enterP Try.func7 rfl Try.ntmps7 rfl fun w F => ?_
  repeat' first
    | ((with_reducible refine Nx.is_at ?_); first
        | (refine Nx.at_op rfl rfl ?_; first
            | refine Nx.opr rfl rfl ?_
            | refine Nx.callv rfl rfl rfl (by kernel_rfl) rfl (Check_spec _ _ _ _ _) ?_
            | ((with_reducible refine Nx.is_load ?_); first | refine Nx.load rfl rfl rfl (by first | exact Rd.at_ 0 rfl rfl | exact Rd.at_ 1 rfl rfl | exact Rd.at_ 2 rfl rfl | exact Rd.at_ 3 rfl rfl | exact Rd.at_ 4 rfl rfl | exact Rd.at_ 5 rfl rfl) ?_ | refine Nx.loads rfl rfl rfl rfl (by first | exact Rds.at_ 0 rfl | exact Rds.at_ 1 rfl | exact Rds.at_ 2 rfl | exact Rds.at_ 3 rfl | exact Rds.at_ 4 rfl | exact Rds.at_ 5 rfl) rfl ?_)
            | ((with_reducible refine Nx.is_bin ?_); first | refine Nx.add rfl rfl (by unfold I64; omega) rfl ?_ | refine Nx.sub rfl rfl (by unfold I64; omega) rfl ?_ | refine Nx.mul rfl rfl (by unfold I64; omega) rfl ?_ | refine Nx.rem rfl rfl (by omega) (by omega) rfl ?_ | refine Nx.quo rfl rfl (by omega) (by omega) (by unfold I64; omega) rfl ?_)
            | ((with_reducible refine Nx.is_conv ?_); first | refine Nx.conv_i64 rfl rfl rfl (by unfold I64; omega) rfl ?_)
            | ((with_reducible refine Nx.is_un ?_); first | refine Nx.not_dec rfl rfl ?_ | refine Nx.neg rfl (by unfold I64; omega) rfl ?_)
            | ((with_reducible refine Nx.is_build ?_); first | refine Nx.build rfl rfl (by kernel_rfl) rfl ?_)
            | ((with_reducible refine Nx.is_box ?_); first | refine Nx.box_agg rfl rfl (fun bx => ?_) | refine Nx.box1 rfl rfl rfl (fun bx => ?_))
            | ((with_reducible refine Nx.is_alloc ?_); first | refine Nx.alloc rfl rfl (fun bx => ?_))
            | ((with_reducible refine Nx.is_lit ?_); first | refine Nx.buildSlice rfl rfl rfl rfl rfl rfl rfl rfl rfl (fun bx => ?_))
            | ((with_reducible refine Nx.is_store ?_); first | refine Nx.store_blk 0 rfl rfl rfl rfl rfl rfl rfl ?_ | refine Nx.store_blk 1 rfl rfl rfl rfl rfl rfl rfl ?_ | refine Nx.store_blk 2 rfl rfl rfl rfl rfl rfl rfl ?_ | refine Nx.store_blk 3 rfl rfl rfl rfl rfl rfl rfl ?_ | refine Nx.store_blk 4 rfl rfl rfl rfl rfl rfl rfl ?_)
            | ((with_reducible refine Nx.is_append ?_); first | refine Nx.append_lit 0 rfl rfl rfl rfl (by kernel_rfl) rfl rfl rfl rfl (by omega) (fun A2 c2 => ?_) | refine Nx.append_lit 1 rfl rfl rfl rfl (by kernel_rfl) rfl rfl rfl rfl (by omega) (fun A2 c2 => ?_) | refine Nx.append_lit 2 rfl rfl rfl rfl (by kernel_rfl) rfl rfl rfl rfl (by omega) (fun A2 c2 => ?_) | refine Nx.append_lit 3 rfl rfl rfl rfl (by kernel_rfl) rfl rfl rfl rfl (by omega) (fun A2 c2 => ?_) | refine Nx.append_lit 4 rfl rfl rfl rfl (by kernel_rfl) rfl rfl rfl rfl (by omega) (fun A2 c2 => ?_))
            | ((with_reducible refine Nx.is_call ?_); first | refine Nx.min2 rfl rfl rfl ?_ | refine Nx.max2 rfl rfl rfl ?_)
            | refine Nx.makeFunc rfl rfl rfl ?_
            | refine Nx.fieldAddr rfl rfl rfl ?_)
        | refine Nx.at_no rfl rfl rfl rfl rfl rfl ?_
        | (refine Nx.at_do rfl rfl rfl rfl ?_; first
            | refine Nx.opr rfl rfl ?_
            | refine Nx.callv rfl rfl rfl (by kernel_rfl) rfl (Check_spec _ _ _ _ _) ?_
            | ((with_reducible refine Nx.is_load ?_); first | refine Nx.load rfl rfl rfl (by first | exact Rd.at_ 0 rfl rfl | exact Rd.at_ 1 rfl rfl | exact Rd.at_ 2 rfl rfl | exact Rd.at_ 3 rfl rfl | exact Rd.at_ 4 rfl rfl | exact Rd.at_ 5 rfl rfl) ?_ | refine Nx.loads rfl rfl rfl rfl (by first | exact Rds.at_ 0 rfl | exact Rds.at_ 1 rfl | exact Rds.at_ 2 rfl | exact Rds.at_ 3 rfl | exact Rds.at_ 4 rfl | exact Rds.at_ 5 rfl) rfl ?_)
            | ((with_reducible refine Nx.is_bin ?_); first | refine Nx.add rfl rfl (by unfold I64; omega) rfl ?_ | refine Nx.sub rfl rfl (by unfold I64; omega) rfl ?_ | refine Nx.mul rfl rfl (by unfold I64; omega) rfl ?_ | refine Nx.rem rfl rfl (by omega) (by omega) rfl ?_ | refine Nx.quo rfl rfl (by omega) (by omega) (by unfold I64; omega) rfl ?_)
            | ((with_reducible refine Nx.is_conv ?_); first | refine Nx.conv_i64 rfl rfl rfl (by unfold I64; omega) rfl ?_)
            | ((with_reducible refine Nx.is_un ?_); first | refine Nx.not_dec rfl rfl ?_ | refine Nx.neg rfl (by unfold I64; omega) rfl ?_)
            | ((with_reducible refine Nx.is_build ?_); first | refine Nx.build rfl rfl (by kernel_rfl) rfl ?_)
            | ((with_reducible refine Nx.is_box ?_); first | refine Nx.box_agg rfl rfl (fun bx => ?_) | refine Nx.box1 rfl rfl rfl (fun bx => ?_))
            | ((with_reducible refine Nx.is_alloc ?_); first | refine Nx.alloc rfl rfl (fun bx => ?_))
            | ((with_reducible refine Nx.is_lit ?_); first | refine Nx.buildSlice rfl rfl rfl rfl rfl rfl rfl rfl rfl (fun bx => ?_))
            | ((with_reducible refine Nx.is_store ?_); first | refine Nx.store_blk 0 rfl rfl rfl rfl rfl rfl rfl ?_ | refine Nx.store_blk 1 rfl rfl rfl rfl rfl rfl rfl ?_ | refine Nx.store_blk 2 rfl rfl rfl rfl rfl rfl rfl ?_ | refine Nx.store_blk 3 rfl rfl rfl rfl rfl rfl rfl ?_ | refine Nx.store_blk 4 rfl rfl rfl rfl rfl rfl rfl ?_)
            | ((with_reducible refine Nx.is_append ?_); first | refine Nx.append_lit 0 rfl rfl rfl rfl (by kernel_rfl) rfl rfl rfl rfl (by omega) (fun A2 c2 => ?_) | refine Nx.append_lit 1 rfl rfl rfl rfl (by kernel_rfl) rfl rfl rfl rfl (by omega) (fun A2 c2 => ?_) | refine Nx.append_lit 2 rfl rfl rfl rfl (by kernel_rfl) rfl rfl rfl rfl (by omega) (fun A2 c2 => ?_) | refine Nx.append_lit 3 rfl rfl rfl rfl (by kernel_rfl) rfl rfl rfl rfl (by omega) (fun A2 c2 => ?_) | refine Nx.append_lit 4 rfl rfl rfl rfl (by kernel_rfl) rfl rfl rfl rfl (by omega) (fun A2 c2 => ?_))
            | ((with_reducible refine Nx.is_call ?_); first | refine Nx.min2 rfl rfl rfl ?_ | refine Nx.max2 rfl rfl rfl ?_)
            | refine Nx.makeFunc rfl rfl rfl ?_
            | refine Nx.fieldAddr rfl rfl rfl ?_)
        | refine Nx.at_endt rfl ?_
        | ((fail_if_success refine Nx.at_do rfl rfl rfl rfl ?_); first | refine Nx.at_dec_t rfl rfl rfl rfl (by first | assumption | omega) ?_ | refine Nx.at_dec_f rfl rfl rfl rfl (by first | assumption | omega) ?_ | refine Nx.at_split rfl rfl rfl rfl (fun hc => ?_) (fun hc => ?_) | refine Nx.at_splitb rfl rfl rfl rfl (fun hc => ?_) (fun hc => ?_))
        | refine Nx.at_no0 rfl rfl rfl rfl rfl ?_
        | refine Nx.at_end rfl ?_)
    | ((with_reducible refine Nx.is_wp ?_); first
        | refine Nx.p_seq rfl ?_
        | refine Nx.p_region rfl ?_
        | refine Nx.p_ret rfl ?_
        | refine Nx.p_skip rfl ?_
        | refine Nx.p_exit rfl rfl ?_
        | refine Nx.p_block rfl rfl ?_
        | refine Nx.p_t rfl rfl ?_
        | refine Nx.p_f rfl rfl ?_
        | refine Nx.p_dec_t rfl rfl (by omega) ?_
        | refine Nx.p_dec_f rfl rfl (by omega) ?_
        | refine Nx.p_dec rfl rfl (fun hc => ?_) (fun hc => ?_)
        | refine Nx.p_bool rfl rfl (fun hc => ?_) (fun hc => ?_)
        | refine Nx.p_label rfl ?_)
    | with_reducible refine Nx.then_ret ?_
    | with_reducible refine Nx.in_ret ?_
    | with_reducible refine Nx.then_normal ?_
    | with_reducible refine Nx.in_normal ?_
    | with_reducible refine Nx.then_exit ?_
    | with_reducible refine Nx.in_exit ?_
    | refine Nx.in_other rfl ?_
    | ((with_reducible refine Nx.is_mix ?_); first
        | refine Nx.m_quiet rfl rfl rfl rfl rfl (by first
            | exact QRun.opr rfl
            | exact QRun.load rfl rfl (by first | exact Rd.at_ 0 rfl rfl | exact Rd.at_ 1 rfl rfl | exact Rd.at_ 2 rfl rfl | exact Rd.at_ 3 rfl rfl | exact Rd.at_ 4 rfl rfl | exact Rd.at_ 5 rfl rfl)
            | exact QRun.loads rfl rfl rfl (by first | exact Rds.at_ 0 rfl | exact Rds.at_ 1 rfl | exact Rds.at_ 2 rfl | exact Rds.at_ 3 rfl | exact Rds.at_ 4 rfl | exact Rds.at_ 5 rfl) rfl
            | exact QRun.add rfl rfl (by unfold I64; omega)
            | exact QRun.sub rfl rfl (by unfold I64; omega)
            | exact QRun.mul rfl rfl (by unfold I64; omega)) ?_
        | refine Nx.m_quiet_do rfl rfl rfl rfl rfl rfl rfl (by first
            | exact QRun.opr rfl
            | exact QRun.load rfl rfl (by first | exact Rd.at_ 0 rfl rfl | exact Rd.at_ 1 rfl rfl | exact Rd.at_ 2 rfl rfl | exact Rd.at_ 3 rfl rfl | exact Rd.at_ 4 rfl rfl | exact Rd.at_ 5 rfl rfl)
            | exact QRun.loads rfl rfl rfl (by first | exact Rds.at_ 0 rfl | exact Rds.at_ 1 rfl | exact Rds.at_ 2 rfl | exact Rds.at_ 3 rfl | exact Rds.at_ 4 rfl | exact Rds.at_ 5 rfl) rfl
            | exact QRun.add rfl rfl (by unfold I64; omega)
            | exact QRun.sub rfl rfl (by unfold I64; omega)
            | exact QRun.mul rfl rfl (by unfold I64; omega)) ?_
        | with_reducible refine Nx.mix_nil_then ?_
        | with_reducible refine Nx.mix_nil ?_
        | refine Nx.m_quiet_no rfl rfl rfl rfl rfl rfl rfl ?_
        | ((fail_if_success refine Nx.m_quiet_do rfl rfl rfl rfl rfl rfl rfl ?_ ?_); (fail_if_success refine Nx.m_loud_do rfl rfl rfl rfl rfl ?_); first | refine Nx.m_split rfl rfl rfl rfl (fun hc => ?_) (fun hc => ?_) | refine Nx.m_splitb rfl rfl rfl rfl (fun hc => ?_) (fun hc => ?_))
        | (refine Nx.m_loud rfl rfl rfl ?_; first
            | refine Nx.opr rfl rfl ?_
            | refine Nx.callv rfl rfl rfl (by kernel_rfl) rfl (Check_spec _ _ _ _ _) ?_
            | ((with_reducible refine Nx.is_load ?_); first | refine Nx.load rfl rfl rfl (by first | exact Rd.at_ 0 rfl rfl | exact Rd.at_ 1 rfl rfl | exact Rd.at_ 2 rfl rfl | exact Rd.at_ 3 rfl rfl | exact Rd.at_ 4 rfl rfl | exact Rd.at_ 5 rfl rfl) ?_ | refine Nx.loads rfl rfl rfl rfl (by first | exact Rds.at_ 0 rfl | exact Rds.at_ 1 rfl | exact Rds.at_ 2 rfl | exact Rds.at_ 3 rfl | exact Rds.at_ 4 rfl | exact Rds.at_ 5 rfl) rfl ?_)
            | ((with_reducible refine Nx.is_bin ?_); first | refine Nx.add rfl rfl (by unfold I64; omega) rfl ?_ | refine Nx.sub rfl rfl (by unfold I64; omega) rfl ?_ | refine Nx.mul rfl rfl (by unfold I64; omega) rfl ?_ | refine Nx.rem rfl rfl (by omega) (by omega) rfl ?_ | refine Nx.quo rfl rfl (by omega) (by omega) (by unfold I64; omega) rfl ?_)
            | ((with_reducible refine Nx.is_conv ?_); first | refine Nx.conv_i64 rfl rfl rfl (by unfold I64; omega) rfl ?_)
            | ((with_reducible refine Nx.is_un ?_); first | refine Nx.not_dec rfl rfl ?_ | refine Nx.neg rfl (by unfold I64; omega) rfl ?_)
            | ((with_reducible refine Nx.is_build ?_); first | refine Nx.build rfl rfl (by kernel_rfl) rfl ?_)
            | ((with_reducible refine Nx.is_box ?_); first | refine Nx.box_agg rfl rfl (fun bx => ?_) | refine Nx.box1 rfl rfl rfl (fun bx => ?_))
            | ((with_reducible refine Nx.is_alloc ?_); first | refine Nx.alloc rfl rfl (fun bx => ?_))
            | ((with_reducible refine Nx.is_lit ?_); first | refine Nx.buildSlice rfl rfl rfl rfl rfl rfl rfl rfl rfl (fun bx => ?_))
            | ((with_reducible refine Nx.is_store ?_); first | refine Nx.store_blk 0 rfl rfl rfl rfl rfl rfl rfl ?_ | refine Nx.store_blk 1 rfl rfl rfl rfl rfl rfl rfl ?_ | refine Nx.store_blk 2 rfl rfl rfl rfl rfl rfl rfl ?_ | refine Nx.store_blk 3 rfl rfl rfl rfl rfl rfl rfl ?_ | refine Nx.store_blk 4 rfl rfl rfl rfl rfl rfl rfl ?_)
            | ((with_reducible refine Nx.is_append ?_); first | refine Nx.append_lit 0 rfl rfl rfl rfl (by kernel_rfl) rfl rfl rfl rfl (by omega) (fun A2 c2 => ?_) | refine Nx.append_lit 1 rfl rfl rfl rfl (by kernel_rfl) rfl rfl rfl rfl (by omega) (fun A2 c2 => ?_) | refine Nx.append_lit 2 rfl rfl rfl rfl (by kernel_rfl) rfl rfl rfl rfl (by omega) (fun A2 c2 => ?_) | refine Nx.append_lit 3 rfl rfl rfl rfl (by kernel_rfl) rfl rfl rfl rfl (by omega) (fun A2 c2 => ?_) | refine Nx.append_lit 4 rfl rfl rfl rfl (by kernel_rfl) rfl rfl rfl rfl (by omega) (fun A2 c2 => ?_))
            | ((with_reducible refine Nx.is_call ?_); first | refine Nx.min2 rfl rfl rfl ?_ | refine Nx.max2 rfl rfl rfl ?_)
            | refine Nx.makeFunc rfl rfl rfl ?_
            | refine Nx.fieldAddr rfl rfl rfl ?_)
        | (refine Nx.m_loud_do rfl rfl rfl rfl rfl ?_; first
            | refine Nx.opr rfl rfl ?_
            | refine Nx.callv rfl rfl rfl (by kernel_rfl) rfl (Check_spec _ _ _ _ _) ?_
            | ((with_reducible refine Nx.is_load ?_); first | refine Nx.load rfl rfl rfl (by first | exact Rd.at_ 0 rfl rfl | exact Rd.at_ 1 rfl rfl | exact Rd.at_ 2 rfl rfl | exact Rd.at_ 3 rfl rfl | exact Rd.at_ 4 rfl rfl | exact Rd.at_ 5 rfl rfl) ?_ | refine Nx.loads rfl rfl rfl rfl (by first | exact Rds.at_ 0 rfl | exact Rds.at_ 1 rfl | exact Rds.at_ 2 rfl | exact Rds.at_ 3 rfl | exact Rds.at_ 4 rfl | exact Rds.at_ 5 rfl) rfl ?_)
            | ((with_reducible refine Nx.is_bin ?_); first | refine Nx.add rfl rfl (by unfold I64; omega) rfl ?_ | refine Nx.sub rfl rfl (by unfold I64; omega) rfl ?_ | refine Nx.mul rfl rfl (by unfold I64; omega) rfl ?_ | refine Nx.rem rfl rfl (by omega) (by omega) rfl ?_ | refine Nx.quo rfl rfl (by omega) (by omega) (by unfold I64; omega) rfl ?_)
            | ((with_reducible refine Nx.is_conv ?_); first | refine Nx.conv_i64 rfl rfl rfl (by unfold I64; omega) rfl ?_)
            | ((with_reducible refine Nx.is_un ?_); first | refine Nx.not_dec rfl rfl ?_ | refine Nx.neg rfl (by unfold I64; omega) rfl ?_)
            | ((with_reducible refine Nx.is_build ?_); first | refine Nx.build rfl rfl (by kernel_rfl) rfl ?_)
            | ((with_reducible refine Nx.is_box ?_); first | refine Nx.box_agg rfl rfl (fun bx => ?_) | refine Nx.box1 rfl rfl rfl (fun bx => ?_))
            | ((with_reducible refine Nx.is_alloc ?_); first | refine Nx.alloc rfl rfl (fun bx => ?_))
            | ((with_reducible refine Nx.is_lit ?_); first | refine Nx.buildSlice rfl rfl rfl rfl rfl rfl rfl rfl rfl (fun bx => ?_))
            | ((with_reducible refine Nx.is_store ?_); first | refine Nx.store_blk 0 rfl rfl rfl rfl rfl rfl rfl ?_ | refine Nx.store_blk 1 rfl rfl rfl rfl rfl rfl rfl ?_ | refine Nx.store_blk 2 rfl rfl rfl rfl rfl rfl rfl ?_ | refine Nx.store_blk 3 rfl rfl rfl rfl rfl rfl rfl ?_ | refine Nx.store_blk 4 rfl rfl rfl rfl rfl rfl rfl ?_)
            | ((with_reducible refine Nx.is_append ?_); first | refine Nx.append_lit 0 rfl rfl rfl rfl (by kernel_rfl) rfl rfl rfl rfl (by omega) (fun A2 c2 => ?_) | refine Nx.append_lit 1 rfl rfl rfl rfl (by kernel_rfl) rfl rfl rfl rfl (by omega) (fun A2 c2 => ?_) | refine Nx.append_lit 2 rfl rfl rfl rfl (by kernel_rfl) rfl rfl rfl rfl (by omega) (fun A2 c2 => ?_) | refine Nx.append_lit 3 rfl rfl rfl rfl (by kernel_rfl) rfl rfl rfl rfl (by omega) (fun A2 c2 => ?_) | refine Nx.append_lit 4 rfl rfl rfl rfl (by kernel_rfl) rfl rfl rfl rfl (by omega) (fun A2 c2 => ?_))
            | ((with_reducible refine Nx.is_call ?_); first | refine Nx.min2 rfl rfl rfl ?_ | refine Nx.max2 rfl rfl rfl ?_)
            | refine Nx.makeFunc rfl rfl rfl ?_
            | refine Nx.fieldAddr rfl rfl rfl ?_)
        | refine Nx.m_loud_no rfl rfl rfl rfl rfl rfl rfl ?_)
    | ((with_reducible refine Nx.is_mixS ?_); refine Nx.mix_S (by first | exact Ent.refl _ | exact Ent.drop (Ent.refl _) | exact Ent.drop (Ent.drop (Ent.refl _)) | exact Ent.drop (Ent.drop (Ent.drop (Ent.refl _)))) ?_)
  refine Nx.p_loop (σ := Nat × Option Addr × Nat) (fun s => [(2, .pointer (some ⟨bx, 0, none⟩)), (18, .slice A l.length cp), (19, .int .i64 l.length), (20, .int .i64 (s.1 : Int)), (7, .slice s.2.1 (protAt a l s.1).length s.2.2)])
    (fun s => [Vec 3 1 s.2.1 (protAt a l s.1).length s.2.2 ((protAt a l s.1).map (.int .i64)), Blk bx 24 [.int .i64 a, .int .i64 b, .int .i64 c, .int .i64 d], F]) (fun s => s.1 ≤ l.length) (fun s => l.length - s.1) (0, none, 0) rfl (Nat.zero_le _) ⟨rfl, rfl, rfl, rfl, rfl, trivial⟩ (Ent.vec_nil _ _ _) ?_
  rintro ⟨k, A', c'⟩ hk
  dsimp only at hk ⊢
  have hpl := protAt_len a l k
  repeat' first
    | ((with_reducible refine Nx.is_at ?_); first
        | (refine Nx.at_op rfl rfl ?_; first
            | refine Nx.opr rfl rfl ?_
            | refine Nx.indexAddr_nat rfl rfl rfl rfl rfl (by omega) (hl.isSome (by omega)) ?_
            | refine Nx.load rfl rfl rfl (hl.rd (by omega)) ?_
            | refine Nx.callv rfl rfl rfl (by kernel_rfl) rfl (few_spec _ _ _ _ _ _) ?_
            | ((with_reducible refine Nx.is_load ?_); first | refine Nx.load rfl rfl rfl (by first | exact Rd.at_ 0 rfl rfl | exact Rd.at_ 1 rfl rfl | exact Rd.at_ 2 rfl rfl | exact Rd.at_ 3 rfl rfl | exact Rd.at_ 4 rfl rfl | exact Rd.at_ 5 rfl rfl) ?_ | refine Nx.loads rfl rfl rfl rfl (by first | exact Rds.at_ 0 rfl | exact Rds.at_ 1 rfl | exact Rds.at_ 2 rfl | exact Rds.at_ 3 rfl | exact Rds.at_ 4 rfl | exact Rds.at_ 5 rfl) rfl ?_)
            | ((with_reducible refine Nx.is_bin ?_); first | refine Nx.add rfl rfl (by unfold I64; omega) rfl ?_ | refine Nx.sub rfl rfl (by unfold I64; omega) rfl ?_ | refine Nx.mul rfl rfl (by unfold I64; omega) rfl ?_ | refine Nx.rem rfl rfl (by omega) (by omega) rfl ?_ | refine Nx.quo rfl rfl (by omega) (by omega) (by unfold I64; omega) rfl ?_)
            | ((with_reducible refine Nx.is_conv ?_); first | refine Nx.conv_i64 rfl rfl rfl (by unfold I64; omega) rfl ?_)
            | ((with_reducible refine Nx.is_un ?_); first | refine Nx.not_dec rfl rfl ?_ | refine Nx.neg rfl (by unfold I64; omega) rfl ?_)
            | ((with_reducible refine Nx.is_build ?_); first | refine Nx.build rfl rfl (by kernel_rfl) rfl ?_)
            | ((with_reducible refine Nx.is_box ?_); first | refine Nx.box_agg rfl rfl (fun bx => ?_) | refine Nx.box1 rfl rfl rfl (fun bx => ?_))
            | ((with_reducible refine Nx.is_alloc ?_); first | refine Nx.alloc rfl rfl (fun bx => ?_))
            | ((with_reducible refine Nx.is_lit ?_); first | refine Nx.buildSlice rfl rfl rfl rfl rfl rfl rfl rfl rfl (fun bx => ?_))
            | ((with_reducible refine Nx.is_store ?_); first | refine Nx.store_blk 0 rfl rfl rfl rfl rfl rfl rfl ?_ | refine Nx.store_blk 1 rfl rfl rfl rfl rfl rfl rfl ?_ | refine Nx.store_blk 2 rfl rfl rfl rfl rfl rfl rfl ?_ | refine Nx.store_blk 3 rfl rfl rfl rfl rfl rfl rfl ?_ | refine Nx.store_blk 4 rfl rfl rfl rfl rfl rfl rfl ?_)
            | ((with_reducible refine Nx.is_append ?_); first | refine Nx.append_lit 0 rfl rfl rfl rfl (by kernel_rfl) rfl rfl rfl rfl (by omega) (fun A2 c2 => ?_) | refine Nx.append_lit 1 rfl rfl rfl rfl (by kernel_rfl) rfl rfl rfl rfl (by omega) (fun A2 c2 => ?_) | refine Nx.append_lit 2 rfl rfl rfl rfl (by kernel_rfl) rfl rfl rfl rfl (by omega) (fun A2 c2 => ?_) | refine Nx.append_lit 3 rfl rfl rfl rfl (by kernel_rfl) rfl rfl rfl rfl (by omega) (fun A2 c2 => ?_) | refine Nx.append_lit 4 rfl rfl rfl rfl (by kernel_rfl) rfl rfl rfl rfl (by omega) (fun A2 c2 => ?_))
            | ((with_reducible refine Nx.is_call ?_); first | refine Nx.min2 rfl rfl rfl ?_ | refine Nx.max2 rfl rfl rfl ?_)
            | refine Nx.makeFunc rfl rfl rfl ?_
            | refine Nx.fieldAddr rfl rfl rfl ?_)
        | refine Nx.at_no rfl rfl rfl rfl rfl rfl ?_
        | (refine Nx.at_do rfl rfl rfl rfl ?_; first
            | refine Nx.opr rfl rfl ?_
            | refine Nx.indexAddr_nat rfl rfl rfl rfl rfl (by omega) (hl.isSome (by omega)) ?_
            | refine Nx.load rfl rfl rfl (hl.rd (by omega)) ?_
            | refine Nx.callv rfl rfl rfl (by kernel_rfl) rfl (few_spec _ _ _ _ _ _) ?_
            | ((with_reducible refine Nx.is_load ?_); first | refine Nx.load rfl rfl rfl (by first | exact Rd.at_ 0 rfl rfl | exact Rd.at_ 1 rfl rfl | exact Rd.at_ 2 rfl rfl | exact Rd.at_ 3 rfl rfl | exact Rd.at_ 4 rfl rfl | exact Rd.at_ 5 rfl rfl) ?_ | refine Nx.loads rfl rfl rfl rfl (by first | exact Rds.at_ 0 rfl | exact Rds.at_ 1 rfl | exact Rds.at_ 2 rfl | exact Rds.at_ 3 rfl | exact Rds.at_ 4 rfl | exact Rds.at_ 5 rfl) rfl ?_)
            | ((with_reducible refine Nx.is_bin ?_); first | refine Nx.add rfl rfl (by unfold I64; omega) rfl ?_ | refine Nx.sub rfl rfl (by unfold I64; omega) rfl ?_ | refine Nx.mul rfl rfl (by unfold I64; omega) rfl ?_ | refine Nx.rem rfl rfl (by omega) (by omega) rfl ?_ | refine Nx.quo rfl rfl (by omega) (by omega) (by unfold I64; omega) rfl ?_)
            | ((with_reducible refine Nx.is_conv ?_); first | refine Nx.conv_i64 rfl rfl rfl (by unfold I64; omega) rfl ?_)
            | ((with_reducible refine Nx.is_un ?_); first | refine Nx.not_dec rfl rfl ?_ | refine Nx.neg rfl (by unfold I64; omega) rfl ?_)
            | ((with_reducible refine Nx.is_build ?_); first | refine Nx.build rfl rfl (by kernel_rfl) rfl ?_)
            | ((with_reducible refine Nx.is_box ?_); first | refine Nx.box_agg rfl rfl (fun bx => ?_) | refine Nx.box1 rfl rfl rfl (fun bx => ?_))
            | ((with_reducible refine Nx.is_alloc ?_); first | refine Nx.alloc rfl rfl (fun bx => ?_))
            | ((with_reducible refine Nx.is_lit ?_); first | refine Nx.buildSlice rfl rfl rfl rfl rfl rfl rfl rfl rfl (fun bx => ?_))
            | ((with_reducible refine Nx.is_store ?_); first | refine Nx.store_blk 0 rfl rfl rfl rfl rfl rfl rfl ?_ | refine Nx.store_blk 1 rfl rfl rfl rfl rfl rfl rfl ?_ | refine Nx.store_blk 2 rfl rfl rfl rfl rfl rfl rfl ?_ | refine Nx.store_blk 3 rfl rfl rfl rfl rfl rfl rfl ?_ | refine Nx.store_blk 4 rfl rfl rfl rfl rfl rfl rfl ?_)
            | ((with_reducible refine Nx.is_append ?_); first | refine Nx.append_lit 0 rfl rfl rfl rfl (by kernel_rfl) rfl rfl rfl rfl (by omega) (fun A2 c2 => ?_) | refine Nx.append_lit 1 rfl rfl rfl rfl (by kernel_rfl) rfl rfl rfl rfl (by omega) (fun A2 c2 => ?_) | refine Nx.append_lit 2 rfl rfl rfl rfl (by kernel_rfl) rfl rfl rfl rfl (by omega) (fun A2 c2 => ?_) | refine Nx.append_lit 3 rfl rfl rfl rfl (by kernel_rfl) rfl rfl rfl rfl (by omega) (fun A2 c2 => ?_) | refine Nx.append_lit 4 rfl rfl rfl rfl (by kernel_rfl) rfl rfl rfl rfl (by omega) (fun A2 c2 => ?_))
            | ((with_reducible refine Nx.is_call ?_); first | refine Nx.min2 rfl rfl rfl ?_ | refine Nx.max2 rfl rfl rfl ?_)
            | refine Nx.makeFunc rfl rfl rfl ?_
            | refine Nx.fieldAddr rfl rfl rfl ?_)
        | refine Nx.at_endt rfl ?_
        | ((fail_if_success refine Nx.at_do rfl rfl rfl rfl ?_); first | refine Nx.at_dec_t rfl rfl rfl rfl (by first | assumption | omega) ?_ | refine Nx.at_dec_f rfl rfl rfl rfl (by first | assumption | omega) ?_ | refine Nx.at_split rfl rfl rfl rfl (fun hc => ?_) (fun hc => ?_) | refine Nx.at_splitb rfl rfl rfl rfl (fun hc => ?_) (fun hc => ?_))
        | refine Nx.at_no0 rfl rfl rfl rfl rfl ?_
        | refine Nx.at_end rfl ?_)
    | ((with_reducible refine Nx.is_wp ?_); first
        | refine Nx.p_seq rfl ?_
        | refine Nx.p_region rfl ?_
        | refine Nx.p_ret rfl ?_
        | refine Nx.p_skip rfl ?_
        | refine Nx.p_exit rfl rfl ?_
        | refine Nx.p_block rfl rfl ?_
        | refine Nx.p_t rfl rfl ?_
        | refine Nx.p_f rfl rfl ?_
        | refine Nx.p_dec_t rfl rfl (by omega) ?_
        | refine Nx.p_dec_f rfl rfl (by omega) ?_
        | refine Nx.p_dec rfl rfl (fun hc => ?_) (fun hc => ?_)
        | refine Nx.p_bool rfl rfl (fun hc => ?_) (fun hc => ?_)
        | refine Nx.p_label rfl ?_)
    | with_reducible refine Nx.then_ret ?_
    | with_reducible refine Nx.in_ret ?_
    | with_reducible refine Nx.then_normal ?_
    | with_reducible refine Nx.in_normal ?_
    | with_reducible refine Nx.then_exit ?_
    | with_reducible refine Nx.in_exit ?_
    | refine Nx.in_other rfl ?_
    | ((with_reducible refine Nx.is_mix ?_); first
        | refine Nx.m_quiet rfl rfl rfl rfl rfl (by first
            | exact QRun.opr rfl
            | exact QRun.load rfl rfl (by first | exact Rd.at_ 0 rfl rfl | exact Rd.at_ 1 rfl rfl | exact Rd.at_ 2 rfl rfl | exact Rd.at_ 3 rfl rfl | exact Rd.at_ 4 rfl rfl | exact Rd.at_ 5 rfl rfl)
            | exact QRun.loads rfl rfl rfl (by first | exact Rds.at_ 0 rfl | exact Rds.at_ 1 rfl | exact Rds.at_ 2 rfl | exact Rds.at_ 3 rfl | exact Rds.at_ 4 rfl | exact Rds.at_ 5 rfl) rfl
            | exact QRun.add rfl rfl (by unfold I64; omega)
            | exact QRun.sub rfl rfl (by unfold I64; omega)
            | exact QRun.mul rfl rfl (by unfold I64; omega)) ?_
        | refine Nx.m_quiet_do rfl rfl rfl rfl rfl rfl rfl (by first
            | exact QRun.opr rfl
            | exact QRun.load rfl rfl (by first | exact Rd.at_ 0 rfl rfl | exact Rd.at_ 1 rfl rfl | exact Rd.at_ 2 rfl rfl | exact Rd.at_ 3 rfl rfl | exact Rd.at_ 4 rfl rfl | exact Rd.at_ 5 rfl rfl)
            | exact QRun.loads rfl rfl rfl (by first | exact Rds.at_ 0 rfl | exact Rds.at_ 1 rfl | exact Rds.at_ 2 rfl | exact Rds.at_ 3 rfl | exact Rds.at_ 4 rfl | exact Rds.at_ 5 rfl) rfl
            | exact QRun.add rfl rfl (by unfold I64; omega)
            | exact QRun.sub rfl rfl (by unfold I64; omega)
            | exact QRun.mul rfl rfl (by unfold I64; omega)) ?_
        | with_reducible refine Nx.mix_nil_then ?_
        | with_reducible refine Nx.mix_nil ?_
        | refine Nx.m_quiet_no rfl rfl rfl rfl rfl rfl rfl ?_
        | ((fail_if_success refine Nx.m_quiet_do rfl rfl rfl rfl rfl rfl rfl ?_ ?_); (fail_if_success refine Nx.m_loud_do rfl rfl rfl rfl rfl ?_); first | refine Nx.m_split rfl rfl rfl rfl (fun hc => ?_) (fun hc => ?_) | refine Nx.m_splitb rfl rfl rfl rfl (fun hc => ?_) (fun hc => ?_))
        | (refine Nx.m_loud rfl rfl rfl ?_; first
            | refine Nx.opr rfl rfl ?_
            | refine Nx.indexAddr_nat rfl rfl rfl rfl rfl (by omega) (hl.isSome (by omega)) ?_
            | refine Nx.load rfl rfl rfl (hl.rd (by omega)) ?_
            | refine Nx.callv rfl rfl rfl (by kernel_rfl) rfl (few_spec _ _ _ _ _ _) ?_
            | ((with_reducible refine Nx.is_load ?_); first | refine Nx.load rfl rfl rfl (by first | exact Rd.at_ 0 rfl rfl | exact Rd.at_ 1 rfl rfl | exact Rd.at_ 2 rfl rfl | exact Rd.at_ 3 rfl rfl | exact Rd.at_ 4 rfl rfl | exact Rd.at_ 5 rfl rfl) ?_ | refine Nx.loads rfl rfl rfl rfl (by first | exact Rds.at_ 0 rfl | exact Rds.at_ 1 rfl | exact Rds.at_ 2 rfl | exact Rds.at_ 3 rfl | exact Rds.at_ 4 rfl | exact Rds.at_ 5 rfl) rfl ?_)
            | ((with_reducible refine Nx.is_bin ?_); first | refine Nx.add rfl rfl (by unfold I64; omega) rfl ?_ | refine Nx.sub rfl rfl (by unfold I64; omega) rfl ?_ | refine Nx.mul rfl rfl (by unfold I64; omega) rfl ?_ | refine Nx.rem rfl rfl (by omega) (by omega) rfl ?_ | refine Nx.quo rfl rfl (by omega) (by omega) (by unfold I64; omega) rfl ?_)
            | ((with_reducible refine Nx.is_conv ?_); first | refine Nx.conv_i64 rfl rfl rfl (by unfold I64; omega) rfl ?_)
            | ((with_reducible refine Nx.is_un ?_); first | refine Nx.not_dec rfl rfl ?_ | refine Nx.neg rfl (by unfold I64; omega) rfl ?_)
            | ((with_reducible refine Nx.is_build ?_); first | refine Nx.build rfl rfl (by kernel_rfl) rfl ?_)
            | ((with_reducible refine Nx.is_box ?_); first | refine Nx.box_agg rfl rfl (fun bx => ?_) | refine Nx.box1 rfl rfl rfl (fun bx => ?_))
            | ((with_reducible refine Nx.is_alloc ?_); first | refine Nx.alloc rfl rfl (fun bx => ?_))
            | ((with_reducible refine Nx.is_lit ?_); first | refine Nx.buildSlice rfl rfl rfl rfl rfl rfl rfl rfl rfl (fun bx => ?_))
            | ((with_reducible refine Nx.is_store ?_); first | refine Nx.store_blk 0 rfl rfl rfl rfl rfl rfl rfl ?_ | refine Nx.store_blk 1 rfl rfl rfl rfl rfl rfl rfl ?_ | refine Nx.store_blk 2 rfl rfl rfl rfl rfl rfl rfl ?_ | refine Nx.store_blk 3 rfl rfl rfl rfl rfl rfl rfl ?_ | refine Nx.store_blk 4 rfl rfl rfl rfl rfl rfl rfl ?_)
            | ((with_reducible refine Nx.is_append ?_); first | refine Nx.append_lit 0 rfl rfl rfl rfl (by kernel_rfl) rfl rfl rfl rfl (by omega) (fun A2 c2 => ?_) | refine Nx.append_lit 1 rfl rfl rfl rfl (by kernel_rfl) rfl rfl rfl rfl (by omega) (fun A2 c2 => ?_) | refine Nx.append_lit 2 rfl rfl rfl rfl (by kernel_rfl) rfl rfl rfl rfl (by omega) (fun A2 c2 => ?_) | refine Nx.append_lit 3 rfl rfl rfl rfl (by kernel_rfl) rfl rfl rfl rfl (by omega) (fun A2 c2 => ?_) | refine Nx.append_lit 4 rfl rfl rfl rfl (by kernel_rfl) rfl rfl rfl rfl (by omega) (fun A2 c2 => ?_))
            | ((with_reducible refine Nx.is_call ?_); first | refine Nx.min2 rfl rfl rfl ?_ | refine Nx.max2 rfl rfl rfl ?_)
            | refine Nx.makeFunc rfl rfl rfl ?_
            | refine Nx.fieldAddr rfl rfl rfl ?_)
        | (refine Nx.m_loud_do rfl rfl rfl rfl rfl ?_; first
            | refine Nx.opr rfl rfl ?_
            | refine Nx.indexAddr_nat rfl rfl rfl rfl rfl (by omega) (hl.isSome (by omega)) ?_
            | refine Nx.load rfl rfl rfl (hl.rd (by omega)) ?_
            | refine Nx.callv rfl rfl rfl (by kernel_rfl) rfl (few_spec _ _ _ _ _ _) ?_
            | ((with_reducible refine Nx.is_load ?_); first | refine Nx.load rfl rfl rfl (by first | exact Rd.at_ 0 rfl rfl | exact Rd.at_ 1 rfl rfl | exact Rd.at_ 2 rfl rfl | exact Rd.at_ 3 rfl rfl | exact Rd.at_ 4 rfl rfl | exact Rd.at_ 5 rfl rfl) ?_ | refine Nx.loads rfl rfl rfl rfl (by first | exact Rds.at_ 0 rfl | exact Rds.at_ 1 rfl | exact Rds.at_ 2 rfl | exact Rds.at_ 3 rfl | exact Rds.at_ 4 rfl | exact Rds.at_ 5 rfl) rfl ?_)
            | ((with_reducible refine Nx.is_bin ?_); first | refine Nx.add rfl rfl (by unfold I64; omega) rfl ?_ | refine Nx.sub rfl rfl (by unfold I64; omega) rfl ?_ | refine Nx.mul rfl rfl (by unfold I64; omega) rfl ?_ | refine Nx.rem rfl rfl (by omega) (by omega) rfl ?_ | refine Nx.quo rfl rfl (by omega) (by omega) (by unfold I64; omega) rfl ?_)
            | ((with_reducible refine Nx.is_conv ?_); first | refine Nx.conv_i64 rfl rfl rfl (by unfold I64; omega) rfl ?_)
            | ((with_reducible refine Nx.is_un ?_); first | refine Nx.not_dec rfl rfl ?_ | refine Nx.neg rfl (by unfold I64; omega) rfl ?_)
            | ((with_reducible refine Nx.is_build ?_); first | refine Nx.build rfl rfl (by kernel_rfl) rfl ?_)
            | ((with_reducible refine Nx.is_box ?_); first | refine Nx.box_agg rfl rfl (fun bx => ?_) | refine Nx.box1 rfl rfl rfl (fun bx => ?_))
            | ((with_reducible refine Nx.is_alloc ?_); first | refine Nx.alloc rfl rfl (fun bx => ?_))
            | ((with_reducible refine Nx.is_lit ?_); first | refine Nx.buildSlice rfl rfl rfl rfl rfl rfl rfl rfl rfl (fun bx => ?_))
            | ((with_reducible refine Nx.is_store ?_); first | refine Nx.store_blk 0 rfl rfl rfl rfl rfl rfl rfl ?_ | refine Nx.store_blk 1 rfl rfl rfl rfl rfl rfl rfl ?_ | refine Nx.store_blk 2 rfl rfl rfl rfl rfl rfl rfl ?_ | refine Nx.store_blk 3 rfl rfl rfl rfl rfl rfl rfl ?_ | refine Nx.store_blk 4 rfl rfl rfl rfl rfl rfl rfl ?_)
            | ((with_reducible refine Nx.is_append ?_); first | refine Nx.append_lit 0 rfl rfl rfl rfl (by kernel_rfl) rfl rfl rfl rfl (by omega) (fun A2 c2 => ?_) | refine Nx.append_lit 1 rfl rfl rfl rfl (by kernel_rfl) rfl rfl rfl rfl (by omega) (fun A2 c2 => ?_) | refine Nx.append_lit 2 rfl rfl rfl rfl (by kernel_rfl) rfl rfl rfl rfl (by omega) (fun A2 c2 => ?_) | refine Nx.append_lit 3 rfl rfl rfl rfl (by kernel_rfl) rfl rfl rfl rfl (by omega) (fun A2 c2 => ?_) | refine Nx.append_lit 4 rfl rfl rfl rfl (by kernel_rfl) rfl rfl rfl rfl (by omega) (fun A2 c2 => ?_))
            | ((with_reducible refine Nx.is_call ?_); first | refine Nx.min2 rfl rfl rfl ?_ | refine Nx.max2 rfl rfl rfl ?_)
            | refine Nx.makeFunc rfl rfl rfl ?_
            | refine Nx.fieldAddr rfl rfl rfl ?_)
        | refine Nx.m_loud_no rfl rfl rfl rfl rfl rfl rfl ?_)
    | ((with_reducible refine Nx.is_mixS ?_); refine Nx.mix_S (by first | exact Ent.refl _ | exact Ent.drop (Ent.refl _) | exact Ent.drop (Ent.drop (Ent.refl _)) | exact Ent.drop (Ent.drop (Ent.drop (Ent.refl _)))) ?_)
  · have e1 : protAt a l (k + 1) = protAt a l k ++ [(k : Int)] := by rw [protAt_succ, if_pos (by simp only [fewB, decide_eq_true_eq]; exact hc)]
    refine Nx.again (k + 1, A2, c2) (by dsimp only; omega) (by dsimp only; omega) ⟨rfl, rfl, rfl, rfl, by rw [e1, List.length_append]; rfl, trivial⟩ ?_
    rw [e1, List.length_append, List.map_append]
    exact Ent.refl _
  · have e1 : protAt a l (k + 1) = protAt a l k := by rw [protAt_succ, if_neg (by simp only [fewB, decide_eq_true_eq]; exact hc), List.append_nil]
    refine Nx.again (k + 1, A', c') (by dsimp only; omega) (by dsimp only; omega) ⟨rfl, rfl, rfl, rfl, by rw [e1]; rfl, trivial⟩ ?_
    rw [e1]
    exact Ent.refl _
  · obtain rfl : k = l.length := by omega
    exact Nx.ret_fn rfl [_] ⟨A', c', rfl, rfl⟩ (Ent.cons (Ent.drop (Ent.refl _)))
end Go.Proofs.Ytcnkjmkcoahdmaa
