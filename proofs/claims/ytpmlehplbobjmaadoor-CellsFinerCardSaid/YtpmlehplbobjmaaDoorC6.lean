/- Contracts of functions of the given program, and lemmas about plain lists and numbers: what the laws of this seat lean on. -/
import Derived.Test.YtpmlehplbobjmaaDoorC5
namespace Go.Proofs.YtpmlehplbobjmaaDoor
open Go.Eng
attribute [local irreducible] opK wpList Code.wp Exit.then Exit.inBlock fnPost bodyPost Nx Calls Oper.wp Rd Rds Wr Ent Stars Blk Again Vec FnSpec wpMix QRun Stop Upto wpAt
theorem Space_spec (b : Nat) (A : Option Addr) (c : Nat) (l : List Int) (k : Nat) (I : PH) (hl : SliceOf (fun x : Int => Value.int .u8 x) I A c l) (hx : ∀ x ∈ l, 0 ≤ x ∧ x < 256) (hk : k ≤ l.length) :
    FnSpec Tryd.prog 7 [.pointer (some ⟨b, 0, none⟩)] I [Blk b 55 [.slice A l.length c, .int .i64 (k : Int)]]
      (fun v R' => ∃ (B : Option Addr) (c' : Nat) (s : List Int) (k' : Nat), v = .agg #[.slice B s.length c'] ∧ Sizes s ∧ k' ≤ l.length ∧ R' = [Vec 3 1 B s.length c' (s.map (Value.int .i64)), Blk b 55 [.slice A l.length c, .int .i64 (k' : Int)]]) := by
  refine FnSpec.enterP Tryd.func7 rfl Tryd.ntmps7 rfl fun w F => ?_
  repeat' first
    | ((with_reducible refine Nx.is_wp ?_); first | refine Nx.wo ?_ | refine Nx.p_dec rfl rfl (fun hc => ?_) (fun hc => ?_) | refine Nx.p_bool rfl rfl (fun hc => ?_) (fun hc => ?_))
    | ((first | refine Nx.at_op rfl rfl ?_ | refine Nx.m_loud rfl rfl rfl ?_ | refine Nx.at_do rfl rfl rfl rfl ?_ | refine Nx.m_loud_do rfl rfl rfl rfl rfl ?_); first | refine Nx.opr rfl rfl ?_ | refine Nx.so ?_ | refine Nx.sb (fun bx => ?_) | refine Nx.sa (fun A2 c2 => ?_))
    | ((with_reducible refine Nx.is_at ?_); first | refine Nx.a ?_ | ((fail_if_success refine Nx.at_do rfl rfl rfl rfl ?_); first | refine Nx.at_dec_t rfl rfl rfl rfl (by first | assumption | omega) ?_ | refine Nx.at_dec_f rfl rfl rfl rfl (by first | assumption | omega) ?_ | refine Nx.at_split rfl rfl rfl rfl (fun hc => ?_) (fun hc => ?_) | refine Nx.at_splitb rfl rfl rfl rfl (fun hc => ?_) (fun hc => ?_)))
    | ((with_reducible refine Nx.is_mix ?_); first | refine Nx.m ?_ | ((fail_if_success refine Nx.m_quiet_do rfl rfl rfl rfl rfl rfl rfl ?_ ?_); (fail_if_success refine Nx.m_loud_do rfl rfl rfl rfl rfl ?_); first | refine Nx.m_dec_t rfl rfl rfl rfl (by first | assumption | omega) ?_ | refine Nx.m_dec_f rfl rfl rfl rfl (by first | assumption | omega) ?_ | refine Nx.m_split rfl rfl rfl rfl (fun hc => ?_) (fun hc => ?_) | refine Nx.m_splitb rfl rfl rfl rfl (fun hc => ?_) (fun hc => ?_)))
    | ((fail_if_success (with_reducible refine Nx.is_at ?_)); (fail_if_success (with_reducible refine Nx.is_wp ?_)); (fail_if_success (with_reducible refine Nx.is_mix ?_)); first | refine Nx.ex ?_)
  refine Nx.pull 11 rfl ?_
  refine Nx.at_op rfl rfl ?_
  refine Nx.call rfl rfl rfl (by kernel_rfl) rfl (Next_spec b A c l k 9 I hl hx hk (by omega)) (Ent.refl _) ?_
  rintro v R' ⟨r, k', rfl, hr, hk', rfl⟩
  have hr9 : r = 0 ∨ r = 1 ∨ r = 2 ∨ r = 3 ∨ r = 4 ∨ r = 5 ∨ r = 6 ∨ r = 7 ∨ r = 8 := by omega
  rcases hr9 with rfl | rfl | rfl | rfl | rfl | rfl | rfl | rfl | rfl
  all_goals repeat' first
              | ((with_reducible refine Nx.is_wp ?_); first | refine Nx.wo ?_ | refine Nx.p_dec rfl rfl (fun hc => ?_) (fun hc => ?_) | refine Nx.p_bool rfl rfl (fun hc => ?_) (fun hc => ?_))
              | ((first | refine Nx.at_op rfl rfl ?_ | refine Nx.m_loud rfl rfl rfl ?_ | refine Nx.at_do rfl rfl rfl rfl ?_ | refine Nx.m_loud_do rfl rfl rfl rfl rfl ?_); first | refine Nx.opr rfl rfl ?_ | refine Nx.indexAddr rfl rfl rfl rfl rfl (by decide) (by decide) rfl ?_ | refine Nx.so ?_ | refine Nx.sb (fun bx => ?_) | refine Nx.sa (fun A2 c2 => ?_))
              | ((with_reducible refine Nx.is_at ?_); first | refine Nx.a ?_ | ((fail_if_success refine Nx.at_do rfl rfl rfl rfl ?_); first | refine Nx.at_dec_t rfl rfl rfl rfl (by first | assumption | omega) ?_ | refine Nx.at_dec_f rfl rfl rfl rfl (by first | assumption | omega) ?_ | refine Nx.at_split rfl rfl rfl rfl (fun hc => ?_) (fun hc => ?_) | refine Nx.at_splitb rfl rfl rfl rfl (fun hc => ?_) (fun hc => ?_)))
              | ((with_reducible refine Nx.is_mix ?_); first | refine Nx.m ?_ | ((fail_if_success refine Nx.m_quiet_do rfl rfl rfl rfl rfl rfl rfl ?_ ?_); (fail_if_success refine Nx.m_loud_do rfl rfl rfl rfl rfl ?_); first | refine Nx.m_dec_t rfl rfl rfl rfl (by first | assumption | omega) ?_ | refine Nx.m_dec_f rfl rfl rfl rfl (by first | assumption | omega) ?_ | refine Nx.m_split rfl rfl rfl rfl (fun hc => ?_) (fun hc => ?_) | refine Nx.m_splitb rfl rfl rfl rfl (fun hc => ?_) (fun hc => ?_)))
              | ((fail_if_success (with_reducible refine Nx.is_at ?_)); (fail_if_success (with_reducible refine Nx.is_wp ?_)); (fail_if_success (with_reducible refine Nx.is_mix ?_)); first | refine Nx.ex ?_)
  all_goals refine Nx.blk_vec 0 0 1 rfl rfl (by omega) ?_
  all_goals first
    | (refine Nx.pull 11 rfl ?_; refine Nx.at_op rfl rfl ?_; refine Nx.append_lit 0 rfl rfl rfl rfl (by kernel_rfl) rfl rfl rfl rfl (by omega) (fun A2 c2 => ?_))
    | (refine Nx.pull 10 rfl ?_; refine Nx.at_op rfl rfl ?_; refine Nx.append_lit 0 rfl rfl rfl rfl (by kernel_rfl) rfl rfl rfl rfl (by omega) (fun A2 c2 => ?_))
    | (refine Nx.pull 9 rfl ?_; refine Nx.at_op rfl rfl ?_; refine Nx.append_lit 0 rfl rfl rfl rfl (by kernel_rfl) rfl rfl rfl rfl (by omega) (fun A2 c2 => ?_))
    | (refine Nx.pull 8 rfl ?_; refine Nx.at_op rfl rfl ?_; refine Nx.append_lit 0 rfl rfl rfl rfl (by kernel_rfl) rfl rfl rfl rfl (by omega) (fun A2 c2 => ?_))
    | (refine Nx.pull 7 rfl ?_; refine Nx.at_op rfl rfl ?_; refine Nx.append_lit 0 rfl rfl rfl rfl (by kernel_rfl) rfl rfl rfl rfl (by omega) (fun A2 c2 => ?_))
    | (refine Nx.pull 6 rfl ?_; refine Nx.at_op rfl rfl ?_; refine Nx.append_lit 0 rfl rfl rfl rfl (by kernel_rfl) rfl rfl rfl rfl (by omega) (fun A2 c2 => ?_))
    | (refine Nx.pull 5 rfl ?_; refine Nx.at_op rfl rfl ?_; refine Nx.append_lit 0 rfl rfl rfl rfl (by kernel_rfl) rfl rfl rfl rfl (by omega) (fun A2 c2 => ?_))
    | (refine Nx.pull 4 rfl ?_; refine Nx.at_op rfl rfl ?_; refine Nx.append_lit 0 rfl rfl rfl rfl (by kernel_rfl) rfl rfl rfl rfl (by omega) (fun A2 c2 => ?_))
    | (refine Nx.pull 3 rfl ?_; refine Nx.at_op rfl rfl ?_; refine Nx.append_lit 0 rfl rfl rfl rfl (by kernel_rfl) rfl rfl rfl rfl (by omega) (fun A2 c2 => ?_))
  all_goals refine Nx.pull 11 rfl ?_
  all_goals repeat' first
              | ((with_reducible refine Nx.is_wp ?_); first | refine Nx.wo ?_ | refine Nx.p_dec rfl rfl (fun hc => ?_) (fun hc => ?_) | refine Nx.p_bool rfl rfl (fun hc => ?_) (fun hc => ?_))
              | ((first | refine Nx.at_op rfl rfl ?_ | refine Nx.m_loud rfl rfl rfl ?_ | refine Nx.at_do rfl rfl rfl rfl ?_ | refine Nx.m_loud_do rfl rfl rfl rfl rfl ?_); first | refine Nx.opr rfl rfl ?_ | refine Nx.so ?_ | refine Nx.sb (fun bx => ?_) | refine Nx.sa (fun A2 c2 => ?_))
              | ((with_reducible refine Nx.is_at ?_); first | refine Nx.a ?_ | ((fail_if_success refine Nx.at_do rfl rfl rfl rfl ?_); first | refine Nx.at_dec_t rfl rfl rfl rfl (by first | assumption | omega) ?_ | refine Nx.at_dec_f rfl rfl rfl rfl (by first | assumption | omega) ?_ | refine Nx.at_split rfl rfl rfl rfl (fun hc => ?_) (fun hc => ?_) | refine Nx.at_splitb rfl rfl rfl rfl (fun hc => ?_) (fun hc => ?_)))
              | ((with_reducible refine Nx.is_mix ?_); first | refine Nx.m ?_ | ((fail_if_success refine Nx.m_quiet_do rfl rfl rfl rfl rfl rfl rfl ?_ ?_); (fail_if_success refine Nx.m_loud_do rfl rfl rfl rfl rfl ?_); first | refine Nx.m_dec_t rfl rfl rfl rfl (by first | assumption | omega) ?_ | refine Nx.m_dec_f rfl rfl rfl rfl (by first | assumption | omega) ?_ | refine Nx.m_split rfl rfl rfl rfl (fun hc => ?_) (fun hc => ?_) | refine Nx.m_splitb rfl rfl rfl rfl (fun hc => ?_) (fun hc => ?_)))
              | ((fail_if_success (with_reducible refine Nx.is_at ?_)); (fail_if_success (with_reducible refine Nx.is_wp ?_)); (fail_if_success (with_reducible refine Nx.is_mix ?_)); first | refine Nx.ex ?_)
  all_goals first
    | (refine Nx.ret_cell 0 rfl rfl rfl rfl rfl rfl [Vec 3 1 _ (0 + 1) _ ([] ++ [.int .i64 2]), _] ⟨_, _, [2], k', rfl, ⟨by decide, by decide, by decide⟩, hk', rfl⟩ ?_; refine Ent.pick 1 rfl ?_)
    | (refine Nx.ret_cell 0 rfl rfl rfl rfl rfl rfl [Vec 3 1 _ (0 + 1) _ ([] ++ [.int .i64 3]), _] ⟨_, _, [3], k', rfl, ⟨by decide, by decide, by decide⟩, hk', rfl⟩ ?_; refine Ent.pick 1 rfl ?_)
    | (refine Nx.ret_cell 0 rfl rfl rfl rfl rfl rfl [Vec 3 1 _ (0 + 2) _ ([] ++ [.int .i64 2, .int .i64 2]), _] ⟨_, _, [2, 2], k', rfl, ⟨by decide, by decide, by decide⟩, hk', rfl⟩ ?_; refine Ent.pick 1 rfl ?_)
    | (refine Nx.ret_cell 0 rfl rfl rfl rfl rfl rfl [Vec 3 1 _ (0 + 2) _ ([] ++ [.int .i64 2, .int .i64 3]), _] ⟨_, _, [2, 3], k', rfl, ⟨by decide, by decide, by decide⟩, hk', rfl⟩ ?_; refine Ent.pick 1 rfl ?_)
    | (refine Nx.ret_cell 0 rfl rfl rfl rfl rfl rfl [Vec 3 1 _ (0 + 1) _ ([] ++ [.int .i64 4]), _] ⟨_, _, [4], k', rfl, ⟨by decide, by decide, by decide⟩, hk', rfl⟩ ?_; refine Ent.pick 1 rfl ?_)
    | (refine Nx.ret_cell 0 rfl rfl rfl rfl rfl rfl [Vec 3 1 _ (0 + 3) _ ([] ++ [.int .i64 2, .int .i64 2, .int .i64 2]), _] ⟨_, _, [2, 2, 2], k', rfl, ⟨by decide, by decide, by decide⟩, hk', rfl⟩ ?_; refine Ent.pick 1 rfl ?_)
    | (refine Nx.ret_cell 0 rfl rfl rfl rfl rfl rfl [Vec 3 1 _ (0 + 2) _ ([] ++ [.int .i64 3, .int .i64 2]), _] ⟨_, _, [3, 2], k', rfl, ⟨by decide, by decide, by decide⟩, hk', rfl⟩ ?_; refine Ent.pick 1 rfl ?_)
    | (refine Nx.ret_cell 0 rfl rfl rfl rfl rfl rfl [Vec 3 1 _ (0 + 1) _ ([] ++ [.int .i64 6]), _] ⟨_, _, [6], k', rfl, ⟨by decide, by decide, by decide⟩, hk', rfl⟩ ?_; refine Ent.pick 1 rfl ?_)
    | (refine Nx.ret_cell 0 rfl rfl rfl rfl rfl rfl [Vec 3 1 _ (0 + 2) _ ([] ++ [.int .i64 1, .int .i64 3]), _] ⟨_, _, [1, 3], k', rfl, ⟨by decide, by decide, by decide⟩, hk', rfl⟩ ?_; refine Ent.pick 1 rfl ?_)
  all_goals (first | done | (repeat first | exact Ent.refl _ | exact Ent.nil _ | refine Ent.pick 0 rfl ?_ | refine Ent.pick 1 rfl ?_ | refine Ent.pick 2 rfl ?_ | refine Ent.pick 3 rfl ?_ | refine Ent.pick 4 rfl ?_ | refine Ent.pick 5 rfl ?_ | refine Ent.pick 6 rfl ?_ | refine Ent.pick 7 rfl ?_ | refine Ent.pick 8 rfl ?_ | refine Ent.pick 9 rfl ?_ | refine Ent.pick 10 rfl ?_ | refine Ent.pick 11 rfl ?_ | refine Ent.pick 12 rfl ?_ | refine Ent.pick 13 rfl ?_ | refine Ent.pick 14 rfl ?_))
end Go.Proofs.YtpmlehplbobjmaaDoor
