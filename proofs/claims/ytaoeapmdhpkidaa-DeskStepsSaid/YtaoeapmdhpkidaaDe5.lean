/- Contracts of functions of the given program, and lemmas about plain lists and numbers: what the laws of this seat lean on. -/
import Derived.Test.YtaoeapmdhpkidaaDe4
namespace Go.Proofs.Ytaoeapmdhpkidaa
open Go.Eng
def l0 : List Shift := [([97, 110, 110], 0, 10), ([98, 111, 98], 5, 15)]
theorem l0_ok : checkE l0 = 0 := by decide
theorem l0_sh : ∀ x ∈ l0, shOk x := by
  intro x hx
  simp only [l0, List.mem_cons, List.not_mem_nil, or_false] at hx
  rcases hx with rfl | rfl <;> exact ⟨by decide, by unfold I64; decide, by unfold I64; decide⟩
section
attribute [local irreducible] opK wpList Code.wp Exit.then Exit.inBlock fnPost bodyPost Nx Calls Oper.wp Rd Rds Wr Ent Stars Blk Again Vec FnSpec wpMix QRun Stop Upto wpAt
end
end Go.Proofs.Ytaoeapmdhpkidaa
/- Contracts of functions of the given program, and lemmas about plain lists and numbers: what the laws of this seat lean on. -/
namespace Go.Proofs.Ytaoeapmdhpkidaa
open Go.Eng
attribute [local irreducible] opK wpList Code.wp Exit.then Exit.inBlock fnPost bodyPost Nx Calls Oper.wp Rd Rds Wr Ent Stars Blk Again Vec FnSpec wpMix QRun Stop Upto wpAt
set_option maxRecDepth 10000 in
theorem IdxT_spec (A : Option Addr) (cp : Nat) (l : List (List UInt8)) (x : List UInt8) (I : PH) (hl : Texts I A cp l) :
    FnSpec Try.prog 85 [.slice A l.length cp, strV x] I [] (fun v R' => (∃ i : Int, v = .int .i64 i ∧ decide (0 ≤ i) = l.contains x) ∧ R' = []) := by
  refine FnSpec.enterP Try.func85 rfl Try.ntmps85 rfl fun w F => ?_
  repeat' first
    | ((with_reducible refine Nx.is_wp ?_); first | refine Nx.wo ?_ | refine Nx.p_dec rfl rfl (fun hc => ?_) (fun hc => ?_) | refine Nx.p_bool rfl rfl (fun hc => ?_) (fun hc => ?_))
    | ((first | refine Nx.at_op rfl rfl ?_ | refine Nx.m_loud rfl rfl rfl ?_ | refine Nx.at_do rfl rfl rfl rfl ?_ | refine Nx.m_loud_do rfl rfl rfl rfl rfl ?_); first | refine Nx.opr rfl rfl ?_ | refine Nx.so ?_ | refine Nx.sb (fun bx => ?_) | refine Nx.sa (fun A2 c2 => ?_))
    | ((with_reducible refine Nx.is_at ?_); first | refine Nx.a ?_ | ((fail_if_success refine Nx.at_do rfl rfl rfl rfl ?_); first | refine Nx.at_dec_t rfl rfl rfl rfl (by first | assumption | omega) ?_ | refine Nx.at_dec_f rfl rfl rfl rfl (by first | assumption | omega) ?_ | refine Nx.at_split rfl rfl rfl rfl (fun hc => ?_) (fun hc => ?_) | refine Nx.at_splitb rfl rfl rfl rfl (fun hc => ?_) (fun hc => ?_)))
    | ((with_reducible refine Nx.is_mix ?_); first | refine Nx.m ?_ | ((fail_if_success refine Nx.m_quiet_do rfl rfl rfl rfl rfl rfl rfl ?_ ?_); (fail_if_success refine Nx.m_loud_do rfl rfl rfl rfl rfl ?_); first | refine Nx.m_dec_t rfl rfl rfl rfl (by first | assumption | omega) ?_ | refine Nx.m_dec_f rfl rfl rfl rfl (by first | assumption | omega) ?_ | refine Nx.m_split rfl rfl rfl rfl (fun hc => ?_) (fun hc => ?_) | refine Nx.m_splitb rfl rfl rfl rfl (fun hc => ?_) (fun hc => ?_)))
    | ((fail_if_success (with_reducible refine Nx.is_at ?_)); (fail_if_success (with_reducible refine Nx.is_wp ?_)); (fail_if_success (with_reducible refine Nx.is_mix ?_)); first | refine Nx.ex ?_)
  have hlen := hl.len
  refine Nx.p_loop (σ := Nat) (fun k => [(0, .slice A l.length cp), (1, strV x), (7, .int .i64 l.length), (8, .int .i64 (k : Int))])
    (fun _ => [F]) (fun k => k ≤ l.length ∧ x ∉ l.take k) (fun k => l.length - k) 0 rfl ⟨Nat.zero_le _, by simp⟩ ⟨rfl, rfl, rfl, rfl, trivial⟩ (Ent.refl _) ?_
  rintro k ⟨hk, hno⟩
  by_cases hlt : k < l.length
  · repeat' first
      | ((with_reducible refine Nx.is_wp ?_); first | refine Nx.wo ?_ | refine Nx.p_dec rfl rfl (fun hc => ?_) (fun hc => ?_) | refine Nx.p_bool rfl rfl (fun hc => ?_) (fun hc => ?_))
      | ((first | refine Nx.at_op rfl rfl ?_ | refine Nx.m_loud rfl rfl rfl ?_ | refine Nx.at_do rfl rfl rfl rfl ?_ | refine Nx.m_loud_do rfl rfl rfl rfl rfl ?_); first | refine Nx.opr rfl rfl ?_ | refine Nx.indexAddr_nat rfl rfl rfl rfl rfl (by omega) (hl.isSome (by omega)) ?_ | refine Nx.load rfl rfl rfl (hl.rd (by omega)) ?_ | refine Nx.so ?_ | refine Nx.sb (fun bx => ?_) | refine Nx.sa (fun A2 c2 => ?_))
      | ((with_reducible refine Nx.is_at ?_); first | refine Nx.a ?_ | ((fail_if_success refine Nx.at_do rfl rfl rfl rfl ?_); first | refine Nx.at_dec_t rfl rfl rfl rfl (by first | assumption | omega) ?_ | refine Nx.at_dec_f rfl rfl rfl rfl (by first | assumption | omega) ?_ | refine Nx.at_split rfl rfl rfl rfl (fun hc => ?_) (fun hc => ?_) | refine Nx.at_splitb rfl rfl rfl rfl (fun hc => ?_) (fun hc => ?_)))
      | ((with_reducible refine Nx.is_mix ?_); first | refine Nx.m ?_ | ((fail_if_success refine Nx.m_quiet_do rfl rfl rfl rfl rfl rfl rfl ?_ ?_); (fail_if_success refine Nx.m_loud_do rfl rfl rfl rfl rfl ?_); first | refine Nx.m_dec_t rfl rfl rfl rfl (by first | assumption | omega) ?_ | refine Nx.m_dec_f rfl rfl rfl rfl (by first | assumption | omega) ?_ | refine Nx.m_split rfl rfl rfl rfl (fun hc => ?_) (fun hc => ?_) | refine Nx.m_splitb rfl rfl rfl rfl (fun hc => ?_) (fun hc => ?_)))
      | ((fail_if_success (with_reducible refine Nx.is_at ?_)); (fail_if_success (with_reducible refine Nx.is_wp ?_)); (fail_if_success (with_reducible refine Nx.is_mix ?_)); first | refine Nx.ex ?_)
    · rw [ByteArray.toList_mk, ByteArray.toList_mk] at hc
      have he : x = l.getD k default := by simpa using hc
      refine Nx.ret_fn rfl [] ⟨⟨_, rfl, ?_⟩, rfl⟩ (Ent.refl _)
      rw [show decide ((0 : Int) ≤ k) = true by simp, Eq.comm, List.contains_iff_mem, he, tx_at hlt]
      exact List.getElem_mem _
    · rw [ByteArray.toList_mk, ByteArray.toList_mk] at hc
      have he : x ≠ l.getD k default := by
        intro h
        have hc : (x == l.getD k default) = false := hc
        rw [← h, beq_self_eq_true] at hc; cases hc
      refine Nx.again (k + 1) ⟨hlt, ?_⟩ (by omega) ⟨rfl, rfl, rfl, rfl, trivial⟩ (Ent.refl _)
      rw [List.take_succ_eq_append_getElem hlt, List.mem_append, List.mem_singleton, ← tx_at hlt]
      rintro (h | h)
      · exact hno h
      · exact he h
  · obtain rfl : k = l.length := by omega
    repeat' first
      | ((with_reducible refine Nx.is_wp ?_); first | refine Nx.wo ?_ | refine Nx.p_dec rfl rfl (fun hc => ?_) (fun hc => ?_) | refine Nx.p_bool rfl rfl (fun hc => ?_) (fun hc => ?_))
      | ((first | refine Nx.at_op rfl rfl ?_ | refine Nx.m_loud rfl rfl rfl ?_ | refine Nx.at_do rfl rfl rfl rfl ?_ | refine Nx.m_loud_do rfl rfl rfl rfl rfl ?_); first | refine Nx.opr rfl rfl ?_ | refine Nx.so ?_ | refine Nx.sb (fun bx => ?_) | refine Nx.sa (fun A2 c2 => ?_))
      | ((with_reducible refine Nx.is_at ?_); first | refine Nx.a ?_ | ((fail_if_success refine Nx.at_do rfl rfl rfl rfl ?_); first | refine Nx.at_dec_t rfl rfl rfl rfl (by first | assumption | omega) ?_ | refine Nx.at_dec_f rfl rfl rfl rfl (by first | assumption | omega) ?_ | refine Nx.at_split rfl rfl rfl rfl (fun hc => ?_) (fun hc => ?_) | refine Nx.at_splitb rfl rfl rfl rfl (fun hc => ?_) (fun hc => ?_)))
      | ((with_reducible refine Nx.is_mix ?_); first | refine Nx.m ?_ | ((fail_if_success refine Nx.m_quiet_do rfl rfl rfl rfl rfl rfl rfl ?_ ?_); (fail_if_success refine Nx.m_loud_do rfl rfl rfl rfl rfl ?_); first | refine Nx.m_dec_t rfl rfl rfl rfl (by first | assumption | omega) ?_ | refine Nx.m_dec_f rfl rfl rfl rfl (by first | assumption | omega) ?_ | refine Nx.m_split rfl rfl rfl rfl (fun hc => ?_) (fun hc => ?_) | refine Nx.m_splitb rfl rfl rfl rfl (fun hc => ?_) (fun hc => ?_)))
      | ((fail_if_success (with_reducible refine Nx.is_at ?_)); (fail_if_success (with_reducible refine Nx.is_wp ?_)); (fail_if_success (with_reducible refine Nx.is_mix ?_)); first | refine Nx.ex ?_)
    rw [List.take_length] at hno
    refine Nx.ret_fn rfl [] ⟨⟨_, rfl, ?_⟩, rfl⟩ (Ent.refl _)
    cases hcx : l.contains x with
    | false => rfl
    | true => exact absurd (List.contains_iff_mem.1 hcx) hno
set_option maxRecDepth 10000 in
theorem ContainsT_spec (A : Option Addr) (cp : Nat) (l : List (List UInt8)) (x : List UInt8) (I : PH) (hl : Texts I A cp l) :
    FnSpec Try.prog 57 [.slice A l.length cp, strV x] I [] (fun v R' => v = .bool (l.contains x) ∧ R' = []) := by
  refine FnSpec.enterP Try.func57 rfl Try.ntmps57 rfl fun w F => ?_
  repeat' first
    | ((with_reducible refine Nx.is_wp ?_); first | refine Nx.wo ?_ | refine Nx.p_dec rfl rfl (fun hc => ?_) (fun hc => ?_) | refine Nx.p_bool rfl rfl (fun hc => ?_) (fun hc => ?_))
    | ((first | refine Nx.at_op rfl rfl ?_ | refine Nx.m_loud rfl rfl rfl ?_ | refine Nx.at_do rfl rfl rfl rfl ?_ | refine Nx.m_loud_do rfl rfl rfl rfl rfl ?_); first | refine Nx.opr rfl rfl ?_ | refine Nx.so ?_ | refine Nx.sb (fun bx => ?_) | refine Nx.sa (fun A2 c2 => ?_))
    | ((with_reducible refine Nx.is_at ?_); first | refine Nx.a ?_ | ((fail_if_success refine Nx.at_do rfl rfl rfl rfl ?_); first | refine Nx.at_dec_t rfl rfl rfl rfl (by first | assumption | omega) ?_ | refine Nx.at_dec_f rfl rfl rfl rfl (by first | assumption | omega) ?_ | refine Nx.at_split rfl rfl rfl rfl (fun hc => ?_) (fun hc => ?_) | refine Nx.at_splitb rfl rfl rfl rfl (fun hc => ?_) (fun hc => ?_)))
    | ((with_reducible refine Nx.is_mix ?_); first | refine Nx.m ?_ | ((fail_if_success refine Nx.m_quiet_do rfl rfl rfl rfl rfl rfl rfl ?_ ?_); (fail_if_success refine Nx.m_loud_do rfl rfl rfl rfl rfl ?_); first | refine Nx.m_dec_t rfl rfl rfl rfl (by first | assumption | omega) ?_ | refine Nx.m_dec_f rfl rfl rfl rfl (by first | assumption | omega) ?_ | refine Nx.m_split rfl rfl rfl rfl (fun hc => ?_) (fun hc => ?_) | refine Nx.m_splitb rfl rfl rfl rfl (fun hc => ?_) (fun hc => ?_)))
    | ((fail_if_success (with_reducible refine Nx.is_at ?_)); (fail_if_success (with_reducible refine Nx.is_wp ?_)); (fail_if_success (with_reducible refine Nx.is_mix ?_)); first | refine Nx.ex ?_)
  refine Nx.at_op rfl rfl ?_
  refine Nx.call rfl rfl rfl (by kernel_rfl) rfl (IdxT_spec A cp l x I hl) (by (exact Ent.auto)) ?_
  rintro v R' ⟨⟨i, rfl, hi⟩, rfl⟩
  repeat' first
    | ((with_reducible refine Nx.is_wp ?_); first | refine Nx.wo ?_ | refine Nx.p_dec rfl rfl (fun hc => ?_) (fun hc => ?_) | refine Nx.p_bool rfl rfl (fun hc => ?_) (fun hc => ?_))
    | ((first | refine Nx.at_op rfl rfl ?_ | refine Nx.m_loud rfl rfl rfl ?_ | refine Nx.at_do rfl rfl rfl rfl ?_ | refine Nx.m_loud_do rfl rfl rfl rfl rfl ?_); first | refine Nx.opr rfl rfl ?_ | refine Nx.so ?_ | refine Nx.sb (fun bx => ?_) | refine Nx.sa (fun A2 c2 => ?_))
    | ((with_reducible refine Nx.is_at ?_); first | refine Nx.a ?_ | ((fail_if_success refine Nx.at_do rfl rfl rfl rfl ?_); first | refine Nx.at_dec_t rfl rfl rfl rfl (by first | assumption | omega) ?_ | refine Nx.at_dec_f rfl rfl rfl rfl (by first | assumption | omega) ?_ | refine Nx.at_split rfl rfl rfl rfl (fun hc => ?_) (fun hc => ?_) | refine Nx.at_splitb rfl rfl rfl rfl (fun hc => ?_) (fun hc => ?_)))
    | ((with_reducible refine Nx.is_mix ?_); first | refine Nx.m ?_ | ((fail_if_success refine Nx.m_quiet_do rfl rfl rfl rfl rfl rfl rfl ?_ ?_); (fail_if_success refine Nx.m_loud_do rfl rfl rfl rfl rfl ?_); first | refine Nx.m_dec_t rfl rfl rfl rfl (by first | assumption | omega) ?_ | refine Nx.m_dec_f rfl rfl rfl rfl (by first | assumption | omega) ?_ | refine Nx.m_split rfl rfl rfl rfl (fun hc => ?_) (fun hc => ?_) | refine Nx.m_splitb rfl rfl rfl rfl (fun hc => ?_) (fun hc => ?_)))
    | ((fail_if_success (with_reducible refine Nx.is_at ?_)); (fail_if_success (with_reducible refine Nx.is_wp ?_)); (fail_if_success (with_reducible refine Nx.is_mix ?_)); first | refine Nx.ex ?_)
  exact Nx.ret_fn rfl [] ⟨by rw [← hi], rfl⟩ (Ent.refl _)
end Go.Proofs.Ytaoeapmdhpkidaa
/- Contracts of functions of the given program, and lemmas about plain lists and numbers: what the laws of this seat lean on. -/
namespace Go.Proofs.Ytaoeapmdhpkidaa
open Go.Eng
/-! The rota's functions at any list -/
def onG (l : List Shift) (t : Int) : List (List UInt8) := if checkE l = 0 then onT l t else []
section
attribute [local irreducible] opK wpList Code.wp Exit.then Exit.inBlock fnPost bodyPost Nx Calls Oper.wp Rd Rds Wr Ent Stars Blk Again Vec FnSpec wpMix QRun Stop Upto wpAt
set_option maxRecDepth 10000 in
theorem On_spec3 (A : Option Addr) (c : Nat) (l : List Shift) (t : Int) (I : PH) (hl : Shifts I A c l) (ho : ∀ x ∈ l, shOk x) :
    FnSpec Try.prog 15 [.slice A l.length c, .int .i64 t] I [] (fun v R' => ∃ A' c', v = .slice A' (onG l t).length c' ∧ R' = [textsR A' c' (onG l t)]) := by
  by_cases hE : checkE l = 0
  · rw [show onG l t = onT l t from if_pos hE]
    exact On_spec2 A c l t I hl ho hE
  · rw [show onG l t = [] from if_neg hE]
    have hCk := Check_spec A c l I hl ho
    refine FnSpec.enterP Try.func15 rfl Try.ntmps15 rfl fun w F => ?_
    repeat' first
      | ((with_reducible refine Nx.is_wp ?_); first | refine Nx.wo ?_ | refine Nx.p_dec rfl rfl (fun hc => ?_) (fun hc => ?_) | refine Nx.p_bool rfl rfl (fun hc => ?_) (fun hc => ?_))
      | ((first | refine Nx.at_op rfl rfl ?_ | refine Nx.m_loud rfl rfl rfl ?_ | refine Nx.at_do rfl rfl rfl rfl ?_ | refine Nx.m_loud_do rfl rfl rfl rfl rfl ?_); first | refine Nx.opr rfl rfl ?_ | refine Nx.callv rfl rfl rfl (by kernel_rfl) rfl hCk ?_ | refine Nx.so ?_ | refine Nx.sb (fun bx => ?_) | refine Nx.sa (fun A2 c2 => ?_))
      | ((with_reducible refine Nx.is_at ?_); first | refine Nx.a ?_ | ((fail_if_success refine Nx.at_do rfl rfl rfl rfl ?_); first | refine Nx.at_dec_t rfl rfl rfl rfl (by first | assumption | omega) ?_ | refine Nx.at_dec_f rfl rfl rfl rfl (by first | assumption | omega) ?_ | refine Nx.at_split rfl rfl rfl rfl (fun hc => ?_) (fun hc => ?_) | refine Nx.at_splitb rfl rfl rfl rfl (fun hc => ?_) (fun hc => ?_)))
      | ((with_reducible refine Nx.is_mix ?_); first | refine Nx.m ?_ | ((fail_if_success refine Nx.m_quiet_do rfl rfl rfl rfl rfl rfl rfl ?_ ?_); (fail_if_success refine Nx.m_loud_do rfl rfl rfl rfl rfl ?_); first | refine Nx.m_dec_t rfl rfl rfl rfl (by first | assumption | omega) ?_ | refine Nx.m_dec_f rfl rfl rfl rfl (by first | assumption | omega) ?_ | refine Nx.m_split rfl rfl rfl rfl (fun hc => ?_) (fun hc => ?_) | refine Nx.m_splitb rfl rfl rfl rfl (fun hc => ?_) (fun hc => ?_)))
      | ((fail_if_success (with_reducible refine Nx.is_at ?_)); (fail_if_success (with_reducible refine Nx.is_wp ?_)); (fail_if_success (with_reducible refine Nx.is_mix ?_)); first | refine Nx.ex ?_)
    exact Nx.ret_fn rfl [textsR none 0 []] ⟨none, 0, rfl, rfl⟩ (Ent.vec_nil _ _ _)
set_option maxRecDepth 10000 in
theorem Duty_spec3 (A : Option Addr) (c : Nat) (l : List Shift) (s : List UInt8) (t : Int) (I : PH) (hl : Shifts I A c l) (ho : ∀ x ∈ l, shOk x) :
    FnSpec Try.prog 18 [.slice A l.length c, strV s, .int .i64 t] I [] (fun v R' => v = .bool ((onG l t).contains s) ∧ R' = []) := by
  refine FnSpec.enterP Try.func18 rfl Try.ntmps18 rfl fun w F => ?_
  repeat' first
    | ((with_reducible refine Nx.is_wp ?_); first | refine Nx.wo ?_ | refine Nx.p_dec rfl rfl (fun hc => ?_) (fun hc => ?_) | refine Nx.p_bool rfl rfl (fun hc => ?_) (fun hc => ?_))
    | ((first | refine Nx.at_op rfl rfl ?_ | refine Nx.m_loud rfl rfl rfl ?_ | refine Nx.at_do rfl rfl rfl rfl ?_ | refine Nx.m_loud_do rfl rfl rfl rfl rfl ?_); first | refine Nx.opr rfl rfl ?_ | refine Nx.so ?_ | refine Nx.sb (fun bx => ?_) | refine Nx.sa (fun A2 c2 => ?_))
    | ((with_reducible refine Nx.is_at ?_); first | refine Nx.a ?_ | ((fail_if_success refine Nx.at_do rfl rfl rfl rfl ?_); first | refine Nx.at_dec_t rfl rfl rfl rfl (by first | assumption | omega) ?_ | refine Nx.at_dec_f rfl rfl rfl rfl (by first | assumption | omega) ?_ | refine Nx.at_split rfl rfl rfl rfl (fun hc => ?_) (fun hc => ?_) | refine Nx.at_splitb rfl rfl rfl rfl (fun hc => ?_) (fun hc => ?_)))
    | ((with_reducible refine Nx.is_mix ?_); first | refine Nx.m ?_ | ((fail_if_success refine Nx.m_quiet_do rfl rfl rfl rfl rfl rfl rfl ?_ ?_); (fail_if_success refine Nx.m_loud_do rfl rfl rfl rfl rfl ?_); first | refine Nx.m_dec_t rfl rfl rfl rfl (by first | assumption | omega) ?_ | refine Nx.m_dec_f rfl rfl rfl rfl (by first | assumption | omega) ?_ | refine Nx.m_split rfl rfl rfl rfl (fun hc => ?_) (fun hc => ?_) | refine Nx.m_splitb rfl rfl rfl rfl (fun hc => ?_) (fun hc => ?_)))
    | ((fail_if_success (with_reducible refine Nx.is_at ?_)); (fail_if_success (with_reducible refine Nx.is_wp ?_)); (fail_if_success (with_reducible refine Nx.is_mix ?_)); first | refine Nx.ex ?_)
  refine Nx.at_op rfl rfl ?_
  refine Nx.call rfl rfl rfl (by kernel_rfl) rfl (On_spec3 A c l t I hl ho) (by (exact Ent.auto)) ?_
  rintro v R' ⟨A3, c3, rfl, rfl⟩
  repeat' first
    | ((with_reducible refine Nx.is_wp ?_); first | refine Nx.wo ?_ | refine Nx.p_dec rfl rfl (fun hc => ?_) (fun hc => ?_) | refine Nx.p_bool rfl rfl (fun hc => ?_) (fun hc => ?_))
    | ((first | refine Nx.at_op rfl rfl ?_ | refine Nx.m_loud rfl rfl rfl ?_ | refine Nx.at_do rfl rfl rfl rfl ?_ | refine Nx.m_loud_do rfl rfl rfl rfl rfl ?_); first | refine Nx.opr rfl rfl ?_ | (refine Nx.call_lendR 0 rfl rfl rfl (by kernel_rfl) rfl rfl (fun m I' hI hm h => ContainsT_spec A3 c3 (onG l t) s I' (Vec.sliceOf hm h)) ?_; rintro _ R' ⟨rfl, rfl⟩) | refine Nx.so ?_ | refine Nx.sb (fun bx => ?_) | refine Nx.sa (fun A2 c2 => ?_))
    | ((with_reducible refine Nx.is_at ?_); first | refine Nx.a ?_ | ((fail_if_success refine Nx.at_do rfl rfl rfl rfl ?_); first | refine Nx.at_dec_t rfl rfl rfl rfl (by first | assumption | omega) ?_ | refine Nx.at_dec_f rfl rfl rfl rfl (by first | assumption | omega) ?_ | refine Nx.at_split rfl rfl rfl rfl (fun hc => ?_) (fun hc => ?_) | refine Nx.at_splitb rfl rfl rfl rfl (fun hc => ?_) (fun hc => ?_)))
    | ((with_reducible refine Nx.is_mix ?_); first | refine Nx.m ?_ | ((fail_if_success refine Nx.m_quiet_do rfl rfl rfl rfl rfl rfl rfl ?_ ?_); (fail_if_success refine Nx.m_loud_do rfl rfl rfl rfl rfl ?_); first | refine Nx.m_dec_t rfl rfl rfl rfl (by first | assumption | omega) ?_ | refine Nx.m_dec_f rfl rfl rfl rfl (by first | assumption | omega) ?_ | refine Nx.m_split rfl rfl rfl rfl (fun hc => ?_) (fun hc => ?_) | refine Nx.m_splitb rfl rfl rfl rfl (fun hc => ?_) (fun hc => ?_)))
    | ((fail_if_success (with_reducible refine Nx.is_at ?_)); (fail_if_success (with_reducible refine Nx.is_wp ?_)); (fail_if_success (with_reducible refine Nx.is_mix ?_)); first | refine Nx.ex ?_)
  exact Nx.ret_fn rfl [] ⟨rfl, rfl⟩ (by (exact Ent.auto))
end
end Go.Proofs.Ytaoeapmdhpkidaa
/- Contracts of functions of the given program, and lemmas about plain lists and numbers: what the laws of this seat lean on. -/
namespace Go.Proofs.Ytaoeapmdhpkidaa
open Go.Eng
structure IsSet (r : List Int) (p : Int → Prop) : Prop where
  asc : r.Pairwise (· < ·)
  mem : ∀ x, x ∈ r ↔ p x
theorem asc_ext : ∀ {a b : List Int}, a.Pairwise (· < ·) → b.Pairwise (· < ·) → (∀ x, x ∈ a ↔ x ∈ b) → a = b
  | [], [], _, _, _ => rfl
  | [], y :: s, _, _, h => by have := (h y).2 (by simp); cases this
  | x :: r, [], _, _, h => by have := (h x).1 (by simp); cases this
  | x :: r, y :: s, ha, hb, h => by
    rw [List.pairwise_cons] at ha hb
    have h1 : x = y := by
      have h2 := (h x).1 (by simp)
      have h3 := (h y).2 (by simp)
      rcases List.mem_cons.1 h2 with rfl | h2
      · rfl
      · rcases List.mem_cons.1 h3 with h3 | h3
        · exact h3.symm
        · have := ha.1 y h3; have := hb.1 x h2; omega
    subst h1
    rw [asc_ext ha.2 hb.2 (fun z => ?_)]
    have hz := h z
    simp only [List.mem_cons] at hz
    constructor
    · intro h4
      rcases hz.1 (.inr h4) with h5 | h5
      · have := ha.1 z h4; omega
      · exact h5
    · intro h4
      rcases hz.2 (.inr h4) with h5 | h5
      · have := hb.1 z h4; omega
      · exact h5
theorem IsSet.same {a b : List Int} {p q : Int → Prop} (ha : IsSet a p) (hb : IsSet b q) (h : ∀ x, p x ↔ q x) : a = b := asc_ext ha.asc hb.asc fun x => by rw [ha.mem, hb.mem, h]
/-! Where the number on duty changes -/
end Go.Proofs.Ytaoeapmdhpkidaa
/- Contracts of functions of the given program, and lemmas about plain lists and numbers: what the laws of this seat lean on. -/
namespace Go.Proofs.Ytaoeapmdhpkidaa
open Go.Eng
/-! The reference's lists: plain facts -/
def idxG {α : Type} (lt : α → α → Bool) (o : List α) (p : α) : Nat := o.findIdx fun y => !(lt y p)
def insG {α : Type} (lt : α → α → Bool) (o : List α) (p : α) : List α := o.take (idxG lt o p) ++ [p] ++ o.drop (idxG lt o p)
section
variable {α : Type} {lt : α → α → Bool}
theorem insG_cons (y : α) (o : List α) (p : α) : insG lt (y :: o) p = if lt y p = true then y :: insG lt o p else p :: y :: o := by
  unfold insG idxG
  rw [List.findIdx_cons]
  cases h : lt y p <;> simp
theorem insG_mem {x p : α} : ∀ {o : List α}, x ∈ insG lt o p ↔ x = p ∨ x ∈ o
  | [] => by simp [insG, idxG]
  | y :: o => by
    rw [insG_cons]
    split
    · rw [List.mem_cons, insG_mem, List.mem_cons]
      exact ⟨fun h => by rcases h with h | h | h; exact .inr (.inl h); exact .inl h; exact .inr (.inr h), fun h => by rcases h with h | h | h; exact .inr (.inl h); exact .inl h; exact .inr (.inr h)⟩
    · rw [List.mem_cons]
theorem insG_perm (o : List α) (p : α) : (o ++ [p]).Perm (insG lt o p) := by
  unfold insG
  generalize idxG lt o p = k
  have h : o ++ [p] = o.take k ++ (o.drop k ++ [p]) := by rw [← List.append_assoc, List.take_append_drop]
  rw [h, List.append_assoc]
  exact List.Perm.append_left _ List.perm_append_comm
theorem insG_len (o : List α) (p : α) : (insG lt o p).length = o.length + 1 := by
  have := (insG_perm (lt := lt) o p).length_eq
  rw [← this]; simp
end
def ltT (a b : List UInt8) : Bool := decide (a < b)
theorem insT_sorted {p : List UInt8} : ∀ {o : List (List UInt8)}, o.Pairwise (· ≤ ·) → (insG ltT o p).Pairwise (· ≤ ·)
  | [], _ => by simp [insG, idxG]
  | y :: o, h => by
    have h2 := List.pairwise_cons.1 h
    rw [insG_cons]
    split
    · rename_i hy
      have hy : y < p := of_decide_eq_true hy
      refine List.pairwise_cons.2 ⟨fun z hz => ?_, insT_sorted h2.2⟩
      rcases insG_mem.1 hz with rfl | hz
      · exact List.le_of_lt hy
      · exact h2.1 z hz
    · rename_i hy
      have hy : ¬ y < p := fun h => hy (decide_eq_true h)
      have hpy : p ≤ y := List.not_lt.1 hy
      refine List.pairwise_cons.2 ⟨fun z hz => ?_, h⟩
      rcases List.mem_cons.1 hz with rfl | hz
      · exact hpy
      · exact List.le_trans hpy (h2.1 z hz)
theorem onT_step {l : List Shift} {t : Int} {k : Nat} (hk : k < l.length) : onT (l.take (k + 1)) t = if onB t (l.getD k default) = true then insG ltT (onT (l.take k) t) (l.getD k default).1 else onT (l.take k) t := by
  unfold onT
  rw [onP_succ hk]
  split
  · refine srtT_eq (insT_sorted (srtT_asc _)) ?_
    exact (List.Perm.append_right _ (List.mergeSort_perm _ _).symm).trans (insG_perm _ _)
  · rfl
end Go.Proofs.Ytaoeapmdhpkidaa
/- Contracts of functions of the given program, and lemmas about plain lists and numbers: what the laws of this seat lean on. -/
namespace Go.Proofs.Ytaoeapmdhpkidaa
open Go.Eng
section
attribute [local irreducible] opK wpList Code.wp Exit.then Exit.inBlock fnPost bodyPost Nx Calls Oper.wp Rd Rds Wr Ent Stars Blk Again Vec FnSpec wpMix QRun Stop Upto wpAt
set_option maxRecDepth 10000 in
theorem ron_spec (x : Shift) (t : Int) (I : PH) : FnSpec Try.prog 80 [shV x, .int .i64 t] I [] (fun v R' => v = .bool (onB t x) ∧ R' = []) := by
  by_cases hp : onB t x = true
  · have hp' := of_decide_eq_true hp
    rw [hp]
    refine FnSpec.enterP Try.func80 rfl Try.ntmps80 rfl fun w F => ?_
    repeat' first
      | ((with_reducible refine Nx.is_wp ?_); first | refine Nx.wo ?_ | refine Nx.p_dec rfl rfl (fun hc => ?_) (fun hc => ?_) | refine Nx.p_bool rfl rfl (fun hc => ?_) (fun hc => ?_))
      | ((first | refine Nx.at_op rfl rfl ?_ | refine Nx.m_loud rfl rfl rfl ?_ | refine Nx.at_do rfl rfl rfl rfl ?_ | refine Nx.m_loud_do rfl rfl rfl rfl rfl ?_); first | refine Nx.opr rfl rfl ?_ | refine Nx.so ?_ | refine Nx.sb (fun bx => ?_) | refine Nx.sa (fun A2 c2 => ?_))
      | ((with_reducible refine Nx.is_at ?_); first | refine Nx.a ?_ | ((fail_if_success refine Nx.at_do rfl rfl rfl rfl ?_); first | refine Nx.at_dec_t rfl rfl rfl rfl (by first | assumption | omega) ?_ | refine Nx.at_dec_f rfl rfl rfl rfl (by first | assumption | omega) ?_ | refine Nx.at_split rfl rfl rfl rfl (fun hc => ?_) (fun hc => ?_) | refine Nx.at_splitb rfl rfl rfl rfl (fun hc => ?_) (fun hc => ?_)))
      | ((with_reducible refine Nx.is_mix ?_); first | refine Nx.m ?_ | ((fail_if_success refine Nx.m_quiet_do rfl rfl rfl rfl rfl rfl rfl ?_ ?_); (fail_if_success refine Nx.m_loud_do rfl rfl rfl rfl rfl ?_); first | refine Nx.m_dec_t rfl rfl rfl rfl (by first | assumption | omega) ?_ | refine Nx.m_dec_f rfl rfl rfl rfl (by first | assumption | omega) ?_ | refine Nx.m_split rfl rfl rfl rfl (fun hc => ?_) (fun hc => ?_) | refine Nx.m_splitb rfl rfl rfl rfl (fun hc => ?_) (fun hc => ?_)))
      | ((fail_if_success (with_reducible refine Nx.is_at ?_)); (fail_if_success (with_reducible refine Nx.is_wp ?_)); (fail_if_success (with_reducible refine Nx.is_mix ?_)); first | refine Nx.ex ?_)
    exact Nx.ret_fn rfl [] ⟨by first | rfl | simp [hp'], rfl⟩ (by (exact Ent.auto))
  · have hp0 : onB t x = false := by simpa using hp
    have hp' := of_decide_eq_false hp0
    rw [hp0]
    refine FnSpec.enterP Try.func80 rfl Try.ntmps80 rfl fun w F => ?_
    repeat' first
      | ((with_reducible refine Nx.is_wp ?_); first | refine Nx.wo ?_ | refine Nx.p_dec rfl rfl (fun hc => ?_) (fun hc => ?_) | refine Nx.p_bool rfl rfl (fun hc => ?_) (fun hc => ?_))
      | ((first | refine Nx.at_op rfl rfl ?_ | refine Nx.m_loud rfl rfl rfl ?_ | refine Nx.at_do rfl rfl rfl rfl ?_ | refine Nx.m_loud_do rfl rfl rfl rfl rfl ?_); first | refine Nx.opr rfl rfl ?_ | refine Nx.so ?_ | refine Nx.sb (fun bx => ?_) | refine Nx.sa (fun A2 c2 => ?_))
      | ((with_reducible refine Nx.is_at ?_); first | refine Nx.a ?_ | ((fail_if_success refine Nx.at_do rfl rfl rfl rfl ?_); first | refine Nx.at_dec_t rfl rfl rfl rfl (by first | assumption | omega) ?_ | refine Nx.at_dec_f rfl rfl rfl rfl (by first | assumption | omega) ?_ | refine Nx.at_split rfl rfl rfl rfl (fun hc => ?_) (fun hc => ?_) | refine Nx.at_splitb rfl rfl rfl rfl (fun hc => ?_) (fun hc => ?_)))
      | ((with_reducible refine Nx.is_mix ?_); first | refine Nx.m ?_ | ((fail_if_success refine Nx.m_quiet_do rfl rfl rfl rfl rfl rfl rfl ?_ ?_); (fail_if_success refine Nx.m_loud_do rfl rfl rfl rfl rfl ?_); first | refine Nx.m_dec_t rfl rfl rfl rfl (by first | assumption | omega) ?_ | refine Nx.m_dec_f rfl rfl rfl rfl (by first | assumption | omega) ?_ | refine Nx.m_split rfl rfl rfl rfl (fun hc => ?_) (fun hc => ?_) | refine Nx.m_splitb rfl rfl rfl rfl (fun hc => ?_) (fun hc => ?_)))
      | ((fail_if_success (with_reducible refine Nx.is_at ?_)); (fail_if_success (with_reducible refine Nx.is_wp ?_)); (fail_if_success (with_reducible refine Nx.is_mix ?_)); first | refine Nx.ex ?_)
    all_goals exact Nx.ret_fn rfl [] ⟨by first | rfl | (simp; omega), rfl⟩ (by (exact Ent.auto))
end
end Go.Proofs.Ytaoeapmdhpkidaa
/- Contracts of functions of the given program, and lemmas about plain lists and numbers: what the laws of this seat lean on. -/
namespace Go.Proofs.Ytaoeapmdhpkidaa
open Go.Eng
attribute [local irreducible] opK wpList Code.wp Exit.then Exit.inBlock fnPost bodyPost Nx Calls Oper.wp Rd Rds Wr Ent Stars Blk Again Vec FnSpec wpMix QRun Stop Upto wpAt
attribute [local irreducible] wpFork
theorem idxT_eq {o : List (List UInt8)} {p : List UInt8} {k : Nat} (hk : k ≤ o.length) (h1 : ∀ j, j < k → ltT (o.getD j default) p = true) (h2 : k < o.length → ltT (o.getD k default) p = false) : idxG ltT o p = k := by
  unfold idxG
  by_cases hlt : k < o.length
  · rw [List.findIdx_eq hlt]
    refine ⟨by have := h2 hlt; rw [tx_at hlt] at this; simp [this], fun j hj => ?_⟩
    have := h1 j hj
    rw [tx_at (by omega)] at this
    simp [this]
  · obtain rfl : k = o.length := by omega
    rw [List.findIdx_eq_length]
    intro y hy
    obtain ⟨j, hj, rfl⟩ := List.mem_iff_getElem.1 hy
    have := h1 j hj
    rw [tx_at hj] at this
    simp [this]
theorem insG_map {o : List (List UInt8)} {p : List UInt8} {k : Nat} (h : idxG ltT o p = k) : (insG ltT o p).map strV = (o.take k).map strV ++ [strV p] ++ (o.drop k).map strV := by
  unfold insG
  rw [h]
  simp
end Go.Proofs.Ytaoeapmdhpkidaa
/- Contracts of functions of the given program, and lemmas about plain lists and numbers: what the laws of this seat lean on. -/
namespace Go.Proofs.Ytaoeapmdhpkidaa
open Go.Eng
attribute [local irreducible] opK wpList Code.wp Exit.then Exit.inBlock fnPost bodyPost Nx Calls Oper.wp Rd Rds Wr Ent Stars Blk Again Vec FnSpec wpMix QRun Stop Upto wpAt
attribute [local irreducible] wpFork
set_option maxHeartbeats 4000000 in
set_option maxRecDepth 10000 in
theorem onIns (A1 : Option Addr) (c1 : Nat) (o : List (List UInt8)) (x : Shift) (vt vl vn vk : Value) (I : PH) (hT : Texts I A1 c1 o) (h9 : o.length ≤ 1000) (k : Nat) (hk : k ≤ o.length) (hi : idxG ltT o x.1 = k) (b7 : Nat) (w : World) (F : Res) (Q : Exit → Act → World → Prop) (hQ : PanicOk Q)
    (h : ∀ A4 c4, Nx ⟨Try.prog, 52, w⟩ [(1, vt), (5, .slice A4 (insG ltT o x.1).length c4), (12, vl), (13, vn), (14, vk)] I [textsR A4 c4 (insG ltT o x.1), F] (Q .normal)) :
    Nx ⟨Try.prog, 52, w⟩ [(1, vt), (5, .slice A1 o.length c1), (7, .pointer (some ⟨b7, 0, none⟩)), (8, .int .i64 (k : Int)), (12, vl), (13, vn), (14, vk)] I [Blk b7 40 (shC x), F]
      (Code.wp Try.prog (cr (cr (cr (cr (cl (cl (cr (cr (cl (cl (cr (cl (cr (cr (cr (bodyOf Try.f48)))))))))))))))) Q) := by
  have hcap := hT.cap
  have hins := insG_map hi
  have htk := hT.take k
  have htd := hT.drop hk
  refine Nx.p_fork (id := 11) rfl [1, 2, 3, 5, 6, 9, 10, 11] [13] [0, 4, 7, 8, 12] [Blk b7 40 (shC x)] 6 rfl rfl (by kernel_rfl) (by kernel_rfl) (by kernel_rfl) hQ (by (exact Ent.auto)) ?_
  repeat' first
    | ((with_reducible refine Nx.is_wp ?_); first | refine Nx.wo ?_ | refine Nx.p_dec rfl rfl (fun hc => ?_) (fun hc => ?_) | refine Nx.p_bool rfl rfl (fun hc => ?_) (fun hc => ?_))
    | ((first | refine Nx.at_op rfl rfl ?_ | refine Nx.m_loud rfl rfl rfl ?_ | refine Nx.at_do rfl rfl rfl rfl ?_ | refine Nx.m_loud_do rfl rfl rfl rfl rfl ?_); first | refine Nx.opr rfl rfl ?_ | refine Nx.so ?_ | refine Nx.sb (fun bx => ?_) | refine Nx.sa (fun A2 c2 => ?_))
    | ((with_reducible refine Nx.is_at ?_); first | refine Nx.a ?_ | ((fail_if_success refine Nx.at_do rfl rfl rfl rfl ?_); first | refine Nx.at_dec_t rfl rfl rfl rfl (by first | assumption | omega) ?_ | refine Nx.at_dec_f rfl rfl rfl rfl (by first | assumption | omega) ?_ | refine Nx.at_split rfl rfl rfl rfl (fun hc => ?_) (fun hc => ?_) | refine Nx.at_splitb rfl rfl rfl rfl (fun hc => ?_) (fun hc => ?_)))
    | ((with_reducible refine Nx.is_mix ?_); first | refine Nx.m_quiet rfl rfl rfl rfl rfl (by first | exact QRun.opr rfl | exact QRun.slice_hi rfl rfl rfl rfl (by omega) | exact QRun.slice_lo rfl rfl rfl rfl (by omega) | exact QRun.load rfl rfl (Rd.at_ 0 rfl rfl)) ?_ | refine Nx.m_quiet_do rfl rfl rfl rfl rfl rfl rfl (by first | exact QRun.opr rfl | exact QRun.slice_hi rfl rfl rfl rfl (by omega) | exact QRun.slice_lo rfl rfl rfl rfl (by omega) | exact QRun.load rfl rfl (Rd.at_ 0 rfl rfl)) ?_ | refine Nx.m ?_ | ((fail_if_success refine Nx.m_quiet_do rfl rfl rfl rfl rfl rfl rfl ?_ ?_); (fail_if_success refine Nx.m_loud_do rfl rfl rfl rfl rfl ?_); first | refine Nx.m_dec_t rfl rfl rfl rfl (by first | assumption | omega) ?_ | refine Nx.m_dec_f rfl rfl rfl rfl (by first | assumption | omega) ?_ | refine Nx.m_split rfl rfl rfl rfl (fun hc => ?_) (fun hc => ?_) | refine Nx.m_splitb rfl rfl rfl rfl (fun hc => ?_) (fun hc => ?_)))
    | ((fail_if_success (with_reducible refine Nx.is_at ?_)); (fail_if_success (with_reducible refine Nx.is_wp ?_)); (fail_if_success (with_reducible refine Nx.is_mix ?_)); first | refine Nx.ex ?_)
  refine Nx.fork2 (i := 0) (j := 7) (by kernel_rfl) rfl rfl rfl rfl ?_ ?_
  · refine Nx.sb (fun b0 => ?_)
    refine Nx.mix_S (by (exact Ent.auto)) ?_
    refine Nx.fork2 (i := 4) (j := 7) (by kernel_rfl) rfl rfl rfl rfl ?_ ?_
    · refine Nx.blk_vec 0 0 1 rfl rfl (by omega) ?_
      refine Nx.append rfl rfl rfl rfl (by kernel_rfl) rfl (Src.arr htk.arr (by rw [List.length_map, List.length_take]; omega) (by omega) (fun u hu => by obtain ⟨_, _, rfl⟩ := List.mem_map.1 hu; rfl)) (by omega) fun A2 c2 => ?_
      rw [Nat.zero_add, List.nil_append]
      refine Nx.mix_S (by (exact Ent.auto)) ?_
      refine Nx.fork1 (i := 7) (by kernel_rfl) rfl rfl ?_
      refine Nx.sb (fun b6 => ?_)
      refine Nx.mix_S (by (exact Ent.auto)) ?_
      refine Nx.fork1 (i := 8) (by kernel_rfl) rfl rfl ?_
      refine Nx.ent (R' := [Blk b6 9 [strV x.1], Vec 9 1 A2 k c2 ((o.take k).map strV), Blk b7 40 (shC x), F]) (by (exact Ent.auto)) ?_
      refine Nx.append_lit 0 rfl rfl rfl rfl (by kernel_rfl) rfl rfl rfl rfl (by omega) fun A3 c3 => ?_
      refine Nx.mix_S (by (exact Ent.auto)) ?_
      refine Nx.fork1 (i := 12) (by kernel_rfl) rfl rfl ?_
      refine Nx.append rfl rfl rfl rfl (by kernel_rfl) rfl (Src.arr htd.arr (by rw [List.length_map, List.length_drop]; omega) (by omega) (fun u hu => by obtain ⟨_, _, rfl⟩ := List.mem_map.1 hu; rfl)) (by omega) fun A4 c4 => ?_
      refine Nx.mix_S (by (exact Ent.auto)) ?_
      refine Nx.fork_fin (by kernel_rfl) rfl ?_
      repeat' first
        | ((with_reducible refine Nx.is_wp ?_); first | refine Nx.wo ?_ | refine Nx.p_dec rfl rfl (fun hc => ?_) (fun hc => ?_) | refine Nx.p_bool rfl rfl (fun hc => ?_) (fun hc => ?_))
        | ((first | refine Nx.at_op rfl rfl ?_ | refine Nx.m_loud rfl rfl rfl ?_ | refine Nx.at_do rfl rfl rfl rfl ?_ | refine Nx.m_loud_do rfl rfl rfl rfl rfl ?_); first | refine Nx.opr rfl rfl ?_ | refine Nx.so ?_ | refine Nx.sb (fun bx => ?_) | refine Nx.sa (fun A2 c2 => ?_))
        | ((with_reducible refine Nx.is_at ?_); first | refine Nx.a ?_ | ((fail_if_success refine Nx.at_do rfl rfl rfl rfl ?_); first | refine Nx.at_dec_t rfl rfl rfl rfl (by first | assumption | omega) ?_ | refine Nx.at_dec_f rfl rfl rfl rfl (by first | assumption | omega) ?_ | refine Nx.at_split rfl rfl rfl rfl (fun hc => ?_) (fun hc => ?_) | refine Nx.at_splitb rfl rfl rfl rfl (fun hc => ?_) (fun hc => ?_)))
        | ((with_reducible refine Nx.is_mix ?_); first | refine Nx.m ?_ | ((fail_if_success refine Nx.m_quiet_do rfl rfl rfl rfl rfl rfl rfl ?_ ?_); (fail_if_success refine Nx.m_loud_do rfl rfl rfl rfl rfl ?_); first | refine Nx.m_dec_t rfl rfl rfl rfl (by first | assumption | omega) ?_ | refine Nx.m_dec_f rfl rfl rfl rfl (by first | assumption | omega) ?_ | refine Nx.m_split rfl rfl rfl rfl (fun hc => ?_) (fun hc => ?_) | refine Nx.m_splitb rfl rfl rfl rfl (fun hc => ?_) (fun hc => ?_)))
        | ((fail_if_success (with_reducible refine Nx.is_at ?_)); (fail_if_success (with_reducible refine Nx.is_wp ?_)); (fail_if_success (with_reducible refine Nx.is_mix ?_)); first | refine Nx.ex ?_)
      have hA : (o.take k).map strV ++ [strV x.1] ++ (o.drop k).map strV = (insG ltT o x.1).map strV := hins.symm
      rw [hA, show k + 1 + (o.length - k) = (insG ltT o x.1).length by rw [insG_len]; omega]
      refine Nx.weak ?_ ?_ (h A4 c4)
      · exact ⟨rfl, rfl, rfl, rfl, rfl, trivial⟩
      · (exact Ent.auto)
    · refine Nx.sb (fun b6 => ?_)
      refine Nx.mix_S (by (exact Ent.auto)) ?_
      refine Nx.fork1 (i := 4) (by kernel_rfl) rfl rfl ?_
      refine Nx.blk_vec 1 0 1 rfl rfl (by omega) ?_
      refine Nx.append rfl rfl rfl rfl (by kernel_rfl) rfl (Src.arr htk.arr (by rw [List.length_map, List.length_take]; omega) (by omega) (fun u hu => by obtain ⟨_, _, rfl⟩ := List.mem_map.1 hu; rfl)) (by omega) fun A2 c2 => ?_
      rw [Nat.zero_add, List.nil_append]
      refine Nx.mix_S (by (exact Ent.auto)) ?_
      refine Nx.fork1 (i := 8) (by kernel_rfl) rfl rfl ?_
      refine Nx.ent (R' := [Blk b6 9 [strV x.1], Vec 9 1 A2 k c2 ((o.take k).map strV), Blk b7 40 (shC x), F]) (by (exact Ent.auto)) ?_
      refine Nx.append_lit 0 rfl rfl rfl rfl (by kernel_rfl) rfl rfl rfl rfl (by omega) fun A3 c3 => ?_
      refine Nx.mix_S (by (exact Ent.auto)) ?_
      refine Nx.fork1 (i := 12) (by kernel_rfl) rfl rfl ?_
      refine Nx.append rfl rfl rfl rfl (by kernel_rfl) rfl (Src.arr htd.arr (by rw [List.length_map, List.length_drop]; omega) (by omega) (fun u hu => by obtain ⟨_, _, rfl⟩ := List.mem_map.1 hu; rfl)) (by omega) fun A4 c4 => ?_
      refine Nx.mix_S (by (exact Ent.auto)) ?_
      refine Nx.fork_fin (by kernel_rfl) rfl ?_
      repeat' first
        | ((with_reducible refine Nx.is_wp ?_); first | refine Nx.wo ?_ | refine Nx.p_dec rfl rfl (fun hc => ?_) (fun hc => ?_) | refine Nx.p_bool rfl rfl (fun hc => ?_) (fun hc => ?_))
        | ((first | refine Nx.at_op rfl rfl ?_ | refine Nx.m_loud rfl rfl rfl ?_ | refine Nx.at_do rfl rfl rfl rfl ?_ | refine Nx.m_loud_do rfl rfl rfl rfl rfl ?_); first | refine Nx.opr rfl rfl ?_ | refine Nx.so ?_ | refine Nx.sb (fun bx => ?_) | refine Nx.sa (fun A2 c2 => ?_))
        | ((with_reducible refine Nx.is_at ?_); first | refine Nx.a ?_ | ((fail_if_success refine Nx.at_do rfl rfl rfl rfl ?_); first | refine Nx.at_dec_t rfl rfl rfl rfl (by first | assumption | omega) ?_ | refine Nx.at_dec_f rfl rfl rfl rfl (by first | assumption | omega) ?_ | refine Nx.at_split rfl rfl rfl rfl (fun hc => ?_) (fun hc => ?_) | refine Nx.at_splitb rfl rfl rfl rfl (fun hc => ?_) (fun hc => ?_)))
        | ((with_reducible refine Nx.is_mix ?_); first | refine Nx.m ?_ | ((fail_if_success refine Nx.m_quiet_do rfl rfl rfl rfl rfl rfl rfl ?_ ?_); (fail_if_success refine Nx.m_loud_do rfl rfl rfl rfl rfl ?_); first | refine Nx.m_dec_t rfl rfl rfl rfl (by first | assumption | omega) ?_ | refine Nx.m_dec_f rfl rfl rfl rfl (by first | assumption | omega) ?_ | refine Nx.m_split rfl rfl rfl rfl (fun hc => ?_) (fun hc => ?_) | refine Nx.m_splitb rfl rfl rfl rfl (fun hc => ?_) (fun hc => ?_)))
        | ((fail_if_success (with_reducible refine Nx.is_at ?_)); (fail_if_success (with_reducible refine Nx.is_wp ?_)); (fail_if_success (with_reducible refine Nx.is_mix ?_)); first | refine Nx.ex ?_)
      have hA : (o.take k).map strV ++ [strV x.1] ++ (o.drop k).map strV = (insG ltT o x.1).map strV := hins.symm
      rw [hA, show k + 1 + (o.length - k) = (insG ltT o x.1).length by rw [insG_len]; omega]
      refine Nx.weak ?_ ?_ (h A4 c4)
      · exact ⟨rfl, rfl, rfl, rfl, rfl, trivial⟩
      · (exact Ent.auto)
  · refine Nx.sb (fun b6 => ?_)
    refine Nx.mix_S (by (exact Ent.auto)) ?_
    refine Nx.fork1 (i := 0) (by kernel_rfl) rfl rfl ?_
    refine Nx.sb (fun b0 => ?_)
    refine Nx.mix_S (by (exact Ent.auto)) ?_
    refine Nx.fork1 (i := 4) (by kernel_rfl) rfl rfl ?_
    refine Nx.blk_vec 0 0 1 rfl rfl (by omega) ?_
    refine Nx.append rfl rfl rfl rfl (by kernel_rfl) rfl (Src.arr htk.arr (by rw [List.length_map, List.length_take]; omega) (by omega) (fun u hu => by obtain ⟨_, _, rfl⟩ := List.mem_map.1 hu; rfl)) (by omega) fun A2 c2 => ?_
    rw [Nat.zero_add, List.nil_append]
    refine Nx.mix_S (by (exact Ent.auto)) ?_
    refine Nx.fork1 (i := 8) (by kernel_rfl) rfl rfl ?_
    refine Nx.ent (R' := [Blk b6 9 [strV x.1], Vec 9 1 A2 k c2 ((o.take k).map strV), Blk b7 40 (shC x), F]) (by (exact Ent.auto)) ?_
    refine Nx.append_lit 0 rfl rfl rfl rfl (by kernel_rfl) rfl rfl rfl rfl (by omega) fun A3 c3 => ?_
    refine Nx.mix_S (by (exact Ent.auto)) ?_
    refine Nx.fork1 (i := 12) (by kernel_rfl) rfl rfl ?_
    refine Nx.append rfl rfl rfl rfl (by kernel_rfl) rfl (Src.arr htd.arr (by rw [List.length_map, List.length_drop]; omega) (by omega) (fun u hu => by obtain ⟨_, _, rfl⟩ := List.mem_map.1 hu; rfl)) (by omega) fun A4 c4 => ?_
    refine Nx.mix_S (by (exact Ent.auto)) ?_
    refine Nx.fork_fin (by kernel_rfl) rfl ?_
    repeat' first
      | ((with_reducible refine Nx.is_wp ?_); first | refine Nx.wo ?_ | refine Nx.p_dec rfl rfl (fun hc => ?_) (fun hc => ?_) | refine Nx.p_bool rfl rfl (fun hc => ?_) (fun hc => ?_))
      | ((first | refine Nx.at_op rfl rfl ?_ | refine Nx.m_loud rfl rfl rfl ?_ | refine Nx.at_do rfl rfl rfl rfl ?_ | refine Nx.m_loud_do rfl rfl rfl rfl rfl ?_); first | refine Nx.opr rfl rfl ?_ | refine Nx.so ?_ | refine Nx.sb (fun bx => ?_) | refine Nx.sa (fun A2 c2 => ?_))
      | ((with_reducible refine Nx.is_at ?_); first | refine Nx.a ?_ | ((fail_if_success refine Nx.at_do rfl rfl rfl rfl ?_); first | refine Nx.at_dec_t rfl rfl rfl rfl (by first | assumption | omega) ?_ | refine Nx.at_dec_f rfl rfl rfl rfl (by first | assumption | omega) ?_ | refine Nx.at_split rfl rfl rfl rfl (fun hc => ?_) (fun hc => ?_) | refine Nx.at_splitb rfl rfl rfl rfl (fun hc => ?_) (fun hc => ?_)))
      | ((with_reducible refine Nx.is_mix ?_); first | refine Nx.m ?_ | ((fail_if_success refine Nx.m_quiet_do rfl rfl rfl rfl rfl rfl rfl ?_ ?_); (fail_if_success refine Nx.m_loud_do rfl rfl rfl rfl rfl ?_); first | refine Nx.m_dec_t rfl rfl rfl rfl (by first | assumption | omega) ?_ | refine Nx.m_dec_f rfl rfl rfl rfl (by first | assumption | omega) ?_ | refine Nx.m_split rfl rfl rfl rfl (fun hc => ?_) (fun hc => ?_) | refine Nx.m_splitb rfl rfl rfl rfl (fun hc => ?_) (fun hc => ?_)))
      | ((fail_if_success (with_reducible refine Nx.is_at ?_)); (fail_if_success (with_reducible refine Nx.is_wp ?_)); (fail_if_success (with_reducible refine Nx.is_mix ?_)); first | refine Nx.ex ?_)
    have hA : (o.take k).map strV ++ [strV x.1] ++ (o.drop k).map strV = (insG ltT o x.1).map strV := hins.symm
    rw [hA, show k + 1 + (o.length - k) = (insG ltT o x.1).length by rw [insG_len]; omega]
    refine Nx.weak ?_ ?_ (h A4 c4)
    · exact ⟨rfl, rfl, rfl, rfl, rfl, trivial⟩
    · (exact Ent.auto)
end Go.Proofs.Ytaoeapmdhpkidaa
/- Contracts of functions of the given program, and lemmas about plain lists and numbers: what the laws of this seat lean on. -/
namespace Go.Proofs.Ytaoeapmdhpkidaa
open Go.Eng
theorem strLt_ltT (a b : List UInt8) : strLt a b = ltT a b := by
  exact strLt_eq a b
attribute [local irreducible] opK wpList Code.wp Exit.then Exit.inBlock fnPost bodyPost Nx Calls Oper.wp Rd Rds Wr Ent Stars Blk Again Vec FnSpec wpMix QRun Stop Upto wpAt
set_option maxHeartbeats 4000000 in
set_option maxRecDepth 10000 in
theorem ROn_spec (A : Option Addr) (c : Nat) (l : List Shift) (t : Int) (I : PH) (hl : Shifts I A c l) (ho : ∀ x ∈ l, shOk x) :
    FnSpec Try.prog 48 [.slice A l.length c, .int .i64 t] I [] (fun v R' => ∃ A' c', v = .slice A' (onG l t).length c' ∧ R' = [textsR A' c' (onG l t)]) := by
  have hCk := RCheck_spec A c l I hl ho
  by_cases hE : checkE l = 0
  · rw [show onG l t = onT l t from if_pos hE]
    have h60 := (rota_iff.1 hE).few
    rw [hE] at hCk
    have hlen := hl.len
    refine FnSpec.enterP Try.func48 rfl Try.ntmps48 rfl fun w F => ?_
    repeat' first
      | ((with_reducible refine Nx.is_wp ?_); first | refine Nx.wo ?_ | refine Nx.p_dec rfl rfl (fun hc => ?_) (fun hc => ?_) | refine Nx.p_bool rfl rfl (fun hc => ?_) (fun hc => ?_))
      | ((first | refine Nx.at_op rfl rfl ?_ | refine Nx.m_loud rfl rfl rfl ?_ | refine Nx.at_do rfl rfl rfl rfl ?_ | refine Nx.m_loud_do rfl rfl rfl rfl rfl ?_); first | refine Nx.opr rfl rfl ?_ | refine Nx.callv rfl rfl rfl (by kernel_rfl) rfl hCk ?_ | refine Nx.so ?_ | refine Nx.sb (fun bx => ?_) | refine Nx.sa (fun A2 c2 => ?_))
      | ((with_reducible refine Nx.is_at ?_); first | refine Nx.a ?_ | ((fail_if_success refine Nx.at_do rfl rfl rfl rfl ?_); first | refine Nx.at_dec_t rfl rfl rfl rfl (by first | assumption | omega) ?_ | refine Nx.at_dec_f rfl rfl rfl rfl (by first | assumption | omega) ?_ | refine Nx.at_split rfl rfl rfl rfl (fun hc => ?_) (fun hc => ?_) | refine Nx.at_splitb rfl rfl rfl rfl (fun hc => ?_) (fun hc => ?_)))
      | ((with_reducible refine Nx.is_mix ?_); first | refine Nx.m ?_ | ((fail_if_success refine Nx.m_quiet_do rfl rfl rfl rfl rfl rfl rfl ?_ ?_); (fail_if_success refine Nx.m_loud_do rfl rfl rfl rfl rfl ?_); first | refine Nx.m_dec_t rfl rfl rfl rfl (by first | assumption | omega) ?_ | refine Nx.m_dec_f rfl rfl rfl rfl (by first | assumption | omega) ?_ | refine Nx.m_split rfl rfl rfl rfl (fun hc => ?_) (fun hc => ?_) | refine Nx.m_splitb rfl rfl rfl rfl (fun hc => ?_) (fun hc => ?_)))
      | ((fail_if_success (with_reducible refine Nx.is_at ?_)); (fail_if_success (with_reducible refine Nx.is_wp ?_)); (fail_if_success (with_reducible refine Nx.is_mix ?_)); first | refine Nx.ex ?_)
    have h0 : onT (l.take 0) t = [] := List.eq_nil_of_length_eq_zero (srtT_len [])
    refine Nx.p_loop (σ := Nat × Option Addr × Nat × List (List UInt8)) (fun s => [(1, .int .i64 t), (5, .slice s.2.1 s.2.2.2.length s.2.2.1), (12, .slice A l.length c), (13, .int .i64 l.length), (14, .int .i64 (s.1 : Int))])
      (fun s => [textsR s.2.1 s.2.2.1 s.2.2.2, F]) (fun s => s.1 ≤ l.length ∧ onT (l.take s.1) t = s.2.2.2) (fun s => l.length - s.1) (0, none, 0, []) rfl ⟨Nat.zero_le _, h0⟩ ⟨rfl, rfl, rfl, rfl, rfl, trivial⟩ ((Ent.vec_nil _ _ _).trans (by (exact Ent.auto))) ?_
    rintro ⟨k, A1, c1, o⟩ ⟨hk, hoo⟩
    dsimp only at hk hoo ⊢
    have hol : o.length ≤ 60 := by
      rw [← hoo]
      rw [show (onT (l.take k) t).length = (onP (l.take k) t).length from srtT_len _]
      have := onP_len (l.take k) t
      rw [List.length_take] at this
      omega
    by_cases hlt : k < l.length
    · have hs := onT_step (t := t) hlt
      have hon := ron_spec (l.getD k default) t I
      by_cases hb : onB t (l.getD k default) = true
      · rw [if_pos hb] at hs
        rw [hb] at hon
        rw [hoo] at hs
        repeat' first
          | ((with_reducible refine Nx.is_wp ?_); first | refine Nx.p_stopb 2 rfl ?_ | refine Nx.wo ?_ | refine Nx.p_dec rfl rfl (fun hc => ?_) (fun hc => ?_) | refine Nx.p_bool rfl rfl (fun hc => ?_) (fun hc => ?_))
          | ((first | refine Nx.at_op rfl rfl ?_ | refine Nx.m_loud rfl rfl rfl ?_ | refine Nx.at_do rfl rfl rfl rfl ?_ | refine Nx.m_loud_do rfl rfl rfl rfl rfl ?_); first | refine Nx.opr rfl rfl ?_ | refine Nx.indexAddr_nat rfl rfl rfl rfl rfl (by omega) (hl.isSome (by omega) (by omega)) ?_ | refine Nx.loads rfl rfl rfl rfl (hl.rds (by omega)) rfl ?_ | refine Nx.callv rfl rfl rfl (by kernel_rfl) rfl hon ?_ | refine Nx.so ?_ | refine Nx.sb (fun bx => ?_) | refine Nx.sa (fun A2 c2 => ?_))
          | ((with_reducible refine Nx.is_at ?_); first | refine Nx.a ?_ | ((fail_if_success refine Nx.at_do rfl rfl rfl rfl ?_); first | refine Nx.at_dec_t rfl rfl rfl rfl (by first | assumption | omega) ?_ | refine Nx.at_dec_f rfl rfl rfl rfl (by first | assumption | omega) ?_ | refine Nx.at_split rfl rfl rfl rfl (fun hc => ?_) (fun hc => ?_) | refine Nx.at_splitb rfl rfl rfl rfl (fun hc => ?_) (fun hc => ?_)))
          | ((with_reducible refine Nx.is_mix ?_); first | refine Nx.m ?_ | ((fail_if_success refine Nx.m_quiet_do rfl rfl rfl rfl rfl rfl rfl ?_ ?_); (fail_if_success refine Nx.m_loud_do rfl rfl rfl rfl rfl ?_); first | refine Nx.m_dec_t rfl rfl rfl rfl (by first | assumption | omega) ?_ | refine Nx.m_dec_f rfl rfl rfl rfl (by first | assumption | omega) ?_ | refine Nx.m_split rfl rfl rfl rfl (fun hc => ?_) (fun hc => ?_) | refine Nx.m_splitb rfl rfl rfl rfl (fun hc => ?_) (fun hc => ?_)))
          | ((fail_if_success (with_reducible refine Nx.is_at ?_)); (fail_if_success (with_reducible refine Nx.is_wp ?_)); (fail_if_success (with_reducible refine Nx.is_mix ?_)); first | refine Nx.ex ?_)
        revert bx; intro b7
        refine Nx.freezeAt 1 rfl fun I1 m1 hI1 hm1 h1 => ?_
        have hT : Texts I1 A1 c1 o := Vec.sliceOf hm1 h1
        refine Nx.p_merge (σ := Nat) (fun j => [(1, .int .i64 t), (5, .slice A1 o.length c1), (7, .pointer (some ⟨b7, 0, none⟩)), (8, .int .i64 (j : Int)), (12, .slice A l.length c), (13, .int .i64 l.length), (14, .int .i64 (k : Int))])
          (fun _ => [Blk b7 40 (shC (l.getD k default)), F]) (fun j => j ≤ o.length ∧ idxG ltT o (l.getD k default).1 = j) rfl ?_ ?_
        · repeat' first
            | ((with_reducible refine Nx.is_wp ?_); first | refine Nx.wo ?_ | refine Nx.p_dec rfl rfl (fun hc => ?_) (fun hc => ?_) | refine Nx.p_bool rfl rfl (fun hc => ?_) (fun hc => ?_))
            | ((first | refine Nx.at_op rfl rfl ?_ | refine Nx.m_loud rfl rfl rfl ?_ | refine Nx.at_do rfl rfl rfl rfl ?_ | refine Nx.m_loud_do rfl rfl rfl rfl rfl ?_); first | refine Nx.opr rfl rfl ?_ | refine Nx.so ?_ | refine Nx.sb (fun bx => ?_) | refine Nx.sa (fun A2 c2 => ?_))
            | ((with_reducible refine Nx.is_at ?_); first | refine Nx.a ?_ | ((fail_if_success refine Nx.at_do rfl rfl rfl rfl ?_); first | refine Nx.at_dec_t rfl rfl rfl rfl (by first | assumption | omega) ?_ | refine Nx.at_dec_f rfl rfl rfl rfl (by first | assumption | omega) ?_ | refine Nx.at_split rfl rfl rfl rfl (fun hc => ?_) (fun hc => ?_) | refine Nx.at_splitb rfl rfl rfl rfl (fun hc => ?_) (fun hc => ?_)))
            | ((with_reducible refine Nx.is_mix ?_); first | refine Nx.m ?_ | ((fail_if_success refine Nx.m_quiet_do rfl rfl rfl rfl rfl rfl rfl ?_ ?_); (fail_if_success refine Nx.m_loud_do rfl rfl rfl rfl rfl ?_); first | refine Nx.m_dec_t rfl rfl rfl rfl (by first | assumption | omega) ?_ | refine Nx.m_dec_f rfl rfl rfl rfl (by first | assumption | omega) ?_ | refine Nx.m_split rfl rfl rfl rfl (fun hc => ?_) (fun hc => ?_) | refine Nx.m_splitb rfl rfl rfl rfl (fun hc => ?_) (fun hc => ?_)))
            | ((fail_if_success (with_reducible refine Nx.is_at ?_)); (fail_if_success (with_reducible refine Nx.is_wp ?_)); (fail_if_success (with_reducible refine Nx.is_mix ?_)); first | refine Nx.ex ?_)
          refine Nx.p_loop (σ := Nat) (fun j => [(1, .int .i64 t), (5, .slice A1 o.length c1), (7, .pointer (some ⟨b7, 0, none⟩)), (8, .int .i64 (j : Int)), (12, .slice A l.length c), (13, .int .i64 l.length), (14, .int .i64 (k : Int))])
            (fun _ => [Blk b7 40 (shC (l.getD k default)), F]) (fun j => j ≤ o.length ∧ ∀ i, i < j → ltT (o.getD i default) (l.getD k default).1 = true) (fun j => o.length - j) 0 rfl ⟨Nat.zero_le _, fun i hi => absurd hi (Nat.not_lt_zero _)⟩ ⟨rfl, rfl, rfl, rfl, rfl, rfl, rfl, trivial⟩ (by (exact Ent.auto)) ?_
          rintro j ⟨hj, hall⟩
          by_cases hgo : j < o.length ∧ ltT (o.getD j default) (l.getD k default).1 = true
          · have hgo1 := hgo.1
            have hg2 : strLt (o.getD j default) (l.getD k default).1 = true := (strLt_ltT _ _).trans hgo.2
            repeat' first
              | ((with_reducible refine Nx.is_wp ?_); first | refine Nx.wo ?_ | refine Nx.p_draw (id := 9) rfl [0, 1, 2, 3, 4, 5, 6, 7, 8, 9, 10, 11, 12] [] _ rfl rfl (by kernel_rfl) (by kernel_rfl) rfl (by repeat first | exact PanicOk.fn | refine PanicOk.then_ ?_ | refine PanicOk.inB ?_) (Ent.refl _) ?_ | refine Nx.p_dec rfl rfl (fun hc => ?_) (fun hc => ?_) | refine Nx.p_bool rfl rfl (fun hc => ?_) (fun hc => ?_))
              | ((first | refine Nx.at_op rfl rfl ?_ | refine Nx.m_loud rfl rfl rfl ?_ | refine Nx.at_do rfl rfl rfl rfl ?_ | refine Nx.m_loud_do rfl rfl rfl rfl rfl ?_); first | refine Nx.opr rfl rfl ?_ | refine Nx.so ?_ | refine Nx.sb (fun bx => ?_) | refine Nx.sa (fun A2 c2 => ?_))
              | ((with_reducible refine Nx.is_at ?_); first | refine Nx.a ?_ | ((fail_if_success refine Nx.at_do rfl rfl rfl rfl ?_); first | refine Nx.at_dec_t rfl rfl rfl rfl (by first | assumption | omega) ?_ | refine Nx.at_dec_f rfl rfl rfl rfl (by first | assumption | omega) ?_ | refine Nx.at_split rfl rfl rfl rfl (fun hc => ?_) (fun hc => ?_) | refine Nx.at_splitb rfl rfl rfl rfl (fun hc => ?_) (fun hc => ?_)))
              | ((with_reducible refine Nx.is_mix ?_); first | refine Nx.m_quiet rfl rfl rfl rfl rfl (by first | exact QRun.opr rfl | exact QRun.idx rfl rfl rfl rfl (by omega) (hT.isSome (by omega)) | exact QRun.load rfl rfl (hT.rd (by omega)) | exact QRun.load rfl rfl (Rd.at_ 0 rfl rfl) | exact QRun.binr rfl rfl run_lss_s) ?_ | refine Nx.m_quiet_do rfl rfl rfl rfl rfl rfl rfl (by first | exact QRun.opr rfl | exact QRun.idx rfl rfl rfl rfl (by omega) (hT.isSome (by omega)) | exact QRun.load rfl rfl (hT.rd (by omega)) | exact QRun.load rfl rfl (Rd.at_ 0 rfl rfl) | exact QRun.binr rfl rfl run_lss_s) ?_ | refine Nx.m ?_ | ((fail_if_success refine Nx.m_quiet_do rfl rfl rfl rfl rfl rfl rfl ?_ ?_); (fail_if_success refine Nx.m_loud_do rfl rfl rfl rfl rfl ?_); first | refine Nx.m_dec_t rfl rfl rfl rfl (by first | assumption | omega) ?_ | refine Nx.m_dec_f rfl rfl rfl rfl (by first | assumption | omega) ?_ | refine Nx.m_split rfl rfl rfl rfl (fun hc => ?_) (fun hc => ?_) | refine Nx.m_splitb rfl rfl rfl rfl (fun hc => ?_) (fun hc => ?_)))
              | ((fail_if_success (with_reducible refine Nx.is_at ?_)); (fail_if_success (with_reducible refine Nx.is_wp ?_)); (fail_if_success (with_reducible refine Nx.is_mix ?_)); first | refine Nx.ex ?_)
            all_goals first
              | (exfalso; rw [ByteArray.toList_mk, ByteArray.toList_mk] at hc; have hc : strLt (o.getD j default) (l.getD k default).1 = _ := hc; rw [hg2] at hc; cases hc; done)
              | (refine Nx.again (j + 1) ⟨hgo1, fun i hi => ?_⟩ (by omega) ⟨rfl, rfl, rfl, rfl, rfl, rfl, rfl, trivial⟩ (by (exact Ent.auto))
                 by_cases hij : i = j
                 · rw [hij]; exact hgo.2
                 · exact hall i (by omega))
          · have hix : idxG ltT o (l.getD k default).1 = j := idxT_eq hj hall (fun h => by
              cases hb : ltT (o.getD j default) (l.getD k default).1 with
              | false => rfl
              | true => exact absurd ⟨h, hb⟩ hgo)
            by_cases hlt2 : j < o.length
            · have hg2 : strLt (o.getD j default) (l.getD k default).1 = false := by
                rw [strLt_ltT]
                cases hb : ltT (o.getD j default) (l.getD k default).1 with
                | false => rfl
                | true => exact absurd ⟨hlt2, hb⟩ hgo
              repeat' first
                | ((with_reducible refine Nx.is_wp ?_); first | refine Nx.wo ?_ | refine Nx.p_draw (id := 9) rfl [0, 1, 2, 3, 4, 5, 6, 7, 8, 9, 10, 11, 12] [] _ rfl rfl (by kernel_rfl) (by kernel_rfl) rfl (by repeat first | exact PanicOk.fn | refine PanicOk.then_ ?_ | refine PanicOk.inB ?_) (Ent.refl _) ?_ | refine Nx.p_dec rfl rfl (fun hc => ?_) (fun hc => ?_) | refine Nx.p_bool rfl rfl (fun hc => ?_) (fun hc => ?_))
                | ((first | refine Nx.at_op rfl rfl ?_ | refine Nx.m_loud rfl rfl rfl ?_ | refine Nx.at_do rfl rfl rfl rfl ?_ | refine Nx.m_loud_do rfl rfl rfl rfl rfl ?_); first | refine Nx.opr rfl rfl ?_ | refine Nx.so ?_ | refine Nx.sb (fun bx => ?_) | refine Nx.sa (fun A2 c2 => ?_))
                | ((with_reducible refine Nx.is_at ?_); first | refine Nx.a ?_ | ((fail_if_success refine Nx.at_do rfl rfl rfl rfl ?_); first | refine Nx.at_dec_t rfl rfl rfl rfl (by first | assumption | omega) ?_ | refine Nx.at_dec_f rfl rfl rfl rfl (by first | assumption | omega) ?_ | refine Nx.at_split rfl rfl rfl rfl (fun hc => ?_) (fun hc => ?_) | refine Nx.at_splitb rfl rfl rfl rfl (fun hc => ?_) (fun hc => ?_)))
                | ((with_reducible refine Nx.is_mix ?_); first | refine Nx.m_quiet rfl rfl rfl rfl rfl (by first | exact QRun.opr rfl | exact QRun.idx rfl rfl rfl rfl (by omega) (hT.isSome (by omega)) | exact QRun.load rfl rfl (hT.rd (by omega)) | exact QRun.load rfl rfl (Rd.at_ 0 rfl rfl) | exact QRun.binr rfl rfl run_lss_s) ?_ | refine Nx.m_quiet_do rfl rfl rfl rfl rfl rfl rfl (by first | exact QRun.opr rfl | exact QRun.idx rfl rfl rfl rfl (by omega) (hT.isSome (by omega)) | exact QRun.load rfl rfl (hT.rd (by omega)) | exact QRun.load rfl rfl (Rd.at_ 0 rfl rfl) | exact QRun.binr rfl rfl run_lss_s) ?_ | refine Nx.m ?_ | ((fail_if_success refine Nx.m_quiet_do rfl rfl rfl rfl rfl rfl rfl ?_ ?_); (fail_if_success refine Nx.m_loud_do rfl rfl rfl rfl rfl ?_); first | refine Nx.m_dec_t rfl rfl rfl rfl (by first | assumption | omega) ?_ | refine Nx.m_dec_f rfl rfl rfl rfl (by first | assumption | omega) ?_ | refine Nx.m_split rfl rfl rfl rfl (fun hc => ?_) (fun hc => ?_) | refine Nx.m_splitb rfl rfl rfl rfl (fun hc => ?_) (fun hc => ?_)))
                | ((fail_if_success (with_reducible refine Nx.is_at ?_)); (fail_if_success (with_reducible refine Nx.is_wp ?_)); (fail_if_success (with_reducible refine Nx.is_mix ?_)); first | refine Nx.ex ?_)
              all_goals first
                | (exfalso; rw [ByteArray.toList_mk, ByteArray.toList_mk] at hc; have hc : strLt (o.getD j default) (l.getD k default).1 = _ := hc; rw [hg2] at hc; cases hc; done)
                | exact Nx.upto j ⟨hj, hix⟩ ⟨rfl, rfl, rfl, rfl, rfl, rfl, rfl, trivial⟩ (by (exact Ent.auto))
            · repeat' first
                | ((with_reducible refine Nx.is_wp ?_); first | refine Nx.wo ?_ | refine Nx.p_draw (id := 9) rfl [0, 1, 2, 3, 4, 5, 6, 7, 8, 9, 10, 11, 12] [] _ rfl rfl (by kernel_rfl) (by kernel_rfl) rfl (by repeat first | exact PanicOk.fn | refine PanicOk.then_ ?_ | refine PanicOk.inB ?_) (Ent.refl _) ?_ | refine Nx.p_dec rfl rfl (fun hc => ?_) (fun hc => ?_) | refine Nx.p_bool rfl rfl (fun hc => ?_) (fun hc => ?_))
                | ((first | refine Nx.at_op rfl rfl ?_ | refine Nx.m_loud rfl rfl rfl ?_ | refine Nx.at_do rfl rfl rfl rfl ?_ | refine Nx.m_loud_do rfl rfl rfl rfl rfl ?_); first | refine Nx.opr rfl rfl ?_ | refine Nx.so ?_ | refine Nx.sb (fun bx => ?_) | refine Nx.sa (fun A2 c2 => ?_))
                | ((with_reducible refine Nx.is_at ?_); first | refine Nx.a ?_ | ((fail_if_success refine Nx.at_do rfl rfl rfl rfl ?_); first | refine Nx.at_dec_t rfl rfl rfl rfl (by first | assumption | omega) ?_ | refine Nx.at_dec_f rfl rfl rfl rfl (by first | assumption | omega) ?_ | refine Nx.at_split rfl rfl rfl rfl (fun hc => ?_) (fun hc => ?_) | refine Nx.at_splitb rfl rfl rfl rfl (fun hc => ?_) (fun hc => ?_)))
                | ((with_reducible refine Nx.is_mix ?_); first | refine Nx.m ?_ | ((fail_if_success refine Nx.m_quiet_do rfl rfl rfl rfl rfl rfl rfl ?_ ?_); (fail_if_success refine Nx.m_loud_do rfl rfl rfl rfl rfl ?_); first | refine Nx.m_dec_t rfl rfl rfl rfl (by first | assumption | omega) ?_ | refine Nx.m_dec_f rfl rfl rfl rfl (by first | assumption | omega) ?_ | refine Nx.m_split rfl rfl rfl rfl (fun hc => ?_) (fun hc => ?_) | refine Nx.m_splitb rfl rfl rfl rfl (fun hc => ?_) (fun hc => ?_)))
                | ((fail_if_success (with_reducible refine Nx.is_at ?_)); (fail_if_success (with_reducible refine Nx.is_wp ?_)); (fail_if_success (with_reducible refine Nx.is_mix ?_)); first | refine Nx.ex ?_)
              exact Nx.upto j ⟨hj, hix⟩ ⟨rfl, rfl, rfl, rfl, rfl, rfl, rfl, trivial⟩ (by (exact Ent.auto))
        rintro j ⟨hj, hix⟩
        refine onIns A1 c1 o (l.getD k default) _ _ _ _ I1 hT (by omega) j hj hix b7 w F _ (by repeat first | exact PanicOk.fn | refine PanicOk.then_ ?_ | refine PanicOk.inB ?_) fun A4 c4 => ?_
        repeat' first
          | ((with_reducible refine Nx.is_wp ?_); first | refine Nx.wo ?_ | refine Nx.p_dec rfl rfl (fun hc => ?_) (fun hc => ?_) | refine Nx.p_bool rfl rfl (fun hc => ?_) (fun hc => ?_))
          | ((first | refine Nx.at_op rfl rfl ?_ | refine Nx.m_loud rfl rfl rfl ?_ | refine Nx.at_do rfl rfl rfl rfl ?_ | refine Nx.m_loud_do rfl rfl rfl rfl rfl ?_); first | refine Nx.opr rfl rfl ?_ | refine Nx.so ?_ | refine Nx.sb (fun bx => ?_) | refine Nx.sa (fun A2 c2 => ?_))
          | ((with_reducible refine Nx.is_at ?_); first | refine Nx.a ?_ | ((fail_if_success refine Nx.at_do rfl rfl rfl rfl ?_); first | refine Nx.at_dec_t rfl rfl rfl rfl (by first | assumption | omega) ?_ | refine Nx.at_dec_f rfl rfl rfl rfl (by first | assumption | omega) ?_ | refine Nx.at_split rfl rfl rfl rfl (fun hc => ?_) (fun hc => ?_) | refine Nx.at_splitb rfl rfl rfl rfl (fun hc => ?_) (fun hc => ?_)))
          | ((with_reducible refine Nx.is_mix ?_); first | refine Nx.m ?_ | ((fail_if_success refine Nx.m_quiet_do rfl rfl rfl rfl rfl rfl rfl ?_ ?_); (fail_if_success refine Nx.m_loud_do rfl rfl rfl rfl rfl ?_); first | refine Nx.m_dec_t rfl rfl rfl rfl (by first | assumption | omega) ?_ | refine Nx.m_dec_f rfl rfl rfl rfl (by first | assumption | omega) ?_ | refine Nx.m_split rfl rfl rfl rfl (fun hc => ?_) (fun hc => ?_) | refine Nx.m_splitb rfl rfl rfl rfl (fun hc => ?_) (fun hc => ?_)))
          | ((fail_if_success (with_reducible refine Nx.is_at ?_)); (fail_if_success (with_reducible refine Nx.is_wp ?_)); (fail_if_success (with_reducible refine Nx.is_mix ?_)); first | refine Nx.ex ?_)
        exact Nx.imm_le hI1 (Nx.again (k + 1, A4, c4, insG ltT o (l.getD k default).1) ⟨hlt, hs⟩ (by dsimp only; omega) ⟨rfl, rfl, rfl, rfl, rfl, trivial⟩ (by (exact Ent.auto)))
      · have hb0 : onB t (l.getD k default) = false := by simpa using hb
        rw [if_neg hb, hoo] at hs
        rw [hb0] at hon
        repeat' first
          | ((with_reducible refine Nx.is_wp ?_); first | refine Nx.wo ?_ | refine Nx.p_dec rfl rfl (fun hc => ?_) (fun hc => ?_) | refine Nx.p_bool rfl rfl (fun hc => ?_) (fun hc => ?_))
          | ((first | refine Nx.at_op rfl rfl ?_ | refine Nx.m_loud rfl rfl rfl ?_ | refine Nx.at_do rfl rfl rfl rfl ?_ | refine Nx.m_loud_do rfl rfl rfl rfl rfl ?_); first | refine Nx.opr rfl rfl ?_ | refine Nx.indexAddr_nat rfl rfl rfl rfl rfl (by omega) (hl.isSome (by omega) (by omega)) ?_ | refine Nx.loads rfl rfl rfl rfl (hl.rds (by omega)) rfl ?_ | refine Nx.callv rfl rfl rfl (by kernel_rfl) rfl hon ?_ | refine Nx.so ?_ | refine Nx.sb (fun bx => ?_) | refine Nx.sa (fun A2 c2 => ?_))
          | ((with_reducible refine Nx.is_at ?_); first | refine Nx.a ?_ | ((fail_if_success refine Nx.at_do rfl rfl rfl rfl ?_); first | refine Nx.at_dec_t rfl rfl rfl rfl (by first | assumption | omega) ?_ | refine Nx.at_dec_f rfl rfl rfl rfl (by first | assumption | omega) ?_ | refine Nx.at_split rfl rfl rfl rfl (fun hc => ?_) (fun hc => ?_) | refine Nx.at_splitb rfl rfl rfl rfl (fun hc => ?_) (fun hc => ?_)))
          | ((with_reducible refine Nx.is_mix ?_); first | refine Nx.m ?_ | ((fail_if_success refine Nx.m_quiet_do rfl rfl rfl rfl rfl rfl rfl ?_ ?_); (fail_if_success refine Nx.m_loud_do rfl rfl rfl rfl rfl ?_); first | refine Nx.m_dec_t rfl rfl rfl rfl (by first | assumption | omega) ?_ | refine Nx.m_dec_f rfl rfl rfl rfl (by first | assumption | omega) ?_ | refine Nx.m_split rfl rfl rfl rfl (fun hc => ?_) (fun hc => ?_) | refine Nx.m_splitb rfl rfl rfl rfl (fun hc => ?_) (fun hc => ?_)))
          | ((fail_if_success (with_reducible refine Nx.is_at ?_)); (fail_if_success (with_reducible refine Nx.is_wp ?_)); (fail_if_success (with_reducible refine Nx.is_mix ?_)); first | refine Nx.ex ?_)
        exact Nx.again (k + 1, A1, c1, o) ⟨hlt, hs⟩ (by dsimp only; omega) ⟨rfl, rfl, rfl, rfl, rfl, trivial⟩ (by (exact Ent.auto))
    · obtain rfl : k = l.length := by omega
      rw [List.take_length] at hoo
      rw [hoo]
      repeat' first
        | ((with_reducible refine Nx.is_wp ?_); first | refine Nx.wo ?_ | refine Nx.p_dec rfl rfl (fun hc => ?_) (fun hc => ?_) | refine Nx.p_bool rfl rfl (fun hc => ?_) (fun hc => ?_))
        | ((first | refine Nx.at_op rfl rfl ?_ | refine Nx.m_loud rfl rfl rfl ?_ | refine Nx.at_do rfl rfl rfl rfl ?_ | refine Nx.m_loud_do rfl rfl rfl rfl rfl ?_); first | refine Nx.opr rfl rfl ?_ | refine Nx.so ?_ | refine Nx.sb (fun bx => ?_) | refine Nx.sa (fun A2 c2 => ?_))
        | ((with_reducible refine Nx.is_at ?_); first | refine Nx.a ?_ | ((fail_if_success refine Nx.at_do rfl rfl rfl rfl ?_); first | refine Nx.at_dec_t rfl rfl rfl rfl (by first | assumption | omega) ?_ | refine Nx.at_dec_f rfl rfl rfl rfl (by first | assumption | omega) ?_ | refine Nx.at_split rfl rfl rfl rfl (fun hc => ?_) (fun hc => ?_) | refine Nx.at_splitb rfl rfl rfl rfl (fun hc => ?_) (fun hc => ?_)))
        | ((with_reducible refine Nx.is_mix ?_); first | refine Nx.m ?_ | ((fail_if_success refine Nx.m_quiet_do rfl rfl rfl rfl rfl rfl rfl ?_ ?_); (fail_if_success refine Nx.m_loud_do rfl rfl rfl rfl rfl ?_); first | refine Nx.m_dec_t rfl rfl rfl rfl (by first | assumption | omega) ?_ | refine Nx.m_dec_f rfl rfl rfl rfl (by first | assumption | omega) ?_ | refine Nx.m_split rfl rfl rfl rfl (fun hc => ?_) (fun hc => ?_) | refine Nx.m_splitb rfl rfl rfl rfl (fun hc => ?_) (fun hc => ?_)))
        | ((fail_if_success (with_reducible refine Nx.is_at ?_)); (fail_if_success (with_reducible refine Nx.is_wp ?_)); (fail_if_success (with_reducible refine Nx.is_mix ?_)); first | refine Nx.ex ?_)
      exact Nx.ret_fn rfl [textsR A1 c1 o] ⟨A1, c1, rfl, rfl⟩ (by (exact Ent.auto))
  · rw [show onG l t = [] from if_neg hE]
    refine FnSpec.enterP Try.func48 rfl Try.ntmps48 rfl fun w F => ?_
    repeat' first
      | ((with_reducible refine Nx.is_wp ?_); first | refine Nx.wo ?_ | refine Nx.p_dec rfl rfl (fun hc => ?_) (fun hc => ?_) | refine Nx.p_bool rfl rfl (fun hc => ?_) (fun hc => ?_))
      | ((first | refine Nx.at_op rfl rfl ?_ | refine Nx.m_loud rfl rfl rfl ?_ | refine Nx.at_do rfl rfl rfl rfl ?_ | refine Nx.m_loud_do rfl rfl rfl rfl rfl ?_); first | refine Nx.opr rfl rfl ?_ | refine Nx.callv rfl rfl rfl (by kernel_rfl) rfl hCk ?_ | refine Nx.so ?_ | refine Nx.sb (fun bx => ?_) | refine Nx.sa (fun A2 c2 => ?_))
      | ((with_reducible refine Nx.is_at ?_); first | refine Nx.a ?_ | ((fail_if_success refine Nx.at_do rfl rfl rfl rfl ?_); first | refine Nx.at_dec_t rfl rfl rfl rfl (by first | assumption | omega) ?_ | refine Nx.at_dec_f rfl rfl rfl rfl (by first | assumption | omega) ?_ | refine Nx.at_split rfl rfl rfl rfl (fun hc => ?_) (fun hc => ?_) | refine Nx.at_splitb rfl rfl rfl rfl (fun hc => ?_) (fun hc => ?_)))
      | ((with_reducible refine Nx.is_mix ?_); first | refine Nx.m ?_ | ((fail_if_success refine Nx.m_quiet_do rfl rfl rfl rfl rfl rfl rfl ?_ ?_); (fail_if_success refine Nx.m_loud_do rfl rfl rfl rfl rfl ?_); first | refine Nx.m_dec_t rfl rfl rfl rfl (by first | assumption | omega) ?_ | refine Nx.m_dec_f rfl rfl rfl rfl (by first | assumption | omega) ?_ | refine Nx.m_split rfl rfl rfl rfl (fun hc => ?_) (fun hc => ?_) | refine Nx.m_splitb rfl rfl rfl rfl (fun hc => ?_) (fun hc => ?_)))
      | ((fail_if_success (with_reducible refine Nx.is_at ?_)); (fail_if_success (with_reducible refine Nx.is_wp ?_)); (fail_if_success (with_reducible refine Nx.is_mix ?_)); first | refine Nx.ex ?_)
    exact Nx.ret_fn rfl [textsR none 0 []] ⟨none, 0, rfl, rfl⟩ (Ent.vec_nil _ _ _)
end Go.Proofs.Ytaoeapmdhpkidaa
/- Contracts of functions of the given program, and lemmas about plain lists and numbers: what the laws of this seat lean on. -/
namespace Go.Proofs.Ytaoeapmdhpkidaa
open Go.Eng
attribute [local irreducible] opK wpList Code.wp Exit.then Exit.inBlock fnPost bodyPost Nx Calls Oper.wp Rd Rds Wr Ent Stars Blk Again Vec FnSpec wpMix QRun Stop Upto wpAt
set_option maxHeartbeats 4000000 in
set_option maxRecDepth 10000 in
theorem RDuty_spec (A : Option Addr) (c : Nat) (l : List Shift) (s : List UInt8) (t : Int) (I : PH) (hl : Shifts I A c l) (ho : ∀ x ∈ l, shOk x) :
    FnSpec Try.prog 27 [.slice A l.length c, strV s, .int .i64 t] I [] (fun v R' => v = .bool ((onG l t).contains s) ∧ R' = []) := by
  refine FnSpec.enterP Try.func27 rfl Try.ntmps27 rfl fun w F => ?_
  repeat' first
    | ((with_reducible refine Nx.is_wp ?_); first | refine Nx.wo ?_ | refine Nx.p_dec rfl rfl (fun hc => ?_) (fun hc => ?_) | refine Nx.p_bool rfl rfl (fun hc => ?_) (fun hc => ?_))
    | ((first | refine Nx.at_op rfl rfl ?_ | refine Nx.m_loud rfl rfl rfl ?_ | refine Nx.at_do rfl rfl rfl rfl ?_ | refine Nx.m_loud_do rfl rfl rfl rfl rfl ?_); first | refine Nx.opr rfl rfl ?_ | refine Nx.so ?_ | refine Nx.sb (fun bx => ?_) | refine Nx.sa (fun A2 c2 => ?_))
    | ((with_reducible refine Nx.is_at ?_); first | refine Nx.a ?_ | ((fail_if_success refine Nx.at_do rfl rfl rfl rfl ?_); first | refine Nx.at_dec_t rfl rfl rfl rfl (by first | assumption | omega) ?_ | refine Nx.at_dec_f rfl rfl rfl rfl (by first | assumption | omega) ?_ | refine Nx.at_split rfl rfl rfl rfl (fun hc => ?_) (fun hc => ?_) | refine Nx.at_splitb rfl rfl rfl rfl (fun hc => ?_) (fun hc => ?_)))
    | ((with_reducible refine Nx.is_mix ?_); first | refine Nx.m ?_ | ((fail_if_success refine Nx.m_quiet_do rfl rfl rfl rfl rfl rfl rfl ?_ ?_); (fail_if_success refine Nx.m_loud_do rfl rfl rfl rfl rfl ?_); first | refine Nx.m_dec_t rfl rfl rfl rfl (by first | assumption | omega) ?_ | refine Nx.m_dec_f rfl rfl rfl rfl (by first | assumption | omega) ?_ | refine Nx.m_split rfl rfl rfl rfl (fun hc => ?_) (fun hc => ?_) | refine Nx.m_splitb rfl rfl rfl rfl (fun hc => ?_) (fun hc => ?_)))
    | ((fail_if_success (with_reducible refine Nx.is_at ?_)); (fail_if_success (with_reducible refine Nx.is_wp ?_)); (fail_if_success (with_reducible refine Nx.is_mix ?_)); first | refine Nx.ex ?_)
  refine Nx.at_op rfl rfl ?_
  refine Nx.call rfl rfl rfl (by kernel_rfl) rfl (ROn_spec A c l t I hl ho) (by (exact Ent.auto)) ?_
  rintro v R' ⟨A3, c3, rfl, rfl⟩
  refine Nx.freezeAt 0 rfl fun I1 m1 hI1 hm1 h1 => ?_
  have hT : Texts I1 A3 c3 (onG l t) := Vec.sliceOf hm1 h1
  generalize onG l t = o at hT ⊢
  have hlen := hT.len
  repeat' first
    | ((with_reducible refine Nx.is_wp ?_); first | refine Nx.wo ?_ | refine Nx.p_dec rfl rfl (fun hc => ?_) (fun hc => ?_) | refine Nx.p_bool rfl rfl (fun hc => ?_) (fun hc => ?_))
    | ((first | refine Nx.at_op rfl rfl ?_ | refine Nx.m_loud rfl rfl rfl ?_ | refine Nx.at_do rfl rfl rfl rfl ?_ | refine Nx.m_loud_do rfl rfl rfl rfl rfl ?_); first | refine Nx.opr rfl rfl ?_ | refine Nx.so ?_ | refine Nx.sb (fun bx => ?_) | refine Nx.sa (fun A2 c2 => ?_))
    | ((with_reducible refine Nx.is_at ?_); first | refine Nx.a ?_ | ((fail_if_success refine Nx.at_do rfl rfl rfl rfl ?_); first | refine Nx.at_dec_t rfl rfl rfl rfl (by first | assumption | omega) ?_ | refine Nx.at_dec_f rfl rfl rfl rfl (by first | assumption | omega) ?_ | refine Nx.at_split rfl rfl rfl rfl (fun hc => ?_) (fun hc => ?_) | refine Nx.at_splitb rfl rfl rfl rfl (fun hc => ?_) (fun hc => ?_)))
    | ((with_reducible refine Nx.is_mix ?_); first | refine Nx.m ?_ | ((fail_if_success refine Nx.m_quiet_do rfl rfl rfl rfl rfl rfl rfl ?_ ?_); (fail_if_success refine Nx.m_loud_do rfl rfl rfl rfl rfl ?_); first | refine Nx.m_dec_t rfl rfl rfl rfl (by first | assumption | omega) ?_ | refine Nx.m_dec_f rfl rfl rfl rfl (by first | assumption | omega) ?_ | refine Nx.m_split rfl rfl rfl rfl (fun hc => ?_) (fun hc => ?_) | refine Nx.m_splitb rfl rfl rfl rfl (fun hc => ?_) (fun hc => ?_)))
    | ((fail_if_success (with_reducible refine Nx.is_at ?_)); (fail_if_success (with_reducible refine Nx.is_wp ?_)); (fail_if_success (with_reducible refine Nx.is_mix ?_)); first | refine Nx.ex ?_)
  refine Nx.p_loop (σ := Nat) (fun k => [(1, strV s), (11, .slice A3 o.length c3), (12, .int .i64 o.length), (13, .int .i64 (k : Int))])
    (fun _ => [F]) (fun k => k ≤ o.length ∧ (o.take k).contains s = false) (fun k => o.length - k) 0 rfl ⟨Nat.zero_le _, by simp⟩ ⟨rfl, rfl, rfl, rfl, trivial⟩ (Ent.refl _) ?_
  rintro k ⟨hk, hno⟩
  by_cases hlt : k < o.length
  · have hs : (o.take (k + 1)).contains s = ((o.take k).contains s || (s == o.getD k default)) := by
      rw [List.take_succ_eq_append_getElem hlt, ← tx_at hlt, Bool.eq_iff_iff, Bool.or_eq_true, beq_iff_eq]; simp
    repeat' first
      | ((with_reducible refine Nx.is_wp ?_); first | refine Nx.wo ?_ | refine Nx.p_dec rfl rfl (fun hc => ?_) (fun hc => ?_) | refine Nx.p_bool rfl rfl (fun hc => ?_) (fun hc => ?_))
      | ((first | refine Nx.at_op rfl rfl ?_ | refine Nx.m_loud rfl rfl rfl ?_ | refine Nx.at_do rfl rfl rfl rfl ?_ | refine Nx.m_loud_do rfl rfl rfl rfl rfl ?_); first | refine Nx.opr rfl rfl ?_ | refine Nx.indexAddr_nat rfl rfl rfl rfl rfl (by omega) (hT.isSome (by omega)) ?_ | refine Nx.load rfl rfl rfl (hT.rd (by omega)) ?_ | refine Nx.so ?_ | refine Nx.sb (fun bx => ?_) | refine Nx.sa (fun A2 c2 => ?_))
      | ((with_reducible refine Nx.is_at ?_); first | refine Nx.a ?_ | ((fail_if_success refine Nx.at_do rfl rfl rfl rfl ?_); first | refine Nx.at_dec_t rfl rfl rfl rfl (by first | assumption | omega) ?_ | refine Nx.at_dec_f rfl rfl rfl rfl (by first | assumption | omega) ?_ | refine Nx.at_split rfl rfl rfl rfl (fun hc => ?_) (fun hc => ?_) | refine Nx.at_splitb rfl rfl rfl rfl (fun hc => ?_) (fun hc => ?_)))
      | ((with_reducible refine Nx.is_mix ?_); first | refine Nx.m ?_ | ((fail_if_success refine Nx.m_quiet_do rfl rfl rfl rfl rfl rfl rfl ?_ ?_); (fail_if_success refine Nx.m_loud_do rfl rfl rfl rfl rfl ?_); first | refine Nx.m_dec_t rfl rfl rfl rfl (by first | assumption | omega) ?_ | refine Nx.m_dec_f rfl rfl rfl rfl (by first | assumption | omega) ?_ | refine Nx.m_split rfl rfl rfl rfl (fun hc => ?_) (fun hc => ?_) | refine Nx.m_splitb rfl rfl rfl rfl (fun hc => ?_) (fun hc => ?_)))
      | ((fail_if_success (with_reducible refine Nx.is_at ?_)); (fail_if_success (with_reducible refine Nx.is_wp ?_)); (fail_if_success (with_reducible refine Nx.is_mix ?_)); first | refine Nx.ex ?_)
    · rw [ByteArray.toList_mk, ByteArray.toList_mk] at hc
      have hc : (o.getD k default == s) = true := hc
      rw [beq_iff_eq] at hc
      have : o.contains s = true := by
        rw [List.contains_iff_mem, ← hc, tx_at hlt]
        exact List.getElem_mem _
      rw [this]
      exact Nx.imm_le hI1 (Nx.ret_fn rfl [] ⟨rfl, rfl⟩ (Ent.refl _))
    · rw [ByteArray.toList_mk, ByteArray.toList_mk] at hc
      have hc : (o.getD k default == s) = false := hc
      refine Nx.again (k + 1) ⟨hlt, ?_⟩ (by omega) ⟨rfl, rfl, rfl, rfl, trivial⟩ (Ent.refl _)
      rw [hs, hno, Bool.false_or]
      rw [beq_eq_false_iff_ne] at hc ⊢
      exact fun h => hc h.symm
  · obtain rfl : k = o.length := by omega
    rw [List.take_length] at hno
    rw [hno]
    repeat' first
      | ((with_reducible refine Nx.is_wp ?_); first | refine Nx.wo ?_ | refine Nx.p_dec rfl rfl (fun hc => ?_) (fun hc => ?_) | refine Nx.p_bool rfl rfl (fun hc => ?_) (fun hc => ?_))
      | ((first | refine Nx.at_op rfl rfl ?_ | refine Nx.m_loud rfl rfl rfl ?_ | refine Nx.at_do rfl rfl rfl rfl ?_ | refine Nx.m_loud_do rfl rfl rfl rfl rfl ?_); first | refine Nx.opr rfl rfl ?_ | refine Nx.so ?_ | refine Nx.sb (fun bx => ?_) | refine Nx.sa (fun A2 c2 => ?_))
      | ((with_reducible refine Nx.is_at ?_); first | refine Nx.a ?_ | ((fail_if_success refine Nx.at_do rfl rfl rfl rfl ?_); first | refine Nx.at_dec_t rfl rfl rfl rfl (by first | assumption | omega) ?_ | refine Nx.at_dec_f rfl rfl rfl rfl (by first | assumption | omega) ?_ | refine Nx.at_split rfl rfl rfl rfl (fun hc => ?_) (fun hc => ?_) | refine Nx.at_splitb rfl rfl rfl rfl (fun hc => ?_) (fun hc => ?_)))
      | ((with_reducible refine Nx.is_mix ?_); first | refine Nx.m ?_ | ((fail_if_success refine Nx.m_quiet_do rfl rfl rfl rfl rfl rfl rfl ?_ ?_); (fail_if_success refine Nx.m_loud_do rfl rfl rfl rfl rfl ?_); first | refine Nx.m_dec_t rfl rfl rfl rfl (by first | assumption | omega) ?_ | refine Nx.m_dec_f rfl rfl rfl rfl (by first | assumption | omega) ?_ | refine Nx.m_split rfl rfl rfl rfl (fun hc => ?_) (fun hc => ?_) | refine Nx.m_splitb rfl rfl rfl rfl (fun hc => ?_) (fun hc => ?_)))
      | ((fail_if_success (with_reducible refine Nx.is_at ?_)); (fail_if_success (with_reducible refine Nx.is_wp ?_)); (fail_if_success (with_reducible refine Nx.is_mix ?_)); first | refine Nx.ex ?_)
    exact Nx.imm_le hI1 (Nx.ret_fn rfl [] ⟨rfl, rfl⟩ (Ent.refl _))
end Go.Proofs.Ytaoeapmdhpkidaa
/-
  The proof engine, part AB: what only reads, in its place; array literals; a store into an element of an owned list of structs.
-/
namespace Go.Eng
section
variable {C : Cx} {e : Env} {I : PH} {R : List Res} {K : Act → World → Prop} {Q : Exit → Act → World → Prop} {W : World} {d n c : Nat} {v : Value} {o : Oper} {P : Program} {t ty el : TypeId} {pos : String} {after : Array Edge} {g : Option (Nat × Bool)} {x y : Operand} {A : Option Addr}
/-- An array's literal whose parts stand one behind the other. -/
theorem Nx.buildA {parts : Array (Nat × Operand)} {vs cs : List Value} (hx : evs e (parts.toList.map (·.2)) = some vs) (hcs : forceL vs = some cs)
    (hv : pureRun C.P (Instr.build t (((parts.toList.map (·.1)).zip vs).toArray)) = some (.agg cs.toArray)) (hlt : Nat.blt d C.n = true)
    (h : Nx C ((d, .agg cs.toArray) :: e) I R K) : Nx C e I R (opK C.P ⟨some d, .build t parts, ty, pos, after, g⟩ K Q) := have _ := hcs; Nx.buildX cs hx hv hlt h
/-- A store into a cell of an owned list. -/
theorem Wr.vecN {sz i : Nat} {xs : List Value} (hi : i < n * sz) (h1 : v.oneCell' = true) : Wr P W I (Vec t sz A n c xs :: R) ((ad A).add i) [v] (Vec t sz A n c (xs.set i v) :: R) := by
  intro w hw
  obtain ⟨⟨m, ⟨m1, m2, hd, rfl, hv, h2⟩, hsat⟩, hst⟩ := id hw
  rcases hv.2 with ⟨_, h0, _⟩ | ⟨b, cur, rfl, hb, hnc, hcm, hsz, htake⟩
  · rw [h0, Nat.zero_mul] at hi; omega
  have hb0 : w.heap[b]? = some (.cells cur t (0, 0)) := hsat.own _ _ (PH.le_or_left _ _ _ _ hb)
  have hle : n * sz ≤ c * sz := Nat.mul_le_mul_right _ hnc
  have hrun := run_store1 (P := P) hb0 (i := i) (by omega) h1
  refine ⟨w.setCell ⟨b, i, none⟩ v, ?_, hw.upd (o := .cells (cur.setIfInBounds i v) t (0, 0)) (b := b) (fun mm hm => ?_) ?_ (fun k hne o' ho => (heap_setCell_other w ⟨b, i, none⟩ k v hne).trans ho) ⟨rfl, rfl, rfl, by simp, Nat.le_refl _⟩⟩
  · rw [ad_some, Addr.add_lit, Nat.zero_add]
    unfold storeCells
    rw [Sem.run_bind, Addr.add_zero', hrun]
    rfl
  · rcases hm.2 with ⟨he, _, _⟩ | ⟨b', cur', he, hb', h1', h2', h3', h4'⟩
    · cases he
    · cases he
      refine ⟨by rw [hb']; rfl, by simpa using hm.1, .inr ⟨b, cur.setIfInBounds i v, rfl, by simp, h1', h2', by simpa using hsz, ?_⟩⟩
      rw [← htake]
      simp only [Array.toList_setIfInBounds]
      rw [List.take_set]
  · exact heap_setCell_same w b i cur t v hb0
/-- A field of an element of an owned list of structs is stored, resource number k. -/
theorem Nx.store_fld (k : Nat) {sz i j : Nat} {xs : List Value} (hx : evo e x = some (.pointer (some (((ad A).add (i * sz)).add j)))) (hy : evo e y = some v) (hc : cellsL v = [v]) (h1 : v.oneCell' = true) (hn : cellsIn C.P t = some 1) (hk : nthL R k = some (Vec el sz A n c xs)) (hi : i * sz + j < n * sz)
    (h : Nx C e I (Vec el sz A n c (xs.set (i * sz + j) v) :: R.eraseIdx k) K) : Nx C e I R (opK C.P ⟨none, .store t x y, ty, pos, after, g⟩ K Q) := by
  rw [Addr.add_add] at hx
  exact Nx.ent (Ent.pull k R _ (nthL_eq.symm.trans hk)) (Nx.store hx hy ((cellsL_eq _).trans hc) hn rfl (Wr.vecN hi h1) h)
end
end Go.Eng
/-
  The proof engine, part AC: bundles: one of their resources taken out and put back; lists of structs, one field set.
-/
namespace Go.Eng
/-- A statement with a part ahead of it (if n := ..; ..), by the number of its first region. -/
def isSq (c : Code) (id : Nat) : Bool := Nat.beq (ck c) 3 && Nat.beq (ck (cl c)) 3 && (Nat.beq (ck (cl (cl c))) 1 || Nat.beq (ck (cl (cl c))) 2) && Nat.beq (cid (cl (cl c))) id
theorem Nx.p_stops {C : Cx} {e : Env} {I : PH} {R : List Res} {Q : Exit → Act → World → Prop} {c : Code} (id : Nat) (hi : isSq c id = true) (h : Nx C e I R (Stop (c.wp C.P Q))) : Nx C e I R (c.wp C.P Q) := have _ := hi; h
theorem Ent.unstars {B R : List Res} : Ent (Stars B :: R) (B ++ R) := by
  rintro m ⟨m1, m2, hd, rfl, h1, h2⟩
  obtain ⟨k, hk, hkS⟩ := Stars.join hd h1 h2
  exact ⟨k, hk, hkS⟩
theorem Ent.stars {B R : List Res} : Ent (B ++ R) (Stars B :: R) := by
  intro m hm
  obtain ⟨m1, m2, hd, rfl, h1, h2⟩ := Stars.append hm
  exact ⟨_, PH.le_refl _, m1, m2, hd, rfl, h1, h2⟩
theorem Ent.push : ∀ (k : Nat) (R : List Res) (r : Res), R[k]? = some r → Ent (r :: R.eraseIdx k) R
  | 0, r' :: R, r, h => by simp at h; subst h; exact Ent.refl _
  | k + 1, r' :: R, r, h => (Ent.swap _ _ _).trans (Ent.pick 0 rfl (Ent.push k R r (by simpa using h)))
  | k, [], r, h => by simp at h
/-- Number k of a bundle is taken out. -/
theorem Ent.takeOut (k : Nat) {B R : List Res} {r : Res} (h : B[k]? = some r) : Ent (Stars B :: R) (r :: Stars (B.eraseIdx k) :: R) := by
  have hk := (List.getElem?_eq_some_iff.1 h).1
  refine Ent.unstars.trans ((Ent.pull k (B ++ R) r (by rw [List.getElem?_append_left hk]; exact h)).trans ?_)
  rw [List.eraseIdx_append_of_lt_length hk]
  exact Ent.pick 0 rfl Ent.stars
/-- .. and another one is put in its place. -/
theorem Ent.putIn (k : Nat) {B R : List Res} {r : Res} (hk : k < B.length) : Ent (r :: Stars (B.eraseIdx k) :: R) (Stars (B.set k r) :: R) := by
  have e : (B.set k r).eraseIdx k = B.eraseIdx k := List.eraseIdx_set_eq
  have hk2 : k < (B.set k r).length := by rw [List.length_set]; exact hk
  have h1 : Ent (r :: Stars (B.eraseIdx k) :: R) (r :: (B.eraseIdx k ++ R)) := Ent.pick 0 rfl Ent.unstars
  refine h1.trans (Ent.trans ?_ Ent.stars)
  rw [← e, ← List.eraseIdx_append_of_lt_length hk2]
  exact Ent.push k _ r (by rw [List.getElem?_append_left hk2, List.getElem?_set_self hk])
section
variable {C : Cx} {e : Env} {I : PH} {R : List Res} {K : Act → World → Prop} {Q : Exit → Act → World → Prop} {S : World → Prop} {d : Nat} {dst : Option Tmp} {ty t u : TypeId} {pos : String} {after : Array Edge} {g : Option (Nat × Bool)} {x y : Operand} {a b : List UInt8}
/-- Two strings are compared: the value is told as a comparison of lists. -/
theorem Nx.eql_s (hx : evo e x = some (strV a)) (hy : evo e y = some (strV b)) (hlt : Nat.blt d C.n = true) (h : Nx C ((d, .bool (a == b)) :: e) I R K) : Nx C e I R (opK C.P ⟨some d, .binOp .eql t x y u, ty, pos, after, g⟩ K Q) := Nx.binr hx hy run_eql_s hlt h
theorem Nx.neq_s (hx : evo e x = some (strV a)) (hy : evo e y = some (strV b)) (hlt : Nat.blt d C.n = true) (h : Nx C ((d, .bool (!(a == b))) :: e) I R K) : Nx C e I R (opK C.P ⟨some d, .binOp .neq t x y u, ty, pos, after, g⟩ K Q) := Nx.binr hx hy run_neq_s hlt h
theorem QRun.eql_s (hx : evo e x = some (strV a)) (hy : evo e y = some (strV b)) : QRun C e S ⟨dst, .binOp .eql t x y u, ty, pos, after, g⟩ (.bool (a == b)) := QRun.binr hx hy run_eql_s
/-- A field of what a pointer leads to. -/
theorem QRun.fld {k o : Nat} {A : Addr} (hx : evo e x = some (.pointer (some A))) (ho : fieldOff C.P t k = some o) : QRun C e S ⟨dst, .fieldAddr t x k, ty, pos, after, g⟩ (.pointer (some (A.add o))) := fun a w ha _ => by
  simp only [execOp, ha.eval hx]
  exact run_v (fieldOff_run ho A w)
theorem QRun.neq_s (hx : evo e x = some (strV a)) (hy : evo e y = some (strV b)) : QRun C e S ⟨dst, .binOp .neq t x y u, ty, pos, after, g⟩ (.bool (!(a == b))) := QRun.binr hx hy run_neq_s
end
theorem flat_len {α : Type} {f : α → List Value} {sz : Nat} (hf : ∀ x, (f x).length = sz) (l : List α) : (l.flatMap f).length = l.length * sz := by
  induction l with
  | nil => simp
  | cons x l ih => rw [List.flatMap_cons, List.length_append, ih, hf, List.length_cons, Nat.succ_mul]; omega
section
variable {α : Type} [Inhabited α] {f : α → List Value} {sz : Nat}
theorem flat_set (hf : ∀ x, (f x).length = sz) : ∀ {l : List α} {k j : Nat} {v : Value} {x' : α}, k < l.length → j < sz → f x' = (f (l.getD k default)).set j v → (l.flatMap f).set (k * sz + j) v = (l.set k x').flatMap f
  | [], k, j, v, x', h, _, _ => by simp at h
  | x :: l, 0, j, v, x', h, hj, he => by
    rw [List.flatMap_cons, List.set_cons_zero, List.flatMap_cons, Nat.zero_mul, Nat.zero_add, List.set_append_left _ _ (by rw [hf]; exact hj), he]
    rfl
  | x :: l, k + 1, j, v, x', h, hj, he => by
    rw [List.getD_cons_succ] at he
    have e : (k + 1) * sz + j - sz = k * sz + j := by rw [Nat.succ_mul]; omega
    rw [List.flatMap_cons, List.set_cons_succ, List.flatMap_cons, List.set_append_right _ _ (by rw [hf, Nat.succ_mul]; omega), hf, e, flat_set hf (by simpa using h) hj he]
/-- An element of an owned list of structs is read. -/
theorem Rds.vecN {W : World} {I : PH} {R : List Res} {t : TypeId} {A : Option Addr} {n c : Nat} {l : List α} (k : Nat) {i : Nat} (hf : ∀ x, (f x).length = sz) (hk : nthL R k = some (Vec t sz A n c (l.flatMap f))) (hi : i < l.length) : Rds W I R ((ad A).add (i * sz)) (f (l.getD i default)) := by
  intro j u hj
  have hfl := flatMap_at (f := f) (sz := sz) (fun x _ => hf x) hi
  have hjl : j < sz := by have := (List.getElem?_eq_some_iff.1 hj).1; rw [hf] at this; exact this
  rw [← hfl, List.getElem?_take, if_pos hjl, List.getElem?_drop] at hj
  rw [Addr.add_add]
  exact Rd.vecAt k hk (by rw [nthL_eq]; exact hj)
theorem Rd.vecFld {W : World} {I : PH} {R : List Res} {t : TypeId} {A : Option Addr} {n c : Nat} {l : List α} {v : Value} (k : Nat) {i : Nat} (hf : ∀ x, (f x).length = sz) (hk : nthL R k = some (Vec t sz A n c (l.flatMap f))) (hi : i < l.length) (j : Nat) (hj : nthL (f (l.getD i default)) j = some v) : Rd W I R (((ad A).add (i * sz)).add j) v :=
  Rds.vecN k hf hk hi j v (nthL_eq.symm.trans hj)
/-- A field of a given-up list of structs. -/
theorem SliceN.fld {c k : Nat} {l : List α} {I : PH} {R : List Res} {W : World} {A : Option Addr} {v : Value} (h : SliceN f sz I A c l) (hk : k < l.length) (j : Nat) (hj : nthL (f (l.getD k default)) j = some v) : Rd W I R (((ad A).add (k * sz)).add j) v :=
  h.rds hk j v (nthL_eq.symm.trans hj)
end
end Go.Eng
/- Contracts of functions of the given program, and lemmas about plain lists and numbers: what the laws of this seat lean on. -/
namespace Go.Proofs.Ytaoeapmdhpkidaa
open Go.Eng
attribute [local irreducible] opK wpList Code.wp Exit.then Exit.inBlock fnPost bodyPost Nx Calls Oper.wp Rd Rds Wr Ent Stars Blk Again Vec FnSpec wpMix QRun Stop Upto wpAt
/-! Outputs and their signatures -/
abbrev Sig := List UInt8 × Int
def sgC (s : Sig) : List Value := [strV s.1, .int .i64 s.2]
def sgV (s : Sig) : Value := .agg #[strV s.1, .int .i64 s.2]
abbrev Sigs := SliceN sgC 2
structure Out where
  n : Int
  proj : List UInt8
  who : List UInt8
  t : Int
  text : List UInt8
  st : Int
  sg : List Sig
instance : Inhabited Out := ⟨⟨0, [], [], 0, [], 0, []⟩⟩
/-- An output and where its signatures lie. -/
abbrev OutM := Out × Option Addr × Nat
def ouC (x : OutM) : List Value := [.int .i64 x.1.n, strV x.1.proj, strV x.1.who, .int .i64 x.1.t, strV x.1.text, .int .i64 x.1.st, .slice x.2.1 x.1.sg.length x.2.2]
def ouV (x : OutM) : Value := .agg #[.int .i64 x.1.n, strV x.1.proj, strV x.1.who, .int .i64 x.1.t, strV x.1.text, .int .i64 x.1.st, .slice x.2.1 x.1.sg.length x.2.2]
structure SigsOf (I : PH) (x : OutM) : Prop where
  sl : Sigs I x.2.1 x.2.2 x.1.sg
theorem SigsOf.mono {I I' : PH} {x : OutM} (hle : PH.le I I') (h : SigsOf I x) : SigsOf I' x := ⟨h.sl.mono hle⟩
structure Outs (I : PH) (A : Option Addr) (c : Nat) (l : List OutM) : Prop where
  sl : SliceN ouC 7 I A c l
  sg : ∀ x ∈ l, SigsOf I x
theorem Outs.mono {I I' : PH} {A : Option Addr} {c : Nat} {l : List OutM} (hle : PH.le I I') (h : Outs I A c l) : Outs I' A c l := ⟨h.sl.mono hle, fun x hx => (h.sg x hx).mono hle⟩
def timeB (t : Int) : Bool := decide (0 ≤ t ∧ t ≤ 1073741824)
def sgB (s : Sig) : Bool := nameB s.1 && timeB s.2
def validB (o : Out) : Bool := decide (1 ≤ o.n ∧ o.n ≤ 40) && nameB o.proj && nameB o.who && timeB o.t && decide (o.text.length ≤ 1024) && decide (1 ≤ o.st ∧ o.st ≤ 6) && decide (o.sg.length ≤ 2) && o.sg.all sgB
def stateB (n : Nat) (st : Int) : Bool := if n = 0 then decide (st = 1 ∨ st = 4 ∨ st = 5) else if n = 1 then decide (st = 2 ∨ st = 4 ∨ st = 5) else decide (st = 3 ∨ st = 6)
def openB (o : Out) : Bool := decide (o.st = 1 ∨ o.st = 2)
set_option maxRecDepth 10000 in
theorem qtime_spec (t : Int) (I : PH) : FnSpec Try.prog 89 [.int .i64 t] I [] (fun v R' => v = .bool (timeB t) ∧ R' = []) := by
  by_cases h : timeB t = true
  · have h' := of_decide_eq_true h
    rw [h]
    refine FnSpec.enterP Try.func89 rfl Try.ntmps89 rfl fun w F => ?_
    repeat' first
      | ((with_reducible refine Nx.is_wp ?_); first | refine Nx.wo ?_ | refine Nx.p_dec rfl rfl (fun hc => ?_) (fun hc => ?_) | refine Nx.p_bool rfl rfl (fun hc => ?_) (fun hc => ?_))
      | ((first | refine Nx.at_op rfl rfl ?_ | refine Nx.m_loud rfl rfl rfl ?_ | refine Nx.at_do rfl rfl rfl rfl ?_ | refine Nx.m_loud_do rfl rfl rfl rfl rfl ?_); first | refine Nx.opr rfl rfl ?_ | refine Nx.so ?_ | refine Nx.sb (fun bx => ?_) | refine Nx.sa (fun A2 c2 => ?_))
      | ((with_reducible refine Nx.is_at ?_); first | refine Nx.a ?_ | ((fail_if_success refine Nx.at_do rfl rfl rfl rfl ?_); first | refine Nx.at_dec_t rfl rfl rfl rfl (by first | assumption | omega) ?_ | refine Nx.at_dec_f rfl rfl rfl rfl (by first | assumption | omega) ?_ | refine Nx.at_split rfl rfl rfl rfl (fun hc => ?_) (fun hc => ?_) | refine Nx.at_splitb rfl rfl rfl rfl (fun hc => ?_) (fun hc => ?_)))
      | ((with_reducible refine Nx.is_mix ?_); first | refine Nx.m ?_ | ((fail_if_success refine Nx.m_quiet_do rfl rfl rfl rfl rfl rfl rfl ?_ ?_); (fail_if_success refine Nx.m_loud_do rfl rfl rfl rfl rfl ?_); first | refine Nx.m_dec_t rfl rfl rfl rfl (by first | assumption | omega) ?_ | refine Nx.m_dec_f rfl rfl rfl rfl (by first | assumption | omega) ?_ | refine Nx.m_split rfl rfl rfl rfl (fun hc => ?_) (fun hc => ?_) | refine Nx.m_splitb rfl rfl rfl rfl (fun hc => ?_) (fun hc => ?_)))
      | ((fail_if_success (with_reducible refine Nx.is_at ?_)); (fail_if_success (with_reducible refine Nx.is_wp ?_)); (fail_if_success (with_reducible refine Nx.is_mix ?_)); first | refine Nx.ex ?_)
    exact Nx.ret_fn rfl [] ⟨by first | rfl | simp [h'], rfl⟩ (by (exact Ent.auto))
  · have h0 : timeB t = false := by simpa using h
    have h' := of_decide_eq_false h0
    rw [h0]
    refine FnSpec.enterP Try.func89 rfl Try.ntmps89 rfl fun w F => ?_
    repeat' first
      | ((with_reducible refine Nx.is_wp ?_); first | refine Nx.wo ?_ | refine Nx.p_dec rfl rfl (fun hc => ?_) (fun hc => ?_) | refine Nx.p_bool rfl rfl (fun hc => ?_) (fun hc => ?_))
      | ((first | refine Nx.at_op rfl rfl ?_ | refine Nx.m_loud rfl rfl rfl ?_ | refine Nx.at_do rfl rfl rfl rfl ?_ | refine Nx.m_loud_do rfl rfl rfl rfl rfl ?_); first | refine Nx.opr rfl rfl ?_ | refine Nx.so ?_ | refine Nx.sb (fun bx => ?_) | refine Nx.sa (fun A2 c2 => ?_))
      | ((with_reducible refine Nx.is_at ?_); first | refine Nx.a ?_ | ((fail_if_success refine Nx.at_do rfl rfl rfl rfl ?_); first | refine Nx.at_dec_t rfl rfl rfl rfl (by first | assumption | omega) ?_ | refine Nx.at_dec_f rfl rfl rfl rfl (by first | assumption | omega) ?_ | refine Nx.at_split rfl rfl rfl rfl (fun hc => ?_) (fun hc => ?_) | refine Nx.at_splitb rfl rfl rfl rfl (fun hc => ?_) (fun hc => ?_)))
      | ((with_reducible refine Nx.is_mix ?_); first | refine Nx.m ?_ | ((fail_if_success refine Nx.m_quiet_do rfl rfl rfl rfl rfl rfl rfl ?_ ?_); (fail_if_success refine Nx.m_loud_do rfl rfl rfl rfl rfl ?_); first | refine Nx.m_dec_t rfl rfl rfl rfl (by first | assumption | omega) ?_ | refine Nx.m_dec_f rfl rfl rfl rfl (by first | assumption | omega) ?_ | refine Nx.m_split rfl rfl rfl rfl (fun hc => ?_) (fun hc => ?_) | refine Nx.m_splitb rfl rfl rfl rfl (fun hc => ?_) (fun hc => ?_)))
      | ((fail_if_success (with_reducible refine Nx.is_at ?_)); (fail_if_success (with_reducible refine Nx.is_wp ?_)); (fail_if_success (with_reducible refine Nx.is_mix ?_)); first | refine Nx.ex ?_)
    all_goals exact Nx.ret_fn rfl [] ⟨by first | rfl | (simp; omega), rfl⟩ (by (exact Ent.auto))
set_option maxRecDepth 10000 in
theorem badSg_spec (s : Sig) (I : PH) : FnSpec Try.prog 90 [sgV s] I [] (fun v R' => v = .bool (!(sgB s)) ∧ R' = []) := by
  have h1 := Name_spec s.1 (Nat.zero_le _) I
  have h2 := qtime_spec s.2 I
  unfold sgB
  cases hn : nameB s.1 with
  | false =>
    rw [hn] at h1
    refine FnSpec.enterP Try.func90 rfl Try.ntmps90 rfl fun w F => ?_
    repeat' first
      | ((with_reducible refine Nx.is_wp ?_); first | refine Nx.wo ?_ | refine Nx.p_dec rfl rfl (fun hc => ?_) (fun hc => ?_) | refine Nx.p_bool rfl rfl (fun hc => ?_) (fun hc => ?_))
      | ((first | refine Nx.at_op rfl rfl ?_ | refine Nx.m_loud rfl rfl rfl ?_ | refine Nx.at_do rfl rfl rfl rfl ?_ | refine Nx.m_loud_do rfl rfl rfl rfl rfl ?_); first | refine Nx.opr rfl rfl ?_ | refine Nx.callv rfl rfl rfl (by kernel_rfl) rfl h1 ?_ | refine Nx.so ?_ | refine Nx.sb (fun bx => ?_) | refine Nx.sa (fun A2 c2 => ?_))
      | ((with_reducible refine Nx.is_at ?_); first | refine Nx.a ?_ | ((fail_if_success refine Nx.at_do rfl rfl rfl rfl ?_); first | refine Nx.at_dec_t rfl rfl rfl rfl (by first | assumption | omega) ?_ | refine Nx.at_dec_f rfl rfl rfl rfl (by first | assumption | omega) ?_ | refine Nx.at_split rfl rfl rfl rfl (fun hc => ?_) (fun hc => ?_) | refine Nx.at_splitb rfl rfl rfl rfl (fun hc => ?_) (fun hc => ?_)))
      | ((with_reducible refine Nx.is_mix ?_); first | refine Nx.m ?_ | ((fail_if_success refine Nx.m_quiet_do rfl rfl rfl rfl rfl rfl rfl ?_ ?_); (fail_if_success refine Nx.m_loud_do rfl rfl rfl rfl rfl ?_); first | refine Nx.m_dec_t rfl rfl rfl rfl (by first | assumption | omega) ?_ | refine Nx.m_dec_f rfl rfl rfl rfl (by first | assumption | omega) ?_ | refine Nx.m_split rfl rfl rfl rfl (fun hc => ?_) (fun hc => ?_) | refine Nx.m_splitb rfl rfl rfl rfl (fun hc => ?_) (fun hc => ?_)))
      | ((fail_if_success (with_reducible refine Nx.is_at ?_)); (fail_if_success (with_reducible refine Nx.is_wp ?_)); (fail_if_success (with_reducible refine Nx.is_mix ?_)); first | refine Nx.ex ?_)
    exact Nx.ret_fn rfl [] ⟨rfl, rfl⟩ (by (exact Ent.auto))
  | true =>
    rw [hn] at h1
    refine FnSpec.enterP Try.func90 rfl Try.ntmps90 rfl fun w F => ?_
    repeat' first
      | ((with_reducible refine Nx.is_wp ?_); first | refine Nx.wo ?_ | refine Nx.p_dec rfl rfl (fun hc => ?_) (fun hc => ?_) | refine Nx.p_bool rfl rfl (fun hc => ?_) (fun hc => ?_))
      | ((first | refine Nx.at_op rfl rfl ?_ | refine Nx.m_loud rfl rfl rfl ?_ | refine Nx.at_do rfl rfl rfl rfl ?_ | refine Nx.m_loud_do rfl rfl rfl rfl rfl ?_); first | refine Nx.opr rfl rfl ?_ | refine Nx.callv rfl rfl rfl (by kernel_rfl) rfl h1 ?_ | refine Nx.callv rfl rfl rfl (by kernel_rfl) rfl h2 ?_ | refine Nx.so ?_ | refine Nx.sb (fun bx => ?_) | refine Nx.sa (fun A2 c2 => ?_))
      | ((with_reducible refine Nx.is_at ?_); first | refine Nx.a ?_ | ((fail_if_success refine Nx.at_do rfl rfl rfl rfl ?_); first | refine Nx.at_dec_t rfl rfl rfl rfl (by first | assumption | omega) ?_ | refine Nx.at_dec_f rfl rfl rfl rfl (by first | assumption | omega) ?_ | refine Nx.at_split rfl rfl rfl rfl (fun hc => ?_) (fun hc => ?_) | refine Nx.at_splitb rfl rfl rfl rfl (fun hc => ?_) (fun hc => ?_)))
      | ((with_reducible refine Nx.is_mix ?_); first | refine Nx.m ?_ | ((fail_if_success refine Nx.m_quiet_do rfl rfl rfl rfl rfl rfl rfl ?_ ?_); (fail_if_success refine Nx.m_loud_do rfl rfl rfl rfl rfl ?_); first | refine Nx.m_dec_t rfl rfl rfl rfl (by first | assumption | omega) ?_ | refine Nx.m_dec_f rfl rfl rfl rfl (by first | assumption | omega) ?_ | refine Nx.m_split rfl rfl rfl rfl (fun hc => ?_) (fun hc => ?_) | refine Nx.m_splitb rfl rfl rfl rfl (fun hc => ?_) (fun hc => ?_)))
      | ((fail_if_success (with_reducible refine Nx.is_at ?_)); (fail_if_success (with_reducible refine Nx.is_wp ?_)); (fail_if_success (with_reducible refine Nx.is_mix ?_)); first | refine Nx.ex ?_)
    exact Nx.ret_fn rfl [] ⟨rfl, rfl⟩ (by (exact Ent.auto))
set_option maxRecDepth 10000 in
theorem IndexSg_spec (f : FuncId) (cap : List Value) (p : Sig → Bool) (A : Option Addr) (cp : Nat) (l : List Sig) (I : PH) (hl : Sigs I A cp l) (hcall : callable Try.prog f = true)
    (hp : ∀ x ∈ l, FnSpec Try.prog f (sgV x :: cap) I [] (fun v R' => v = .bool (p x) ∧ R' = [])) :
    FnSpec Try.prog 91 [.slice A l.length cp, .func (.func f) #[] cap.toArray] I []
      (fun v R' => ∃ i : Int, v = .int .i64 i ∧ (decide (0 ≤ i) = l.any p) ∧ R' = []) := by
  refine FnSpec.enterP Try.func91 rfl Try.ntmps91 rfl fun w F => ?_
  repeat' first
    | ((with_reducible refine Nx.is_wp ?_); first | refine Nx.wo ?_ | refine Nx.p_dec rfl rfl (fun hc => ?_) (fun hc => ?_) | refine Nx.p_bool rfl rfl (fun hc => ?_) (fun hc => ?_))
    | ((first | refine Nx.at_op rfl rfl ?_ | refine Nx.m_loud rfl rfl rfl ?_ | refine Nx.at_do rfl rfl rfl rfl ?_ | refine Nx.m_loud_do rfl rfl rfl rfl rfl ?_); first | refine Nx.opr rfl rfl ?_ | refine Nx.so ?_ | refine Nx.sb (fun bx => ?_) | refine Nx.sa (fun A2 c2 => ?_))
    | ((with_reducible refine Nx.is_at ?_); first | refine Nx.a ?_ | ((fail_if_success refine Nx.at_do rfl rfl rfl rfl ?_); first | refine Nx.at_dec_t rfl rfl rfl rfl (by first | assumption | omega) ?_ | refine Nx.at_dec_f rfl rfl rfl rfl (by first | assumption | omega) ?_ | refine Nx.at_split rfl rfl rfl rfl (fun hc => ?_) (fun hc => ?_) | refine Nx.at_splitb rfl rfl rfl rfl (fun hc => ?_) (fun hc => ?_)))
    | ((with_reducible refine Nx.is_mix ?_); first | refine Nx.m ?_ | ((fail_if_success refine Nx.m_quiet_do rfl rfl rfl rfl rfl rfl rfl ?_ ?_); (fail_if_success refine Nx.m_loud_do rfl rfl rfl rfl rfl ?_); first | refine Nx.m_dec_t rfl rfl rfl rfl (by first | assumption | omega) ?_ | refine Nx.m_dec_f rfl rfl rfl rfl (by first | assumption | omega) ?_ | refine Nx.m_split rfl rfl rfl rfl (fun hc => ?_) (fun hc => ?_) | refine Nx.m_splitb rfl rfl rfl rfl (fun hc => ?_) (fun hc => ?_)))
    | ((fail_if_success (with_reducible refine Nx.is_at ?_)); (fail_if_success (with_reducible refine Nx.is_wp ?_)); (fail_if_success (with_reducible refine Nx.is_mix ?_)); first | refine Nx.ex ?_)
  have hlen := hl.len
  refine Nx.p_loop (σ := Nat) (fun k => [(0, .slice A l.length cp), (1, .func (.func f) #[] cap.toArray), (7, .int .i64 l.length), (8, .int .i64 (k : Int))])
    (fun _ => [F]) (fun k => k ≤ l.length ∧ (l.take k).any p = false) (fun k => l.length - k) 0 rfl ⟨Nat.zero_le _, by simp⟩ ⟨rfl, rfl, rfl, rfl, trivial⟩ (Ent.refl _) ?_
  rintro k ⟨hk, hnone⟩
  by_cases hlt : k < l.length
  · have hmem : l.getD k default ∈ l := by rw [List.getD_eq_getElem?_getD, List.getElem?_eq_getElem hlt]; exact List.getElem_mem _
    repeat' first
      | ((with_reducible refine Nx.is_wp ?_); first | refine Nx.wo ?_ | refine Nx.p_dec rfl rfl (fun hc => ?_) (fun hc => ?_) | refine Nx.p_bool rfl rfl (fun hc => ?_) (fun hc => ?_))
      | ((first | refine Nx.at_op rfl rfl ?_ | refine Nx.m_loud rfl rfl rfl ?_ | refine Nx.at_do rfl rfl rfl rfl ?_ | refine Nx.m_loud_do rfl rfl rfl rfl rfl ?_); first | refine Nx.opr rfl rfl ?_ | refine Nx.indexAddr_nat rfl rfl rfl rfl rfl (by omega) (hl.isSome (by omega) (by omega)) ?_ | refine Nx.loads rfl rfl rfl rfl (hl.rds (by omega)) rfl ?_ | refine Nx.callv rfl rfl (by simp; rfl) hcall rfl (hp _ hmem) ?_ | refine Nx.so ?_ | refine Nx.sb (fun bx => ?_) | refine Nx.sa (fun A2 c2 => ?_))
      | ((with_reducible refine Nx.is_at ?_); first | refine Nx.a ?_ | ((fail_if_success refine Nx.at_do rfl rfl rfl rfl ?_); first | refine Nx.at_dec_t rfl rfl rfl rfl (by first | assumption | omega) ?_ | refine Nx.at_dec_f rfl rfl rfl rfl (by first | assumption | omega) ?_ | refine Nx.at_split rfl rfl rfl rfl (fun hc => ?_) (fun hc => ?_) | refine Nx.at_splitb rfl rfl rfl rfl (fun hc => ?_) (fun hc => ?_)))
      | ((with_reducible refine Nx.is_mix ?_); first | refine Nx.m ?_ | ((fail_if_success refine Nx.m_quiet_do rfl rfl rfl rfl rfl rfl rfl ?_ ?_); (fail_if_success refine Nx.m_loud_do rfl rfl rfl rfl rfl ?_); first | refine Nx.m_dec_t rfl rfl rfl rfl (by first | assumption | omega) ?_ | refine Nx.m_dec_f rfl rfl rfl rfl (by first | assumption | omega) ?_ | refine Nx.m_split rfl rfl rfl rfl (fun hc => ?_) (fun hc => ?_) | refine Nx.m_splitb rfl rfl rfl rfl (fun hc => ?_) (fun hc => ?_)))
      | ((fail_if_success (with_reducible refine Nx.is_at ?_)); (fail_if_success (with_reducible refine Nx.is_wp ?_)); (fail_if_success (with_reducible refine Nx.is_mix ?_)); first | refine Nx.ex ?_)
    · refine Nx.ret_fn rfl [] ⟨_, rfl, ?_, rfl⟩ (Ent.refl _)
      rw [show decide ((0 : Int) ≤ k) = true by simp, Eq.comm, List.any_eq_true]
      exact ⟨l.getD k default, hmem, hc⟩
    · refine Nx.again (k + 1) ⟨by omega, ?_⟩ (by omega) ⟨rfl, rfl, rfl, rfl, trivial⟩ (Ent.refl _)
      rw [List.take_succ_eq_append_getElem (by omega), List.any_append, hnone]
      have : l[k]'(by omega) = l.getD k default := by rw [List.getD_eq_getElem?_getD, List.getElem?_eq_getElem (by omega)]; rfl
      simp only [this, List.any_cons, List.any_nil, hc, Bool.or_self]
  · obtain rfl : k = l.length := by omega
    repeat' first
      | ((with_reducible refine Nx.is_wp ?_); first | refine Nx.wo ?_ | refine Nx.p_dec rfl rfl (fun hc => ?_) (fun hc => ?_) | refine Nx.p_bool rfl rfl (fun hc => ?_) (fun hc => ?_))
      | ((first | refine Nx.at_op rfl rfl ?_ | refine Nx.m_loud rfl rfl rfl ?_ | refine Nx.at_do rfl rfl rfl rfl ?_ | refine Nx.m_loud_do rfl rfl rfl rfl rfl ?_); first | refine Nx.opr rfl rfl ?_ | refine Nx.so ?_ | refine Nx.sb (fun bx => ?_) | refine Nx.sa (fun A2 c2 => ?_))
      | ((with_reducible refine Nx.is_at ?_); first | refine Nx.a ?_ | ((fail_if_success refine Nx.at_do rfl rfl rfl rfl ?_); first | refine Nx.at_dec_t rfl rfl rfl rfl (by first | assumption | omega) ?_ | refine Nx.at_dec_f rfl rfl rfl rfl (by first | assumption | omega) ?_ | refine Nx.at_split rfl rfl rfl rfl (fun hc => ?_) (fun hc => ?_) | refine Nx.at_splitb rfl rfl rfl rfl (fun hc => ?_) (fun hc => ?_)))
      | ((with_reducible refine Nx.is_mix ?_); first | refine Nx.m ?_ | ((fail_if_success refine Nx.m_quiet_do rfl rfl rfl rfl rfl rfl rfl ?_ ?_); (fail_if_success refine Nx.m_loud_do rfl rfl rfl rfl rfl ?_); first | refine Nx.m_dec_t rfl rfl rfl rfl (by first | assumption | omega) ?_ | refine Nx.m_dec_f rfl rfl rfl rfl (by first | assumption | omega) ?_ | refine Nx.m_split rfl rfl rfl rfl (fun hc => ?_) (fun hc => ?_) | refine Nx.m_splitb rfl rfl rfl rfl (fun hc => ?_) (fun hc => ?_)))
      | ((fail_if_success (with_reducible refine Nx.is_at ?_)); (fail_if_success (with_reducible refine Nx.is_wp ?_)); (fail_if_success (with_reducible refine Nx.is_mix ?_)); first | refine Nx.ex ?_)
    refine Nx.ret_fn rfl [] ⟨_, rfl, ?_, rfl⟩ (Ent.refl _)
    rw [List.take_length] at hnone
    rw [hnone]; rfl
set_option maxRecDepth 10000 in
theorem ContainsSg_spec (f : FuncId) (cap : List Value) (p : Sig → Bool) (A : Option Addr) (cp : Nat) (l : List Sig) (I : PH) (hl : Sigs I A cp l) (hcall : callable Try.prog f = true)
    (hp : ∀ x ∈ l, FnSpec Try.prog f (sgV x :: cap) I [] (fun v R' => v = .bool (p x) ∧ R' = [])) :
    FnSpec Try.prog 62 [.slice A l.length cp, .func (.func f) #[] cap.toArray] I []
      (fun v R' => v = .bool (l.any p) ∧ R' = []) := by
  refine FnSpec.enterP Try.func62 rfl Try.ntmps62 rfl fun w F => ?_
  repeat' first
    | ((with_reducible refine Nx.is_wp ?_); first | refine Nx.wo ?_ | refine Nx.p_dec rfl rfl (fun hc => ?_) (fun hc => ?_) | refine Nx.p_bool rfl rfl (fun hc => ?_) (fun hc => ?_))
    | ((first | refine Nx.at_op rfl rfl ?_ | refine Nx.m_loud rfl rfl rfl ?_ | refine Nx.at_do rfl rfl rfl rfl ?_ | refine Nx.m_loud_do rfl rfl rfl rfl rfl ?_); first | refine Nx.opr rfl rfl ?_ | refine Nx.so ?_ | refine Nx.sb (fun bx => ?_) | refine Nx.sa (fun A2 c2 => ?_))
    | ((with_reducible refine Nx.is_at ?_); first | refine Nx.a ?_ | ((fail_if_success refine Nx.at_do rfl rfl rfl rfl ?_); first | refine Nx.at_dec_t rfl rfl rfl rfl (by first | assumption | omega) ?_ | refine Nx.at_dec_f rfl rfl rfl rfl (by first | assumption | omega) ?_ | refine Nx.at_split rfl rfl rfl rfl (fun hc => ?_) (fun hc => ?_) | refine Nx.at_splitb rfl rfl rfl rfl (fun hc => ?_) (fun hc => ?_)))
    | ((with_reducible refine Nx.is_mix ?_); first | refine Nx.m ?_ | ((fail_if_success refine Nx.m_quiet_do rfl rfl rfl rfl rfl rfl rfl ?_ ?_); (fail_if_success refine Nx.m_loud_do rfl rfl rfl rfl rfl ?_); first | refine Nx.m_dec_t rfl rfl rfl rfl (by first | assumption | omega) ?_ | refine Nx.m_dec_f rfl rfl rfl rfl (by first | assumption | omega) ?_ | refine Nx.m_split rfl rfl rfl rfl (fun hc => ?_) (fun hc => ?_) | refine Nx.m_splitb rfl rfl rfl rfl (fun hc => ?_) (fun hc => ?_)))
    | ((fail_if_success (with_reducible refine Nx.is_at ?_)); (fail_if_success (with_reducible refine Nx.is_wp ?_)); (fail_if_success (with_reducible refine Nx.is_mix ?_)); first | refine Nx.ex ?_)
  refine Nx.at_op rfl rfl ?_
  refine Nx.call rfl rfl rfl (by kernel_rfl) rfl (IndexSg_spec f cap p A cp l I hl hcall hp) (Ent.refl _) ?_
  rintro v R' ⟨i, rfl, hi, rfl⟩
  repeat' first
    | ((with_reducible refine Nx.is_wp ?_); first | refine Nx.wo ?_ | refine Nx.p_dec rfl rfl (fun hc => ?_) (fun hc => ?_) | refine Nx.p_bool rfl rfl (fun hc => ?_) (fun hc => ?_))
    | ((first | refine Nx.at_op rfl rfl ?_ | refine Nx.m_loud rfl rfl rfl ?_ | refine Nx.at_do rfl rfl rfl rfl ?_ | refine Nx.m_loud_do rfl rfl rfl rfl rfl ?_); first | refine Nx.opr rfl rfl ?_ | refine Nx.so ?_ | refine Nx.sb (fun bx => ?_) | refine Nx.sa (fun A2 c2 => ?_))
    | ((with_reducible refine Nx.is_at ?_); first | refine Nx.a ?_ | ((fail_if_success refine Nx.at_do rfl rfl rfl rfl ?_); first | refine Nx.at_dec_t rfl rfl rfl rfl (by first | assumption | omega) ?_ | refine Nx.at_dec_f rfl rfl rfl rfl (by first | assumption | omega) ?_ | refine Nx.at_split rfl rfl rfl rfl (fun hc => ?_) (fun hc => ?_) | refine Nx.at_splitb rfl rfl rfl rfl (fun hc => ?_) (fun hc => ?_)))
    | ((with_reducible refine Nx.is_mix ?_); first | refine Nx.m ?_ | ((fail_if_success refine Nx.m_quiet_do rfl rfl rfl rfl rfl rfl rfl ?_ ?_); (fail_if_success refine Nx.m_loud_do rfl rfl rfl rfl rfl ?_); first | refine Nx.m_dec_t rfl rfl rfl rfl (by first | assumption | omega) ?_ | refine Nx.m_dec_f rfl rfl rfl rfl (by first | assumption | omega) ?_ | refine Nx.m_split rfl rfl rfl rfl (fun hc => ?_) (fun hc => ?_) | refine Nx.m_splitb rfl rfl rfl rfl (fun hc => ?_) (fun hc => ?_)))
    | ((fail_if_success (with_reducible refine Nx.is_at ?_)); (fail_if_success (with_reducible refine Nx.is_wp ?_)); (fail_if_success (with_reducible refine Nx.is_mix ?_)); first | refine Nx.ex ?_)
  exact Nx.ret_fn rfl [] ⟨by rw [← hi], rfl⟩ (Ent.refl _)
theorem not_any_bad (l : List Sig) : (!(l.any fun s => !(sgB s))) = l.all sgB := by
  induction l with
  | nil => rfl
  | cons s l ih => rw [List.any_cons, List.all_cons, ← ih]; cases sgB s <;> simp
theorem valid_bd {o : Out} (h : validB o = true) : (1 ≤ o.n ∧ o.n ≤ 40) ∧ nameB o.proj = true ∧ nameB o.who = true ∧ (0 ≤ o.t ∧ o.t ≤ 1073741824) ∧ o.text.length ≤ 1024 ∧ (1 ≤ o.st ∧ o.st ≤ 6) ∧ o.sg.length ≤ 2 ∧ ∀ s ∈ o.sg, nameB s.1 = true ∧ 0 ≤ s.2 ∧ s.2 ≤ 1073741824 := by
  unfold validB at h
  simp only [Bool.and_eq_true, decide_eq_true_eq] at h
  obtain ⟨⟨⟨⟨⟨⟨⟨h1, h2⟩, h3⟩, h4⟩, h5⟩, h6⟩, h7⟩, h8⟩ := h
  refine ⟨h1, h2, h3, of_decide_eq_true h4, h5, h6, h7, fun s hs => ?_⟩
  have := List.all_eq_true.1 h8 s hs
  unfold sgB at this
  rw [Bool.and_eq_true] at this
  exact ⟨this.1, of_decide_eq_true this.2⟩
theorem valid_no {o : Out} (h : validB o = true → False) : validB o = false := by cases hv : validB o with
  | false => rfl
  | true => exact (h hv).elim
theorem valid_time {o : Out} (h : validB o = true) : timeB o.t = true := decide_eq_true (valid_bd h).2.2.2.1
theorem valid_all {o : Out} (h1 : ¬ o.n < 1) (h2 : ¬ 40 < o.n) (h3 : (!(nameB o.proj)) = false) (h4 : (!(nameB o.who)) = false) (h5 : (!(timeB o.t)) = false) (h6 : ¬ 1024 < o.text.length) (h7 : ¬ o.st < 1) (h8 : ¬ 6 < o.st) (h9 : ¬ 2 < o.sg.length) : validB o = o.sg.all sgB := by
  rw [Bool.not_eq_false'] at h3 h4 h5
  unfold validB
  rw [h3, h4, h5, decide_eq_true (show 1 ≤ o.n ∧ o.n ≤ 40 by omega), decide_eq_true (show o.text.length ≤ 1024 by omega), decide_eq_true (show 1 ≤ o.st ∧ o.st ≤ 6 by omega), decide_eq_true (show o.sg.length ≤ 2 by omega)]
  rfl
set_option maxHeartbeats 4000000 in
set_option maxRecDepth 10000 in
theorem Valid_spec (x : OutM) (I : PH) (hs : SigsOf I x) : FnSpec Try.prog 59 [ouV x] I [] (fun v R' => v = .bool (validB x.1) ∧ R' = []) := by
  have hN1 := Name_spec x.1.proj (Nat.zero_le _) I
  have hN2 := Name_spec x.1.who (Nat.zero_le _) I
  have hT := qtime_spec x.1.t I
  have hC := ContainsSg_spec 90 [] (fun s => !(sgB s)) x.2.1 x.2.2 x.1.sg I hs.sl (by kernel_rfl) (fun s _ => badSg_spec s I)
  have hsz : (ByteArray.mk x.1.text.toArray).size = x.1.text.length := by simp [ByteArray.size]
  have hna := not_any_bad x.1.sg
  refine FnSpec.enterP Try.func59 rfl Try.ntmps59 rfl fun w F => ?_
  repeat' first
    | ((with_reducible refine Nx.is_wp ?_); first | refine Nx.wo ?_ | refine Nx.p_dec rfl rfl (fun hc => ?_) (fun hc => ?_) | refine Nx.p_bool rfl rfl (fun hc => ?_) (fun hc => ?_))
    | ((first | refine Nx.at_op rfl rfl ?_ | refine Nx.m_loud rfl rfl rfl ?_ | refine Nx.at_do rfl rfl rfl rfl ?_ | refine Nx.m_loud_do rfl rfl rfl rfl rfl ?_); first | refine Nx.opr rfl rfl ?_ | refine Nx.callv rfl rfl rfl (by kernel_rfl) rfl hN1 ?_ | refine Nx.callv rfl rfl rfl (by kernel_rfl) rfl hN2 ?_ | refine Nx.callv rfl rfl rfl (by kernel_rfl) rfl hT ?_ | refine Nx.callv rfl rfl rfl (by kernel_rfl) rfl hC ?_ | refine Nx.so ?_ | refine Nx.sb (fun bx => ?_) | refine Nx.sa (fun A2 c2 => ?_))
    | ((with_reducible refine Nx.is_at ?_); first | refine Nx.a ?_ | ((fail_if_success refine Nx.at_do rfl rfl rfl rfl ?_); first | refine Nx.at_dec_t rfl rfl rfl rfl (by first | assumption | omega) ?_ | refine Nx.at_dec_f rfl rfl rfl rfl (by first | assumption | omega) ?_ | refine Nx.at_split rfl rfl rfl rfl (fun hc => ?_) (fun hc => ?_) | refine Nx.at_splitb rfl rfl rfl rfl (fun hc => ?_) (fun hc => ?_)))
    | ((with_reducible refine Nx.is_mix ?_); first | refine Nx.m ?_ | ((fail_if_success refine Nx.m_quiet_do rfl rfl rfl rfl rfl rfl rfl ?_ ?_); (fail_if_success refine Nx.m_loud_do rfl rfl rfl rfl rfl ?_); first | refine Nx.m_dec_t rfl rfl rfl rfl (by first | assumption | omega) ?_ | refine Nx.m_dec_f rfl rfl rfl rfl (by first | assumption | omega) ?_ | refine Nx.m_split rfl rfl rfl rfl (fun hc => ?_) (fun hc => ?_) | refine Nx.m_splitb rfl rfl rfl rfl (fun hc => ?_) (fun hc => ?_)))
    | ((fail_if_success (with_reducible refine Nx.is_at ?_)); (fail_if_success (with_reducible refine Nx.is_wp ?_)); (fail_if_success (with_reducible refine Nx.is_mix ?_)); first | refine Nx.ex ?_)
  all_goals first
    | (refine Nx.ret_fn rfl [] ⟨?_, rfl⟩ (by (exact Ent.auto))
       rw [valid_no fun hv => by
         obtain ⟨b1, b2, b3, b4, b5, b6, b7, _⟩ := valid_bd hv
         first | omega | (rw [b2] at hc; cases hc; done) | (rw [b3] at hc; cases hc; done) | (rw [valid_time hv] at hc; cases hc; done)])
    | (refine Nx.ret_fn rfl [] ⟨?_, rfl⟩ (by (exact Ent.auto))
       rw [hna, valid_all (by assumption) (by assumption) (by assumption) (by assumption) (by assumption) (by omega) (by assumption) (by assumption) (by omega)])
end Go.Proofs.Ytaoeapmdhpkidaa
