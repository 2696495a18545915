/- Contracts of functions of the given program, and lemmas about plain lists and numbers: what the laws of this seat lean on. -/
import Derived.Test.YtaoeapmdhpkidaaS15
import Derived.Laws.StructEq
namespace Go.Proofs.Ytaoeapmdhpkidaa
open Go.Eng
/-! Shifts compared -/
theorem part_sh0 (x : Shift) (w : World) : (part 9 (shC x).toArray 0).run Try.prog w = .ok (.string ⟨x.1.toArray⟩) w := run_of_pureRun (by kernel_rfl) w
theorem part_sh1 (x : Shift) (w : World) : (part 3 (shC x).toArray 1).run Try.prog w = .ok (.int .i64 x.2.1) w := run_of_pureRun (by kernel_rfl) w
theorem part_sh2 (x : Shift) (w : World) : (part 3 (shC x).toArray 2).run Try.prog w = .ok (.int .i64 x.2.2) w := run_of_pureRun (by kernel_rfl) w
theorem eqFields_sh (x y : Shift) (w : World) (fs : List Field) (hf : fs.map (fun f => (f.name, f.type, f.offset)) = [("Person", 9, 0), ("From", 3, 1), ("Until", 3, 2)]) :
    (Op.eqFields 9999 (shC x).toArray (shC y).toArray fs).run Try.prog w = .ok (decide (x = y)) w := by
  obtain ⟨f, g, k, rfl⟩ : ∃ f g k, fs = [f, g, k] := by
    rcases fs with _ | ⟨f, _ | ⟨g, _ | ⟨k, _ | ⟨m, r⟩⟩⟩⟩
    · simp at hf
    · simp at hf
    · simp at hf
    · exact ⟨f, g, k, rfl⟩
    · simp at hf
  simp only [List.map_cons, List.map_nil, List.cons.injEq, Prod.mk.injEq, and_true] at hf
  obtain ⟨⟨h1, h2, h3⟩, ⟨h4, h5, h6⟩, h7, h8, h9⟩ := hf
  have hd : decide (x = y) = (x.1 == y.1 && (x.2.1 == y.2.1 && x.2.2 == y.2.2)) := by
    obtain ⟨a, b, c⟩ := x
    obtain ⟨a', b', c'⟩ := y
    rw [Bool.eq_iff_iff]
    simp
  rw [hd]
  simp only [Op.eqFields, h1, h2, h3, h4, h5, h6, h7, h8, h9]
  rw [if_pos (by decide), if_pos (by decide), if_pos (by decide), Sem.run_bind, part_sh0, Result.andThen_ok, Sem.run_bind, part_sh0, Result.andThen_ok, Sem.run_bind, run_equalIn_string _ 9998 _ _ _ Try.underlying9, Result.andThen_ok, ByteArray.toList_mk, ByteArray.toList_mk]
  show Sem.run _ (if (!(x.1 == y.1)) = true then _ else _) w = _
  cases (x.1 == y.1)
  · rfl
  · rw [if_neg (by decide), Sem.run_bind, part_sh1, Result.andThen_ok, Sem.run_bind, part_sh1, Result.andThen_ok, Sem.run_bind, run_equalIn_int _ 9998 _ .i64 .i64 _ _ Try.underlying3, Result.andThen_ok]
    cases (x.2.1 == y.2.1)
    · rfl
    · rw [if_neg (by decide), Sem.run_bind, part_sh2, Result.andThen_ok, Sem.run_bind, part_sh2, Result.andThen_ok, Sem.run_bind, run_equalIn_int _ 9998 _ .i64 .i64 _ _ Try.underlying3, Result.andThen_ok]
      cases (x.2.2 == y.2.2) <;> rfl
theorem neq_sh (p q : Shift) (x y : Operand) (w : World) : (do eqGuard .neq 40 x y (.agg (shC p).toArray) (.agg (shC q).toArray); binOp .neq 40 (.agg (shC p).toArray) (.agg (shC q).toArray)).run Try.prog w = .ok (.bool (decide (p ≠ q))) w := by
  rw [Sem.run_bind, run_eqGuard_agg _ _ _ _ _ _ _ Try.eqGuardType40, Result.andThen_ok, run_neq_struct, run_equalIn_struct _ 9999 40 _ _ (by kernel_rfl) Try.stoodInHeld40,
    eqFields_sh p q w _ (by kernel_rfl)]
  rw [decide_not]; rfl
set_option maxRecDepth 10000 in
theorem Same_spec (A B : Option Addr) (cp cq : Nat) (l r : List Shift) (I : PH) (hl : Shifts I A cp l) (hr : Shifts I B cq r) :
    FnSpec Try.prog 43 [.slice A l.length cp, .slice B r.length cq] I [] (fun v R' => v = .bool (decide (l = r)) ∧ R' = []) := by
  refine FnSpec.enterP Try.func43 rfl Try.ntmps43 rfl fun w F => ?_
  have h1 := hl.len
  repeat' first
    | ((with_reducible refine Nx.is_wp ?_); first | refine Nx.wo ?_ | refine Nx.p_dec rfl rfl (fun hc => ?_) (fun hc => ?_) | refine Nx.p_bool rfl rfl (fun hc => ?_) (fun hc => ?_))
    | ((first | refine Nx.at_op rfl rfl ?_ | refine Nx.m_loud rfl rfl rfl ?_ | refine Nx.at_do rfl rfl rfl rfl ?_ | refine Nx.m_loud_do rfl rfl rfl rfl rfl ?_); first | refine Nx.opr rfl rfl ?_ | refine Nx.so ?_ | refine Nx.sb (fun bx => ?_) | refine Nx.sa (fun A2 c2 => ?_))
    | ((with_reducible refine Nx.is_at ?_); first | refine Nx.a ?_ | ((fail_if_success refine Nx.at_do rfl rfl rfl rfl ?_); first | refine Nx.at_dec_t rfl rfl rfl rfl (by first | assumption | omega) ?_ | refine Nx.at_dec_f rfl rfl rfl rfl (by first | assumption | omega) ?_ | refine Nx.at_split rfl rfl rfl rfl (fun hc => ?_) (fun hc => ?_) | refine Nx.at_splitb rfl rfl rfl rfl (fun hc => ?_) (fun hc => ?_)))
    | ((with_reducible refine Nx.is_mix ?_); first | refine Nx.m ?_ | ((fail_if_success refine Nx.m_quiet_do rfl rfl rfl rfl rfl rfl rfl ?_ ?_); (fail_if_success refine Nx.m_loud_do rfl rfl rfl rfl rfl ?_); first | refine Nx.m_dec_t rfl rfl rfl rfl (by first | assumption | omega) ?_ | refine Nx.m_dec_f rfl rfl rfl rfl (by first | assumption | omega) ?_ | refine Nx.m_split rfl rfl rfl rfl (fun hc => ?_) (fun hc => ?_) | refine Nx.m_splitb rfl rfl rfl rfl (fun hc => ?_) (fun hc => ?_)))
    | ((fail_if_success (with_reducible refine Nx.is_at ?_)); (fail_if_success (with_reducible refine Nx.is_wp ?_)); (fail_if_success (with_reducible refine Nx.is_mix ?_)); first | refine Nx.ex ?_)
  · exact Nx.ret_fn rfl [] ⟨by rw [decide_eq_false]; intro h; rw [h] at hc; exact hc rfl, rfl⟩ (Ent.refl _)
  have hlen : l.length = r.length := by omega
  refine Nx.p_loop (σ := Nat) (fun k => [(0, .slice A l.length cp), (1, .slice B r.length cq), (12, .int .i64 l.length), (13, .int .i64 (k : Int))])
    (fun _ => [F]) (fun k => k ≤ l.length ∧ l.take k = r.take k) (fun k => l.length - k) 0 rfl ⟨Nat.zero_le _, by simp⟩ ⟨rfl, rfl, rfl, rfl, trivial⟩ (Ent.refl _) ?_
  rintro k ⟨hk, hsame⟩
  repeat' first
    | ((with_reducible refine Nx.is_wp ?_); first | refine Nx.wo ?_ | refine Nx.p_draw (id := 6) rfl [0, 1, 2, 3, 4, 5, 6, 7, 8] [] _ rfl rfl (by kernel_rfl) (by kernel_rfl) rfl (by repeat first | exact PanicOk.fn | refine PanicOk.then_ ?_ | refine PanicOk.inB ?_) (Ent.refl _) ?_ | refine Nx.p_dec rfl rfl (fun hc => ?_) (fun hc => ?_) | refine Nx.p_bool rfl rfl (fun hc => ?_) (fun hc => ?_))
    | ((first | refine Nx.at_op rfl rfl ?_ | refine Nx.m_loud rfl rfl rfl ?_ | refine Nx.at_do rfl rfl rfl rfl ?_ | refine Nx.m_loud_do rfl rfl rfl rfl rfl ?_); first | refine Nx.opr rfl rfl ?_ | refine Nx.so ?_ | refine Nx.sb (fun bx => ?_) | refine Nx.sa (fun A2 c2 => ?_))
    | ((with_reducible refine Nx.is_at ?_); first | refine Nx.a ?_ | ((fail_if_success refine Nx.at_do rfl rfl rfl rfl ?_); first | refine Nx.at_dec_t rfl rfl rfl rfl (by first | assumption | omega) ?_ | refine Nx.at_dec_f rfl rfl rfl rfl (by first | assumption | omega) ?_ | refine Nx.at_split rfl rfl rfl rfl (fun hc => ?_) (fun hc => ?_) | refine Nx.at_splitb rfl rfl rfl rfl (fun hc => ?_) (fun hc => ?_)))
    | ((with_reducible refine Nx.is_mix ?_); first | refine Nx.m_quiet rfl rfl rfl rfl rfl (by first | exact QRun.opr rfl | exact QRun.idx rfl rfl rfl rfl (by omega) (hl.isSome (by omega) (by decide)) | exact QRun.idx rfl rfl rfl rfl (by omega) (hr.isSome (by omega) (by decide)) | exact QRun.loads rfl rfl rfl (hl.rds (by omega)) rfl | exact QRun.loads rfl rfl rfl (hr.rds (by omega)) rfl | exact QRun.binr rfl rfl (neq_sh _ _ _ _)) ?_ | refine Nx.m_quiet_do rfl rfl rfl rfl rfl rfl rfl (by first | exact QRun.opr rfl | exact QRun.idx rfl rfl rfl rfl (by omega) (hl.isSome (by omega) (by decide)) | exact QRun.idx rfl rfl rfl rfl (by omega) (hr.isSome (by omega) (by decide)) | exact QRun.loads rfl rfl rfl (hl.rds (by omega)) rfl | exact QRun.loads rfl rfl rfl (hr.rds (by omega)) rfl | exact QRun.binr rfl rfl (neq_sh _ _ _ _)) ?_ | refine Nx.m ?_ | ((fail_if_success refine Nx.m_quiet_do rfl rfl rfl rfl rfl rfl rfl ?_ ?_); (fail_if_success refine Nx.m_loud_do rfl rfl rfl rfl rfl ?_); first | refine Nx.m_dec_t rfl rfl rfl rfl (by first | assumption | omega) ?_ | refine Nx.m_dec_f rfl rfl rfl rfl (by first | assumption | omega) ?_ | refine Nx.m_split rfl rfl rfl rfl (fun hc => ?_) (fun hc => ?_) | refine Nx.m_splitb rfl rfl rfl rfl (fun hc => ?_) (fun hc => ?_)))
    | ((fail_if_success (with_reducible refine Nx.is_at ?_)); (fail_if_success (with_reducible refine Nx.is_wp ?_)); (fail_if_success (with_reducible refine Nx.is_mix ?_)); first | refine Nx.ex ?_)
  · refine Nx.ret_fn rfl [] ⟨by rw [decide_eq_false]; intro h; exact hc (by rw [h]), rfl⟩ (Ent.refl _)
  · refine Nx.again (k + 1) ⟨by omega, ?_⟩ (by omega) ⟨rfl, rfl, rfl, rfl, trivial⟩ (Ent.refl _)
    have e : l.getD k default = r.getD k default := Decidable.not_not.1 hc
    rw [List.take_succ_eq_append_getElem (by omega), List.take_succ_eq_append_getElem (by omega), hsame]
    rw [List.getD_eq_getElem?_getD, List.getD_eq_getElem?_getD, List.getElem?_eq_getElem (by omega), List.getElem?_eq_getElem (by omega)] at e
    rw [show l[k]'(by omega) = r[k]'(by omega) from e]
  · obtain rfl : k = l.length := by omega
    rw [List.take_length, hlen, List.take_length] at hsame
    exact Nx.ret_fn rfl [] ⟨by rw [decide_eq_true hsame], rfl⟩ (Ent.refl _)
end Go.Proofs.Ytaoeapmdhpkidaa
