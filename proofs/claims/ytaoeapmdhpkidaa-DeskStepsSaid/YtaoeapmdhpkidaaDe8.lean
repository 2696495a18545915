/- Contracts of functions of the given program, and lemmas about plain lists and numbers: what the laws of this seat lean on. -/
import Derived.Test.YtaoeapmdhpkidaaDe7
namespace Go.Proofs.Ytaoeapmdhpkidaa
open Go.Eng
attribute [local irreducible] opK wpList Code.wp Exit.then Exit.inBlock fnPost bodyPost Nx Calls Oper.wp Rd Rds Wr Ent Stars Blk Again Vec FnSpec wpMix QRun Stop Upto wpAt
/-- What forbids a person to act on an output at a time, if anything. -/
def actE (ro : List Shift) (d : Int) (o : Out) (p : List UInt8) (t : Int) : Int := if openB o = false then 41 else if t < lastT o o.sg.length ∨ o.t + d ≤ t then 43 else if dutyB ro p t = false then 44 else if (p == o.who) = true then 45 else 0
def touchE (l : List Out) (ro : List Shift) (d number : Int) (p : List UInt8) (t : Int) : Int :=
  if deskE l ro d ≠ 0 then deskE l ro d else if number < 1 ∨ (l.length : Int) < number then 48 else actE ro d (l.getD (number - 1).toNat default) p t
theorem desk_ok {l : List Out} {ro : List Shift} {d : Int} : deskE l ro d = 0 ↔ (1 ≤ d ∧ d ≤ 1048576) ∧ checkE ro = 0 ∧ l.length ≤ 40 ∧ ∀ k, k < l.length → validB (l.getD k default) = true ∧ (l.getD k default).n = (k : Int) + 1 ∧ rightB ro d (l.getD k default) = true := by
  have hat : ∀ k, outAt ro d l k = 0 ↔ validB (l.getD k default) = true ∧ (l.getD k default).n = (k : Int) + 1 ∧ rightB ro d (l.getD k default) = true := by
    intro k
    unfold outAt
    cases h1 : validB (l.getD k default) with
    | false => rw [if_pos rfl]; simp
    | true =>
      rw [if_neg (by decide)]
      by_cases h : (l.getD k default).n = (k : Int) + 1
      · rw [if_neg (by omega)]
        cases h3 : rightB ro d (l.getD k default) with
        | false => rw [if_pos rfl]; simp
        | true => rw [if_neg (by decide)]; exact ⟨fun _ => ⟨rfl, h, rfl⟩, fun _ => rfl⟩
      · rw [if_pos h]
        exact ⟨fun h4 => by omega, fun h4 => absurd h4.2.1 h⟩
  unfold deskE
  constructor
  · intro h
    split at h
    · omega
    · split at h
      · omega
      · split at h
        · omega
        · exact ⟨by omega, by omega, by omega, fun k hk => (hat k).1 (outN_zero.1 h k hk)⟩
  · rintro ⟨h1, h2, h3, h4⟩
    rw [if_neg (by omega), if_neg (by omega), if_neg (by omega)]
    exact outN_zero.2 fun k hk => (hat k).2 (h4 k hk)
set_option maxRecDepth 10000 in
theorem open_spec (x : OutM) (I : PH) : FnSpec Try.prog 65 [ouV x] I [] (fun v R' => v = .bool (openB x.1) ∧ R' = []) := by
  by_cases h : openB x.1 = true
  · have h' := of_decide_eq_true h
    rw [h]
    refine FnSpec.enterP Try.func65 rfl Try.ntmps65 rfl fun w F => ?_
    rcases h' with h' | h'
    · repeat' first
        | ((with_reducible refine Nx.is_wp ?_); first | refine Nx.wo ?_ | refine Nx.p_dec rfl rfl (fun hc => ?_) (fun hc => ?_) | refine Nx.p_bool rfl rfl (fun hc => ?_) (fun hc => ?_))
        | ((first | refine Nx.at_op rfl rfl ?_ | refine Nx.m_loud rfl rfl rfl ?_ | refine Nx.at_do rfl rfl rfl rfl ?_ | refine Nx.m_loud_do rfl rfl rfl rfl rfl ?_); first | refine Nx.opr rfl rfl ?_ | refine Nx.so ?_ | refine Nx.sb (fun bx => ?_) | refine Nx.sa (fun A2 c2 => ?_))
        | ((with_reducible refine Nx.is_at ?_); first | refine Nx.a ?_ | ((fail_if_success refine Nx.at_do rfl rfl rfl rfl ?_); first | refine Nx.at_dec_t rfl rfl rfl rfl (by first | assumption | omega) ?_ | refine Nx.at_dec_f rfl rfl rfl rfl (by first | assumption | omega) ?_ | refine Nx.at_split rfl rfl rfl rfl (fun hc => ?_) (fun hc => ?_) | refine Nx.at_splitb rfl rfl rfl rfl (fun hc => ?_) (fun hc => ?_)))
        | ((with_reducible refine Nx.is_mix ?_); first | refine Nx.m ?_ | ((fail_if_success refine Nx.m_quiet_do rfl rfl rfl rfl rfl rfl rfl ?_ ?_); (fail_if_success refine Nx.m_loud_do rfl rfl rfl rfl rfl ?_); first | refine Nx.m_dec_t rfl rfl rfl rfl (by first | assumption | omega) ?_ | refine Nx.m_dec_f rfl rfl rfl rfl (by first | assumption | omega) ?_ | refine Nx.m_split rfl rfl rfl rfl (fun hc => ?_) (fun hc => ?_) | refine Nx.m_splitb rfl rfl rfl rfl (fun hc => ?_) (fun hc => ?_)))
        | ((fail_if_success (with_reducible refine Nx.is_at ?_)); (fail_if_success (with_reducible refine Nx.is_wp ?_)); (fail_if_success (with_reducible refine Nx.is_mix ?_)); first | refine Nx.ex ?_)
      exact Nx.ret_fn rfl [] ⟨by first | rfl | simp [h'], rfl⟩ (by (exact Ent.auto))
    · repeat' first
        | ((with_reducible refine Nx.is_wp ?_); first | refine Nx.wo ?_ | refine Nx.p_dec rfl rfl (fun hc => ?_) (fun hc => ?_) | refine Nx.p_bool rfl rfl (fun hc => ?_) (fun hc => ?_))
        | ((first | refine Nx.at_op rfl rfl ?_ | refine Nx.m_loud rfl rfl rfl ?_ | refine Nx.at_do rfl rfl rfl rfl ?_ | refine Nx.m_loud_do rfl rfl rfl rfl rfl ?_); first | refine Nx.opr rfl rfl ?_ | refine Nx.so ?_ | refine Nx.sb (fun bx => ?_) | refine Nx.sa (fun A2 c2 => ?_))
        | ((with_reducible refine Nx.is_at ?_); first | refine Nx.a ?_ | ((fail_if_success refine Nx.at_do rfl rfl rfl rfl ?_); first | refine Nx.at_dec_t rfl rfl rfl rfl (by first | assumption | omega) ?_ | refine Nx.at_dec_f rfl rfl rfl rfl (by first | assumption | omega) ?_ | refine Nx.at_split rfl rfl rfl rfl (fun hc => ?_) (fun hc => ?_) | refine Nx.at_splitb rfl rfl rfl rfl (fun hc => ?_) (fun hc => ?_)))
        | ((with_reducible refine Nx.is_mix ?_); first | refine Nx.m ?_ | ((fail_if_success refine Nx.m_quiet_do rfl rfl rfl rfl rfl rfl rfl ?_ ?_); (fail_if_success refine Nx.m_loud_do rfl rfl rfl rfl rfl ?_); first | refine Nx.m_dec_t rfl rfl rfl rfl (by first | assumption | omega) ?_ | refine Nx.m_dec_f rfl rfl rfl rfl (by first | assumption | omega) ?_ | refine Nx.m_split rfl rfl rfl rfl (fun hc => ?_) (fun hc => ?_) | refine Nx.m_splitb rfl rfl rfl rfl (fun hc => ?_) (fun hc => ?_)))
        | ((fail_if_success (with_reducible refine Nx.is_at ?_)); (fail_if_success (with_reducible refine Nx.is_wp ?_)); (fail_if_success (with_reducible refine Nx.is_mix ?_)); first | refine Nx.ex ?_)
      exact Nx.ret_fn rfl [] ⟨by first | rfl | simp [h'], rfl⟩ (by (exact Ent.auto))
  · have h0 : openB x.1 = false := by simpa using h
    have h' := of_decide_eq_false h0
    have ha : ¬ x.1.st = 1 := fun h => h' (.inl h)
    have hb : ¬ x.1.st = 2 := fun h => h' (.inr h)
    rw [h0]
    refine FnSpec.enterP Try.func65 rfl Try.ntmps65 rfl fun w F => ?_
    repeat' first
      | ((with_reducible refine Nx.is_wp ?_); first | refine Nx.wo ?_ | refine Nx.p_dec rfl rfl (fun hc => ?_) (fun hc => ?_) | refine Nx.p_bool rfl rfl (fun hc => ?_) (fun hc => ?_))
      | ((first | refine Nx.at_op rfl rfl ?_ | refine Nx.m_loud rfl rfl rfl ?_ | refine Nx.at_do rfl rfl rfl rfl ?_ | refine Nx.m_loud_do rfl rfl rfl rfl rfl ?_); first | refine Nx.opr rfl rfl ?_ | refine Nx.so ?_ | refine Nx.sb (fun bx => ?_) | refine Nx.sa (fun A2 c2 => ?_))
      | ((with_reducible refine Nx.is_at ?_); first | refine Nx.a ?_ | ((fail_if_success refine Nx.at_do rfl rfl rfl rfl ?_); first | refine Nx.at_dec_t rfl rfl rfl rfl (by first | assumption | omega) ?_ | refine Nx.at_dec_f rfl rfl rfl rfl (by first | assumption | omega) ?_ | refine Nx.at_split rfl rfl rfl rfl (fun hc => ?_) (fun hc => ?_) | refine Nx.at_splitb rfl rfl rfl rfl (fun hc => ?_) (fun hc => ?_)))
      | ((with_reducible refine Nx.is_mix ?_); first | refine Nx.m ?_ | ((fail_if_success refine Nx.m_quiet_do rfl rfl rfl rfl rfl rfl rfl ?_ ?_); (fail_if_success refine Nx.m_loud_do rfl rfl rfl rfl rfl ?_); first | refine Nx.m_dec_t rfl rfl rfl rfl (by first | assumption | omega) ?_ | refine Nx.m_dec_f rfl rfl rfl rfl (by first | assumption | omega) ?_ | refine Nx.m_split rfl rfl rfl rfl (fun hc => ?_) (fun hc => ?_) | refine Nx.m_splitb rfl rfl rfl rfl (fun hc => ?_) (fun hc => ?_)))
      | ((fail_if_success (with_reducible refine Nx.is_at ?_)); (fail_if_success (with_reducible refine Nx.is_wp ?_)); (fail_if_success (with_reducible refine Nx.is_mix ?_)); first | refine Nx.ex ?_)
    exact Nx.ret_fn rfl [] ⟨by first | rfl | simp [ha, hb], rfl⟩ (by (exact Ent.auto))
set_option maxRecDepth 10000 in
theorem ROpen_spec (x : OutM) (I : PH) : FnSpec Try.prog 30 [ouV x] I [] (fun v R' => v = .bool (openB x.1) ∧ R' = []) := by
  by_cases h : openB x.1 = true
  · have h' := of_decide_eq_true h
    rw [h]
    refine FnSpec.enterP Try.func30 rfl Try.ntmps30 rfl fun w F => ?_
    rcases h' with h' | h'
    · repeat' first
        | ((with_reducible refine Nx.is_wp ?_); first | refine Nx.wo ?_ | refine Nx.p_dec rfl rfl (fun hc => ?_) (fun hc => ?_) | refine Nx.p_bool rfl rfl (fun hc => ?_) (fun hc => ?_))
        | ((first | refine Nx.at_op rfl rfl ?_ | refine Nx.m_loud rfl rfl rfl ?_ | refine Nx.at_do rfl rfl rfl rfl ?_ | refine Nx.m_loud_do rfl rfl rfl rfl rfl ?_); first | refine Nx.opr rfl rfl ?_ | refine Nx.so ?_ | refine Nx.sb (fun bx => ?_) | refine Nx.sa (fun A2 c2 => ?_))
        | ((with_reducible refine Nx.is_at ?_); first | refine Nx.a ?_ | ((fail_if_success refine Nx.at_do rfl rfl rfl rfl ?_); first | refine Nx.at_dec_t rfl rfl rfl rfl (by first | assumption | omega) ?_ | refine Nx.at_dec_f rfl rfl rfl rfl (by first | assumption | omega) ?_ | refine Nx.at_split rfl rfl rfl rfl (fun hc => ?_) (fun hc => ?_) | refine Nx.at_splitb rfl rfl rfl rfl (fun hc => ?_) (fun hc => ?_)))
        | ((with_reducible refine Nx.is_mix ?_); first | refine Nx.m ?_ | ((fail_if_success refine Nx.m_quiet_do rfl rfl rfl rfl rfl rfl rfl ?_ ?_); (fail_if_success refine Nx.m_loud_do rfl rfl rfl rfl rfl ?_); first | refine Nx.m_dec_t rfl rfl rfl rfl (by first | assumption | omega) ?_ | refine Nx.m_dec_f rfl rfl rfl rfl (by first | assumption | omega) ?_ | refine Nx.m_split rfl rfl rfl rfl (fun hc => ?_) (fun hc => ?_) | refine Nx.m_splitb rfl rfl rfl rfl (fun hc => ?_) (fun hc => ?_)))
        | ((fail_if_success (with_reducible refine Nx.is_at ?_)); (fail_if_success (with_reducible refine Nx.is_wp ?_)); (fail_if_success (with_reducible refine Nx.is_mix ?_)); first | refine Nx.ex ?_)
      exact Nx.ret_fn rfl [] ⟨by first | rfl | simp [h'], rfl⟩ (by (exact Ent.auto))
    · repeat' first
        | ((with_reducible refine Nx.is_wp ?_); first | refine Nx.wo ?_ | refine Nx.p_dec rfl rfl (fun hc => ?_) (fun hc => ?_) | refine Nx.p_bool rfl rfl (fun hc => ?_) (fun hc => ?_))
        | ((first | refine Nx.at_op rfl rfl ?_ | refine Nx.m_loud rfl rfl rfl ?_ | refine Nx.at_do rfl rfl rfl rfl ?_ | refine Nx.m_loud_do rfl rfl rfl rfl rfl ?_); first | refine Nx.opr rfl rfl ?_ | refine Nx.so ?_ | refine Nx.sb (fun bx => ?_) | refine Nx.sa (fun A2 c2 => ?_))
        | ((with_reducible refine Nx.is_at ?_); first | refine Nx.a ?_ | ((fail_if_success refine Nx.at_do rfl rfl rfl rfl ?_); first | refine Nx.at_dec_t rfl rfl rfl rfl (by first | assumption | omega) ?_ | refine Nx.at_dec_f rfl rfl rfl rfl (by first | assumption | omega) ?_ | refine Nx.at_split rfl rfl rfl rfl (fun hc => ?_) (fun hc => ?_) | refine Nx.at_splitb rfl rfl rfl rfl (fun hc => ?_) (fun hc => ?_)))
        | ((with_reducible refine Nx.is_mix ?_); first | refine Nx.m ?_ | ((fail_if_success refine Nx.m_quiet_do rfl rfl rfl rfl rfl rfl rfl ?_ ?_); (fail_if_success refine Nx.m_loud_do rfl rfl rfl rfl rfl ?_); first | refine Nx.m_dec_t rfl rfl rfl rfl (by first | assumption | omega) ?_ | refine Nx.m_dec_f rfl rfl rfl rfl (by first | assumption | omega) ?_ | refine Nx.m_split rfl rfl rfl rfl (fun hc => ?_) (fun hc => ?_) | refine Nx.m_splitb rfl rfl rfl rfl (fun hc => ?_) (fun hc => ?_)))
        | ((fail_if_success (with_reducible refine Nx.is_at ?_)); (fail_if_success (with_reducible refine Nx.is_wp ?_)); (fail_if_success (with_reducible refine Nx.is_mix ?_)); first | refine Nx.ex ?_)
      exact Nx.ret_fn rfl [] ⟨by first | rfl | simp [h'], rfl⟩ (by (exact Ent.auto))
  · have h0 : openB x.1 = false := by simpa using h
    have h' := of_decide_eq_false h0
    have ha : ¬ x.1.st = 1 := fun h => h' (.inl h)
    have hb : ¬ x.1.st = 2 := fun h => h' (.inr h)
    rw [h0]
    refine FnSpec.enterP Try.func30 rfl Try.ntmps30 rfl fun w F => ?_
    repeat' first
      | ((with_reducible refine Nx.is_wp ?_); first | refine Nx.wo ?_ | refine Nx.p_dec rfl rfl (fun hc => ?_) (fun hc => ?_) | refine Nx.p_bool rfl rfl (fun hc => ?_) (fun hc => ?_))
      | ((first | refine Nx.at_op rfl rfl ?_ | refine Nx.m_loud rfl rfl rfl ?_ | refine Nx.at_do rfl rfl rfl rfl ?_ | refine Nx.m_loud_do rfl rfl rfl rfl rfl ?_); first | refine Nx.opr rfl rfl ?_ | refine Nx.so ?_ | refine Nx.sb (fun bx => ?_) | refine Nx.sa (fun A2 c2 => ?_))
      | ((with_reducible refine Nx.is_at ?_); first | refine Nx.a ?_ | ((fail_if_success refine Nx.at_do rfl rfl rfl rfl ?_); first | refine Nx.at_dec_t rfl rfl rfl rfl (by first | assumption | omega) ?_ | refine Nx.at_dec_f rfl rfl rfl rfl (by first | assumption | omega) ?_ | refine Nx.at_split rfl rfl rfl rfl (fun hc => ?_) (fun hc => ?_) | refine Nx.at_splitb rfl rfl rfl rfl (fun hc => ?_) (fun hc => ?_)))
      | ((with_reducible refine Nx.is_mix ?_); first | refine Nx.m ?_ | ((fail_if_success refine Nx.m_quiet_do rfl rfl rfl rfl rfl rfl rfl ?_ ?_); (fail_if_success refine Nx.m_loud_do rfl rfl rfl rfl rfl ?_); first | refine Nx.m_dec_t rfl rfl rfl rfl (by first | assumption | omega) ?_ | refine Nx.m_dec_f rfl rfl rfl rfl (by first | assumption | omega) ?_ | refine Nx.m_split rfl rfl rfl rfl (fun hc => ?_) (fun hc => ?_) | refine Nx.m_splitb rfl rfl rfl rfl (fun hc => ?_) (fun hc => ?_)))
      | ((fail_if_success (with_reducible refine Nx.is_at ?_)); (fail_if_success (with_reducible refine Nx.is_wp ?_)); (fail_if_success (with_reducible refine Nx.is_mix ?_)); first | refine Nx.ex ?_)
    exact Nx.ret_fn rfl [] ⟨by first | rfl | simp [ha, hb], rfl⟩ (by (exact Ent.auto))
set_option maxHeartbeats 8000000 in
set_option maxRecDepth 10000 in
theorem act_spec (Ao : Option Addr) (co : Nat) (l : List OutM) (Ar : Option Addr) (cr : Nat) (ro : List Shift) (d number : Int) (p : List UInt8) (t : Int) (I : PH) (hl : Outs I Ao co l) (hr : Shifts I Ar cr ro) (hro : ∀ y ∈ ro, shOk y) (hlo : ∀ x ∈ l, I64 x.1.n) (hn : I64 number) :
    FnSpec Try.prog 61 [.agg #[.slice Ao l.length co, .slice Ar ro.length cr, .int .i64 d], .int .i64 number, strV p, .int .i64 t] I [] (fun v R' => v = .int .i64 (touchE (l.map (·.1)) ro d number p t) ∧ R' = []) := by
  have hCk := check_spec Ao co l Ar cr ro d I hl hr hro hlo
  have hlen := hl.sl.len
  by_cases c1 : deskE (l.map (·.1)) ro d = 0
  · rw [c1] at hCk
    obtain ⟨hd, _, h40, hall⟩ := desk_ok.1 c1
    rw [List.length_map] at h40 hall
    by_cases c2 : number < 1
    · rw [show touchE (l.map (·.1)) ro d number p t = 48 by unfold touchE; rw [if_neg (by omega), if_pos (.inl c2)]]
      refine FnSpec.enterP Try.func61 rfl Try.ntmps61 rfl fun w F => ?_
      repeat' first
        | ((with_reducible refine Nx.is_wp ?_); first | refine Nx.wo ?_ | refine Nx.p_dec rfl rfl (fun hc => ?_) (fun hc => ?_) | refine Nx.p_bool rfl rfl (fun hc => ?_) (fun hc => ?_))
        | ((first | refine Nx.at_op rfl rfl ?_ | refine Nx.m_loud rfl rfl rfl ?_ | refine Nx.at_do rfl rfl rfl rfl ?_ | refine Nx.m_loud_do rfl rfl rfl rfl rfl ?_); first | refine Nx.opr rfl rfl ?_ | refine Nx.callv rfl rfl rfl (by kernel_rfl) rfl hCk ?_ | refine Nx.so ?_ | refine Nx.sb (fun bx => ?_) | refine Nx.sa (fun A2 c2 => ?_))
        | ((with_reducible refine Nx.is_at ?_); first | refine Nx.a ?_ | ((fail_if_success refine Nx.at_do rfl rfl rfl rfl ?_); first | refine Nx.at_dec_t rfl rfl rfl rfl (by first | assumption | omega) ?_ | refine Nx.at_dec_f rfl rfl rfl rfl (by first | assumption | omega) ?_ | refine Nx.at_split rfl rfl rfl rfl (fun hc => ?_) (fun hc => ?_) | refine Nx.at_splitb rfl rfl rfl rfl (fun hc => ?_) (fun hc => ?_)))
        | ((with_reducible refine Nx.is_mix ?_); first | refine Nx.m ?_ | ((fail_if_success refine Nx.m_quiet_do rfl rfl rfl rfl rfl rfl rfl ?_ ?_); (fail_if_success refine Nx.m_loud_do rfl rfl rfl rfl rfl ?_); first | refine Nx.m_dec_t rfl rfl rfl rfl (by first | assumption | omega) ?_ | refine Nx.m_dec_f rfl rfl rfl rfl (by first | assumption | omega) ?_ | refine Nx.m_split rfl rfl rfl rfl (fun hc => ?_) (fun hc => ?_) | refine Nx.m_splitb rfl rfl rfl rfl (fun hc => ?_) (fun hc => ?_)))
        | ((fail_if_success (with_reducible refine Nx.is_at ?_)); (fail_if_success (with_reducible refine Nx.is_wp ?_)); (fail_if_success (with_reducible refine Nx.is_mix ?_)); first | refine Nx.ex ?_)
      exact Nx.ret_fn rfl [] ⟨rfl, rfl⟩ (by (exact Ent.auto))
    by_cases c3 : (l.length : Int) < number
    · rw [show touchE (l.map (·.1)) ro d number p t = 48 by unfold touchE; rw [if_neg (by omega), if_pos (.inr (by rw [List.length_map]; exact c3))]]
      refine FnSpec.enterP Try.func61 rfl Try.ntmps61 rfl fun w F => ?_
      repeat' first
        | ((with_reducible refine Nx.is_wp ?_); first | refine Nx.wo ?_ | refine Nx.p_dec rfl rfl (fun hc => ?_) (fun hc => ?_) | refine Nx.p_bool rfl rfl (fun hc => ?_) (fun hc => ?_))
        | ((first | refine Nx.at_op rfl rfl ?_ | refine Nx.m_loud rfl rfl rfl ?_ | refine Nx.at_do rfl rfl rfl rfl ?_ | refine Nx.m_loud_do rfl rfl rfl rfl rfl ?_); first | refine Nx.opr rfl rfl ?_ | refine Nx.callv rfl rfl rfl (by kernel_rfl) rfl hCk ?_ | refine Nx.so ?_ | refine Nx.sb (fun bx => ?_) | refine Nx.sa (fun A2 c2 => ?_))
        | ((with_reducible refine Nx.is_at ?_); first | refine Nx.a ?_ | ((fail_if_success refine Nx.at_do rfl rfl rfl rfl ?_); first | refine Nx.at_dec_t rfl rfl rfl rfl (by first | assumption | omega) ?_ | refine Nx.at_dec_f rfl rfl rfl rfl (by first | assumption | omega) ?_ | refine Nx.at_split rfl rfl rfl rfl (fun hc => ?_) (fun hc => ?_) | refine Nx.at_splitb rfl rfl rfl rfl (fun hc => ?_) (fun hc => ?_)))
        | ((with_reducible refine Nx.is_mix ?_); first | refine Nx.m ?_ | ((fail_if_success refine Nx.m_quiet_do rfl rfl rfl rfl rfl rfl rfl ?_ ?_); (fail_if_success refine Nx.m_loud_do rfl rfl rfl rfl rfl ?_); first | refine Nx.m_dec_t rfl rfl rfl rfl (by first | assumption | omega) ?_ | refine Nx.m_dec_f rfl rfl rfl rfl (by first | assumption | omega) ?_ | refine Nx.m_split rfl rfl rfl rfl (fun hc => ?_) (fun hc => ?_) | refine Nx.m_splitb rfl rfl rfl rfl (fun hc => ?_) (fun hc => ?_)))
        | ((fail_if_success (with_reducible refine Nx.is_at ?_)); (fail_if_success (with_reducible refine Nx.is_wp ?_)); (fail_if_success (with_reducible refine Nx.is_mix ?_)); first | refine Nx.ex ?_)
      exact Nx.ret_fn rfl [] ⟨rfl, rfl⟩ (by (exact Ent.auto))
    obtain ⟨k, rfl⟩ : ∃ k : Nat, number = k + 1 := ⟨(number - 1).toNat, by omega⟩
    have hk : k < l.length := by omega
    have hk1 : ((k : Int) + 1 - 1).toNat = k := by omega
    obtain ⟨hv, _, _⟩ := hall k hk
    rw [lo_at hk] at hv
    obtain ⟨_, _, _, b4, _, _, b7, _⟩ := valid_bd hv
    have hsg := (hl.sg _ (om_mem hk)).sl
    have hsl := hsg.len
    rw [show touchE (l.map (·.1)) ro d (k + 1) p t = actE ro d (l.getD k default).1 p t by unfold touchE; rw [if_neg (by omega), if_neg (by rw [List.length_map]; omega), hk1, lo_at hk]]
    have hO := open_spec (l.getD k default) I
    have hD := Duty_spec3 Ar cr ro p t I hr hro
    have hD : FnSpec Try.prog _ _ I [] (fun v R' => v = .bool (dutyB ro p t) ∧ R' = []) := hD
    have hlast : 0 < (l.getD k default).1.sg.length → lastT (l.getD k default).1 (l.getD k default).1.sg.length = ((l.getD k default).1.sg.getD ((l.getD k default).1.sg.length - 1) default).2 := fun h => by unfold lastT; rw [if_neg (by omega)]
    have hlast0 : (l.getD k default).1.sg.length = 0 → lastT (l.getD k default).1 (l.getD k default).1.sg.length = (l.getD k default).1.t := fun h => by unfold lastT; rw [if_pos h]
    have hA : actE ro d (l.getD k default).1 p t = if openB (l.getD k default).1 = false then 41 else if t < lastT (l.getD k default).1 (l.getD k default).1.sg.length ∨ (l.getD k default).1.t + d ≤ t then 43 else if dutyB ro p t = false then 44 else if (p == (l.getD k default).1.who) = true then 45 else 0 := rfl
    generalize lastT (l.getD k default).1 (l.getD k default).1.sg.length = la at hlast hlast0 hA
    refine FnSpec.enterP Try.func61 rfl Try.ntmps61 rfl fun w F => ?_
    repeat' first
      | ((with_reducible refine Nx.is_wp ?_); first | refine Nx.p_stops 8 rfl ?_ | refine Nx.wo ?_ | refine Nx.p_dec rfl rfl (fun hc => ?_) (fun hc => ?_) | refine Nx.p_bool rfl rfl (fun hc => ?_) (fun hc => ?_))
      | ((first | refine Nx.at_op rfl rfl ?_ | refine Nx.m_loud rfl rfl rfl ?_ | refine Nx.at_do rfl rfl rfl rfl ?_ | refine Nx.m_loud_do rfl rfl rfl rfl rfl ?_); first | refine Nx.opr rfl rfl ?_ | refine Nx.callv rfl rfl rfl (by kernel_rfl) rfl hCk ?_ | (refine Nx.indexAddr rfl rfl rfl rfl rfl (by omega) (by omega) (hl.sl.isSome (by omega) (by omega)) ?_; rw [hk1]) | refine Nx.loads rfl rfl rfl rfl (hl.sl.rds (by omega)) rfl ?_ | refine Nx.so ?_ | refine Nx.sb (fun bx => ?_) | refine Nx.sa (fun A2 c2 => ?_))
      | ((with_reducible refine Nx.is_at ?_); first | refine Nx.a ?_ | ((fail_if_success refine Nx.at_do rfl rfl rfl rfl ?_); first | refine Nx.at_dec_t rfl rfl rfl rfl (by first | assumption | omega) ?_ | refine Nx.at_dec_f rfl rfl rfl rfl (by first | assumption | omega) ?_ | refine Nx.at_split rfl rfl rfl rfl (fun hc => ?_) (fun hc => ?_) | refine Nx.at_splitb rfl rfl rfl rfl (fun hc => ?_) (fun hc => ?_)))
      | ((with_reducible refine Nx.is_mix ?_); first | refine Nx.m ?_ | ((fail_if_success refine Nx.m_quiet_do rfl rfl rfl rfl rfl rfl rfl ?_ ?_); (fail_if_success refine Nx.m_loud_do rfl rfl rfl rfl rfl ?_); first | refine Nx.m_dec_t rfl rfl rfl rfl (by first | assumption | omega) ?_ | refine Nx.m_dec_f rfl rfl rfl rfl (by first | assumption | omega) ?_ | refine Nx.m_split rfl rfl rfl rfl (fun hc => ?_) (fun hc => ?_) | refine Nx.m_splitb rfl rfl rfl rfl (fun hc => ?_) (fun hc => ?_)))
      | ((fail_if_success (with_reducible refine Nx.is_at ?_)); (fail_if_success (with_reducible refine Nx.is_wp ?_)); (fail_if_success (with_reducible refine Nx.is_mix ?_)); first | refine Nx.ex ?_)
    revert bx; intro b10
    revert bx; intro b4
    have hk2 : (((l.getD k default).1.sg.length : Int) - 1).toNat = (l.getD k default).1.sg.length - 1 := by omega
    refine Nx.p_merge (σ := Unit) (fun _ => [(2, strV p), (3, .int .i64 t), (4, .pointer (some ⟨b4, 0, none⟩)), (10, .pointer (some ⟨b10, 0, none⟩)), (11, .int .i64 la)]) (fun _ => [Blk b10 50 (ouC (l.getD k default)), Blk b4 88 [.slice Ao l.length co, .slice Ar ro.length cr, .int .i64 d], F]) (fun _ => True) rfl ?_ ?_
    · by_cases n0 : 0 < (l.getD k default).1.sg.length
      · repeat' first
          | ((with_reducible refine Nx.is_wp ?_); first | refine Nx.wo ?_ | refine Nx.p_dec rfl rfl (fun hc => ?_) (fun hc => ?_) | refine Nx.p_bool rfl rfl (fun hc => ?_) (fun hc => ?_))
          | ((first | refine Nx.at_op rfl rfl ?_ | refine Nx.m_loud rfl rfl rfl ?_ | refine Nx.at_do rfl rfl rfl rfl ?_ | refine Nx.m_loud_do rfl rfl rfl rfl rfl ?_); first | refine Nx.opr rfl rfl ?_ | (refine Nx.indexAddr rfl rfl rfl rfl rfl (by omega) (by omega) (hsg.isSome (by omega) (by omega)) ?_; rw [hk2]) | refine Nx.load rfl rfl rfl (SliceN.fld hsg (by omega) 1 rfl) ?_ | refine Nx.so ?_ | refine Nx.sb (fun bx => ?_) | refine Nx.sa (fun A2 c2 => ?_))
          | ((with_reducible refine Nx.is_at ?_); first | refine Nx.a ?_ | ((fail_if_success refine Nx.at_do rfl rfl rfl rfl ?_); first | refine Nx.at_dec_t rfl rfl rfl rfl (by first | assumption | omega) ?_ | refine Nx.at_dec_f rfl rfl rfl rfl (by first | assumption | omega) ?_ | refine Nx.at_split rfl rfl rfl rfl (fun hc => ?_) (fun hc => ?_) | refine Nx.at_splitb rfl rfl rfl rfl (fun hc => ?_) (fun hc => ?_)))
          | ((with_reducible refine Nx.is_mix ?_); first | refine Nx.m ?_ | ((fail_if_success refine Nx.m_quiet_do rfl rfl rfl rfl rfl rfl rfl ?_ ?_); (fail_if_success refine Nx.m_loud_do rfl rfl rfl rfl rfl ?_); first | refine Nx.m_dec_t rfl rfl rfl rfl (by first | assumption | omega) ?_ | refine Nx.m_dec_f rfl rfl rfl rfl (by first | assumption | omega) ?_ | refine Nx.m_split rfl rfl rfl rfl (fun hc => ?_) (fun hc => ?_) | refine Nx.m_splitb rfl rfl rfl rfl (fun hc => ?_) (fun hc => ?_)))
          | ((fail_if_success (with_reducible refine Nx.is_at ?_)); (fail_if_success (with_reducible refine Nx.is_wp ?_)); (fail_if_success (with_reducible refine Nx.is_mix ?_)); first | refine Nx.ex ?_)
        exact Nx.upto () trivial ⟨rfl, rfl, rfl, rfl, by rw [hlast n0]; rfl, trivial⟩ (by (exact Ent.auto))
      · repeat' first
          | ((with_reducible refine Nx.is_wp ?_); first | refine Nx.wo ?_ | refine Nx.p_dec rfl rfl (fun hc => ?_) (fun hc => ?_) | refine Nx.p_bool rfl rfl (fun hc => ?_) (fun hc => ?_))
          | ((first | refine Nx.at_op rfl rfl ?_ | refine Nx.m_loud rfl rfl rfl ?_ | refine Nx.at_do rfl rfl rfl rfl ?_ | refine Nx.m_loud_do rfl rfl rfl rfl rfl ?_); first | refine Nx.opr rfl rfl ?_ | refine Nx.so ?_ | refine Nx.sb (fun bx => ?_) | refine Nx.sa (fun A2 c2 => ?_))
          | ((with_reducible refine Nx.is_at ?_); first | refine Nx.a ?_ | ((fail_if_success refine Nx.at_do rfl rfl rfl rfl ?_); first | refine Nx.at_dec_t rfl rfl rfl rfl (by first | assumption | omega) ?_ | refine Nx.at_dec_f rfl rfl rfl rfl (by first | assumption | omega) ?_ | refine Nx.at_split rfl rfl rfl rfl (fun hc => ?_) (fun hc => ?_) | refine Nx.at_splitb rfl rfl rfl rfl (fun hc => ?_) (fun hc => ?_)))
          | ((with_reducible refine Nx.is_mix ?_); first | refine Nx.m ?_ | ((fail_if_success refine Nx.m_quiet_do rfl rfl rfl rfl rfl rfl rfl ?_ ?_); (fail_if_success refine Nx.m_loud_do rfl rfl rfl rfl rfl ?_); first | refine Nx.m_dec_t rfl rfl rfl rfl (by first | assumption | omega) ?_ | refine Nx.m_dec_f rfl rfl rfl rfl (by first | assumption | omega) ?_ | refine Nx.m_split rfl rfl rfl rfl (fun hc => ?_) (fun hc => ?_) | refine Nx.m_splitb rfl rfl rfl rfl (fun hc => ?_) (fun hc => ?_)))
          | ((fail_if_success (with_reducible refine Nx.is_at ?_)); (fail_if_success (with_reducible refine Nx.is_wp ?_)); (fail_if_success (with_reducible refine Nx.is_mix ?_)); first | refine Nx.ex ?_)
        exact Nx.upto () trivial ⟨rfl, rfl, rfl, rfl, by rw [hlast0 (by omega)]; rfl, trivial⟩ (by (exact Ent.auto))
    · rintro _ _
      dsimp only
      cases o1 : openB (l.getD k default).1 with
      | false =>
        rw [o1] at hO
        rw [show actE ro d (l.getD k default).1 p t = 41 by rw [hA, o1]; rfl]
        repeat' first
          | ((with_reducible refine Nx.is_wp ?_); first | refine Nx.wo ?_ | refine Nx.p_dec rfl rfl (fun hc => ?_) (fun hc => ?_) | refine Nx.p_bool rfl rfl (fun hc => ?_) (fun hc => ?_))
          | ((first | refine Nx.at_op rfl rfl ?_ | refine Nx.m_loud rfl rfl rfl ?_ | refine Nx.at_do rfl rfl rfl rfl ?_ | refine Nx.m_loud_do rfl rfl rfl rfl rfl ?_); first | refine Nx.opr rfl rfl ?_ | refine Nx.callv rfl rfl rfl (by kernel_rfl) rfl hO ?_ | refine Nx.so ?_ | refine Nx.sb (fun bx => ?_) | refine Nx.sa (fun A2 c2 => ?_))
          | ((with_reducible refine Nx.is_at ?_); first | refine Nx.a ?_ | ((fail_if_success refine Nx.at_do rfl rfl rfl rfl ?_); first | refine Nx.at_dec_t rfl rfl rfl rfl (by first | assumption | omega) ?_ | refine Nx.at_dec_f rfl rfl rfl rfl (by first | assumption | omega) ?_ | refine Nx.at_split rfl rfl rfl rfl (fun hc => ?_) (fun hc => ?_) | refine Nx.at_splitb rfl rfl rfl rfl (fun hc => ?_) (fun hc => ?_)))
          | ((with_reducible refine Nx.is_mix ?_); first | refine Nx.m ?_ | ((fail_if_success refine Nx.m_quiet_do rfl rfl rfl rfl rfl rfl rfl ?_ ?_); (fail_if_success refine Nx.m_loud_do rfl rfl rfl rfl rfl ?_); first | refine Nx.m_dec_t rfl rfl rfl rfl (by first | assumption | omega) ?_ | refine Nx.m_dec_f rfl rfl rfl rfl (by first | assumption | omega) ?_ | refine Nx.m_split rfl rfl rfl rfl (fun hc => ?_) (fun hc => ?_) | refine Nx.m_splitb rfl rfl rfl rfl (fun hc => ?_) (fun hc => ?_)))
          | ((fail_if_success (with_reducible refine Nx.is_at ?_)); (fail_if_success (with_reducible refine Nx.is_wp ?_)); (fail_if_success (with_reducible refine Nx.is_mix ?_)); first | refine Nx.ex ?_)
        exact Nx.ret_fn rfl [] ⟨rfl, rfl⟩ (by (exact Ent.auto))
      | true =>
        rw [o1] at hO
        rw [o1, if_neg (by decide)] at hA
        by_cases t1 : t < la
        · rw [show actE ro d (l.getD k default).1 p t = 43 by rw [hA, if_pos (.inl t1)]]
          repeat' first
            | ((with_reducible refine Nx.is_wp ?_); first | refine Nx.wo ?_ | refine Nx.p_dec rfl rfl (fun hc => ?_) (fun hc => ?_) | refine Nx.p_bool rfl rfl (fun hc => ?_) (fun hc => ?_))
            | ((first | refine Nx.at_op rfl rfl ?_ | refine Nx.m_loud rfl rfl rfl ?_ | refine Nx.at_do rfl rfl rfl rfl ?_ | refine Nx.m_loud_do rfl rfl rfl rfl rfl ?_); first | refine Nx.opr rfl rfl ?_ | refine Nx.callv rfl rfl rfl (by kernel_rfl) rfl hO ?_ | refine Nx.so ?_ | refine Nx.sb (fun bx => ?_) | refine Nx.sa (fun A2 c2 => ?_))
            | ((with_reducible refine Nx.is_at ?_); first | refine Nx.a ?_ | ((fail_if_success refine Nx.at_do rfl rfl rfl rfl ?_); first | refine Nx.at_dec_t rfl rfl rfl rfl (by first | assumption | omega) ?_ | refine Nx.at_dec_f rfl rfl rfl rfl (by first | assumption | omega) ?_ | refine Nx.at_split rfl rfl rfl rfl (fun hc => ?_) (fun hc => ?_) | refine Nx.at_splitb rfl rfl rfl rfl (fun hc => ?_) (fun hc => ?_)))
            | ((with_reducible refine Nx.is_mix ?_); first | refine Nx.m ?_ | ((fail_if_success refine Nx.m_quiet_do rfl rfl rfl rfl rfl rfl rfl ?_ ?_); (fail_if_success refine Nx.m_loud_do rfl rfl rfl rfl rfl ?_); first | refine Nx.m_dec_t rfl rfl rfl rfl (by first | assumption | omega) ?_ | refine Nx.m_dec_f rfl rfl rfl rfl (by first | assumption | omega) ?_ | refine Nx.m_split rfl rfl rfl rfl (fun hc => ?_) (fun hc => ?_) | refine Nx.m_splitb rfl rfl rfl rfl (fun hc => ?_) (fun hc => ?_)))
            | ((fail_if_success (with_reducible refine Nx.is_at ?_)); (fail_if_success (with_reducible refine Nx.is_wp ?_)); (fail_if_success (with_reducible refine Nx.is_mix ?_)); first | refine Nx.ex ?_)
          exact Nx.ret_fn rfl [] ⟨rfl, rfl⟩ (by (exact Ent.auto))
        by_cases t2 : (l.getD k default).1.t + d ≤ t
        · rw [show actE ro d (l.getD k default).1 p t = 43 by rw [hA, if_pos (.inr t2)]]
          repeat' first
            | ((with_reducible refine Nx.is_wp ?_); first | refine Nx.wo ?_ | refine Nx.p_dec rfl rfl (fun hc => ?_) (fun hc => ?_) | refine Nx.p_bool rfl rfl (fun hc => ?_) (fun hc => ?_))
            | ((first | refine Nx.at_op rfl rfl ?_ | refine Nx.m_loud rfl rfl rfl ?_ | refine Nx.at_do rfl rfl rfl rfl ?_ | refine Nx.m_loud_do rfl rfl rfl rfl rfl ?_); first | refine Nx.opr rfl rfl ?_ | refine Nx.callv rfl rfl rfl (by kernel_rfl) rfl hO ?_ | refine Nx.so ?_ | refine Nx.sb (fun bx => ?_) | refine Nx.sa (fun A2 c2 => ?_))
            | ((with_reducible refine Nx.is_at ?_); first | refine Nx.a ?_ | ((fail_if_success refine Nx.at_do rfl rfl rfl rfl ?_); first | refine Nx.at_dec_t rfl rfl rfl rfl (by first | assumption | omega) ?_ | refine Nx.at_dec_f rfl rfl rfl rfl (by first | assumption | omega) ?_ | refine Nx.at_split rfl rfl rfl rfl (fun hc => ?_) (fun hc => ?_) | refine Nx.at_splitb rfl rfl rfl rfl (fun hc => ?_) (fun hc => ?_)))
            | ((with_reducible refine Nx.is_mix ?_); first | refine Nx.m ?_ | ((fail_if_success refine Nx.m_quiet_do rfl rfl rfl rfl rfl rfl rfl ?_ ?_); (fail_if_success refine Nx.m_loud_do rfl rfl rfl rfl rfl ?_); first | refine Nx.m_dec_t rfl rfl rfl rfl (by first | assumption | omega) ?_ | refine Nx.m_dec_f rfl rfl rfl rfl (by first | assumption | omega) ?_ | refine Nx.m_split rfl rfl rfl rfl (fun hc => ?_) (fun hc => ?_) | refine Nx.m_splitb rfl rfl rfl rfl (fun hc => ?_) (fun hc => ?_)))
            | ((fail_if_success (with_reducible refine Nx.is_at ?_)); (fail_if_success (with_reducible refine Nx.is_wp ?_)); (fail_if_success (with_reducible refine Nx.is_mix ?_)); first | refine Nx.ex ?_)
          exact Nx.ret_fn rfl [] ⟨rfl, rfl⟩ (by (exact Ent.auto))
        rw [if_neg (by omega)] at hA
        cases o2 : dutyB ro p t with
        | false =>
          rw [o2] at hD
          rw [show actE ro d (l.getD k default).1 p t = 44 by rw [hA, o2]; rfl]
          repeat' first
            | ((with_reducible refine Nx.is_wp ?_); first | refine Nx.wo ?_ | refine Nx.p_dec rfl rfl (fun hc => ?_) (fun hc => ?_) | refine Nx.p_bool rfl rfl (fun hc => ?_) (fun hc => ?_))
            | ((first | refine Nx.at_op rfl rfl ?_ | refine Nx.m_loud rfl rfl rfl ?_ | refine Nx.at_do rfl rfl rfl rfl ?_ | refine Nx.m_loud_do rfl rfl rfl rfl rfl ?_); first | refine Nx.opr rfl rfl ?_ | refine Nx.callv rfl rfl rfl (by kernel_rfl) rfl hO ?_ | refine Nx.callv rfl rfl rfl (by kernel_rfl) rfl hD ?_ | refine Nx.so ?_ | refine Nx.sb (fun bx => ?_) | refine Nx.sa (fun A2 c2 => ?_))
            | ((with_reducible refine Nx.is_at ?_); first | refine Nx.a ?_ | ((fail_if_success refine Nx.at_do rfl rfl rfl rfl ?_); first | refine Nx.at_dec_t rfl rfl rfl rfl (by first | assumption | omega) ?_ | refine Nx.at_dec_f rfl rfl rfl rfl (by first | assumption | omega) ?_ | refine Nx.at_split rfl rfl rfl rfl (fun hc => ?_) (fun hc => ?_) | refine Nx.at_splitb rfl rfl rfl rfl (fun hc => ?_) (fun hc => ?_)))
            | ((with_reducible refine Nx.is_mix ?_); first | refine Nx.m ?_ | ((fail_if_success refine Nx.m_quiet_do rfl rfl rfl rfl rfl rfl rfl ?_ ?_); (fail_if_success refine Nx.m_loud_do rfl rfl rfl rfl rfl ?_); first | refine Nx.m_dec_t rfl rfl rfl rfl (by first | assumption | omega) ?_ | refine Nx.m_dec_f rfl rfl rfl rfl (by first | assumption | omega) ?_ | refine Nx.m_split rfl rfl rfl rfl (fun hc => ?_) (fun hc => ?_) | refine Nx.m_splitb rfl rfl rfl rfl (fun hc => ?_) (fun hc => ?_)))
            | ((fail_if_success (with_reducible refine Nx.is_at ?_)); (fail_if_success (with_reducible refine Nx.is_wp ?_)); (fail_if_success (with_reducible refine Nx.is_mix ?_)); first | refine Nx.ex ?_)
          exact Nx.ret_fn rfl [] ⟨rfl, rfl⟩ (by (exact Ent.auto))
        | true =>
          rw [o2] at hD
          rw [o2, if_neg (by decide)] at hA
          cases o3 : (p == (l.getD k default).1.who) with
          | true =>
            rw [show actE ro d (l.getD k default).1 p t = 45 by rw [hA, o3]; rfl]
            repeat' first
              | ((with_reducible refine Nx.is_wp ?_); first | refine Nx.wo ?_ | refine Nx.p_dec rfl rfl (fun hc => ?_) (fun hc => ?_) | refine Nx.p_bool rfl rfl (fun hc => ?_) (fun hc => ?_))
              | ((first | refine Nx.at_op rfl rfl ?_ | refine Nx.m_loud rfl rfl rfl ?_ | refine Nx.at_do rfl rfl rfl rfl ?_ | refine Nx.m_loud_do rfl rfl rfl rfl rfl ?_); first | (refine Nx.eql_s rfl rfl rfl ?_; rw [o3]) | refine Nx.opr rfl rfl ?_ | refine Nx.callv rfl rfl rfl (by kernel_rfl) rfl hO ?_ | refine Nx.callv rfl rfl rfl (by kernel_rfl) rfl hD ?_ | refine Nx.so ?_ | refine Nx.sb (fun bx => ?_) | refine Nx.sa (fun A2 c2 => ?_))
              | ((with_reducible refine Nx.is_at ?_); first | refine Nx.a ?_ | ((fail_if_success refine Nx.at_do rfl rfl rfl rfl ?_); first | refine Nx.at_dec_t rfl rfl rfl rfl (by first | assumption | omega) ?_ | refine Nx.at_dec_f rfl rfl rfl rfl (by first | assumption | omega) ?_ | refine Nx.at_split rfl rfl rfl rfl (fun hc => ?_) (fun hc => ?_) | refine Nx.at_splitb rfl rfl rfl rfl (fun hc => ?_) (fun hc => ?_)))
              | ((with_reducible refine Nx.is_mix ?_); first | refine Nx.m ?_ | ((fail_if_success refine Nx.m_quiet_do rfl rfl rfl rfl rfl rfl rfl ?_ ?_); (fail_if_success refine Nx.m_loud_do rfl rfl rfl rfl rfl ?_); first | refine Nx.m_dec_t rfl rfl rfl rfl (by first | assumption | omega) ?_ | refine Nx.m_dec_f rfl rfl rfl rfl (by first | assumption | omega) ?_ | refine Nx.m_split rfl rfl rfl rfl (fun hc => ?_) (fun hc => ?_) | refine Nx.m_splitb rfl rfl rfl rfl (fun hc => ?_) (fun hc => ?_)))
              | ((fail_if_success (with_reducible refine Nx.is_at ?_)); (fail_if_success (with_reducible refine Nx.is_wp ?_)); (fail_if_success (with_reducible refine Nx.is_mix ?_)); first | refine Nx.ex ?_)
            exact Nx.ret_fn rfl [] ⟨rfl, rfl⟩ (by (exact Ent.auto))
          | false =>
            rw [show actE ro d (l.getD k default).1 p t = 0 by rw [hA, o3]; rfl]
            repeat' first
              | ((with_reducible refine Nx.is_wp ?_); first | refine Nx.wo ?_ | refine Nx.p_dec rfl rfl (fun hc => ?_) (fun hc => ?_) | refine Nx.p_bool rfl rfl (fun hc => ?_) (fun hc => ?_))
              | ((first | refine Nx.at_op rfl rfl ?_ | refine Nx.m_loud rfl rfl rfl ?_ | refine Nx.at_do rfl rfl rfl rfl ?_ | refine Nx.m_loud_do rfl rfl rfl rfl rfl ?_); first | (refine Nx.eql_s rfl rfl rfl ?_; rw [o3]) | refine Nx.opr rfl rfl ?_ | refine Nx.callv rfl rfl rfl (by kernel_rfl) rfl hO ?_ | refine Nx.callv rfl rfl rfl (by kernel_rfl) rfl hD ?_ | refine Nx.so ?_ | refine Nx.sb (fun bx => ?_) | refine Nx.sa (fun A2 c2 => ?_))
              | ((with_reducible refine Nx.is_at ?_); first | refine Nx.a ?_ | ((fail_if_success refine Nx.at_do rfl rfl rfl rfl ?_); first | refine Nx.at_dec_t rfl rfl rfl rfl (by first | assumption | omega) ?_ | refine Nx.at_dec_f rfl rfl rfl rfl (by first | assumption | omega) ?_ | refine Nx.at_split rfl rfl rfl rfl (fun hc => ?_) (fun hc => ?_) | refine Nx.at_splitb rfl rfl rfl rfl (fun hc => ?_) (fun hc => ?_)))
              | ((with_reducible refine Nx.is_mix ?_); first | refine Nx.m ?_ | ((fail_if_success refine Nx.m_quiet_do rfl rfl rfl rfl rfl rfl rfl ?_ ?_); (fail_if_success refine Nx.m_loud_do rfl rfl rfl rfl rfl ?_); first | refine Nx.m_dec_t rfl rfl rfl rfl (by first | assumption | omega) ?_ | refine Nx.m_dec_f rfl rfl rfl rfl (by first | assumption | omega) ?_ | refine Nx.m_split rfl rfl rfl rfl (fun hc => ?_) (fun hc => ?_) | refine Nx.m_splitb rfl rfl rfl rfl (fun hc => ?_) (fun hc => ?_)))
              | ((fail_if_success (with_reducible refine Nx.is_at ?_)); (fail_if_success (with_reducible refine Nx.is_wp ?_)); (fail_if_success (with_reducible refine Nx.is_mix ?_)); first | refine Nx.ex ?_)
            exact Nx.ret_fn rfl [] ⟨rfl, rfl⟩ (by (exact Ent.auto))
  · rw [show touchE (l.map (·.1)) ro d number p t = deskE (l.map (·.1)) ro d from if_pos c1]
    refine FnSpec.enterP Try.func61 rfl Try.ntmps61 rfl fun w F => ?_
    repeat' first
      | ((with_reducible refine Nx.is_wp ?_); first | refine Nx.wo ?_ | refine Nx.p_dec rfl rfl (fun hc => ?_) (fun hc => ?_) | refine Nx.p_bool rfl rfl (fun hc => ?_) (fun hc => ?_))
      | ((first | refine Nx.at_op rfl rfl ?_ | refine Nx.m_loud rfl rfl rfl ?_ | refine Nx.at_do rfl rfl rfl rfl ?_ | refine Nx.m_loud_do rfl rfl rfl rfl rfl ?_); first | refine Nx.opr rfl rfl ?_ | refine Nx.callv rfl rfl rfl (by kernel_rfl) rfl hCk ?_ | refine Nx.so ?_ | refine Nx.sb (fun bx => ?_) | refine Nx.sa (fun A2 c2 => ?_))
      | ((with_reducible refine Nx.is_at ?_); first | refine Nx.a ?_ | ((fail_if_success refine Nx.at_do rfl rfl rfl rfl ?_); first | refine Nx.at_dec_t rfl rfl rfl rfl (by first | assumption | omega) ?_ | refine Nx.at_dec_f rfl rfl rfl rfl (by first | assumption | omega) ?_ | refine Nx.at_split rfl rfl rfl rfl (fun hc => ?_) (fun hc => ?_) | refine Nx.at_splitb rfl rfl rfl rfl (fun hc => ?_) (fun hc => ?_)))
      | ((with_reducible refine Nx.is_mix ?_); first | refine Nx.m ?_ | ((fail_if_success refine Nx.m_quiet_do rfl rfl rfl rfl rfl rfl rfl ?_ ?_); (fail_if_success refine Nx.m_loud_do rfl rfl rfl rfl rfl ?_); first | refine Nx.m_dec_t rfl rfl rfl rfl (by first | assumption | omega) ?_ | refine Nx.m_dec_f rfl rfl rfl rfl (by first | assumption | omega) ?_ | refine Nx.m_split rfl rfl rfl rfl (fun hc => ?_) (fun hc => ?_) | refine Nx.m_splitb rfl rfl rfl rfl (fun hc => ?_) (fun hc => ?_)))
      | ((fail_if_success (with_reducible refine Nx.is_at ?_)); (fail_if_success (with_reducible refine Nx.is_wp ?_)); (fail_if_success (with_reducible refine Nx.is_mix ?_)); first | refine Nx.ex ?_)
    exact Nx.ret_fn rfl [] ⟨rfl, rfl⟩ (by (exact Ent.auto))
set_option maxHeartbeats 8000000 in
set_option maxRecDepth 10000 in
theorem touch_spec (Ao : Option Addr) (co : Nat) (l : List OutM) (Ar : Option Addr) (cr : Nat) (ro : List Shift) (d number : Int) (p : List UInt8) (t : Int) (I : PH) (hl : Outs I Ao co l) (hr : Shifts I Ar cr ro) (hro : ∀ y ∈ ro, shOk y) (hlo : ∀ x ∈ l, I64 x.1.n) (hn : I64 number) :
    FnSpec Try.prog 69 [.slice Ao l.length co, .slice Ar ro.length cr, .int .i64 d, .int .i64 number, strV p, .int .i64 t] I [] (fun v R' => v = .int .i64 (touchE (l.map (·.1)) ro d number p t) ∧ R' = []) := by
  have hCk := RDCheck_spec Ao co l Ar cr ro d I hl hr hro hlo
  have hlen := hl.sl.len
  by_cases c1 : deskE (l.map (·.1)) ro d = 0
  · rw [c1] at hCk
    obtain ⟨hd, _, h40, hall⟩ := desk_ok.1 c1
    rw [List.length_map] at h40 hall
    by_cases c2 : number < 1
    · rw [show touchE (l.map (·.1)) ro d number p t = 48 by unfold touchE; rw [if_neg (by omega), if_pos (.inl c2)]]
      refine FnSpec.enterP Try.func69 rfl Try.ntmps69 rfl fun w F => ?_
      repeat' first
        | ((with_reducible refine Nx.is_wp ?_); first | refine Nx.wo ?_ | refine Nx.p_dec rfl rfl (fun hc => ?_) (fun hc => ?_) | refine Nx.p_bool rfl rfl (fun hc => ?_) (fun hc => ?_))
        | ((first | refine Nx.at_op rfl rfl ?_ | refine Nx.m_loud rfl rfl rfl ?_ | refine Nx.at_do rfl rfl rfl rfl ?_ | refine Nx.m_loud_do rfl rfl rfl rfl rfl ?_); first | refine Nx.opr rfl rfl ?_ | refine Nx.callv rfl rfl rfl (by kernel_rfl) rfl hCk ?_ | refine Nx.so ?_ | refine Nx.sb (fun bx => ?_) | refine Nx.sa (fun A2 c2 => ?_))
        | ((with_reducible refine Nx.is_at ?_); first | refine Nx.a ?_ | ((fail_if_success refine Nx.at_do rfl rfl rfl rfl ?_); first | refine Nx.at_dec_t rfl rfl rfl rfl (by first | assumption | omega) ?_ | refine Nx.at_dec_f rfl rfl rfl rfl (by first | assumption | omega) ?_ | refine Nx.at_split rfl rfl rfl rfl (fun hc => ?_) (fun hc => ?_) | refine Nx.at_splitb rfl rfl rfl rfl (fun hc => ?_) (fun hc => ?_)))
        | ((with_reducible refine Nx.is_mix ?_); first | refine Nx.m ?_ | ((fail_if_success refine Nx.m_quiet_do rfl rfl rfl rfl rfl rfl rfl ?_ ?_); (fail_if_success refine Nx.m_loud_do rfl rfl rfl rfl rfl ?_); first | refine Nx.m_dec_t rfl rfl rfl rfl (by first | assumption | omega) ?_ | refine Nx.m_dec_f rfl rfl rfl rfl (by first | assumption | omega) ?_ | refine Nx.m_split rfl rfl rfl rfl (fun hc => ?_) (fun hc => ?_) | refine Nx.m_splitb rfl rfl rfl rfl (fun hc => ?_) (fun hc => ?_)))
        | ((fail_if_success (with_reducible refine Nx.is_at ?_)); (fail_if_success (with_reducible refine Nx.is_wp ?_)); (fail_if_success (with_reducible refine Nx.is_mix ?_)); first | refine Nx.ex ?_)
      exact Nx.ret_fn rfl [] ⟨rfl, rfl⟩ (by (exact Ent.auto))
    by_cases c3 : (l.length : Int) < number
    · rw [show touchE (l.map (·.1)) ro d number p t = 48 by unfold touchE; rw [if_neg (by omega), if_pos (.inr (by rw [List.length_map]; exact c3))]]
      refine FnSpec.enterP Try.func69 rfl Try.ntmps69 rfl fun w F => ?_
      repeat' first
        | ((with_reducible refine Nx.is_wp ?_); first | refine Nx.wo ?_ | refine Nx.p_dec rfl rfl (fun hc => ?_) (fun hc => ?_) | refine Nx.p_bool rfl rfl (fun hc => ?_) (fun hc => ?_))
        | ((first | refine Nx.at_op rfl rfl ?_ | refine Nx.m_loud rfl rfl rfl ?_ | refine Nx.at_do rfl rfl rfl rfl ?_ | refine Nx.m_loud_do rfl rfl rfl rfl rfl ?_); first | refine Nx.opr rfl rfl ?_ | refine Nx.callv rfl rfl rfl (by kernel_rfl) rfl hCk ?_ | refine Nx.so ?_ | refine Nx.sb (fun bx => ?_) | refine Nx.sa (fun A2 c2 => ?_))
        | ((with_reducible refine Nx.is_at ?_); first | refine Nx.a ?_ | ((fail_if_success refine Nx.at_do rfl rfl rfl rfl ?_); first | refine Nx.at_dec_t rfl rfl rfl rfl (by first | assumption | omega) ?_ | refine Nx.at_dec_f rfl rfl rfl rfl (by first | assumption | omega) ?_ | refine Nx.at_split rfl rfl rfl rfl (fun hc => ?_) (fun hc => ?_) | refine Nx.at_splitb rfl rfl rfl rfl (fun hc => ?_) (fun hc => ?_)))
        | ((with_reducible refine Nx.is_mix ?_); first | refine Nx.m ?_ | ((fail_if_success refine Nx.m_quiet_do rfl rfl rfl rfl rfl rfl rfl ?_ ?_); (fail_if_success refine Nx.m_loud_do rfl rfl rfl rfl rfl ?_); first | refine Nx.m_dec_t rfl rfl rfl rfl (by first | assumption | omega) ?_ | refine Nx.m_dec_f rfl rfl rfl rfl (by first | assumption | omega) ?_ | refine Nx.m_split rfl rfl rfl rfl (fun hc => ?_) (fun hc => ?_) | refine Nx.m_splitb rfl rfl rfl rfl (fun hc => ?_) (fun hc => ?_)))
        | ((fail_if_success (with_reducible refine Nx.is_at ?_)); (fail_if_success (with_reducible refine Nx.is_wp ?_)); (fail_if_success (with_reducible refine Nx.is_mix ?_)); first | refine Nx.ex ?_)
      exact Nx.ret_fn rfl [] ⟨rfl, rfl⟩ (by (exact Ent.auto))
    obtain ⟨k, rfl⟩ : ∃ k : Nat, number = k + 1 := ⟨(number - 1).toNat, by omega⟩
    have hk : k < l.length := by omega
    have hk1 : ((k : Int) + 1 - 1).toNat = k := by omega
    obtain ⟨hv, _, _⟩ := hall k hk
    rw [lo_at hk] at hv
    obtain ⟨_, _, _, b4, _, _, b7, _⟩ := valid_bd hv
    have hsg := (hl.sg _ (om_mem hk)).sl
    have hsl := hsg.len
    rw [show touchE (l.map (·.1)) ro d (k + 1) p t = actE ro d (l.getD k default).1 p t by unfold touchE; rw [if_neg (by omega), if_neg (by rw [List.length_map]; omega), hk1, lo_at hk]]
    have hO := ROpen_spec (l.getD k default) I
    have hD := RDuty_spec Ar cr ro p t I hr hro
    have hD : FnSpec Try.prog _ _ I [] (fun v R' => v = .bool (dutyB ro p t) ∧ R' = []) := hD
    have hlast : 0 < (l.getD k default).1.sg.length → lastT (l.getD k default).1 (l.getD k default).1.sg.length = ((l.getD k default).1.sg.getD ((l.getD k default).1.sg.length - 1) default).2 := fun h => by unfold lastT; rw [if_neg (by omega)]
    have hlast0 : (l.getD k default).1.sg.length = 0 → lastT (l.getD k default).1 (l.getD k default).1.sg.length = (l.getD k default).1.t := fun h => by unfold lastT; rw [if_pos h]
    have hA : actE ro d (l.getD k default).1 p t = if openB (l.getD k default).1 = false then 41 else if t < lastT (l.getD k default).1 (l.getD k default).1.sg.length ∨ (l.getD k default).1.t + d ≤ t then 43 else if dutyB ro p t = false then 44 else if (p == (l.getD k default).1.who) = true then 45 else 0 := rfl
    generalize lastT (l.getD k default).1 (l.getD k default).1.sg.length = la at hlast hlast0 hA
    refine FnSpec.enterP Try.func69 rfl Try.ntmps69 rfl fun w F => ?_
    repeat' first
      | ((with_reducible refine Nx.is_wp ?_); first | refine Nx.p_stops 8 rfl ?_ | refine Nx.wo ?_ | refine Nx.p_dec rfl rfl (fun hc => ?_) (fun hc => ?_) | refine Nx.p_bool rfl rfl (fun hc => ?_) (fun hc => ?_))
      | ((first | refine Nx.at_op rfl rfl ?_ | refine Nx.m_loud rfl rfl rfl ?_ | refine Nx.at_do rfl rfl rfl rfl ?_ | refine Nx.m_loud_do rfl rfl rfl rfl rfl ?_); first | refine Nx.opr rfl rfl ?_ | refine Nx.callv rfl rfl rfl (by kernel_rfl) rfl hCk ?_ | (refine Nx.indexAddr rfl rfl rfl rfl rfl (by omega) (by omega) (hl.sl.isSome (by omega) (by omega)) ?_; rw [hk1]) | refine Nx.loads rfl rfl rfl rfl (hl.sl.rds (by omega)) rfl ?_ | refine Nx.so ?_ | refine Nx.sb (fun bx => ?_) | refine Nx.sa (fun A2 c2 => ?_))
      | ((with_reducible refine Nx.is_at ?_); first | refine Nx.a ?_ | ((fail_if_success refine Nx.at_do rfl rfl rfl rfl ?_); first | refine Nx.at_dec_t rfl rfl rfl rfl (by first | assumption | omega) ?_ | refine Nx.at_dec_f rfl rfl rfl rfl (by first | assumption | omega) ?_ | refine Nx.at_split rfl rfl rfl rfl (fun hc => ?_) (fun hc => ?_) | refine Nx.at_splitb rfl rfl rfl rfl (fun hc => ?_) (fun hc => ?_)))
      | ((with_reducible refine Nx.is_mix ?_); first | refine Nx.m ?_ | ((fail_if_success refine Nx.m_quiet_do rfl rfl rfl rfl rfl rfl rfl ?_ ?_); (fail_if_success refine Nx.m_loud_do rfl rfl rfl rfl rfl ?_); first | refine Nx.m_dec_t rfl rfl rfl rfl (by first | assumption | omega) ?_ | refine Nx.m_dec_f rfl rfl rfl rfl (by first | assumption | omega) ?_ | refine Nx.m_split rfl rfl rfl rfl (fun hc => ?_) (fun hc => ?_) | refine Nx.m_splitb rfl rfl rfl rfl (fun hc => ?_) (fun hc => ?_)))
      | ((fail_if_success (with_reducible refine Nx.is_at ?_)); (fail_if_success (with_reducible refine Nx.is_wp ?_)); (fail_if_success (with_reducible refine Nx.is_mix ?_)); first | refine Nx.ex ?_)
    revert bx; intro b14
    have hk2 : (((l.getD k default).1.sg.length : Int) - 1).toNat = (l.getD k default).1.sg.length - 1 := by omega
    refine Nx.p_merge (σ := Unit) (fun _ => [(1, .slice Ar ro.length cr), (2, .int .i64 d), (4, strV p), (5, .int .i64 t), (14, .pointer (some ⟨b14, 0, none⟩)), (15, .int .i64 la)]) (fun _ => [Blk b14 50 (ouC (l.getD k default)), F]) (fun _ => True) rfl ?_ ?_
    · by_cases n0 : 0 < (l.getD k default).1.sg.length
      · repeat' first
          | ((with_reducible refine Nx.is_wp ?_); first | refine Nx.wo ?_ | refine Nx.p_dec rfl rfl (fun hc => ?_) (fun hc => ?_) | refine Nx.p_bool rfl rfl (fun hc => ?_) (fun hc => ?_))
          | ((first | refine Nx.at_op rfl rfl ?_ | refine Nx.m_loud rfl rfl rfl ?_ | refine Nx.at_do rfl rfl rfl rfl ?_ | refine Nx.m_loud_do rfl rfl rfl rfl rfl ?_); first | refine Nx.opr rfl rfl ?_ | (refine Nx.indexAddr rfl rfl rfl rfl rfl (by omega) (by omega) (hsg.isSome (by omega) (by omega)) ?_; rw [hk2]) | refine Nx.load rfl rfl rfl (SliceN.fld hsg (by omega) 1 rfl) ?_ | refine Nx.so ?_ | refine Nx.sb (fun bx => ?_) | refine Nx.sa (fun A2 c2 => ?_))
          | ((with_reducible refine Nx.is_at ?_); first | refine Nx.a ?_ | ((fail_if_success refine Nx.at_do rfl rfl rfl rfl ?_); first | refine Nx.at_dec_t rfl rfl rfl rfl (by first | assumption | omega) ?_ | refine Nx.at_dec_f rfl rfl rfl rfl (by first | assumption | omega) ?_ | refine Nx.at_split rfl rfl rfl rfl (fun hc => ?_) (fun hc => ?_) | refine Nx.at_splitb rfl rfl rfl rfl (fun hc => ?_) (fun hc => ?_)))
          | ((with_reducible refine Nx.is_mix ?_); first | refine Nx.m ?_ | ((fail_if_success refine Nx.m_quiet_do rfl rfl rfl rfl rfl rfl rfl ?_ ?_); (fail_if_success refine Nx.m_loud_do rfl rfl rfl rfl rfl ?_); first | refine Nx.m_dec_t rfl rfl rfl rfl (by first | assumption | omega) ?_ | refine Nx.m_dec_f rfl rfl rfl rfl (by first | assumption | omega) ?_ | refine Nx.m_split rfl rfl rfl rfl (fun hc => ?_) (fun hc => ?_) | refine Nx.m_splitb rfl rfl rfl rfl (fun hc => ?_) (fun hc => ?_)))
          | ((fail_if_success (with_reducible refine Nx.is_at ?_)); (fail_if_success (with_reducible refine Nx.is_wp ?_)); (fail_if_success (with_reducible refine Nx.is_mix ?_)); first | refine Nx.ex ?_)
        exact Nx.upto () trivial ⟨rfl, rfl, rfl, rfl, rfl, by rw [hlast n0]; rfl, trivial⟩ (by (exact Ent.auto))
      · repeat' first
          | ((with_reducible refine Nx.is_wp ?_); first | refine Nx.wo ?_ | refine Nx.p_dec rfl rfl (fun hc => ?_) (fun hc => ?_) | refine Nx.p_bool rfl rfl (fun hc => ?_) (fun hc => ?_))
          | ((first | refine Nx.at_op rfl rfl ?_ | refine Nx.m_loud rfl rfl rfl ?_ | refine Nx.at_do rfl rfl rfl rfl ?_ | refine Nx.m_loud_do rfl rfl rfl rfl rfl ?_); first | refine Nx.opr rfl rfl ?_ | refine Nx.so ?_ | refine Nx.sb (fun bx => ?_) | refine Nx.sa (fun A2 c2 => ?_))
          | ((with_reducible refine Nx.is_at ?_); first | refine Nx.a ?_ | ((fail_if_success refine Nx.at_do rfl rfl rfl rfl ?_); first | refine Nx.at_dec_t rfl rfl rfl rfl (by first | assumption | omega) ?_ | refine Nx.at_dec_f rfl rfl rfl rfl (by first | assumption | omega) ?_ | refine Nx.at_split rfl rfl rfl rfl (fun hc => ?_) (fun hc => ?_) | refine Nx.at_splitb rfl rfl rfl rfl (fun hc => ?_) (fun hc => ?_)))
          | ((with_reducible refine Nx.is_mix ?_); first | refine Nx.m ?_ | ((fail_if_success refine Nx.m_quiet_do rfl rfl rfl rfl rfl rfl rfl ?_ ?_); (fail_if_success refine Nx.m_loud_do rfl rfl rfl rfl rfl ?_); first | refine Nx.m_dec_t rfl rfl rfl rfl (by first | assumption | omega) ?_ | refine Nx.m_dec_f rfl rfl rfl rfl (by first | assumption | omega) ?_ | refine Nx.m_split rfl rfl rfl rfl (fun hc => ?_) (fun hc => ?_) | refine Nx.m_splitb rfl rfl rfl rfl (fun hc => ?_) (fun hc => ?_)))
          | ((fail_if_success (with_reducible refine Nx.is_at ?_)); (fail_if_success (with_reducible refine Nx.is_wp ?_)); (fail_if_success (with_reducible refine Nx.is_mix ?_)); first | refine Nx.ex ?_)
        exact Nx.upto () trivial ⟨rfl, rfl, rfl, rfl, rfl, by rw [hlast0 (by omega)]; rfl, trivial⟩ (by (exact Ent.auto))
    · rintro _ _
      dsimp only
      cases o1 : openB (l.getD k default).1 with
      | false =>
        rw [o1] at hO
        rw [show actE ro d (l.getD k default).1 p t = 41 by rw [hA, o1]; rfl]
        repeat' first
          | ((with_reducible refine Nx.is_wp ?_); first | refine Nx.wo ?_ | refine Nx.p_dec rfl rfl (fun hc => ?_) (fun hc => ?_) | refine Nx.p_bool rfl rfl (fun hc => ?_) (fun hc => ?_))
          | ((first | refine Nx.at_op rfl rfl ?_ | refine Nx.m_loud rfl rfl rfl ?_ | refine Nx.at_do rfl rfl rfl rfl ?_ | refine Nx.m_loud_do rfl rfl rfl rfl rfl ?_); first | refine Nx.opr rfl rfl ?_ | refine Nx.callv rfl rfl rfl (by kernel_rfl) rfl hO ?_ | refine Nx.so ?_ | refine Nx.sb (fun bx => ?_) | refine Nx.sa (fun A2 c2 => ?_))
          | ((with_reducible refine Nx.is_at ?_); first | refine Nx.a ?_ | ((fail_if_success refine Nx.at_do rfl rfl rfl rfl ?_); first | refine Nx.at_dec_t rfl rfl rfl rfl (by first | assumption | omega) ?_ | refine Nx.at_dec_f rfl rfl rfl rfl (by first | assumption | omega) ?_ | refine Nx.at_split rfl rfl rfl rfl (fun hc => ?_) (fun hc => ?_) | refine Nx.at_splitb rfl rfl rfl rfl (fun hc => ?_) (fun hc => ?_)))
          | ((with_reducible refine Nx.is_mix ?_); first | refine Nx.m ?_ | ((fail_if_success refine Nx.m_quiet_do rfl rfl rfl rfl rfl rfl rfl ?_ ?_); (fail_if_success refine Nx.m_loud_do rfl rfl rfl rfl rfl ?_); first | refine Nx.m_dec_t rfl rfl rfl rfl (by first | assumption | omega) ?_ | refine Nx.m_dec_f rfl rfl rfl rfl (by first | assumption | omega) ?_ | refine Nx.m_split rfl rfl rfl rfl (fun hc => ?_) (fun hc => ?_) | refine Nx.m_splitb rfl rfl rfl rfl (fun hc => ?_) (fun hc => ?_)))
          | ((fail_if_success (with_reducible refine Nx.is_at ?_)); (fail_if_success (with_reducible refine Nx.is_wp ?_)); (fail_if_success (with_reducible refine Nx.is_mix ?_)); first | refine Nx.ex ?_)
        exact Nx.ret_fn rfl [] ⟨rfl, rfl⟩ (by (exact Ent.auto))
      | true =>
        rw [o1] at hO
        rw [o1, if_neg (by decide)] at hA
        by_cases t1 : t < la
        · rw [show actE ro d (l.getD k default).1 p t = 43 by rw [hA, if_pos (.inl t1)]]
          repeat' first
            | ((with_reducible refine Nx.is_wp ?_); first | refine Nx.wo ?_ | refine Nx.p_dec rfl rfl (fun hc => ?_) (fun hc => ?_) | refine Nx.p_bool rfl rfl (fun hc => ?_) (fun hc => ?_))
            | ((first | refine Nx.at_op rfl rfl ?_ | refine Nx.m_loud rfl rfl rfl ?_ | refine Nx.at_do rfl rfl rfl rfl ?_ | refine Nx.m_loud_do rfl rfl rfl rfl rfl ?_); first | refine Nx.opr rfl rfl ?_ | refine Nx.callv rfl rfl rfl (by kernel_rfl) rfl hO ?_ | refine Nx.so ?_ | refine Nx.sb (fun bx => ?_) | refine Nx.sa (fun A2 c2 => ?_))
            | ((with_reducible refine Nx.is_at ?_); first | refine Nx.a ?_ | ((fail_if_success refine Nx.at_do rfl rfl rfl rfl ?_); first | refine Nx.at_dec_t rfl rfl rfl rfl (by first | assumption | omega) ?_ | refine Nx.at_dec_f rfl rfl rfl rfl (by first | assumption | omega) ?_ | refine Nx.at_split rfl rfl rfl rfl (fun hc => ?_) (fun hc => ?_) | refine Nx.at_splitb rfl rfl rfl rfl (fun hc => ?_) (fun hc => ?_)))
            | ((with_reducible refine Nx.is_mix ?_); first | refine Nx.m ?_ | ((fail_if_success refine Nx.m_quiet_do rfl rfl rfl rfl rfl rfl rfl ?_ ?_); (fail_if_success refine Nx.m_loud_do rfl rfl rfl rfl rfl ?_); first | refine Nx.m_dec_t rfl rfl rfl rfl (by first | assumption | omega) ?_ | refine Nx.m_dec_f rfl rfl rfl rfl (by first | assumption | omega) ?_ | refine Nx.m_split rfl rfl rfl rfl (fun hc => ?_) (fun hc => ?_) | refine Nx.m_splitb rfl rfl rfl rfl (fun hc => ?_) (fun hc => ?_)))
            | ((fail_if_success (with_reducible refine Nx.is_at ?_)); (fail_if_success (with_reducible refine Nx.is_wp ?_)); (fail_if_success (with_reducible refine Nx.is_mix ?_)); first | refine Nx.ex ?_)
          exact Nx.ret_fn rfl [] ⟨rfl, rfl⟩ (by (exact Ent.auto))
        by_cases t2 : (l.getD k default).1.t + d ≤ t
        · rw [show actE ro d (l.getD k default).1 p t = 43 by rw [hA, if_pos (.inr t2)]]
          repeat' first
            | ((with_reducible refine Nx.is_wp ?_); first | refine Nx.wo ?_ | refine Nx.p_dec rfl rfl (fun hc => ?_) (fun hc => ?_) | refine Nx.p_bool rfl rfl (fun hc => ?_) (fun hc => ?_))
            | ((first | refine Nx.at_op rfl rfl ?_ | refine Nx.m_loud rfl rfl rfl ?_ | refine Nx.at_do rfl rfl rfl rfl ?_ | refine Nx.m_loud_do rfl rfl rfl rfl rfl ?_); first | refine Nx.opr rfl rfl ?_ | refine Nx.callv rfl rfl rfl (by kernel_rfl) rfl hO ?_ | refine Nx.so ?_ | refine Nx.sb (fun bx => ?_) | refine Nx.sa (fun A2 c2 => ?_))
            | ((with_reducible refine Nx.is_at ?_); first | refine Nx.a ?_ | ((fail_if_success refine Nx.at_do rfl rfl rfl rfl ?_); first | refine Nx.at_dec_t rfl rfl rfl rfl (by first | assumption | omega) ?_ | refine Nx.at_dec_f rfl rfl rfl rfl (by first | assumption | omega) ?_ | refine Nx.at_split rfl rfl rfl rfl (fun hc => ?_) (fun hc => ?_) | refine Nx.at_splitb rfl rfl rfl rfl (fun hc => ?_) (fun hc => ?_)))
            | ((with_reducible refine Nx.is_mix ?_); first | refine Nx.m ?_ | ((fail_if_success refine Nx.m_quiet_do rfl rfl rfl rfl rfl rfl rfl ?_ ?_); (fail_if_success refine Nx.m_loud_do rfl rfl rfl rfl rfl ?_); first | refine Nx.m_dec_t rfl rfl rfl rfl (by first | assumption | omega) ?_ | refine Nx.m_dec_f rfl rfl rfl rfl (by first | assumption | omega) ?_ | refine Nx.m_split rfl rfl rfl rfl (fun hc => ?_) (fun hc => ?_) | refine Nx.m_splitb rfl rfl rfl rfl (fun hc => ?_) (fun hc => ?_)))
            | ((fail_if_success (with_reducible refine Nx.is_at ?_)); (fail_if_success (with_reducible refine Nx.is_wp ?_)); (fail_if_success (with_reducible refine Nx.is_mix ?_)); first | refine Nx.ex ?_)
          exact Nx.ret_fn rfl [] ⟨rfl, rfl⟩ (by (exact Ent.auto))
        rw [if_neg (by omega)] at hA
        cases o2 : dutyB ro p t with
        | false =>
          rw [o2] at hD
          rw [show actE ro d (l.getD k default).1 p t = 44 by rw [hA, o2]; rfl]
          repeat' first
            | ((with_reducible refine Nx.is_wp ?_); first | refine Nx.wo ?_ | refine Nx.p_dec rfl rfl (fun hc => ?_) (fun hc => ?_) | refine Nx.p_bool rfl rfl (fun hc => ?_) (fun hc => ?_))
            | ((first | refine Nx.at_op rfl rfl ?_ | refine Nx.m_loud rfl rfl rfl ?_ | refine Nx.at_do rfl rfl rfl rfl ?_ | refine Nx.m_loud_do rfl rfl rfl rfl rfl ?_); first | refine Nx.opr rfl rfl ?_ | refine Nx.callv rfl rfl rfl (by kernel_rfl) rfl hO ?_ | refine Nx.callv rfl rfl rfl (by kernel_rfl) rfl hD ?_ | refine Nx.so ?_ | refine Nx.sb (fun bx => ?_) | refine Nx.sa (fun A2 c2 => ?_))
            | ((with_reducible refine Nx.is_at ?_); first | refine Nx.a ?_ | ((fail_if_success refine Nx.at_do rfl rfl rfl rfl ?_); first | refine Nx.at_dec_t rfl rfl rfl rfl (by first | assumption | omega) ?_ | refine Nx.at_dec_f rfl rfl rfl rfl (by first | assumption | omega) ?_ | refine Nx.at_split rfl rfl rfl rfl (fun hc => ?_) (fun hc => ?_) | refine Nx.at_splitb rfl rfl rfl rfl (fun hc => ?_) (fun hc => ?_)))
            | ((with_reducible refine Nx.is_mix ?_); first | refine Nx.m ?_ | ((fail_if_success refine Nx.m_quiet_do rfl rfl rfl rfl rfl rfl rfl ?_ ?_); (fail_if_success refine Nx.m_loud_do rfl rfl rfl rfl rfl ?_); first | refine Nx.m_dec_t rfl rfl rfl rfl (by first | assumption | omega) ?_ | refine Nx.m_dec_f rfl rfl rfl rfl (by first | assumption | omega) ?_ | refine Nx.m_split rfl rfl rfl rfl (fun hc => ?_) (fun hc => ?_) | refine Nx.m_splitb rfl rfl rfl rfl (fun hc => ?_) (fun hc => ?_)))
            | ((fail_if_success (with_reducible refine Nx.is_at ?_)); (fail_if_success (with_reducible refine Nx.is_wp ?_)); (fail_if_success (with_reducible refine Nx.is_mix ?_)); first | refine Nx.ex ?_)
          exact Nx.ret_fn rfl [] ⟨rfl, rfl⟩ (by (exact Ent.auto))
        | true =>
          rw [o2] at hD
          rw [o2, if_neg (by decide)] at hA
          cases o3 : (p == (l.getD k default).1.who) with
          | true =>
            rw [show actE ro d (l.getD k default).1 p t = 45 by rw [hA, o3]; rfl]
            repeat' first
              | ((with_reducible refine Nx.is_wp ?_); first | refine Nx.wo ?_ | refine Nx.p_dec rfl rfl (fun hc => ?_) (fun hc => ?_) | refine Nx.p_bool rfl rfl (fun hc => ?_) (fun hc => ?_))
              | ((first | refine Nx.at_op rfl rfl ?_ | refine Nx.m_loud rfl rfl rfl ?_ | refine Nx.at_do rfl rfl rfl rfl ?_ | refine Nx.m_loud_do rfl rfl rfl rfl rfl ?_); first | (refine Nx.eql_s rfl rfl rfl ?_; rw [o3]) | refine Nx.opr rfl rfl ?_ | refine Nx.callv rfl rfl rfl (by kernel_rfl) rfl hO ?_ | refine Nx.callv rfl rfl rfl (by kernel_rfl) rfl hD ?_ | refine Nx.so ?_ | refine Nx.sb (fun bx => ?_) | refine Nx.sa (fun A2 c2 => ?_))
              | ((with_reducible refine Nx.is_at ?_); first | refine Nx.a ?_ | ((fail_if_success refine Nx.at_do rfl rfl rfl rfl ?_); first | refine Nx.at_dec_t rfl rfl rfl rfl (by first | assumption | omega) ?_ | refine Nx.at_dec_f rfl rfl rfl rfl (by first | assumption | omega) ?_ | refine Nx.at_split rfl rfl rfl rfl (fun hc => ?_) (fun hc => ?_) | refine Nx.at_splitb rfl rfl rfl rfl (fun hc => ?_) (fun hc => ?_)))
              | ((with_reducible refine Nx.is_mix ?_); first | refine Nx.m ?_ | ((fail_if_success refine Nx.m_quiet_do rfl rfl rfl rfl rfl rfl rfl ?_ ?_); (fail_if_success refine Nx.m_loud_do rfl rfl rfl rfl rfl ?_); first | refine Nx.m_dec_t rfl rfl rfl rfl (by first | assumption | omega) ?_ | refine Nx.m_dec_f rfl rfl rfl rfl (by first | assumption | omega) ?_ | refine Nx.m_split rfl rfl rfl rfl (fun hc => ?_) (fun hc => ?_) | refine Nx.m_splitb rfl rfl rfl rfl (fun hc => ?_) (fun hc => ?_)))
              | ((fail_if_success (with_reducible refine Nx.is_at ?_)); (fail_if_success (with_reducible refine Nx.is_wp ?_)); (fail_if_success (with_reducible refine Nx.is_mix ?_)); first | refine Nx.ex ?_)
            exact Nx.ret_fn rfl [] ⟨rfl, rfl⟩ (by (exact Ent.auto))
          | false =>
            rw [show actE ro d (l.getD k default).1 p t = 0 by rw [hA, o3]; rfl]
            repeat' first
              | ((with_reducible refine Nx.is_wp ?_); first | refine Nx.wo ?_ | refine Nx.p_dec rfl rfl (fun hc => ?_) (fun hc => ?_) | refine Nx.p_bool rfl rfl (fun hc => ?_) (fun hc => ?_))
              | ((first | refine Nx.at_op rfl rfl ?_ | refine Nx.m_loud rfl rfl rfl ?_ | refine Nx.at_do rfl rfl rfl rfl ?_ | refine Nx.m_loud_do rfl rfl rfl rfl rfl ?_); first | (refine Nx.eql_s rfl rfl rfl ?_; rw [o3]) | refine Nx.opr rfl rfl ?_ | refine Nx.callv rfl rfl rfl (by kernel_rfl) rfl hO ?_ | refine Nx.callv rfl rfl rfl (by kernel_rfl) rfl hD ?_ | refine Nx.so ?_ | refine Nx.sb (fun bx => ?_) | refine Nx.sa (fun A2 c2 => ?_))
              | ((with_reducible refine Nx.is_at ?_); first | refine Nx.a ?_ | ((fail_if_success refine Nx.at_do rfl rfl rfl rfl ?_); first | refine Nx.at_dec_t rfl rfl rfl rfl (by first | assumption | omega) ?_ | refine Nx.at_dec_f rfl rfl rfl rfl (by first | assumption | omega) ?_ | refine Nx.at_split rfl rfl rfl rfl (fun hc => ?_) (fun hc => ?_) | refine Nx.at_splitb rfl rfl rfl rfl (fun hc => ?_) (fun hc => ?_)))
              | ((with_reducible refine Nx.is_mix ?_); first | refine Nx.m ?_ | ((fail_if_success refine Nx.m_quiet_do rfl rfl rfl rfl rfl rfl rfl ?_ ?_); (fail_if_success refine Nx.m_loud_do rfl rfl rfl rfl rfl ?_); first | refine Nx.m_dec_t rfl rfl rfl rfl (by first | assumption | omega) ?_ | refine Nx.m_dec_f rfl rfl rfl rfl (by first | assumption | omega) ?_ | refine Nx.m_split rfl rfl rfl rfl (fun hc => ?_) (fun hc => ?_) | refine Nx.m_splitb rfl rfl rfl rfl (fun hc => ?_) (fun hc => ?_)))
              | ((fail_if_success (with_reducible refine Nx.is_at ?_)); (fail_if_success (with_reducible refine Nx.is_wp ?_)); (fail_if_success (with_reducible refine Nx.is_mix ?_)); first | refine Nx.ex ?_)
            exact Nx.ret_fn rfl [] ⟨rfl, rfl⟩ (by (exact Ent.auto))
  · rw [show touchE (l.map (·.1)) ro d number p t = deskE (l.map (·.1)) ro d from if_pos c1]
    refine FnSpec.enterP Try.func69 rfl Try.ntmps69 rfl fun w F => ?_
    repeat' first
      | ((with_reducible refine Nx.is_wp ?_); first | refine Nx.wo ?_ | refine Nx.p_dec rfl rfl (fun hc => ?_) (fun hc => ?_) | refine Nx.p_bool rfl rfl (fun hc => ?_) (fun hc => ?_))
      | ((first | refine Nx.at_op rfl rfl ?_ | refine Nx.m_loud rfl rfl rfl ?_ | refine Nx.at_do rfl rfl rfl rfl ?_ | refine Nx.m_loud_do rfl rfl rfl rfl rfl ?_); first | refine Nx.opr rfl rfl ?_ | refine Nx.callv rfl rfl rfl (by kernel_rfl) rfl hCk ?_ | refine Nx.so ?_ | refine Nx.sb (fun bx => ?_) | refine Nx.sa (fun A2 c2 => ?_))
      | ((with_reducible refine Nx.is_at ?_); first | refine Nx.a ?_ | ((fail_if_success refine Nx.at_do rfl rfl rfl rfl ?_); first | refine Nx.at_dec_t rfl rfl rfl rfl (by first | assumption | omega) ?_ | refine Nx.at_dec_f rfl rfl rfl rfl (by first | assumption | omega) ?_ | refine Nx.at_split rfl rfl rfl rfl (fun hc => ?_) (fun hc => ?_) | refine Nx.at_splitb rfl rfl rfl rfl (fun hc => ?_) (fun hc => ?_)))
      | ((with_reducible refine Nx.is_mix ?_); first | refine Nx.m ?_ | ((fail_if_success refine Nx.m_quiet_do rfl rfl rfl rfl rfl rfl rfl ?_ ?_); (fail_if_success refine Nx.m_loud_do rfl rfl rfl rfl rfl ?_); first | refine Nx.m_dec_t rfl rfl rfl rfl (by first | assumption | omega) ?_ | refine Nx.m_dec_f rfl rfl rfl rfl (by first | assumption | omega) ?_ | refine Nx.m_split rfl rfl rfl rfl (fun hc => ?_) (fun hc => ?_) | refine Nx.m_splitb rfl rfl rfl rfl (fun hc => ?_) (fun hc => ?_)))
      | ((fail_if_success (with_reducible refine Nx.is_at ?_)); (fail_if_success (with_reducible refine Nx.is_wp ?_)); (fail_if_success (with_reducible refine Nx.is_mix ?_)); first | refine Nx.ex ?_)
    exact Nx.ret_fn rfl [] ⟨rfl, rfl⟩ (by (exact Ent.auto))
end Go.Proofs.Ytaoeapmdhpkidaa
/- Contracts of functions of the given program, and lemmas about plain lists and numbers: what the laws of this seat lean on. -/
namespace Go.Proofs.Ytaoeapmdhpkidaa
open Go.Eng
attribute [local irreducible] opK wpList Code.wp Exit.then Exit.inBlock fnPost bodyPost Nx Calls Oper.wp Rd Rds Wr Ent Stars Blk Again Vec FnSpec wpMix QRun Stop Upto wpAt
/-! What the desk's functions give, in plain lists -/
def setSt (o : Out) (st : Int) : Out := { o with st := st }
def atL (l : List Out) (number : Int) : Out := l.getD (number - 1).toNat default
def putL (l : List Out) (number : Int) (o : Out) : List Out := l.set (number - 1).toNat o
def refuseL (l : List Out) (ro : List Shift) (d number : Int) (p : List UInt8) (t : Int) : List Out := if touchE l ro d number p t = 0 then putL l number (setSt (atL l number) 4) else l
def releaseE (l : List Out) (ro : List Shift) (d number : Int) : Int := if deskE l ro d ≠ 0 then deskE l ro d else if number < 1 ∨ (l.length : Int) < number then 48 else if (atL l number).st ≠ 3 then 41 else 0
def releaseL (l : List Out) (ro : List Shift) (d number : Int) : List Out := if releaseE l ro d number = 0 then putL l number (setSt (atL l number) 6) else l
def dueB (d t : Int) (o : Out) : Bool := openB o && decide (o.t + d ≤ t)
def expireE (l : List Out) (ro : List Shift) (d t : Int) : Int := if deskE l ro d ≠ 0 then deskE l ro d else if t < 0 ∨ 2147483648 < t then 43 else 0
def expireO (d t : Int) (o : Out) : Out := if dueB d t o = true then setSt o 5 else o
def expireL (l : List Out) (ro : List Shift) (d t : Int) : List Out := if expireE l ro d t = 0 then l.map (expireO d t) else l
def goneL (l : List Out) (ro : List Shift) (d t : Int) : List Int := if expireE l ro d t = 0 then (l.filter (dueB d t)).map (·.n) else []
def blank (o : Out) : Out := { o with st := 1, sg := [] }
def submitE (l : List Out) (ro : List Shift) (d : Int) (o : Out) : Int := if deskE l ro d ≠ 0 then deskE l ro d else if validB (blank o) = false then 11 else if o.n ≠ (l.length : Int) + 1 then 48 else 0
def submitL (l : List Out) (ro : List Shift) (d : Int) (o : Out) : List Out := if submitE l ro d o = 0 then l ++ [blank o] else l
def signE (l : List Out) (ro : List Shift) (d number : Int) (p : List UInt8) (t : Int) (text : List UInt8) : Int :=
  if touchE l ro d number p t ≠ 0 then touchE l ro d number p t else if ((atL l number).sg.any fun s => s.1 == p) = true then 46 else if text ≠ (atL l number).text then 49 else 0
def signO (o : Out) (p : List UInt8) (t : Int) : Out := { o with sg := o.sg ++ [(p, t)], st := if o.sg.length = 1 then 3 else 2 }
def signL (l : List Out) (ro : List Shift) (d number : Int) (p : List UInt8) (t : Int) (text : List UInt8) : List Out := if signE l ro d number p t text = 0 then putL l number (signO (atL l number) p t) else l
/-- What such a function leaves: a list, an error. -/
def listE (lo : List Out) (e : Int) (v : Value) (R' : List Res) : Prop := ∃ A' c' l', v = .tuple #[.slice A' l'.length c', .int .i64 e] ∧ l'.map (·.1) = lo ∧ R' = [rowR A' c' l', Stars (l'.map sigR)]
theorem map_set_same {l : List OutM} {k : Nat} (hk : k < l.length) {o : Out} (h : o.sg = (l.getD k default).1.sg) : (l.set k (o, (l.getD k default).2)).map sigR = l.map sigR := by
  rw [List.map_set]
  have : sigR (o, (l.getD k default).2) = (l.map sigR)[k]'(by rw [List.length_map]; exact hk) := by
    rw [List.getElem_map]
    have e : l[k] = l.getD k default := by rw [List.getD_eq_getElem?_getD, List.getElem?_eq_getElem hk]; rfl
    rw [e]
    unfold sigR sigsR
    dsimp only
    rw [h]
  rw [this, List.set_getElem_self]
theorem map_set_log {l : List OutM} {lo : List Out} {k : Nat} (h : l.map (·.1) = lo) (x : OutM) : (l.set k x).map (·.1) = lo.set k x.1 := by rw [List.map_set, h]
end Go.Proofs.Ytaoeapmdhpkidaa
/- Contracts of functions of the given program, and lemmas about plain lists and numbers: what the laws of this seat lean on. -/
namespace Go.Proofs.Ytaoeapmdhpkidaa
open Go.Eng
attribute [local irreducible] opK wpList Code.wp Exit.then Exit.inBlock fnPost bodyPost Nx Calls Oper.wp Rd Rds Wr Ent Stars Blk Again Vec FnSpec wpMix QRun Stop Upto wpAt
theorem touch_ok {l : List Out} {ro : List Shift} {d number : Int} {p : List UInt8} {t : Int} (h : touchE l ro d number p t = 0) : deskE l ro d = 0 ∧ ∃ k : Nat, k < l.length ∧ number = k + 1 ∧ actE ro d (l.getD k default) p t = 0 := by
  unfold touchE at h
  split at h
  · omega
  · split at h
    · omega
    · exact ⟨by omega, (number - 1).toNat, by omega, by omega, h⟩
theorem release_ok {l : List Out} {ro : List Shift} {d number : Int} (h : releaseE l ro d number = 0) : deskE l ro d = 0 ∧ ∃ k : Nat, k < l.length ∧ number = k + 1 ∧ (l.getD k default).st = 3 := by
  unfold releaseE at h
  split at h
  · omega
  · split at h
    · omega
    · split at h
      · omega
      · rename_i h1 h2 h3
        exact ⟨by omega, (number - 1).toNat, by omega, by omega, Decidable.not_not.1 h3⟩
theorem put_log {l' : List OutM} {lo : List Out} (h : l'.map (·.1) = lo) {k : Nat} (hk : k < l'.length) (f : Out → Out) (a : Option Addr × Nat) : (l'.set k (f (l'.getD k default).1, a)).map (·.1) = putL lo ((k : Int) + 1) (f (atL lo ((k : Int) + 1))) := by
  have hk1 : ((k : Int) + 1 - 1).toNat = k := by omega
  unfold putL atL
  rw [hk1, map_set_log h, ← h, lo_at hk]
set_option maxHeartbeats 4000000 in
set_option maxRecDepth 10000 in
theorem Refuse_spec (Ao : Option Addr) (co : Nat) (l : List OutM) (Ar : Option Addr) (cr : Nat) (ro : List Shift) (d number : Int) (p : List UInt8) (t : Int) (I : PH) (hl : Outs I Ao co l) (hr : Shifts I Ar cr ro) (hro : ∀ y ∈ ro, shOk y) (hlo : ∀ x ∈ l, I64 x.1.n) (hn : I64 number) (h9 : l.length ≤ 1000) (hs9 : ∀ x ∈ l, x.1.sg.length ≤ 1000) :
    FnSpec Try.prog 37 [.slice Ao l.length co, .slice Ar ro.length cr, .int .i64 d, .int .i64 number, strV p, .int .i64 t] I [] (listE (refuseL (l.map (·.1)) ro d number p t) (touchE (l.map (·.1)) ro d number p t)) := by
  have hA := act_spec Ao co l Ar cr ro d number p t I hl hr hro hlo hn
  refine FnSpec.enterP Try.func37 rfl Try.ntmps37 rfl fun w F => ?_
  repeat' first
    | ((with_reducible refine Nx.is_wp ?_); first | refine Nx.wo ?_ | refine Nx.p_dec rfl rfl (fun hc => ?_) (fun hc => ?_) | refine Nx.p_bool rfl rfl (fun hc => ?_) (fun hc => ?_))
    | ((first | refine Nx.at_op rfl rfl ?_ | refine Nx.m_loud rfl rfl rfl ?_ | refine Nx.at_do rfl rfl rfl rfl ?_ | refine Nx.m_loud_do rfl rfl rfl rfl rfl ?_); first | refine Nx.opr rfl rfl ?_ | refine Nx.so ?_ | refine Nx.sb (fun bx => ?_) | refine Nx.sa (fun A2 c2 => ?_))
    | ((with_reducible refine Nx.is_at ?_); first | refine Nx.a ?_ | ((fail_if_success refine Nx.at_do rfl rfl rfl rfl ?_); first | refine Nx.at_dec_t rfl rfl rfl rfl (by first | assumption | omega) ?_ | refine Nx.at_dec_f rfl rfl rfl rfl (by first | assumption | omega) ?_ | refine Nx.at_split rfl rfl rfl rfl (fun hc => ?_) (fun hc => ?_) | refine Nx.at_splitb rfl rfl rfl rfl (fun hc => ?_) (fun hc => ?_)))
    | ((with_reducible refine Nx.is_mix ?_); first | refine Nx.m ?_ | ((fail_if_success refine Nx.m_quiet_do rfl rfl rfl rfl rfl rfl rfl ?_ ?_); (fail_if_success refine Nx.m_loud_do rfl rfl rfl rfl rfl ?_); first | refine Nx.m_dec_t rfl rfl rfl rfl (by first | assumption | omega) ?_ | refine Nx.m_dec_f rfl rfl rfl rfl (by first | assumption | omega) ?_ | refine Nx.m_split rfl rfl rfl rfl (fun hc => ?_) (fun hc => ?_) | refine Nx.m_splitb rfl rfl rfl rfl (fun hc => ?_) (fun hc => ?_)))
    | ((fail_if_success (with_reducible refine Nx.is_at ?_)); (fail_if_success (with_reducible refine Nx.is_wp ?_)); (fail_if_success (with_reducible refine Nx.is_mix ?_)); first | refine Nx.ex ?_)
  refine Nx.at_op rfl rfl ?_
  refine Nx.call rfl rfl rfl (by kernel_rfl) rfl (copied_spec Ao co l I hl h9 hs9) (by (exact Ent.auto)) ?_
  rintro _ _ ⟨A', c', l', rfl, hl', rfl⟩
  have hll : l'.length = l.length := by have := congrArg List.length hl'; simpa using this
  by_cases e0 : touchE (l.map (·.1)) ro d number p t = 0
  · obtain ⟨_, k, hk, rfl, _⟩ := touch_ok e0
    rw [List.length_map] at hk
    have hk1 : ((k : Int) + 1 - 1).toNat = k := by omega
    have hk' : k < l'.length := by omega
    rw [show refuseL (l.map (·.1)) ro d (k + 1) p t = putL (l.map (·.1)) (k + 1) (setSt (atL (l.map (·.1)) (k + 1)) 4) from if_pos e0, e0]
    rw [e0] at hA
    refine Nx.vec_fact fun hv1 hv2 hv3 hA' => ?_
    repeat' first
      | ((with_reducible refine Nx.is_wp ?_); first | refine Nx.wo ?_ | refine Nx.p_dec rfl rfl (fun hc => ?_) (fun hc => ?_) | refine Nx.p_bool rfl rfl (fun hc => ?_) (fun hc => ?_))
      | ((first | refine Nx.at_op rfl rfl ?_ | refine Nx.m_loud rfl rfl rfl ?_ | refine Nx.at_do rfl rfl rfl rfl ?_ | refine Nx.m_loud_do rfl rfl rfl rfl rfl ?_); first | refine Nx.opr rfl rfl ?_ | refine Nx.buildA rfl rfl rfl rfl ?_ | refine Nx.callv rfl rfl rfl (by kernel_rfl) rfl hA ?_ | (refine Nx.indexAddr rfl rfl rfl rfl rfl (by omega) (by omega) (hA' (by omega)) ?_; rw [hk1]) | refine Nx.store_fld 0 rfl rfl rfl rfl rfl rfl (by omega) ?_ | refine Nx.so ?_ | refine Nx.sb (fun bx => ?_) | refine Nx.sa (fun A2 c2 => ?_))
      | ((with_reducible refine Nx.is_at ?_); first | refine Nx.a ?_ | ((fail_if_success refine Nx.at_do rfl rfl rfl rfl ?_); first | refine Nx.at_dec_t rfl rfl rfl rfl (by first | assumption | omega) ?_ | refine Nx.at_dec_f rfl rfl rfl rfl (by first | assumption | omega) ?_ | refine Nx.at_split rfl rfl rfl rfl (fun hc => ?_) (fun hc => ?_) | refine Nx.at_splitb rfl rfl rfl rfl (fun hc => ?_) (fun hc => ?_)))
      | ((with_reducible refine Nx.is_mix ?_); first | refine Nx.m ?_ | ((fail_if_success refine Nx.m_quiet_do rfl rfl rfl rfl rfl rfl rfl ?_ ?_); (fail_if_success refine Nx.m_loud_do rfl rfl rfl rfl rfl ?_); first | refine Nx.m_dec_t rfl rfl rfl rfl (by first | assumption | omega) ?_ | refine Nx.m_dec_f rfl rfl rfl rfl (by first | assumption | omega) ?_ | refine Nx.m_split rfl rfl rfl rfl (fun hc => ?_) (fun hc => ?_) | refine Nx.m_splitb rfl rfl rfl rfl (fun hc => ?_) (fun hc => ?_)))
      | ((fail_if_success (with_reducible refine Nx.is_at ?_)); (fail_if_success (with_reducible refine Nx.is_wp ?_)); (fail_if_success (with_reducible refine Nx.is_mix ?_)); first | refine Nx.ex ?_)
    rw [flat_set ouC_len (x' := (setSt (l'.getD k default).1 4, (l'.getD k default).2)) hk' (by omega) rfl]
    exact Nx.ret_fn rfl [rowR A' c' (l'.set k (setSt (l'.getD k default).1 4, (l'.getD k default).2)), Stars ((l'.set k (setSt (l'.getD k default).1 4, (l'.getD k default).2)).map sigR)] ⟨A', c', _, by rw [List.length_set], put_log hl' hk' (fun o => setSt o 4) _, rfl⟩ (by rw [map_set_same (o := setSt (l'.getD k default).1 4) hk' rfl]; unfold rowR; rw [List.length_set]; (exact Ent.auto))
  · rw [show refuseL (l.map (·.1)) ro d number p t = l.map (·.1) from if_neg e0]
    repeat' first
      | ((with_reducible refine Nx.is_wp ?_); first | refine Nx.wo ?_ | refine Nx.p_dec rfl rfl (fun hc => ?_) (fun hc => ?_) | refine Nx.p_bool rfl rfl (fun hc => ?_) (fun hc => ?_))
      | ((first | refine Nx.at_op rfl rfl ?_ | refine Nx.m_loud rfl rfl rfl ?_ | refine Nx.at_do rfl rfl rfl rfl ?_ | refine Nx.m_loud_do rfl rfl rfl rfl rfl ?_); first | refine Nx.opr rfl rfl ?_ | refine Nx.buildA rfl rfl rfl rfl ?_ | refine Nx.callv rfl rfl rfl (by kernel_rfl) rfl hA ?_ | refine Nx.so ?_ | refine Nx.sb (fun bx => ?_) | refine Nx.sa (fun A2 c2 => ?_))
      | ((with_reducible refine Nx.is_at ?_); first | refine Nx.a ?_ | ((fail_if_success refine Nx.at_do rfl rfl rfl rfl ?_); first | refine Nx.at_dec_t rfl rfl rfl rfl (by first | assumption | omega) ?_ | refine Nx.at_dec_f rfl rfl rfl rfl (by first | assumption | omega) ?_ | refine Nx.at_split rfl rfl rfl rfl (fun hc => ?_) (fun hc => ?_) | refine Nx.at_splitb rfl rfl rfl rfl (fun hc => ?_) (fun hc => ?_)))
      | ((with_reducible refine Nx.is_mix ?_); first | refine Nx.m ?_ | ((fail_if_success refine Nx.m_quiet_do rfl rfl rfl rfl rfl rfl rfl ?_ ?_); (fail_if_success refine Nx.m_loud_do rfl rfl rfl rfl rfl ?_); first | refine Nx.m_dec_t rfl rfl rfl rfl (by first | assumption | omega) ?_ | refine Nx.m_dec_f rfl rfl rfl rfl (by first | assumption | omega) ?_ | refine Nx.m_split rfl rfl rfl rfl (fun hc => ?_) (fun hc => ?_) | refine Nx.m_splitb rfl rfl rfl rfl (fun hc => ?_) (fun hc => ?_)))
      | ((fail_if_success (with_reducible refine Nx.is_at ?_)); (fail_if_success (with_reducible refine Nx.is_wp ?_)); (fail_if_success (with_reducible refine Nx.is_mix ?_)); first | refine Nx.ex ?_)
    exact Nx.ret_fn rfl [rowR A' c' l', Stars (l'.map sigR)] ⟨A', c', l', rfl, hl', rfl⟩ (by (exact Ent.auto))
set_option maxHeartbeats 4000000 in
set_option maxRecDepth 10000 in
theorem Release_spec (Ao : Option Addr) (co : Nat) (l : List OutM) (Ar : Option Addr) (cr : Nat) (ro : List Shift) (d number : Int) (I : PH) (hl : Outs I Ao co l) (hr : Shifts I Ar cr ro) (hro : ∀ y ∈ ro, shOk y) (hlo : ∀ x ∈ l, I64 x.1.n) (hn : I64 number) (h9 : l.length ≤ 1000) (hs9 : ∀ x ∈ l, x.1.sg.length ≤ 1000) :
    FnSpec Try.prog 24 [.slice Ao l.length co, .slice Ar ro.length cr, .int .i64 d, .int .i64 number] I [] (listE (releaseL (l.map (·.1)) ro d number) (releaseE (l.map (·.1)) ro d number)) := by
  have hA := DCheck_spec Ao co l Ar cr ro d I hl hr hro hlo
  have hlen := hl.sl.len
  refine FnSpec.enterP Try.func24 rfl Try.ntmps24 rfl fun w F => ?_
  repeat' first
    | ((with_reducible refine Nx.is_wp ?_); first | refine Nx.wo ?_ | refine Nx.p_dec rfl rfl (fun hc => ?_) (fun hc => ?_) | refine Nx.p_bool rfl rfl (fun hc => ?_) (fun hc => ?_))
    | ((first | refine Nx.at_op rfl rfl ?_ | refine Nx.m_loud rfl rfl rfl ?_ | refine Nx.at_do rfl rfl rfl rfl ?_ | refine Nx.m_loud_do rfl rfl rfl rfl rfl ?_); first | refine Nx.opr rfl rfl ?_ | refine Nx.so ?_ | refine Nx.sb (fun bx => ?_) | refine Nx.sa (fun A2 c2 => ?_))
    | ((with_reducible refine Nx.is_at ?_); first | refine Nx.a ?_ | ((fail_if_success refine Nx.at_do rfl rfl rfl rfl ?_); first | refine Nx.at_dec_t rfl rfl rfl rfl (by first | assumption | omega) ?_ | refine Nx.at_dec_f rfl rfl rfl rfl (by first | assumption | omega) ?_ | refine Nx.at_split rfl rfl rfl rfl (fun hc => ?_) (fun hc => ?_) | refine Nx.at_splitb rfl rfl rfl rfl (fun hc => ?_) (fun hc => ?_)))
    | ((with_reducible refine Nx.is_mix ?_); first | refine Nx.m ?_ | ((fail_if_success refine Nx.m_quiet_do rfl rfl rfl rfl rfl rfl rfl ?_ ?_); (fail_if_success refine Nx.m_loud_do rfl rfl rfl rfl rfl ?_); first | refine Nx.m_dec_t rfl rfl rfl rfl (by first | assumption | omega) ?_ | refine Nx.m_dec_f rfl rfl rfl rfl (by first | assumption | omega) ?_ | refine Nx.m_split rfl rfl rfl rfl (fun hc => ?_) (fun hc => ?_) | refine Nx.m_splitb rfl rfl rfl rfl (fun hc => ?_) (fun hc => ?_)))
    | ((fail_if_success (with_reducible refine Nx.is_at ?_)); (fail_if_success (with_reducible refine Nx.is_wp ?_)); (fail_if_success (with_reducible refine Nx.is_mix ?_)); first | refine Nx.ex ?_)
  refine Nx.at_op rfl rfl ?_
  refine Nx.call rfl rfl rfl (by kernel_rfl) rfl (copied_spec Ao co l I hl h9 hs9) (by (exact Ent.auto)) ?_
  rintro _ _ ⟨A', c', l', rfl, hl', rfl⟩
  have hll : l'.length = l.length := by have := congrArg List.length hl'; simpa using this
  by_cases c1 : deskE (l.map (·.1)) ro d = 0
  · rw [c1] at hA
    by_cases c2 : number < 1
    · have hE : releaseE (l.map (·.1)) ro d number = 48 := by unfold releaseE; rw [if_neg (by omega), if_pos (.inl c2)]
      rw [show releaseL (l.map (·.1)) ro d number = l.map (·.1) from if_neg (by rw [hE]; decide), hE]
      repeat' first
        | ((with_reducible refine Nx.is_wp ?_); first | refine Nx.wo ?_ | refine Nx.p_dec rfl rfl (fun hc => ?_) (fun hc => ?_) | refine Nx.p_bool rfl rfl (fun hc => ?_) (fun hc => ?_))
        | ((first | refine Nx.at_op rfl rfl ?_ | refine Nx.m_loud rfl rfl rfl ?_ | refine Nx.at_do rfl rfl rfl rfl ?_ | refine Nx.m_loud_do rfl rfl rfl rfl rfl ?_); first | refine Nx.opr rfl rfl ?_ | refine Nx.callv rfl rfl rfl (by kernel_rfl) rfl hA ?_ | refine Nx.so ?_ | refine Nx.sb (fun bx => ?_) | refine Nx.sa (fun A2 c2 => ?_))
        | ((with_reducible refine Nx.is_at ?_); first | refine Nx.a ?_ | ((fail_if_success refine Nx.at_do rfl rfl rfl rfl ?_); first | refine Nx.at_dec_t rfl rfl rfl rfl (by first | assumption | omega) ?_ | refine Nx.at_dec_f rfl rfl rfl rfl (by first | assumption | omega) ?_ | refine Nx.at_split rfl rfl rfl rfl (fun hc => ?_) (fun hc => ?_) | refine Nx.at_splitb rfl rfl rfl rfl (fun hc => ?_) (fun hc => ?_)))
        | ((with_reducible refine Nx.is_mix ?_); first | refine Nx.m ?_ | ((fail_if_success refine Nx.m_quiet_do rfl rfl rfl rfl rfl rfl rfl ?_ ?_); (fail_if_success refine Nx.m_loud_do rfl rfl rfl rfl rfl ?_); first | refine Nx.m_dec_t rfl rfl rfl rfl (by first | assumption | omega) ?_ | refine Nx.m_dec_f rfl rfl rfl rfl (by first | assumption | omega) ?_ | refine Nx.m_split rfl rfl rfl rfl (fun hc => ?_) (fun hc => ?_) | refine Nx.m_splitb rfl rfl rfl rfl (fun hc => ?_) (fun hc => ?_)))
        | ((fail_if_success (with_reducible refine Nx.is_at ?_)); (fail_if_success (with_reducible refine Nx.is_wp ?_)); (fail_if_success (with_reducible refine Nx.is_mix ?_)); first | refine Nx.ex ?_)
      exact Nx.ret_fn rfl [rowR A' c' l', Stars (l'.map sigR)] ⟨A', c', l', rfl, hl', rfl⟩ (by (exact Ent.auto))
    by_cases c3 : (l.length : Int) < number
    · have c3' : ((l.map (·.1)).length : Int) < number := by rw [List.length_map]; exact c3
      have hE : releaseE (l.map (·.1)) ro d number = 48 := by unfold releaseE; rw [if_neg (by omega), if_pos (.inr c3')]
      rw [show releaseL (l.map (·.1)) ro d number = l.map (·.1) from if_neg (by rw [hE]; decide), hE]
      repeat' first
        | ((with_reducible refine Nx.is_wp ?_); first | refine Nx.wo ?_ | refine Nx.p_dec rfl rfl (fun hc => ?_) (fun hc => ?_) | refine Nx.p_bool rfl rfl (fun hc => ?_) (fun hc => ?_))
        | ((first | refine Nx.at_op rfl rfl ?_ | refine Nx.m_loud rfl rfl rfl ?_ | refine Nx.at_do rfl rfl rfl rfl ?_ | refine Nx.m_loud_do rfl rfl rfl rfl rfl ?_); first | refine Nx.opr rfl rfl ?_ | refine Nx.callv rfl rfl rfl (by kernel_rfl) rfl hA ?_ | refine Nx.so ?_ | refine Nx.sb (fun bx => ?_) | refine Nx.sa (fun A2 c2 => ?_))
        | ((with_reducible refine Nx.is_at ?_); first | refine Nx.a ?_ | ((fail_if_success refine Nx.at_do rfl rfl rfl rfl ?_); first | refine Nx.at_dec_t rfl rfl rfl rfl (by first | assumption | omega) ?_ | refine Nx.at_dec_f rfl rfl rfl rfl (by first | assumption | omega) ?_ | refine Nx.at_split rfl rfl rfl rfl (fun hc => ?_) (fun hc => ?_) | refine Nx.at_splitb rfl rfl rfl rfl (fun hc => ?_) (fun hc => ?_)))
        | ((with_reducible refine Nx.is_mix ?_); first | refine Nx.m ?_ | ((fail_if_success refine Nx.m_quiet_do rfl rfl rfl rfl rfl rfl rfl ?_ ?_); (fail_if_success refine Nx.m_loud_do rfl rfl rfl rfl rfl ?_); first | refine Nx.m_dec_t rfl rfl rfl rfl (by first | assumption | omega) ?_ | refine Nx.m_dec_f rfl rfl rfl rfl (by first | assumption | omega) ?_ | refine Nx.m_split rfl rfl rfl rfl (fun hc => ?_) (fun hc => ?_) | refine Nx.m_splitb rfl rfl rfl rfl (fun hc => ?_) (fun hc => ?_)))
        | ((fail_if_success (with_reducible refine Nx.is_at ?_)); (fail_if_success (with_reducible refine Nx.is_wp ?_)); (fail_if_success (with_reducible refine Nx.is_mix ?_)); first | refine Nx.ex ?_)
      exact Nx.ret_fn rfl [rowR A' c' l', Stars (l'.map sigR)] ⟨A', c', l', rfl, hl', rfl⟩ (by (exact Ent.auto))
    obtain ⟨k, rfl⟩ : ∃ k : Nat, number = k + 1 := ⟨(number - 1).toNat, by omega⟩
    have hk : k < l.length := by omega
    have hk1 : ((k : Int) + 1 - 1).toNat = k := by omega
    have hk' : k < l'.length := by omega
    have hat : (l'.getD k default).1 = (l.getD k default).1 := by rw [← lo_at hk', hl', lo_at hk]
    have hE : releaseE (l.map (·.1)) ro d (k + 1) = if (l.getD k default).1.st ≠ 3 then 41 else 0 := by
      unfold releaseE atL
      rw [if_neg (by omega), if_neg (by rw [List.length_map]; omega), hk1, lo_at hk]
    refine Nx.vec_fact fun hv1 hv2 hv3 hA' => ?_
    by_cases s3 : (l.getD k default).1.st = 3
    · rw [if_neg (by omega)] at hE
      have s3' : (l'.getD k default).1.st = 3 := by rw [hat]; exact s3
      rw [show releaseL (l.map (·.1)) ro d (k + 1) = putL (l.map (·.1)) (k + 1) (setSt (atL (l.map (·.1)) (k + 1)) 6) from if_pos hE, hE]
      repeat' first
        | ((with_reducible refine Nx.is_wp ?_); first | refine Nx.wo ?_ | refine Nx.p_dec rfl rfl (fun hc => ?_) (fun hc => ?_) | refine Nx.p_bool rfl rfl (fun hc => ?_) (fun hc => ?_))
        | ((first | refine Nx.at_op rfl rfl ?_ | refine Nx.m_loud rfl rfl rfl ?_ | refine Nx.at_do rfl rfl rfl rfl ?_ | refine Nx.m_loud_do rfl rfl rfl rfl rfl ?_); first | refine Nx.opr rfl rfl ?_ | refine Nx.callv rfl rfl rfl (by kernel_rfl) rfl hA ?_ | (refine Nx.indexAddr rfl rfl rfl rfl rfl (by omega) (by omega) (hA' (by omega)) ?_; rw [hk1]) | refine Nx.load rfl rfl rfl (Rd.vecFld 0 ouC_len rfl (by omega) 5 rfl) ?_ | refine Nx.store_fld 0 rfl rfl rfl rfl rfl rfl (by omega) ?_ | refine Nx.so ?_ | refine Nx.sb (fun bx => ?_) | refine Nx.sa (fun A2 c2 => ?_))
        | ((with_reducible refine Nx.is_at ?_); first | refine Nx.a ?_ | ((fail_if_success refine Nx.at_do rfl rfl rfl rfl ?_); first | refine Nx.at_dec_t rfl rfl rfl rfl (by first | assumption | omega) ?_ | refine Nx.at_dec_f rfl rfl rfl rfl (by first | assumption | omega) ?_ | refine Nx.at_split rfl rfl rfl rfl (fun hc => ?_) (fun hc => ?_) | refine Nx.at_splitb rfl rfl rfl rfl (fun hc => ?_) (fun hc => ?_)))
        | ((with_reducible refine Nx.is_mix ?_); first | refine Nx.m ?_ | ((fail_if_success refine Nx.m_quiet_do rfl rfl rfl rfl rfl rfl rfl ?_ ?_); (fail_if_success refine Nx.m_loud_do rfl rfl rfl rfl rfl ?_); first | refine Nx.m_dec_t rfl rfl rfl rfl (by first | assumption | omega) ?_ | refine Nx.m_dec_f rfl rfl rfl rfl (by first | assumption | omega) ?_ | refine Nx.m_split rfl rfl rfl rfl (fun hc => ?_) (fun hc => ?_) | refine Nx.m_splitb rfl rfl rfl rfl (fun hc => ?_) (fun hc => ?_)))
        | ((fail_if_success (with_reducible refine Nx.is_at ?_)); (fail_if_success (with_reducible refine Nx.is_wp ?_)); (fail_if_success (with_reducible refine Nx.is_mix ?_)); first | refine Nx.ex ?_)
      rw [flat_set ouC_len (x' := (setSt (l'.getD k default).1 6, (l'.getD k default).2)) hk' (by omega) rfl]
      exact Nx.ret_fn rfl [rowR A' c' (l'.set k (setSt (l'.getD k default).1 6, (l'.getD k default).2)), Stars ((l'.set k (setSt (l'.getD k default).1 6, (l'.getD k default).2)).map sigR)] ⟨A', c', _, by rw [List.length_set], put_log hl' hk' (fun o => setSt o 6) _, rfl⟩ (by rw [map_set_same (o := setSt (l'.getD k default).1 6) hk' rfl]; unfold rowR; rw [List.length_set]; (exact Ent.auto))
    · rw [if_pos s3] at hE
      have s3' : ¬ (l'.getD k default).1.st = 3 := by rw [hat]; exact s3
      rw [show releaseL (l.map (·.1)) ro d (k + 1) = l.map (·.1) from if_neg (by rw [hE]; decide), hE]
      repeat' first
        | ((with_reducible refine Nx.is_wp ?_); first | refine Nx.wo ?_ | refine Nx.p_dec rfl rfl (fun hc => ?_) (fun hc => ?_) | refine Nx.p_bool rfl rfl (fun hc => ?_) (fun hc => ?_))
        | ((first | refine Nx.at_op rfl rfl ?_ | refine Nx.m_loud rfl rfl rfl ?_ | refine Nx.at_do rfl rfl rfl rfl ?_ | refine Nx.m_loud_do rfl rfl rfl rfl rfl ?_); first | refine Nx.opr rfl rfl ?_ | refine Nx.callv rfl rfl rfl (by kernel_rfl) rfl hA ?_ | (refine Nx.indexAddr rfl rfl rfl rfl rfl (by omega) (by omega) (hA' (by omega)) ?_; rw [hk1]) | refine Nx.load rfl rfl rfl (Rd.vecFld 0 ouC_len rfl (by omega) 5 rfl) ?_ | refine Nx.so ?_ | refine Nx.sb (fun bx => ?_) | refine Nx.sa (fun A2 c2 => ?_))
        | ((with_reducible refine Nx.is_at ?_); first | refine Nx.a ?_ | ((fail_if_success refine Nx.at_do rfl rfl rfl rfl ?_); first | refine Nx.at_dec_t rfl rfl rfl rfl (by first | assumption | omega) ?_ | refine Nx.at_dec_f rfl rfl rfl rfl (by first | assumption | omega) ?_ | refine Nx.at_split rfl rfl rfl rfl (fun hc => ?_) (fun hc => ?_) | refine Nx.at_splitb rfl rfl rfl rfl (fun hc => ?_) (fun hc => ?_)))
        | ((with_reducible refine Nx.is_mix ?_); first | refine Nx.m ?_ | ((fail_if_success refine Nx.m_quiet_do rfl rfl rfl rfl rfl rfl rfl ?_ ?_); (fail_if_success refine Nx.m_loud_do rfl rfl rfl rfl rfl ?_); first | refine Nx.m_dec_t rfl rfl rfl rfl (by first | assumption | omega) ?_ | refine Nx.m_dec_f rfl rfl rfl rfl (by first | assumption | omega) ?_ | refine Nx.m_split rfl rfl rfl rfl (fun hc => ?_) (fun hc => ?_) | refine Nx.m_splitb rfl rfl rfl rfl (fun hc => ?_) (fun hc => ?_)))
        | ((fail_if_success (with_reducible refine Nx.is_at ?_)); (fail_if_success (with_reducible refine Nx.is_wp ?_)); (fail_if_success (with_reducible refine Nx.is_mix ?_)); first | refine Nx.ex ?_)
      exact Nx.ret_fn rfl [rowR A' c' l', Stars (l'.map sigR)] ⟨A', c', l', rfl, hl', rfl⟩ (by (exact Ent.auto))
  · rw [show releaseE (l.map (·.1)) ro d number = deskE (l.map (·.1)) ro d from if_pos c1, show releaseL (l.map (·.1)) ro d number = l.map (·.1) by unfold releaseL; rw [if_neg (by unfold releaseE; rw [if_pos c1]; exact c1)]]
    repeat' first
      | ((with_reducible refine Nx.is_wp ?_); first | refine Nx.wo ?_ | refine Nx.p_dec rfl rfl (fun hc => ?_) (fun hc => ?_) | refine Nx.p_bool rfl rfl (fun hc => ?_) (fun hc => ?_))
      | ((first | refine Nx.at_op rfl rfl ?_ | refine Nx.m_loud rfl rfl rfl ?_ | refine Nx.at_do rfl rfl rfl rfl ?_ | refine Nx.m_loud_do rfl rfl rfl rfl rfl ?_); first | refine Nx.opr rfl rfl ?_ | refine Nx.callv rfl rfl rfl (by kernel_rfl) rfl hA ?_ | refine Nx.so ?_ | refine Nx.sb (fun bx => ?_) | refine Nx.sa (fun A2 c2 => ?_))
      | ((with_reducible refine Nx.is_at ?_); first | refine Nx.a ?_ | ((fail_if_success refine Nx.at_do rfl rfl rfl rfl ?_); first | refine Nx.at_dec_t rfl rfl rfl rfl (by first | assumption | omega) ?_ | refine Nx.at_dec_f rfl rfl rfl rfl (by first | assumption | omega) ?_ | refine Nx.at_split rfl rfl rfl rfl (fun hc => ?_) (fun hc => ?_) | refine Nx.at_splitb rfl rfl rfl rfl (fun hc => ?_) (fun hc => ?_)))
      | ((with_reducible refine Nx.is_mix ?_); first | refine Nx.m ?_ | ((fail_if_success refine Nx.m_quiet_do rfl rfl rfl rfl rfl rfl rfl ?_ ?_); (fail_if_success refine Nx.m_loud_do rfl rfl rfl rfl rfl ?_); first | refine Nx.m_dec_t rfl rfl rfl rfl (by first | assumption | omega) ?_ | refine Nx.m_dec_f rfl rfl rfl rfl (by first | assumption | omega) ?_ | refine Nx.m_split rfl rfl rfl rfl (fun hc => ?_) (fun hc => ?_) | refine Nx.m_splitb rfl rfl rfl rfl (fun hc => ?_) (fun hc => ?_)))
      | ((fail_if_success (with_reducible refine Nx.is_at ?_)); (fail_if_success (with_reducible refine Nx.is_wp ?_)); (fail_if_success (with_reducible refine Nx.is_mix ?_)); first | refine Nx.ex ?_)
    exact Nx.ret_fn rfl [rowR A' c' l', Stars (l'.map sigR)] ⟨A', c', l', rfl, hl', rfl⟩ (by (exact Ent.auto))
set_option maxHeartbeats 4000000 in
set_option maxRecDepth 10000 in
theorem RRefuse_spec (Ao : Option Addr) (co : Nat) (l : List OutM) (Ar : Option Addr) (cr : Nat) (ro : List Shift) (d number : Int) (p : List UInt8) (t : Int) (I : PH) (hl : Outs I Ao co l) (hr : Shifts I Ar cr ro) (hro : ∀ y ∈ ro, shOk y) (hlo : ∀ x ∈ l, I64 x.1.n) (hn : I64 number) (h9 : l.length ≤ 1000) (hs9 : ∀ x ∈ l, x.1.sg.length ≤ 1000) :
    FnSpec Try.prog 38 [.slice Ao l.length co, .slice Ar ro.length cr, .int .i64 d, .int .i64 number, strV p, .int .i64 t] I [] (listE (refuseL (l.map (·.1)) ro d number p t) (touchE (l.map (·.1)) ro d number p t)) := by
  have hA := touch_spec Ao co l Ar cr ro d number p t I hl hr hro hlo hn
  refine FnSpec.enterP Try.func38 rfl Try.ntmps38 rfl fun w F => ?_
  repeat' first
    | ((with_reducible refine Nx.is_wp ?_); first | refine Nx.wo ?_ | refine Nx.p_dec rfl rfl (fun hc => ?_) (fun hc => ?_) | refine Nx.p_bool rfl rfl (fun hc => ?_) (fun hc => ?_))
    | ((first | refine Nx.at_op rfl rfl ?_ | refine Nx.m_loud rfl rfl rfl ?_ | refine Nx.at_do rfl rfl rfl rfl ?_ | refine Nx.m_loud_do rfl rfl rfl rfl rfl ?_); first | refine Nx.opr rfl rfl ?_ | refine Nx.so ?_ | refine Nx.sb (fun bx => ?_) | refine Nx.sa (fun A2 c2 => ?_))
    | ((with_reducible refine Nx.is_at ?_); first | refine Nx.a ?_ | ((fail_if_success refine Nx.at_do rfl rfl rfl rfl ?_); first | refine Nx.at_dec_t rfl rfl rfl rfl (by first | assumption | omega) ?_ | refine Nx.at_dec_f rfl rfl rfl rfl (by first | assumption | omega) ?_ | refine Nx.at_split rfl rfl rfl rfl (fun hc => ?_) (fun hc => ?_) | refine Nx.at_splitb rfl rfl rfl rfl (fun hc => ?_) (fun hc => ?_)))
    | ((with_reducible refine Nx.is_mix ?_); first | refine Nx.m ?_ | ((fail_if_success refine Nx.m_quiet_do rfl rfl rfl rfl rfl rfl rfl ?_ ?_); (fail_if_success refine Nx.m_loud_do rfl rfl rfl rfl rfl ?_); first | refine Nx.m_dec_t rfl rfl rfl rfl (by first | assumption | omega) ?_ | refine Nx.m_dec_f rfl rfl rfl rfl (by first | assumption | omega) ?_ | refine Nx.m_split rfl rfl rfl rfl (fun hc => ?_) (fun hc => ?_) | refine Nx.m_splitb rfl rfl rfl rfl (fun hc => ?_) (fun hc => ?_)))
    | ((fail_if_success (with_reducible refine Nx.is_at ?_)); (fail_if_success (with_reducible refine Nx.is_wp ?_)); (fail_if_success (with_reducible refine Nx.is_mix ?_)); first | refine Nx.ex ?_)
  refine Nx.at_op rfl rfl ?_
  refine Nx.call rfl rfl rfl (by kernel_rfl) rfl (RCopy_spec Ao co l I hl h9 hs9) (by (exact Ent.auto)) ?_
  rintro _ _ ⟨A', c', l', rfl, hl', rfl⟩
  have hll : l'.length = l.length := by have := congrArg List.length hl'; simpa using this
  by_cases e0 : touchE (l.map (·.1)) ro d number p t = 0
  · obtain ⟨_, k, hk, rfl, _⟩ := touch_ok e0
    rw [List.length_map] at hk
    have hk1 : ((k : Int) + 1 - 1).toNat = k := by omega
    have hk' : k < l'.length := by omega
    rw [show refuseL (l.map (·.1)) ro d (k + 1) p t = putL (l.map (·.1)) (k + 1) (setSt (atL (l.map (·.1)) (k + 1)) 4) from if_pos e0, e0]
    rw [e0] at hA
    refine Nx.vec_fact fun hv1 hv2 hv3 hA' => ?_
    repeat' first
      | ((with_reducible refine Nx.is_wp ?_); first | refine Nx.wo ?_ | refine Nx.p_dec rfl rfl (fun hc => ?_) (fun hc => ?_) | refine Nx.p_bool rfl rfl (fun hc => ?_) (fun hc => ?_))
      | ((first | refine Nx.at_op rfl rfl ?_ | refine Nx.m_loud rfl rfl rfl ?_ | refine Nx.at_do rfl rfl rfl rfl ?_ | refine Nx.m_loud_do rfl rfl rfl rfl rfl ?_); first | refine Nx.opr rfl rfl ?_ | refine Nx.buildA rfl rfl rfl rfl ?_ | refine Nx.callv rfl rfl rfl (by kernel_rfl) rfl hA ?_ | (refine Nx.indexAddr rfl rfl rfl rfl rfl (by omega) (by omega) (hA' (by omega)) ?_; rw [hk1]) | refine Nx.store_fld 0 rfl rfl rfl rfl rfl rfl (by omega) ?_ | refine Nx.so ?_ | refine Nx.sb (fun bx => ?_) | refine Nx.sa (fun A2 c2 => ?_))
      | ((with_reducible refine Nx.is_at ?_); first | refine Nx.a ?_ | ((fail_if_success refine Nx.at_do rfl rfl rfl rfl ?_); first | refine Nx.at_dec_t rfl rfl rfl rfl (by first | assumption | omega) ?_ | refine Nx.at_dec_f rfl rfl rfl rfl (by first | assumption | omega) ?_ | refine Nx.at_split rfl rfl rfl rfl (fun hc => ?_) (fun hc => ?_) | refine Nx.at_splitb rfl rfl rfl rfl (fun hc => ?_) (fun hc => ?_)))
      | ((with_reducible refine Nx.is_mix ?_); first | refine Nx.m ?_ | ((fail_if_success refine Nx.m_quiet_do rfl rfl rfl rfl rfl rfl rfl ?_ ?_); (fail_if_success refine Nx.m_loud_do rfl rfl rfl rfl rfl ?_); first | refine Nx.m_dec_t rfl rfl rfl rfl (by first | assumption | omega) ?_ | refine Nx.m_dec_f rfl rfl rfl rfl (by first | assumption | omega) ?_ | refine Nx.m_split rfl rfl rfl rfl (fun hc => ?_) (fun hc => ?_) | refine Nx.m_splitb rfl rfl rfl rfl (fun hc => ?_) (fun hc => ?_)))
      | ((fail_if_success (with_reducible refine Nx.is_at ?_)); (fail_if_success (with_reducible refine Nx.is_wp ?_)); (fail_if_success (with_reducible refine Nx.is_mix ?_)); first | refine Nx.ex ?_)
    rw [flat_set ouC_len (x' := (setSt (l'.getD k default).1 4, (l'.getD k default).2)) hk' (by omega) rfl]
    exact Nx.ret_fn rfl [rowR A' c' (l'.set k (setSt (l'.getD k default).1 4, (l'.getD k default).2)), Stars ((l'.set k (setSt (l'.getD k default).1 4, (l'.getD k default).2)).map sigR)] ⟨A', c', _, by rw [List.length_set], put_log hl' hk' (fun o => setSt o 4) _, rfl⟩ (by rw [map_set_same (o := setSt (l'.getD k default).1 4) hk' rfl]; unfold rowR; rw [List.length_set]; (exact Ent.auto))
  · rw [show refuseL (l.map (·.1)) ro d number p t = l.map (·.1) from if_neg e0]
    repeat' first
      | ((with_reducible refine Nx.is_wp ?_); first | refine Nx.wo ?_ | refine Nx.p_dec rfl rfl (fun hc => ?_) (fun hc => ?_) | refine Nx.p_bool rfl rfl (fun hc => ?_) (fun hc => ?_))
      | ((first | refine Nx.at_op rfl rfl ?_ | refine Nx.m_loud rfl rfl rfl ?_ | refine Nx.at_do rfl rfl rfl rfl ?_ | refine Nx.m_loud_do rfl rfl rfl rfl rfl ?_); first | refine Nx.opr rfl rfl ?_ | refine Nx.buildA rfl rfl rfl rfl ?_ | refine Nx.callv rfl rfl rfl (by kernel_rfl) rfl hA ?_ | refine Nx.so ?_ | refine Nx.sb (fun bx => ?_) | refine Nx.sa (fun A2 c2 => ?_))
      | ((with_reducible refine Nx.is_at ?_); first | refine Nx.a ?_ | ((fail_if_success refine Nx.at_do rfl rfl rfl rfl ?_); first | refine Nx.at_dec_t rfl rfl rfl rfl (by first | assumption | omega) ?_ | refine Nx.at_dec_f rfl rfl rfl rfl (by first | assumption | omega) ?_ | refine Nx.at_split rfl rfl rfl rfl (fun hc => ?_) (fun hc => ?_) | refine Nx.at_splitb rfl rfl rfl rfl (fun hc => ?_) (fun hc => ?_)))
      | ((with_reducible refine Nx.is_mix ?_); first | refine Nx.m ?_ | ((fail_if_success refine Nx.m_quiet_do rfl rfl rfl rfl rfl rfl rfl ?_ ?_); (fail_if_success refine Nx.m_loud_do rfl rfl rfl rfl rfl ?_); first | refine Nx.m_dec_t rfl rfl rfl rfl (by first | assumption | omega) ?_ | refine Nx.m_dec_f rfl rfl rfl rfl (by first | assumption | omega) ?_ | refine Nx.m_split rfl rfl rfl rfl (fun hc => ?_) (fun hc => ?_) | refine Nx.m_splitb rfl rfl rfl rfl (fun hc => ?_) (fun hc => ?_)))
      | ((fail_if_success (with_reducible refine Nx.is_at ?_)); (fail_if_success (with_reducible refine Nx.is_wp ?_)); (fail_if_success (with_reducible refine Nx.is_mix ?_)); first | refine Nx.ex ?_)
    exact Nx.ret_fn rfl [rowR A' c' l', Stars (l'.map sigR)] ⟨A', c', l', rfl, hl', rfl⟩ (by (exact Ent.auto))
set_option maxHeartbeats 4000000 in
set_option maxRecDepth 10000 in
theorem RRelease_spec (Ao : Option Addr) (co : Nat) (l : List OutM) (Ar : Option Addr) (cr : Nat) (ro : List Shift) (d number : Int) (I : PH) (hl : Outs I Ao co l) (hr : Shifts I Ar cr ro) (hro : ∀ y ∈ ro, shOk y) (hlo : ∀ x ∈ l, I64 x.1.n) (hn : I64 number) (h9 : l.length ≤ 1000) (hs9 : ∀ x ∈ l, x.1.sg.length ≤ 1000) :
    FnSpec Try.prog 40 [.slice Ao l.length co, .slice Ar ro.length cr, .int .i64 d, .int .i64 number] I [] (listE (releaseL (l.map (·.1)) ro d number) (releaseE (l.map (·.1)) ro d number)) := by
  have hA := RDCheck_spec Ao co l Ar cr ro d I hl hr hro hlo
  have hlen := hl.sl.len
  refine FnSpec.enterP Try.func40 rfl Try.ntmps40 rfl fun w F => ?_
  repeat' first
    | ((with_reducible refine Nx.is_wp ?_); first | refine Nx.wo ?_ | refine Nx.p_dec rfl rfl (fun hc => ?_) (fun hc => ?_) | refine Nx.p_bool rfl rfl (fun hc => ?_) (fun hc => ?_))
    | ((first | refine Nx.at_op rfl rfl ?_ | refine Nx.m_loud rfl rfl rfl ?_ | refine Nx.at_do rfl rfl rfl rfl ?_ | refine Nx.m_loud_do rfl rfl rfl rfl rfl ?_); first | refine Nx.opr rfl rfl ?_ | refine Nx.so ?_ | refine Nx.sb (fun bx => ?_) | refine Nx.sa (fun A2 c2 => ?_))
    | ((with_reducible refine Nx.is_at ?_); first | refine Nx.a ?_ | ((fail_if_success refine Nx.at_do rfl rfl rfl rfl ?_); first | refine Nx.at_dec_t rfl rfl rfl rfl (by first | assumption | omega) ?_ | refine Nx.at_dec_f rfl rfl rfl rfl (by first | assumption | omega) ?_ | refine Nx.at_split rfl rfl rfl rfl (fun hc => ?_) (fun hc => ?_) | refine Nx.at_splitb rfl rfl rfl rfl (fun hc => ?_) (fun hc => ?_)))
    | ((with_reducible refine Nx.is_mix ?_); first | refine Nx.m ?_ | ((fail_if_success refine Nx.m_quiet_do rfl rfl rfl rfl rfl rfl rfl ?_ ?_); (fail_if_success refine Nx.m_loud_do rfl rfl rfl rfl rfl ?_); first | refine Nx.m_dec_t rfl rfl rfl rfl (by first | assumption | omega) ?_ | refine Nx.m_dec_f rfl rfl rfl rfl (by first | assumption | omega) ?_ | refine Nx.m_split rfl rfl rfl rfl (fun hc => ?_) (fun hc => ?_) | refine Nx.m_splitb rfl rfl rfl rfl (fun hc => ?_) (fun hc => ?_)))
    | ((fail_if_success (with_reducible refine Nx.is_at ?_)); (fail_if_success (with_reducible refine Nx.is_wp ?_)); (fail_if_success (with_reducible refine Nx.is_mix ?_)); first | refine Nx.ex ?_)
  refine Nx.at_op rfl rfl ?_
  refine Nx.call rfl rfl rfl (by kernel_rfl) rfl (RCopy_spec Ao co l I hl h9 hs9) (by (exact Ent.auto)) ?_
  rintro _ _ ⟨A', c', l', rfl, hl', rfl⟩
  have hll : l'.length = l.length := by have := congrArg List.length hl'; simpa using this
  by_cases c1 : deskE (l.map (·.1)) ro d = 0
  · rw [c1] at hA
    by_cases c2 : number < 1
    · have hE : releaseE (l.map (·.1)) ro d number = 48 := by unfold releaseE; rw [if_neg (by omega), if_pos (.inl c2)]
      rw [show releaseL (l.map (·.1)) ro d number = l.map (·.1) from if_neg (by rw [hE]; decide), hE]
      repeat' first
        | ((with_reducible refine Nx.is_wp ?_); first | refine Nx.wo ?_ | refine Nx.p_dec rfl rfl (fun hc => ?_) (fun hc => ?_) | refine Nx.p_bool rfl rfl (fun hc => ?_) (fun hc => ?_))
        | ((first | refine Nx.at_op rfl rfl ?_ | refine Nx.m_loud rfl rfl rfl ?_ | refine Nx.at_do rfl rfl rfl rfl ?_ | refine Nx.m_loud_do rfl rfl rfl rfl rfl ?_); first | refine Nx.opr rfl rfl ?_ | refine Nx.callv rfl rfl rfl (by kernel_rfl) rfl hA ?_ | refine Nx.so ?_ | refine Nx.sb (fun bx => ?_) | refine Nx.sa (fun A2 c2 => ?_))
        | ((with_reducible refine Nx.is_at ?_); first | refine Nx.a ?_ | ((fail_if_success refine Nx.at_do rfl rfl rfl rfl ?_); first | refine Nx.at_dec_t rfl rfl rfl rfl (by first | assumption | omega) ?_ | refine Nx.at_dec_f rfl rfl rfl rfl (by first | assumption | omega) ?_ | refine Nx.at_split rfl rfl rfl rfl (fun hc => ?_) (fun hc => ?_) | refine Nx.at_splitb rfl rfl rfl rfl (fun hc => ?_) (fun hc => ?_)))
        | ((with_reducible refine Nx.is_mix ?_); first | refine Nx.m ?_ | ((fail_if_success refine Nx.m_quiet_do rfl rfl rfl rfl rfl rfl rfl ?_ ?_); (fail_if_success refine Nx.m_loud_do rfl rfl rfl rfl rfl ?_); first | refine Nx.m_dec_t rfl rfl rfl rfl (by first | assumption | omega) ?_ | refine Nx.m_dec_f rfl rfl rfl rfl (by first | assumption | omega) ?_ | refine Nx.m_split rfl rfl rfl rfl (fun hc => ?_) (fun hc => ?_) | refine Nx.m_splitb rfl rfl rfl rfl (fun hc => ?_) (fun hc => ?_)))
        | ((fail_if_success (with_reducible refine Nx.is_at ?_)); (fail_if_success (with_reducible refine Nx.is_wp ?_)); (fail_if_success (with_reducible refine Nx.is_mix ?_)); first | refine Nx.ex ?_)
      exact Nx.ret_fn rfl [rowR A' c' l', Stars (l'.map sigR)] ⟨A', c', l', rfl, hl', rfl⟩ (by (exact Ent.auto))
    by_cases c3 : (l.length : Int) < number
    · have c3' : ((l.map (·.1)).length : Int) < number := by rw [List.length_map]; exact c3
      have hE : releaseE (l.map (·.1)) ro d number = 48 := by unfold releaseE; rw [if_neg (by omega), if_pos (.inr c3')]
      rw [show releaseL (l.map (·.1)) ro d number = l.map (·.1) from if_neg (by rw [hE]; decide), hE]
      repeat' first
        | ((with_reducible refine Nx.is_wp ?_); first | refine Nx.wo ?_ | refine Nx.p_dec rfl rfl (fun hc => ?_) (fun hc => ?_) | refine Nx.p_bool rfl rfl (fun hc => ?_) (fun hc => ?_))
        | ((first | refine Nx.at_op rfl rfl ?_ | refine Nx.m_loud rfl rfl rfl ?_ | refine Nx.at_do rfl rfl rfl rfl ?_ | refine Nx.m_loud_do rfl rfl rfl rfl rfl ?_); first | refine Nx.opr rfl rfl ?_ | refine Nx.callv rfl rfl rfl (by kernel_rfl) rfl hA ?_ | refine Nx.so ?_ | refine Nx.sb (fun bx => ?_) | refine Nx.sa (fun A2 c2 => ?_))
        | ((with_reducible refine Nx.is_at ?_); first | refine Nx.a ?_ | ((fail_if_success refine Nx.at_do rfl rfl rfl rfl ?_); first | refine Nx.at_dec_t rfl rfl rfl rfl (by first | assumption | omega) ?_ | refine Nx.at_dec_f rfl rfl rfl rfl (by first | assumption | omega) ?_ | refine Nx.at_split rfl rfl rfl rfl (fun hc => ?_) (fun hc => ?_) | refine Nx.at_splitb rfl rfl rfl rfl (fun hc => ?_) (fun hc => ?_)))
        | ((with_reducible refine Nx.is_mix ?_); first | refine Nx.m ?_ | ((fail_if_success refine Nx.m_quiet_do rfl rfl rfl rfl rfl rfl rfl ?_ ?_); (fail_if_success refine Nx.m_loud_do rfl rfl rfl rfl rfl ?_); first | refine Nx.m_dec_t rfl rfl rfl rfl (by first | assumption | omega) ?_ | refine Nx.m_dec_f rfl rfl rfl rfl (by first | assumption | omega) ?_ | refine Nx.m_split rfl rfl rfl rfl (fun hc => ?_) (fun hc => ?_) | refine Nx.m_splitb rfl rfl rfl rfl (fun hc => ?_) (fun hc => ?_)))
        | ((fail_if_success (with_reducible refine Nx.is_at ?_)); (fail_if_success (with_reducible refine Nx.is_wp ?_)); (fail_if_success (with_reducible refine Nx.is_mix ?_)); first | refine Nx.ex ?_)
      exact Nx.ret_fn rfl [rowR A' c' l', Stars (l'.map sigR)] ⟨A', c', l', rfl, hl', rfl⟩ (by (exact Ent.auto))
    obtain ⟨k, rfl⟩ : ∃ k : Nat, number = k + 1 := ⟨(number - 1).toNat, by omega⟩
    have hk : k < l.length := by omega
    have hk1 : ((k : Int) + 1 - 1).toNat = k := by omega
    have hk' : k < l'.length := by omega
    have hat : (l'.getD k default).1 = (l.getD k default).1 := by rw [← lo_at hk', hl', lo_at hk]
    have hE : releaseE (l.map (·.1)) ro d (k + 1) = if (l.getD k default).1.st ≠ 3 then 41 else 0 := by
      unfold releaseE atL
      rw [if_neg (by omega), if_neg (by rw [List.length_map]; omega), hk1, lo_at hk]
    refine Nx.vec_fact fun hv1 hv2 hv3 hA' => ?_
    by_cases s3 : (l.getD k default).1.st = 3
    · rw [if_neg (by omega)] at hE
      have s3' : (l'.getD k default).1.st = 3 := by rw [hat]; exact s3
      rw [show releaseL (l.map (·.1)) ro d (k + 1) = putL (l.map (·.1)) (k + 1) (setSt (atL (l.map (·.1)) (k + 1)) 6) from if_pos hE, hE]
      repeat' first
        | ((with_reducible refine Nx.is_wp ?_); first | refine Nx.wo ?_ | refine Nx.p_dec rfl rfl (fun hc => ?_) (fun hc => ?_) | refine Nx.p_bool rfl rfl (fun hc => ?_) (fun hc => ?_))
        | ((first | refine Nx.at_op rfl rfl ?_ | refine Nx.m_loud rfl rfl rfl ?_ | refine Nx.at_do rfl rfl rfl rfl ?_ | refine Nx.m_loud_do rfl rfl rfl rfl rfl ?_); first | refine Nx.opr rfl rfl ?_ | refine Nx.callv rfl rfl rfl (by kernel_rfl) rfl hA ?_ | (refine Nx.indexAddr rfl rfl rfl rfl rfl (by omega) (by omega) (hA' (by omega)) ?_; rw [hk1]) | (refine Nx.indexAddr rfl rfl rfl rfl rfl (by omega) (by omega) (hl.sl.isSome (by omega) (by omega)) ?_; rw [hk1]) | refine Nx.load rfl rfl rfl (SliceN.fld hl.sl (by omega) 5 rfl) ?_ | refine Nx.store_fld 0 rfl rfl rfl rfl rfl rfl (by omega) ?_ | refine Nx.so ?_ | refine Nx.sb (fun bx => ?_) | refine Nx.sa (fun A2 c2 => ?_))
        | ((with_reducible refine Nx.is_at ?_); first | refine Nx.a ?_ | ((fail_if_success refine Nx.at_do rfl rfl rfl rfl ?_); first | refine Nx.at_dec_t rfl rfl rfl rfl (by first | assumption | omega) ?_ | refine Nx.at_dec_f rfl rfl rfl rfl (by first | assumption | omega) ?_ | refine Nx.at_split rfl rfl rfl rfl (fun hc => ?_) (fun hc => ?_) | refine Nx.at_splitb rfl rfl rfl rfl (fun hc => ?_) (fun hc => ?_)))
        | ((with_reducible refine Nx.is_mix ?_); first | refine Nx.m ?_ | ((fail_if_success refine Nx.m_quiet_do rfl rfl rfl rfl rfl rfl rfl ?_ ?_); (fail_if_success refine Nx.m_loud_do rfl rfl rfl rfl rfl ?_); first | refine Nx.m_dec_t rfl rfl rfl rfl (by first | assumption | omega) ?_ | refine Nx.m_dec_f rfl rfl rfl rfl (by first | assumption | omega) ?_ | refine Nx.m_split rfl rfl rfl rfl (fun hc => ?_) (fun hc => ?_) | refine Nx.m_splitb rfl rfl rfl rfl (fun hc => ?_) (fun hc => ?_)))
        | ((fail_if_success (with_reducible refine Nx.is_at ?_)); (fail_if_success (with_reducible refine Nx.is_wp ?_)); (fail_if_success (with_reducible refine Nx.is_mix ?_)); first | refine Nx.ex ?_)
      rw [flat_set ouC_len (x' := (setSt (l'.getD k default).1 6, (l'.getD k default).2)) hk' (by omega) rfl]
      exact Nx.ret_fn rfl [rowR A' c' (l'.set k (setSt (l'.getD k default).1 6, (l'.getD k default).2)), Stars ((l'.set k (setSt (l'.getD k default).1 6, (l'.getD k default).2)).map sigR)] ⟨A', c', _, by rw [List.length_set], put_log hl' hk' (fun o => setSt o 6) _, rfl⟩ (by rw [map_set_same (o := setSt (l'.getD k default).1 6) hk' rfl]; unfold rowR; rw [List.length_set]; (exact Ent.auto))
    · rw [if_pos s3] at hE
      have s3' : ¬ (l'.getD k default).1.st = 3 := by rw [hat]; exact s3
      rw [show releaseL (l.map (·.1)) ro d (k + 1) = l.map (·.1) from if_neg (by rw [hE]; decide), hE]
      repeat' first
        | ((with_reducible refine Nx.is_wp ?_); first | refine Nx.wo ?_ | refine Nx.p_dec rfl rfl (fun hc => ?_) (fun hc => ?_) | refine Nx.p_bool rfl rfl (fun hc => ?_) (fun hc => ?_))
        | ((first | refine Nx.at_op rfl rfl ?_ | refine Nx.m_loud rfl rfl rfl ?_ | refine Nx.at_do rfl rfl rfl rfl ?_ | refine Nx.m_loud_do rfl rfl rfl rfl rfl ?_); first | refine Nx.opr rfl rfl ?_ | refine Nx.callv rfl rfl rfl (by kernel_rfl) rfl hA ?_ | (refine Nx.indexAddr rfl rfl rfl rfl rfl (by omega) (by omega) (hA' (by omega)) ?_; rw [hk1]) | (refine Nx.indexAddr rfl rfl rfl rfl rfl (by omega) (by omega) (hl.sl.isSome (by omega) (by omega)) ?_; rw [hk1]) | refine Nx.load rfl rfl rfl (SliceN.fld hl.sl (by omega) 5 rfl) ?_ | refine Nx.so ?_ | refine Nx.sb (fun bx => ?_) | refine Nx.sa (fun A2 c2 => ?_))
        | ((with_reducible refine Nx.is_at ?_); first | refine Nx.a ?_ | ((fail_if_success refine Nx.at_do rfl rfl rfl rfl ?_); first | refine Nx.at_dec_t rfl rfl rfl rfl (by first | assumption | omega) ?_ | refine Nx.at_dec_f rfl rfl rfl rfl (by first | assumption | omega) ?_ | refine Nx.at_split rfl rfl rfl rfl (fun hc => ?_) (fun hc => ?_) | refine Nx.at_splitb rfl rfl rfl rfl (fun hc => ?_) (fun hc => ?_)))
        | ((with_reducible refine Nx.is_mix ?_); first | refine Nx.m ?_ | ((fail_if_success refine Nx.m_quiet_do rfl rfl rfl rfl rfl rfl rfl ?_ ?_); (fail_if_success refine Nx.m_loud_do rfl rfl rfl rfl rfl ?_); first | refine Nx.m_dec_t rfl rfl rfl rfl (by first | assumption | omega) ?_ | refine Nx.m_dec_f rfl rfl rfl rfl (by first | assumption | omega) ?_ | refine Nx.m_split rfl rfl rfl rfl (fun hc => ?_) (fun hc => ?_) | refine Nx.m_splitb rfl rfl rfl rfl (fun hc => ?_) (fun hc => ?_)))
        | ((fail_if_success (with_reducible refine Nx.is_at ?_)); (fail_if_success (with_reducible refine Nx.is_wp ?_)); (fail_if_success (with_reducible refine Nx.is_mix ?_)); first | refine Nx.ex ?_)
      exact Nx.ret_fn rfl [rowR A' c' l', Stars (l'.map sigR)] ⟨A', c', l', rfl, hl', rfl⟩ (by (exact Ent.auto))
  · rw [show releaseE (l.map (·.1)) ro d number = deskE (l.map (·.1)) ro d from if_pos c1, show releaseL (l.map (·.1)) ro d number = l.map (·.1) by unfold releaseL; rw [if_neg (by unfold releaseE; rw [if_pos c1]; exact c1)]]
    repeat' first
      | ((with_reducible refine Nx.is_wp ?_); first | refine Nx.wo ?_ | refine Nx.p_dec rfl rfl (fun hc => ?_) (fun hc => ?_) | refine Nx.p_bool rfl rfl (fun hc => ?_) (fun hc => ?_))
      | ((first | refine Nx.at_op rfl rfl ?_ | refine Nx.m_loud rfl rfl rfl ?_ | refine Nx.at_do rfl rfl rfl rfl ?_ | refine Nx.m_loud_do rfl rfl rfl rfl rfl ?_); first | refine Nx.opr rfl rfl ?_ | refine Nx.callv rfl rfl rfl (by kernel_rfl) rfl hA ?_ | refine Nx.so ?_ | refine Nx.sb (fun bx => ?_) | refine Nx.sa (fun A2 c2 => ?_))
      | ((with_reducible refine Nx.is_at ?_); first | refine Nx.a ?_ | ((fail_if_success refine Nx.at_do rfl rfl rfl rfl ?_); first | refine Nx.at_dec_t rfl rfl rfl rfl (by first | assumption | omega) ?_ | refine Nx.at_dec_f rfl rfl rfl rfl (by first | assumption | omega) ?_ | refine Nx.at_split rfl rfl rfl rfl (fun hc => ?_) (fun hc => ?_) | refine Nx.at_splitb rfl rfl rfl rfl (fun hc => ?_) (fun hc => ?_)))
      | ((with_reducible refine Nx.is_mix ?_); first | refine Nx.m ?_ | ((fail_if_success refine Nx.m_quiet_do rfl rfl rfl rfl rfl rfl rfl ?_ ?_); (fail_if_success refine Nx.m_loud_do rfl rfl rfl rfl rfl ?_); first | refine Nx.m_dec_t rfl rfl rfl rfl (by first | assumption | omega) ?_ | refine Nx.m_dec_f rfl rfl rfl rfl (by first | assumption | omega) ?_ | refine Nx.m_split rfl rfl rfl rfl (fun hc => ?_) (fun hc => ?_) | refine Nx.m_splitb rfl rfl rfl rfl (fun hc => ?_) (fun hc => ?_)))
      | ((fail_if_success (with_reducible refine Nx.is_at ?_)); (fail_if_success (with_reducible refine Nx.is_wp ?_)); (fail_if_success (with_reducible refine Nx.is_mix ?_)); first | refine Nx.ex ?_)
    exact Nx.ret_fn rfl [rowR A' c' l', Stars (l'.map sigR)] ⟨A', c', l', rfl, hl', rfl⟩ (by (exact Ent.auto))
end Go.Proofs.Ytaoeapmdhpkidaa
/- Contracts of functions of the given program, and lemmas about plain lists and numbers: what the laws of this seat lean on. -/
namespace Go.Proofs.Ytaoeapmdhpkidaa
open Go.Eng
/-! A desk stays right: plain facts -/
theorem rightB_iff {ro : List Shift} {d : Int} {o : Out} : rightB ro d o = true ↔ (∀ j, j < o.sg.length → sgAt ro d o j = true) ∧ stateB o.sg.length o.st = true := by
  unfold rightB
  rw [Bool.and_eq_true, List.all_eq_true]
  exact ⟨fun h => ⟨fun j hj => h.1 j (List.mem_range.2 hj), h.2⟩, fun h => ⟨fun j hj => h.1 j (List.mem_range.1 hj), h.2⟩⟩
theorem put_ok {l : List Out} {ro : List Shift} {d : Int} {k : Nat} {o : Out} (h : deskE l ro d = 0) (hv : validB o = true) (hn : o.n = (k : Int) + 1) (hr : rightB ro d o = true) : deskE (l.set k o) ro d = 0 := by
  obtain ⟨h1, h2, h3, h4⟩ := desk_ok.1 h
  refine desk_ok.2 ⟨h1, h2, by rw [List.length_set]; exact h3, fun j hj => ?_⟩
  rw [List.length_set] at hj
  by_cases hjk : k = j
  · subst hjk
    rw [List.getD_eq_getElem?_getD, List.getElem?_set_self hj]
    exact ⟨hv, hn, hr⟩
  · rw [List.getD_eq_getElem?_getD, List.getElem?_set_ne hjk, ← List.getD_eq_getElem?_getD]
    exact h4 j hj
theorem valid_st {o : Out} {st : Int} (h : validB o = true) (hs : 1 ≤ st ∧ st ≤ 6) : validB (setSt o st) = true := by
  obtain ⟨h1, h2, h3, h4, h5, h6, h7, h8⟩ := valid_bd h
  have h9 : validB (setSt o st) = o.sg.all sgB := valid_all (o := setSt o st) (by show ¬ o.n < 1; omega) (by show ¬ 40 < o.n; omega) (by show (!(nameB o.proj)) = false; rw [h2]; rfl) (by show (!(nameB o.who)) = false; rw [h3]; rfl) (by show (!(timeB o.t)) = false; rw [valid_time h]; rfl) (by show ¬ 1024 < o.text.length; omega) (by show ¬ st < 1; omega) (by show ¬ 6 < st; omega) (by show ¬ 2 < o.sg.length; omega)
  rw [h9, List.all_eq_true]
  intro s hs
  obtain ⟨g1, g2, g3⟩ := h8 s hs
  unfold sgB
  rw [g1, Bool.true_and]
  exact decide_eq_true ⟨g2, g3⟩
theorem state_few {n : Nat} {st : Int} (h : stateB n st = true) (ho : st = 1 ∨ st = 2) : (st = 1 ∧ n = 0) ∨ (st = 2 ∧ n = 1) := by
  unfold stateB at h
  split at h
  · have := of_decide_eq_true h; omega
  · split at h
    · have := of_decide_eq_true h; omega
    · have := of_decide_eq_true h; omega
theorem state_over {n : Nat} (h : n = 0 ∨ n = 1) : stateB n 4 = true ∧ stateB n 5 = true := by rcases h with rfl | rfl <;> exact ⟨by decide, by decide⟩
theorem right_over {ro : List Shift} {d : Int} {o : Out} {st : Int} (h : rightB ro d o = true) (ho : openB o = true) (hs : st = 4 ∨ st = 5) : rightB ro d (setSt o st) = true := by
  obtain ⟨h1, h2⟩ := rightB_iff.1 h
  refine rightB_iff.2 ⟨fun j hj => h1 j hj, ?_⟩
  have h3 := state_few h2 (of_decide_eq_true ho)
  have h4 := state_over (n := o.sg.length) (by omega)
  show stateB o.sg.length st = true
  rcases hs with rfl | rfl
  · exact h4.1
  · exact h4.2
theorem act_ok {ro : List Shift} {d t : Int} {o : Out} {p : List UInt8} (h : actE ro d o p t = 0) : openB o = true ∧ lastT o o.sg.length ≤ t ∧ t < o.t + d ∧ dutyB ro p t = true ∧ (p == o.who) = false := by
  unfold actE at h
  split at h
  · omega
  · split at h
    · omega
    · split at h
      · omega
      · split at h
        · omega
        · rename_i h1 h2 h3 h4
          exact ⟨by simpa using h1, by omega, by omega, by simpa using h3, by simpa using h4⟩
theorem refuse_ok {l : List Out} {ro : List Shift} {d number t : Int} {p : List UInt8} (h : deskE l ro d = 0) : deskE (refuseL l ro d number p t) ro d = 0 := by
  unfold refuseL
  split
  · rename_i h0
    obtain ⟨_, k, hk, rfl, ha⟩ := touch_ok h0
    have hk1 : ((k : Int) + 1 - 1).toNat = k := by omega
    obtain ⟨v, n, r⟩ := (desk_ok.1 h).2.2.2 k hk
    unfold putL atL
    rw [hk1]
    exact put_ok h (valid_st v (by omega)) n (right_over r (act_ok ha).1 (.inl rfl))
  · exact h
theorem release_keeps {l : List Out} {ro : List Shift} {d number : Int} (h : deskE l ro d = 0) : deskE (releaseL l ro d number) ro d = 0 := by
  unfold releaseL
  split
  · rename_i h0
    obtain ⟨_, k, hk, rfl, ha⟩ := release_ok h0
    have hk1 : ((k : Int) + 1 - 1).toNat = k := by omega
    obtain ⟨v, n, r⟩ := (desk_ok.1 h).2.2.2 k hk
    unfold putL atL
    rw [hk1]
    refine put_ok h (valid_st v (by omega)) n ?_
    obtain ⟨h1, h2⟩ := rightB_iff.1 r
    refine rightB_iff.2 ⟨fun j hj => h1 j hj, ?_⟩
    rw [ha] at h2
    show stateB (l.getD k default).sg.length 6 = true
    unfold stateB at h2 ⊢
    split at h2
    · simp at h2
    · split at h2
      · simp at h2
      · rename_i a b
        rw [if_neg a, if_neg b]; decide
  · exact h
theorem expire_ok {l : List Out} {ro : List Shift} {d t : Int} (h : deskE l ro d = 0) : deskE (expireL l ro d t) ro d = 0 := by
  unfold expireL
  split
  · obtain ⟨h1, h2, h3, h4⟩ := desk_ok.1 h
    refine desk_ok.2 ⟨h1, h2, by rw [List.length_map]; exact h3, fun k hk => ?_⟩
    rw [List.length_map] at hk
    have e : (l.map (expireO d t)).getD k default = expireO d t (l.getD k default) := by
      rw [List.getD_eq_getElem?_getD, List.getElem?_map, List.getD_eq_getElem?_getD, List.getElem?_eq_getElem hk]; rfl
    obtain ⟨v, n, r⟩ := h4 k hk
    rw [e]
    unfold expireO
    split
    · rename_i hd
      unfold dueB at hd
      rw [Bool.and_eq_true] at hd
      exact ⟨valid_st v (by omega), n, right_over r hd.1 (.inr rfl)⟩
    · exact ⟨v, n, r⟩
  · exact h
theorem submit_ok {l : List Out} {ro : List Shift} {d : Int} {o : Out} (h : deskE l ro d = 0) : deskE (submitL l ro d o) ro d = 0 := by
  unfold submitL
  split
  · rename_i h0
    have hb : validB (blank o) = true ∧ o.n = (l.length : Int) + 1 := by
      unfold submitE at h0
      split at h0
      · omega
      · split at h0
        · omega
        · split at h0
          · omega
          · rename_i h1 h2
            exact ⟨by simpa using h1, Decidable.not_not.1 h2⟩
    obtain ⟨h1, h2, h3, h4⟩ := desk_ok.1 h
    have hbd := (valid_bd hb.1).1
    have hbn : (blank o).n = o.n := rfl
    refine desk_ok.2 ⟨h1, h2, by rw [List.length_append]; show l.length + 1 ≤ 40; omega, fun k hk => ?_⟩
    rw [List.length_append] at hk
    have hk : k < l.length + 1 := hk
    by_cases hkl : k < l.length
    · rw [List.getD_eq_getElem?_getD, List.getElem?_append_left hkl, ← List.getD_eq_getElem?_getD]
      exact h4 k hkl
    · obtain rfl : k = l.length := by omega
      rw [List.getD_eq_getElem?_getD, List.getElem?_append_right (Nat.le_refl _), Nat.sub_self]
      refine ⟨hb.1, hb.2, rightB_iff.2 ⟨fun j hj => absurd hj (Nat.not_lt_zero _), by show stateB 0 1 = true; decide⟩⟩
  · exact h
theorem duty_ok {ro : List Shift} {p : List UInt8} {t : Int} (hc : checkE ro = 0) (h : dutyB ro p t = true) : nameB p = true ∧ 0 ≤ t ∧ t ≤ 1073741824 := by
  unfold dutyB onG at h
  rw [if_pos hc, List.contains_iff_mem] at h
  unfold onT at h
  rw [srtT_mem] at h
  unfold onP at h
  obtain ⟨x, hx, rfl⟩ := List.mem_map.1 h
  obtain ⟨hx1, hx2⟩ := List.mem_filter.1 hx
  have hs := (rota_iff.1 hc).each x hx1
  have ho := of_decide_eq_true hx2
  unfold singleE at hs
  split at hs
  · split at hs
    · rename_i h1 h2
      have h3 := of_decide_eq_true h2
      exact ⟨h1, by omega, by omega⟩
    · omega
  · omega
theorem sg_app_lt {l : List Sig} {s : Sig} {j : Nat} (h : j < l.length) : (l ++ [s]).getD j default = l.getD j default := by
  rw [List.getD_eq_getElem?_getD, List.getElem?_append_left h, ← List.getD_eq_getElem?_getD]
theorem sg_app_at {l : List Sig} {s : Sig} : (l ++ [s]).getD l.length default = s := by
  rw [List.getD_eq_getElem?_getD, List.getElem?_append_right (Nat.le_refl _), Nat.sub_self]; rfl
theorem signO_ok {ro : List Shift} {d t : Int} {o : Out} {p : List UInt8} (hc : checkE ro = 0) (hv : validB o = true) (hr : rightB ro d o = true) (ha : actE ro d o p t = 0) (hp : (o.sg.any fun s => s.1 == p) = false) : validB (signO o p t) = true ∧ rightB ro d (signO o p t) = true := by
  obtain ⟨a1, a2, a3, a4, a5⟩ := act_ok ha
  obtain ⟨n1, n2, n3⟩ := duty_ok hc a4
  obtain ⟨h1, h2⟩ := rightB_iff.1 hr
  obtain ⟨v1, v2, v3, v4, v5, v6, v7, v8⟩ := valid_bd hv
  have hf := state_few h2 (of_decide_eq_true a1)
  have hst : 2 ≤ (signO o p t).st ∧ (signO o p t).st ≤ 3 := by
    show 2 ≤ (if o.sg.length = 1 then (3 : Int) else 2) ∧ (if o.sg.length = 1 then (3 : Int) else 2) ≤ 3
    split <;> omega
  have hlen : (signO o p t).sg.length = o.sg.length + 1 := by show (o.sg ++ [(p, t)]).length = _; simp
  constructor
  · have h9 : validB (signO o p t) = (signO o p t).sg.all sgB := valid_all (o := signO o p t) (by show ¬ o.n < 1; omega) (by show ¬ 40 < o.n; omega) (by show (!(nameB o.proj)) = false; rw [v2]; rfl) (by show (!(nameB o.who)) = false; rw [v3]; rfl) (by show (!(timeB o.t)) = false; rw [valid_time hv]; rfl) (by show ¬ 1024 < o.text.length; omega) (by omega) (by omega) (by rw [hlen]; omega)
    rw [h9, List.all_eq_true]
    intro s hs
    have hs : s ∈ o.sg ++ [(p, t)] := hs
    unfold sgB timeB
    rcases List.mem_append.1 hs with hs | hs
    · obtain ⟨g1, g2, g3⟩ := v8 s hs
      rw [g1, decide_eq_true ⟨g2, g3⟩]; rfl
    · obtain rfl := List.mem_singleton.1 hs
      rw [show nameB (p, t).1 = true from n1, decide_eq_true (show 0 ≤ (p, t).2 ∧ (p, t).2 ≤ 1073741824 from ⟨n2, n3⟩)]; rfl
  · refine rightB_iff.2 ⟨fun j hj => ?_, ?_⟩
    · rw [hlen] at hj
      by_cases hjl : j < o.sg.length
      · have hj1 := h1 j hjl
        have e1 : lastT (signO o p t) j = lastT o j := by
          unfold lastT
          split
          · rfl
          · rw [show (signO o p t).sg = o.sg ++ [(p, t)] from rfl, sg_app_lt (by omega)]
        unfold sgAt at hj1 ⊢
        rw [e1, show (signO o p t).sg = o.sg ++ [(p, t)] from rfl, sg_app_lt hjl, sg_app_lt (show 0 < o.sg.length by omega)]
        exact hj1
      · obtain rfl : j = o.sg.length := by omega
        have e1 : lastT (signO o p t) o.sg.length = lastT o o.sg.length := by
          unfold lastT
          split
          · rfl
          · rw [show (signO o p t).sg = o.sg ++ [(p, t)] from rfl, sg_app_lt (by omega)]
        have e2 : (signO o p t).sg.getD o.sg.length default = (p, t) := sg_app_at
        have e3 : 0 < o.sg.length → ((signO o p t).sg.getD 0 default).1 = (o.sg.getD 0 default).1 := fun h => by rw [show (signO o p t).sg = o.sg ++ [(p, t)] from rfl, sg_app_lt h]
        unfold sgAt
        rw [e1, e2, decide_eq_true (show lastT o o.sg.length ≤ (p, t).2 from a2), decide_eq_true (show (p, t).2 < (signO o p t).t + d from a3), show ((p, t).1 == (signO o p t).who) = false from a5, show dutyB ro (p, t).1 (p, t).2 = true from a4]
        by_cases h0 : 0 < o.sg.length
        · rw [e3 h0]
          have : ((o.sg.getD 0 default).1 == p) = false := by
            have := List.any_eq_false.1 hp (o.sg.getD 0 default) (by rw [List.getD_eq_getElem?_getD, List.getElem?_eq_getElem h0]; exact List.getElem_mem _)
            simpa using this
          rw [show ((o.sg.getD 0 default).1 == (p, t).1) = false from this]; simp
        · rw [decide_eq_false h0]; rfl
    · rw [hlen]
      show stateB (o.sg.length + 1) (if o.sg.length = 1 then 3 else 2) = true
      rcases hf with ⟨_, h0⟩ | ⟨_, h0⟩ <;> rw [h0] <;> decide
theorem sign_split {l : List Out} {ro : List Shift} {d number t : Int} {p text : List UInt8} (h : signE l ro d number p t text = 0) : touchE l ro d number p t = 0 ∧ ((atL l number).sg.any fun s => s.1 == p) = false ∧ text = (atL l number).text := by
  unfold signE at h
  split at h
  · omega
  · split at h
    · omega
    · split at h
      · omega
      · rename_i h1 h2 h3
        exact ⟨by omega, by cases hb : (atL l number).sg.any (fun s => s.1 == p) with | false => rfl | true => exact absurd hb h2, Decidable.not_not.1 h3⟩
theorem sign_ok {l : List Out} {ro : List Shift} {d number t : Int} {p text : List UInt8} (h : deskE l ro d = 0) : deskE (signL l ro d number p t text) ro d = 0 := by
  unfold signL
  split
  · rename_i h0
    obtain ⟨ht, hp, _⟩ := sign_split h0
    obtain ⟨_, k, hk, rfl, ha⟩ := touch_ok ht
    have hk1 : ((k : Int) + 1 - 1).toNat = k := by omega
    obtain ⟨_, hc, _, h4⟩ := desk_ok.1 h
    obtain ⟨v, n, r⟩ := h4 k hk
    unfold atL at hp
    rw [hk1] at hp
    unfold putL atL
    rw [hk1]
    obtain ⟨g1, g2⟩ := signO_ok hc v r ha hp
    exact put_ok h g1 n g2
  · exact h
end Go.Proofs.Ytaoeapmdhpkidaa
