/- Contracts of functions of the given program, and lemmas about plain lists and numbers: what the laws of this seat lean on. -/
import Derived.Test.YtaoeapmdhpkidaaDe9
namespace Go.Proofs.Ytaoeapmdhpkidaa
open Go.Eng
theorem SliceN.nil0 {α : Type} {f : α → List Value} {sz : Nat} {I : PH} : SliceN f sz I none 0 ([] : List α) := ⟨Arr.nil, Nat.le_refl _, by unfold maxLen; omega, by simp⟩
attribute [local irreducible] opK wpList Code.wp Exit.then Exit.inBlock fnPost bodyPost Nx Calls Oper.wp Rd Rds Wr Ent Stars Blk Again Vec FnSpec wpMix QRun Stop Upto wpAt
set_option maxHeartbeats 4000000 in
set_option maxRecDepth 10000 in
theorem Submit_spec (Ao : Option Addr) (co : Nat) (l : List OutM) (Ar : Option Addr) (cr : Nat) (ro : List Shift) (d : Int) (x : OutM) (I : PH) (hl : Outs I Ao co l) (hr : Shifts I Ar cr ro) (hro : ∀ y ∈ ro, shOk y) (hlo : ∀ x ∈ l, I64 x.1.n) (h9 : l.length ≤ 1000) (hs9 : ∀ x ∈ l, x.1.sg.length ≤ 1000) :
    FnSpec Try.prog 22 [.slice Ao l.length co, .slice Ar ro.length cr, .int .i64 d, ouV x] I [] (listE (submitL (l.map (·.1)) ro d x.1) (submitE (l.map (·.1)) ro d x.1)) := by
  have hA := DCheck_spec Ao co l Ar cr ro d I hl hr hro hlo
  have hV := Valid_spec ((blank x.1, none, 0) : OutM) I ⟨SliceN.nil0⟩
  have hlen := hl.sl.len
  refine FnSpec.enterP Try.func22 rfl Try.ntmps22 rfl fun w F => ?_
  repeat' first
    | ((with_reducible refine Nx.is_wp ?_); first | refine Nx.wo ?_ | refine Nx.p_dec rfl rfl (fun hc => ?_) (fun hc => ?_) | refine Nx.p_bool rfl rfl (fun hc => ?_) (fun hc => ?_))
    | ((first | refine Nx.at_op rfl rfl ?_ | refine Nx.m_loud rfl rfl rfl ?_ | refine Nx.at_do rfl rfl rfl rfl ?_ | refine Nx.m_loud_do rfl rfl rfl rfl rfl ?_); first | refine Nx.opr rfl rfl ?_ | refine Nx.so ?_ | refine Nx.sb (fun bx => ?_) | refine Nx.sa (fun A2 c2 => ?_))
    | ((with_reducible refine Nx.is_at ?_); first | refine Nx.a ?_ | ((fail_if_success refine Nx.at_do rfl rfl rfl rfl ?_); first | refine Nx.at_dec_t rfl rfl rfl rfl (by first | assumption | omega) ?_ | refine Nx.at_dec_f rfl rfl rfl rfl (by first | assumption | omega) ?_ | refine Nx.at_split rfl rfl rfl rfl (fun hc => ?_) (fun hc => ?_) | refine Nx.at_splitb rfl rfl rfl rfl (fun hc => ?_) (fun hc => ?_)))
    | ((with_reducible refine Nx.is_mix ?_); first | refine Nx.m ?_ | ((fail_if_success refine Nx.m_quiet_do rfl rfl rfl rfl rfl rfl rfl ?_ ?_); (fail_if_success refine Nx.m_loud_do rfl rfl rfl rfl rfl ?_); first | refine Nx.m_dec_t rfl rfl rfl rfl (by first | assumption | omega) ?_ | refine Nx.m_dec_f rfl rfl rfl rfl (by first | assumption | omega) ?_ | refine Nx.m_split rfl rfl rfl rfl (fun hc => ?_) (fun hc => ?_) | refine Nx.m_splitb rfl rfl rfl rfl (fun hc => ?_) (fun hc => ?_)))
    | ((fail_if_success (with_reducible refine Nx.is_at ?_)); (fail_if_success (with_reducible refine Nx.is_wp ?_)); (fail_if_success (with_reducible refine Nx.is_mix ?_)); first | refine Nx.ex ?_)
  revert bx; intro b7
  refine Nx.at_op rfl rfl ?_
  refine Nx.call rfl rfl rfl (by kernel_rfl) rfl (copied_spec Ao co l I hl h9 hs9) (by (exact Ent.auto)) ?_
  rintro _ _ ⟨A', c', l', rfl, hl', rfl⟩
  have hll : l'.length = l.length := by have := congrArg List.length hl'; simpa using this
  refine Nx.ent (R' := [Blk b7 50 (ouC x), rowR A' c' l', Stars (l'.map sigR), F]) (by (exact Ent.auto)) ?_
  by_cases c1 : deskE (l.map (·.1)) ro d = 0
  · rw [c1] at hA
    have hno : ¬ deskE (l.map (·.1)) ro d ≠ 0 := by omega
    cases v1 : validB (blank x.1) with
    | false =>
      rw [v1] at hV
      have hE : submitE (l.map (·.1)) ro d x.1 = 11 := by unfold submitE; rw [if_neg hno, if_pos v1]
      rw [show submitL (l.map (·.1)) ro d x.1 = l.map (·.1) from if_neg (by rw [hE]; decide), hE]
      repeat' first
        | ((with_reducible refine Nx.is_wp ?_); first | refine Nx.wo ?_ | refine Nx.p_dec rfl rfl (fun hc => ?_) (fun hc => ?_) | refine Nx.p_bool rfl rfl (fun hc => ?_) (fun hc => ?_))
        | ((first | refine Nx.at_op rfl rfl ?_ | refine Nx.m_loud rfl rfl rfl ?_ | refine Nx.at_do rfl rfl rfl rfl ?_ | refine Nx.m_loud_do rfl rfl rfl rfl rfl ?_); first | refine Nx.opr rfl rfl ?_ | refine Nx.callv rfl rfl rfl (by kernel_rfl) rfl hA ?_ | refine Nx.callv rfl rfl rfl (by kernel_rfl) rfl hV ?_ | refine Nx.so ?_ | refine Nx.sb (fun bx => ?_) | refine Nx.sa (fun A2 c2 => ?_))
        | ((with_reducible refine Nx.is_at ?_); first | refine Nx.a ?_ | ((fail_if_success refine Nx.at_do rfl rfl rfl rfl ?_); first | refine Nx.at_dec_t rfl rfl rfl rfl (by first | assumption | omega) ?_ | refine Nx.at_dec_f rfl rfl rfl rfl (by first | assumption | omega) ?_ | refine Nx.at_split rfl rfl rfl rfl (fun hc => ?_) (fun hc => ?_) | refine Nx.at_splitb rfl rfl rfl rfl (fun hc => ?_) (fun hc => ?_)))
        | ((with_reducible refine Nx.is_mix ?_); first | refine Nx.m ?_ | ((fail_if_success refine Nx.m_quiet_do rfl rfl rfl rfl rfl rfl rfl ?_ ?_); (fail_if_success refine Nx.m_loud_do rfl rfl rfl rfl rfl ?_); first | refine Nx.m_dec_t rfl rfl rfl rfl (by first | assumption | omega) ?_ | refine Nx.m_dec_f rfl rfl rfl rfl (by first | assumption | omega) ?_ | refine Nx.m_split rfl rfl rfl rfl (fun hc => ?_) (fun hc => ?_) | refine Nx.m_splitb rfl rfl rfl rfl (fun hc => ?_) (fun hc => ?_)))
        | ((fail_if_success (with_reducible refine Nx.is_at ?_)); (fail_if_success (with_reducible refine Nx.is_wp ?_)); (fail_if_success (with_reducible refine Nx.is_mix ?_)); first | refine Nx.ex ?_)
      exact Nx.ret_fn rfl [rowR A' c' l', Stars (l'.map sigR)] ⟨A', c', l', rfl, hl', rfl⟩ (by (exact Ent.auto))
    | true =>
      rw [v1] at hV
      have hv1 : ¬ validB (blank x.1) = false := by rw [v1]; decide
      by_cases c2 : x.1.n = (l.length : Int) + 1
      · have hE : submitE (l.map (·.1)) ro d x.1 = 0 := by unfold submitE; rw [if_neg hno, if_neg hv1, if_neg (by rw [List.length_map]; omega)]
        rw [show submitL (l.map (·.1)) ro d x.1 = l.map (·.1) ++ [blank x.1] from if_pos hE, hE]
        repeat' first
          | ((with_reducible refine Nx.is_wp ?_); first | refine Nx.wo ?_ | refine Nx.p_dec rfl rfl (fun hc => ?_) (fun hc => ?_) | refine Nx.p_bool rfl rfl (fun hc => ?_) (fun hc => ?_))
          | ((first | refine Nx.at_op rfl rfl ?_ | refine Nx.m_loud rfl rfl rfl ?_ | refine Nx.at_do rfl rfl rfl rfl ?_ | refine Nx.m_loud_do rfl rfl rfl rfl rfl ?_); first | refine Nx.opr rfl rfl ?_ | refine Nx.callv rfl rfl rfl (by kernel_rfl) rfl hA ?_ | refine Nx.callv rfl rfl rfl (by kernel_rfl) rfl hV ?_ | refine Nx.so ?_ | refine Nx.sb (fun bx => ?_) | refine Nx.sa (fun A2 c2 => ?_))
          | ((with_reducible refine Nx.is_at ?_); first | refine Nx.a ?_ | ((fail_if_success refine Nx.at_do rfl rfl rfl rfl ?_); first | refine Nx.at_dec_t rfl rfl rfl rfl (by first | assumption | omega) ?_ | refine Nx.at_dec_f rfl rfl rfl rfl (by first | assumption | omega) ?_ | refine Nx.at_split rfl rfl rfl rfl (fun hc => ?_) (fun hc => ?_) | refine Nx.at_splitb rfl rfl rfl rfl (fun hc => ?_) (fun hc => ?_)))
          | ((with_reducible refine Nx.is_mix ?_); first | refine Nx.m ?_ | ((fail_if_success refine Nx.m_quiet_do rfl rfl rfl rfl rfl rfl rfl ?_ ?_); (fail_if_success refine Nx.m_loud_do rfl rfl rfl rfl rfl ?_); first | refine Nx.m_dec_t rfl rfl rfl rfl (by first | assumption | omega) ?_ | refine Nx.m_dec_f rfl rfl rfl rfl (by first | assumption | omega) ?_ | refine Nx.m_split rfl rfl rfl rfl (fun hc => ?_) (fun hc => ?_) | refine Nx.m_splitb rfl rfl rfl rfl (fun hc => ?_) (fun hc => ?_)))
          | ((fail_if_success (with_reducible refine Nx.is_at ?_)); (fail_if_success (with_reducible refine Nx.is_wp ?_)); (fail_if_success (with_reducible refine Nx.is_mix ?_)); first | refine Nx.ex ?_)
        have hla : (l' ++ [((blank x.1, none, 0) : OutM)]).length = l'.length + 1 := by simp
        have hfa : (l' ++ [((blank x.1, none, 0) : OutM)]).flatMap ouC = l'.flatMap ouC ++ ouC (blank x.1, none, 0) := by simp
        refine Nx.ret_fn rfl [rowR A2 c2 (l' ++ [((blank x.1, none, 0) : OutM)]), Stars ((l' ++ [((blank x.1, none, 0) : OutM)]).map sigR)] ⟨A2, c2, _, by rw [hla], by rw [List.map_append, hl']; rfl, rfl⟩ ?_
        unfold rowR
        rw [hla, hfa, List.map_append]
        show Ent _ (Vec 50 7 A2 (l'.length + 1) c2 (l'.flatMap ouC ++ ouC (blank x.1, none, 0)) :: Stars (l'.map sigR ++ [sigR (blank x.1, none, 0)]) :: [F])
        refine (Ent.vec_nil 56 2 _).trans (Ent.trans ?_ (Ent.cons (Ent.bundle (r := sigR (blank x.1, none, 0)) (B := l'.map sigR) (R := [F]))))
        (exact Ent.auto)
      · have hE : submitE (l.map (·.1)) ro d x.1 = 48 := by unfold submitE; rw [if_neg hno, if_neg hv1, if_pos (by rw [List.length_map]; exact c2)]
        rw [show submitL (l.map (·.1)) ro d x.1 = l.map (·.1) from if_neg (by rw [hE]; decide), hE]
        repeat' first
          | ((with_reducible refine Nx.is_wp ?_); first | refine Nx.wo ?_ | refine Nx.p_dec rfl rfl (fun hc => ?_) (fun hc => ?_) | refine Nx.p_bool rfl rfl (fun hc => ?_) (fun hc => ?_))
          | ((first | refine Nx.at_op rfl rfl ?_ | refine Nx.m_loud rfl rfl rfl ?_ | refine Nx.at_do rfl rfl rfl rfl ?_ | refine Nx.m_loud_do rfl rfl rfl rfl rfl ?_); first | refine Nx.opr rfl rfl ?_ | refine Nx.callv rfl rfl rfl (by kernel_rfl) rfl hA ?_ | refine Nx.callv rfl rfl rfl (by kernel_rfl) rfl hV ?_ | refine Nx.so ?_ | refine Nx.sb (fun bx => ?_) | refine Nx.sa (fun A2 c2 => ?_))
          | ((with_reducible refine Nx.is_at ?_); first | refine Nx.a ?_ | ((fail_if_success refine Nx.at_do rfl rfl rfl rfl ?_); first | refine Nx.at_dec_t rfl rfl rfl rfl (by first | assumption | omega) ?_ | refine Nx.at_dec_f rfl rfl rfl rfl (by first | assumption | omega) ?_ | refine Nx.at_split rfl rfl rfl rfl (fun hc => ?_) (fun hc => ?_) | refine Nx.at_splitb rfl rfl rfl rfl (fun hc => ?_) (fun hc => ?_)))
          | ((with_reducible refine Nx.is_mix ?_); first | refine Nx.m ?_ | ((fail_if_success refine Nx.m_quiet_do rfl rfl rfl rfl rfl rfl rfl ?_ ?_); (fail_if_success refine Nx.m_loud_do rfl rfl rfl rfl rfl ?_); first | refine Nx.m_dec_t rfl rfl rfl rfl (by first | assumption | omega) ?_ | refine Nx.m_dec_f rfl rfl rfl rfl (by first | assumption | omega) ?_ | refine Nx.m_split rfl rfl rfl rfl (fun hc => ?_) (fun hc => ?_) | refine Nx.m_splitb rfl rfl rfl rfl (fun hc => ?_) (fun hc => ?_)))
          | ((fail_if_success (with_reducible refine Nx.is_at ?_)); (fail_if_success (with_reducible refine Nx.is_wp ?_)); (fail_if_success (with_reducible refine Nx.is_mix ?_)); first | refine Nx.ex ?_)
        exact Nx.ret_fn rfl [rowR A' c' l', Stars (l'.map sigR)] ⟨A', c', l', rfl, hl', rfl⟩ (by (exact Ent.auto))
  · have hE : submitE (l.map (·.1)) ro d x.1 = deskE (l.map (·.1)) ro d := if_pos c1
    rw [show submitL (l.map (·.1)) ro d x.1 = l.map (·.1) from if_neg (by rw [hE]; exact c1), hE]
    repeat' first
      | ((with_reducible refine Nx.is_wp ?_); first | refine Nx.wo ?_ | refine Nx.p_dec rfl rfl (fun hc => ?_) (fun hc => ?_) | refine Nx.p_bool rfl rfl (fun hc => ?_) (fun hc => ?_))
      | ((first | refine Nx.at_op rfl rfl ?_ | refine Nx.m_loud rfl rfl rfl ?_ | refine Nx.at_do rfl rfl rfl rfl ?_ | refine Nx.m_loud_do rfl rfl rfl rfl rfl ?_); first | refine Nx.opr rfl rfl ?_ | refine Nx.callv rfl rfl rfl (by kernel_rfl) rfl hA ?_ | refine Nx.so ?_ | refine Nx.sb (fun bx => ?_) | refine Nx.sa (fun A2 c2 => ?_))
      | ((with_reducible refine Nx.is_at ?_); first | refine Nx.a ?_ | ((fail_if_success refine Nx.at_do rfl rfl rfl rfl ?_); first | refine Nx.at_dec_t rfl rfl rfl rfl (by first | assumption | omega) ?_ | refine Nx.at_dec_f rfl rfl rfl rfl (by first | assumption | omega) ?_ | refine Nx.at_split rfl rfl rfl rfl (fun hc => ?_) (fun hc => ?_) | refine Nx.at_splitb rfl rfl rfl rfl (fun hc => ?_) (fun hc => ?_)))
      | ((with_reducible refine Nx.is_mix ?_); first | refine Nx.m ?_ | ((fail_if_success refine Nx.m_quiet_do rfl rfl rfl rfl rfl rfl rfl ?_ ?_); (fail_if_success refine Nx.m_loud_do rfl rfl rfl rfl rfl ?_); first | refine Nx.m_dec_t rfl rfl rfl rfl (by first | assumption | omega) ?_ | refine Nx.m_dec_f rfl rfl rfl rfl (by first | assumption | omega) ?_ | refine Nx.m_split rfl rfl rfl rfl (fun hc => ?_) (fun hc => ?_) | refine Nx.m_splitb rfl rfl rfl rfl (fun hc => ?_) (fun hc => ?_)))
      | ((fail_if_success (with_reducible refine Nx.is_at ?_)); (fail_if_success (with_reducible refine Nx.is_wp ?_)); (fail_if_success (with_reducible refine Nx.is_mix ?_)); first | refine Nx.ex ?_)
    exact Nx.ret_fn rfl [rowR A' c' l', Stars (l'.map sigR)] ⟨A', c', l', rfl, hl', rfl⟩ (by (exact Ent.auto))
set_option maxHeartbeats 4000000 in
set_option maxRecDepth 10000 in
theorem RSubmit_spec (Ao : Option Addr) (co : Nat) (l : List OutM) (Ar : Option Addr) (cr : Nat) (ro : List Shift) (d : Int) (x : OutM) (I : PH) (hl : Outs I Ao co l) (hr : Shifts I Ar cr ro) (hro : ∀ y ∈ ro, shOk y) (hlo : ∀ x ∈ l, I64 x.1.n) (h9 : l.length ≤ 1000) (hs9 : ∀ x ∈ l, x.1.sg.length ≤ 1000) :
    FnSpec Try.prog 35 [.slice Ao l.length co, .slice Ar ro.length cr, .int .i64 d, ouV x] I [] (listE (submitL (l.map (·.1)) ro d x.1) (submitE (l.map (·.1)) ro d x.1)) := by
  have hA := RDCheck_spec Ao co l Ar cr ro d I hl hr hro hlo
  have hV := rValid_spec ((blank x.1, none, 0) : OutM) I ⟨SliceN.nil0⟩
  have hlen := hl.sl.len
  refine FnSpec.enterP Try.func35 rfl Try.ntmps35 rfl fun w F => ?_
  repeat' first
    | ((with_reducible refine Nx.is_wp ?_); first | refine Nx.wo ?_ | refine Nx.p_dec rfl rfl (fun hc => ?_) (fun hc => ?_) | refine Nx.p_bool rfl rfl (fun hc => ?_) (fun hc => ?_))
    | ((first | refine Nx.at_op rfl rfl ?_ | refine Nx.m_loud rfl rfl rfl ?_ | refine Nx.at_do rfl rfl rfl rfl ?_ | refine Nx.m_loud_do rfl rfl rfl rfl rfl ?_); first | refine Nx.opr rfl rfl ?_ | refine Nx.so ?_ | refine Nx.sb (fun bx => ?_) | refine Nx.sa (fun A2 c2 => ?_))
    | ((with_reducible refine Nx.is_at ?_); first | refine Nx.a ?_ | ((fail_if_success refine Nx.at_do rfl rfl rfl rfl ?_); first | refine Nx.at_dec_t rfl rfl rfl rfl (by first | assumption | omega) ?_ | refine Nx.at_dec_f rfl rfl rfl rfl (by first | assumption | omega) ?_ | refine Nx.at_split rfl rfl rfl rfl (fun hc => ?_) (fun hc => ?_) | refine Nx.at_splitb rfl rfl rfl rfl (fun hc => ?_) (fun hc => ?_)))
    | ((with_reducible refine Nx.is_mix ?_); first | refine Nx.m ?_ | ((fail_if_success refine Nx.m_quiet_do rfl rfl rfl rfl rfl rfl rfl ?_ ?_); (fail_if_success refine Nx.m_loud_do rfl rfl rfl rfl rfl ?_); first | refine Nx.m_dec_t rfl rfl rfl rfl (by first | assumption | omega) ?_ | refine Nx.m_dec_f rfl rfl rfl rfl (by first | assumption | omega) ?_ | refine Nx.m_split rfl rfl rfl rfl (fun hc => ?_) (fun hc => ?_) | refine Nx.m_splitb rfl rfl rfl rfl (fun hc => ?_) (fun hc => ?_)))
    | ((fail_if_success (with_reducible refine Nx.is_at ?_)); (fail_if_success (with_reducible refine Nx.is_wp ?_)); (fail_if_success (with_reducible refine Nx.is_mix ?_)); first | refine Nx.ex ?_)
  revert bx; intro b7
  refine Nx.at_op rfl rfl ?_
  refine Nx.call rfl rfl rfl (by kernel_rfl) rfl (RCopy_spec Ao co l I hl h9 hs9) (by (exact Ent.auto)) ?_
  rintro _ _ ⟨A', c', l', rfl, hl', rfl⟩
  have hll : l'.length = l.length := by have := congrArg List.length hl'; simpa using this
  refine Nx.ent (R' := [Blk b7 50 (ouC x), rowR A' c' l', Stars (l'.map sigR), F]) (by (exact Ent.auto)) ?_
  by_cases c1 : deskE (l.map (·.1)) ro d = 0
  · rw [c1] at hA
    have hno : ¬ deskE (l.map (·.1)) ro d ≠ 0 := by omega
    cases v1 : validB (blank x.1) with
    | false =>
      rw [v1] at hV
      have hE : submitE (l.map (·.1)) ro d x.1 = 11 := by unfold submitE; rw [if_neg hno, if_pos v1]
      rw [show submitL (l.map (·.1)) ro d x.1 = l.map (·.1) from if_neg (by rw [hE]; decide), hE]
      repeat' first
        | ((with_reducible refine Nx.is_wp ?_); first | refine Nx.wo ?_ | refine Nx.p_dec rfl rfl (fun hc => ?_) (fun hc => ?_) | refine Nx.p_bool rfl rfl (fun hc => ?_) (fun hc => ?_))
        | ((first | refine Nx.at_op rfl rfl ?_ | refine Nx.m_loud rfl rfl rfl ?_ | refine Nx.at_do rfl rfl rfl rfl ?_ | refine Nx.m_loud_do rfl rfl rfl rfl rfl ?_); first | refine Nx.opr rfl rfl ?_ | refine Nx.callv rfl rfl rfl (by kernel_rfl) rfl hA ?_ | refine Nx.callv rfl rfl rfl (by kernel_rfl) rfl hV ?_ | refine Nx.so ?_ | refine Nx.sb (fun bx => ?_) | refine Nx.sa (fun A2 c2 => ?_))
        | ((with_reducible refine Nx.is_at ?_); first | refine Nx.a ?_ | ((fail_if_success refine Nx.at_do rfl rfl rfl rfl ?_); first | refine Nx.at_dec_t rfl rfl rfl rfl (by first | assumption | omega) ?_ | refine Nx.at_dec_f rfl rfl rfl rfl (by first | assumption | omega) ?_ | refine Nx.at_split rfl rfl rfl rfl (fun hc => ?_) (fun hc => ?_) | refine Nx.at_splitb rfl rfl rfl rfl (fun hc => ?_) (fun hc => ?_)))
        | ((with_reducible refine Nx.is_mix ?_); first | refine Nx.m ?_ | ((fail_if_success refine Nx.m_quiet_do rfl rfl rfl rfl rfl rfl rfl ?_ ?_); (fail_if_success refine Nx.m_loud_do rfl rfl rfl rfl rfl ?_); first | refine Nx.m_dec_t rfl rfl rfl rfl (by first | assumption | omega) ?_ | refine Nx.m_dec_f rfl rfl rfl rfl (by first | assumption | omega) ?_ | refine Nx.m_split rfl rfl rfl rfl (fun hc => ?_) (fun hc => ?_) | refine Nx.m_splitb rfl rfl rfl rfl (fun hc => ?_) (fun hc => ?_)))
        | ((fail_if_success (with_reducible refine Nx.is_at ?_)); (fail_if_success (with_reducible refine Nx.is_wp ?_)); (fail_if_success (with_reducible refine Nx.is_mix ?_)); first | refine Nx.ex ?_)
      exact Nx.ret_fn rfl [rowR A' c' l', Stars (l'.map sigR)] ⟨A', c', l', rfl, hl', rfl⟩ (by (exact Ent.auto))
    | true =>
      rw [v1] at hV
      have hv1 : ¬ validB (blank x.1) = false := by rw [v1]; decide
      by_cases c2 : x.1.n = (l.length : Int) + 1
      · have hE : submitE (l.map (·.1)) ro d x.1 = 0 := by unfold submitE; rw [if_neg hno, if_neg hv1, if_neg (by rw [List.length_map]; omega)]
        rw [show submitL (l.map (·.1)) ro d x.1 = l.map (·.1) ++ [blank x.1] from if_pos hE, hE]
        repeat' first
          | ((with_reducible refine Nx.is_wp ?_); first | refine Nx.wo ?_ | refine Nx.p_dec rfl rfl (fun hc => ?_) (fun hc => ?_) | refine Nx.p_bool rfl rfl (fun hc => ?_) (fun hc => ?_))
          | ((first | refine Nx.at_op rfl rfl ?_ | refine Nx.m_loud rfl rfl rfl ?_ | refine Nx.at_do rfl rfl rfl rfl ?_ | refine Nx.m_loud_do rfl rfl rfl rfl rfl ?_); first | refine Nx.opr rfl rfl ?_ | refine Nx.callv rfl rfl rfl (by kernel_rfl) rfl hA ?_ | refine Nx.callv rfl rfl rfl (by kernel_rfl) rfl hV ?_ | refine Nx.so ?_ | refine Nx.sb (fun bx => ?_) | refine Nx.sa (fun A2 c2 => ?_))
          | ((with_reducible refine Nx.is_at ?_); first | refine Nx.a ?_ | ((fail_if_success refine Nx.at_do rfl rfl rfl rfl ?_); first | refine Nx.at_dec_t rfl rfl rfl rfl (by first | assumption | omega) ?_ | refine Nx.at_dec_f rfl rfl rfl rfl (by first | assumption | omega) ?_ | refine Nx.at_split rfl rfl rfl rfl (fun hc => ?_) (fun hc => ?_) | refine Nx.at_splitb rfl rfl rfl rfl (fun hc => ?_) (fun hc => ?_)))
          | ((with_reducible refine Nx.is_mix ?_); first | refine Nx.m ?_ | ((fail_if_success refine Nx.m_quiet_do rfl rfl rfl rfl rfl rfl rfl ?_ ?_); (fail_if_success refine Nx.m_loud_do rfl rfl rfl rfl rfl ?_); first | refine Nx.m_dec_t rfl rfl rfl rfl (by first | assumption | omega) ?_ | refine Nx.m_dec_f rfl rfl rfl rfl (by first | assumption | omega) ?_ | refine Nx.m_split rfl rfl rfl rfl (fun hc => ?_) (fun hc => ?_) | refine Nx.m_splitb rfl rfl rfl rfl (fun hc => ?_) (fun hc => ?_)))
          | ((fail_if_success (with_reducible refine Nx.is_at ?_)); (fail_if_success (with_reducible refine Nx.is_wp ?_)); (fail_if_success (with_reducible refine Nx.is_mix ?_)); first | refine Nx.ex ?_)
        have hla : (l' ++ [((blank x.1, none, 0) : OutM)]).length = l'.length + 1 := by simp
        have hfa : (l' ++ [((blank x.1, none, 0) : OutM)]).flatMap ouC = l'.flatMap ouC ++ ouC (blank x.1, none, 0) := by simp
        refine Nx.ret_fn rfl [rowR A2 c2 (l' ++ [((blank x.1, none, 0) : OutM)]), Stars ((l' ++ [((blank x.1, none, 0) : OutM)]).map sigR)] ⟨A2, c2, _, by rw [hla], by rw [List.map_append, hl']; rfl, rfl⟩ ?_
        unfold rowR
        rw [hla, hfa, List.map_append]
        show Ent _ (Vec 50 7 A2 (l'.length + 1) c2 (l'.flatMap ouC ++ ouC (blank x.1, none, 0)) :: Stars (l'.map sigR ++ [sigR (blank x.1, none, 0)]) :: [F])
        refine (Ent.vec_nil 56 2 _).trans (Ent.trans ?_ (Ent.cons (Ent.bundle (r := sigR (blank x.1, none, 0)) (B := l'.map sigR) (R := [F]))))
        (exact Ent.auto)
      · have hE : submitE (l.map (·.1)) ro d x.1 = 48 := by unfold submitE; rw [if_neg hno, if_neg hv1, if_pos (by rw [List.length_map]; exact c2)]
        rw [show submitL (l.map (·.1)) ro d x.1 = l.map (·.1) from if_neg (by rw [hE]; decide), hE]
        repeat' first
          | ((with_reducible refine Nx.is_wp ?_); first | refine Nx.wo ?_ | refine Nx.p_dec rfl rfl (fun hc => ?_) (fun hc => ?_) | refine Nx.p_bool rfl rfl (fun hc => ?_) (fun hc => ?_))
          | ((first | refine Nx.at_op rfl rfl ?_ | refine Nx.m_loud rfl rfl rfl ?_ | refine Nx.at_do rfl rfl rfl rfl ?_ | refine Nx.m_loud_do rfl rfl rfl rfl rfl ?_); first | refine Nx.opr rfl rfl ?_ | refine Nx.callv rfl rfl rfl (by kernel_rfl) rfl hA ?_ | refine Nx.callv rfl rfl rfl (by kernel_rfl) rfl hV ?_ | refine Nx.so ?_ | refine Nx.sb (fun bx => ?_) | refine Nx.sa (fun A2 c2 => ?_))
          | ((with_reducible refine Nx.is_at ?_); first | refine Nx.a ?_ | ((fail_if_success refine Nx.at_do rfl rfl rfl rfl ?_); first | refine Nx.at_dec_t rfl rfl rfl rfl (by first | assumption | omega) ?_ | refine Nx.at_dec_f rfl rfl rfl rfl (by first | assumption | omega) ?_ | refine Nx.at_split rfl rfl rfl rfl (fun hc => ?_) (fun hc => ?_) | refine Nx.at_splitb rfl rfl rfl rfl (fun hc => ?_) (fun hc => ?_)))
          | ((with_reducible refine Nx.is_mix ?_); first | refine Nx.m ?_ | ((fail_if_success refine Nx.m_quiet_do rfl rfl rfl rfl rfl rfl rfl ?_ ?_); (fail_if_success refine Nx.m_loud_do rfl rfl rfl rfl rfl ?_); first | refine Nx.m_dec_t rfl rfl rfl rfl (by first | assumption | omega) ?_ | refine Nx.m_dec_f rfl rfl rfl rfl (by first | assumption | omega) ?_ | refine Nx.m_split rfl rfl rfl rfl (fun hc => ?_) (fun hc => ?_) | refine Nx.m_splitb rfl rfl rfl rfl (fun hc => ?_) (fun hc => ?_)))
          | ((fail_if_success (with_reducible refine Nx.is_at ?_)); (fail_if_success (with_reducible refine Nx.is_wp ?_)); (fail_if_success (with_reducible refine Nx.is_mix ?_)); first | refine Nx.ex ?_)
        exact Nx.ret_fn rfl [rowR A' c' l', Stars (l'.map sigR)] ⟨A', c', l', rfl, hl', rfl⟩ (by (exact Ent.auto))
  · have hE : submitE (l.map (·.1)) ro d x.1 = deskE (l.map (·.1)) ro d := if_pos c1
    rw [show submitL (l.map (·.1)) ro d x.1 = l.map (·.1) from if_neg (by rw [hE]; exact c1), hE]
    repeat' first
      | ((with_reducible refine Nx.is_wp ?_); first | refine Nx.wo ?_ | refine Nx.p_dec rfl rfl (fun hc => ?_) (fun hc => ?_) | refine Nx.p_bool rfl rfl (fun hc => ?_) (fun hc => ?_))
      | ((first | refine Nx.at_op rfl rfl ?_ | refine Nx.m_loud rfl rfl rfl ?_ | refine Nx.at_do rfl rfl rfl rfl ?_ | refine Nx.m_loud_do rfl rfl rfl rfl rfl ?_); first | refine Nx.opr rfl rfl ?_ | refine Nx.callv rfl rfl rfl (by kernel_rfl) rfl hA ?_ | refine Nx.so ?_ | refine Nx.sb (fun bx => ?_) | refine Nx.sa (fun A2 c2 => ?_))
      | ((with_reducible refine Nx.is_at ?_); first | refine Nx.a ?_ | ((fail_if_success refine Nx.at_do rfl rfl rfl rfl ?_); first | refine Nx.at_dec_t rfl rfl rfl rfl (by first | assumption | omega) ?_ | refine Nx.at_dec_f rfl rfl rfl rfl (by first | assumption | omega) ?_ | refine Nx.at_split rfl rfl rfl rfl (fun hc => ?_) (fun hc => ?_) | refine Nx.at_splitb rfl rfl rfl rfl (fun hc => ?_) (fun hc => ?_)))
      | ((with_reducible refine Nx.is_mix ?_); first | refine Nx.m ?_ | ((fail_if_success refine Nx.m_quiet_do rfl rfl rfl rfl rfl rfl rfl ?_ ?_); (fail_if_success refine Nx.m_loud_do rfl rfl rfl rfl rfl ?_); first | refine Nx.m_dec_t rfl rfl rfl rfl (by first | assumption | omega) ?_ | refine Nx.m_dec_f rfl rfl rfl rfl (by first | assumption | omega) ?_ | refine Nx.m_split rfl rfl rfl rfl (fun hc => ?_) (fun hc => ?_) | refine Nx.m_splitb rfl rfl rfl rfl (fun hc => ?_) (fun hc => ?_)))
      | ((fail_if_success (with_reducible refine Nx.is_at ?_)); (fail_if_success (with_reducible refine Nx.is_wp ?_)); (fail_if_success (with_reducible refine Nx.is_mix ?_)); first | refine Nx.ex ?_)
    exact Nx.ret_fn rfl [rowR A' c' l', Stars (l'.map sigR)] ⟨A', c', l', rfl, hl', rfl⟩ (by (exact Ent.auto))
end Go.Proofs.Ytaoeapmdhpkidaa
/- Contracts of functions of the given program, and lemmas about plain lists and numbers: what the laws of this seat lean on. -/
namespace Go.Proofs.Ytaoeapmdhpkidaa
open Go.Eng
attribute [local irreducible] opK wpList Code.wp Exit.then Exit.inBlock fnPost bodyPost Nx Calls Oper.wp Rd Rds Wr Ent Stars Blk Again Vec FnSpec wpMix QRun Stop Upto wpAt
set_option maxRecDepth 10000 in
theorem sign_has (s : Sig) (p : List UInt8) (b : Nat) (I : PH) (hb : ∀ (W : World) (R : List Res), Rd W I R ⟨b, 0, none⟩ (strV p)) :
    FnSpec Try.prog 63 [sgV s, .pointer (some ⟨b, 0, none⟩)] I [] (fun v R' => v = .bool (s.1 == p) ∧ R' = []) := by
  refine FnSpec.enterP Try.func63 rfl Try.ntmps63 rfl fun w F => ?_
  repeat' first
    | ((with_reducible refine Nx.is_wp ?_); first | refine Nx.wo ?_ | refine Nx.p_dec rfl rfl (fun hc => ?_) (fun hc => ?_) | refine Nx.p_bool rfl rfl (fun hc => ?_) (fun hc => ?_))
    | ((first | refine Nx.at_op rfl rfl ?_ | refine Nx.m_loud rfl rfl rfl ?_ | refine Nx.at_do rfl rfl rfl rfl ?_ | refine Nx.m_loud_do rfl rfl rfl rfl rfl ?_); first | refine Nx.eql_s rfl rfl rfl ?_ | refine Nx.opr rfl rfl ?_ | refine Nx.load rfl rfl rfl (hb _ _) ?_ | refine Nx.so ?_ | refine Nx.sb (fun bx => ?_) | refine Nx.sa (fun A2 c2 => ?_))
    | ((with_reducible refine Nx.is_at ?_); first | refine Nx.a ?_ | ((fail_if_success refine Nx.at_do rfl rfl rfl rfl ?_); first | refine Nx.at_dec_t rfl rfl rfl rfl (by first | assumption | omega) ?_ | refine Nx.at_dec_f rfl rfl rfl rfl (by first | assumption | omega) ?_ | refine Nx.at_split rfl rfl rfl rfl (fun hc => ?_) (fun hc => ?_) | refine Nx.at_splitb rfl rfl rfl rfl (fun hc => ?_) (fun hc => ?_)))
    | ((with_reducible refine Nx.is_mix ?_); first | refine Nx.m ?_ | ((fail_if_success refine Nx.m_quiet_do rfl rfl rfl rfl rfl rfl rfl ?_ ?_); (fail_if_success refine Nx.m_loud_do rfl rfl rfl rfl rfl ?_); first | refine Nx.m_dec_t rfl rfl rfl rfl (by first | assumption | omega) ?_ | refine Nx.m_dec_f rfl rfl rfl rfl (by first | assumption | omega) ?_ | refine Nx.m_split rfl rfl rfl rfl (fun hc => ?_) (fun hc => ?_) | refine Nx.m_splitb rfl rfl rfl rfl (fun hc => ?_) (fun hc => ?_)))
    | ((fail_if_success (with_reducible refine Nx.is_at ?_)); (fail_if_success (with_reducible refine Nx.is_wp ?_)); (fail_if_success (with_reducible refine Nx.is_mix ?_)); first | refine Nx.ex ?_)
  exact Nx.ret_fn rfl [] ⟨rfl, rfl⟩ (by (exact Ent.auto))
theorem sig_get {l : List OutM} {k : Nat} (hk : k < l.length) : (l.map sigR)[k]? = some (sigR (l.getD k default)) := by
  rw [List.getElem?_map, List.getElem?_eq_getElem hk, List.getD_eq_getElem?_getD, List.getElem?_eq_getElem hk]; rfl
theorem sig_back {l : List OutM} {k : Nat} (hk : k < l.length) {R : List Res} : Ent (sigR (l.getD k default) :: Stars ((l.map sigR).eraseIdx k) :: R) (Stars (l.map sigR) :: R) := by
  have := Ent.putIn k (B := l.map sigR) (R := R) (r := sigR (l.getD k default)) (by rw [List.length_map]; exact hk)
  have e : (l.map sigR).set k (sigR (l.getD k default)) = l.map sigR := by
    have hg := sig_get hk
    rw [List.getElem?_eq_getElem (by rw [List.length_map]; exact hk)] at hg
    rw [← Option.some.inj hg, List.set_getElem_self]
  rw [e] at this
  exact this
theorem sig_new {l : List OutM} {k : Nat} (hk : k < l.length) (y : OutM) {R : List Res} : Ent (sigR y :: Stars ((l.map sigR).eraseIdx k) :: R) (Stars ((l.set k y).map sigR) :: R) := by
  rw [List.map_set]
  exact Ent.putIn k (by rw [List.length_map]; exact hk)
set_option maxHeartbeats 8000000 in
set_option maxRecDepth 10000 in
theorem Sign_spec (Ao : Option Addr) (co : Nat) (l : List OutM) (Ar : Option Addr) (cr : Nat) (ro : List Shift) (d number : Int) (p : List UInt8) (t : Int) (text : List UInt8) (I : PH) (hl : Outs I Ao co l) (hr : Shifts I Ar cr ro) (hro : ∀ y ∈ ro, shOk y) (hlo : ∀ x ∈ l, I64 x.1.n) (hn : I64 number) (h9 : l.length ≤ 1000) (hs9 : ∀ x ∈ l, x.1.sg.length ≤ 1000) :
    FnSpec Try.prog 25 [.slice Ao l.length co, .slice Ar ro.length cr, .int .i64 d, .int .i64 number, strV p, .int .i64 t, strV text] I [] (listE (signL (l.map (·.1)) ro d number p t text) (signE (l.map (·.1)) ro d number p t text)) := by
  refine FnSpec.enterP Try.func25 rfl Try.ntmps25 rfl fun w F => ?_
  repeat' first
    | ((with_reducible refine Nx.is_wp ?_); first | refine Nx.wo ?_ | refine Nx.p_dec rfl rfl (fun hc => ?_) (fun hc => ?_) | refine Nx.p_bool rfl rfl (fun hc => ?_) (fun hc => ?_))
    | ((first | refine Nx.at_op rfl rfl ?_ | refine Nx.m_loud rfl rfl rfl ?_ | refine Nx.at_do rfl rfl rfl rfl ?_ | refine Nx.m_loud_do rfl rfl rfl rfl rfl ?_); first | refine Nx.opr rfl rfl ?_ | refine Nx.so ?_ | refine Nx.sb (fun bx => ?_) | refine Nx.sa (fun A2 c2 => ?_))
    | ((with_reducible refine Nx.is_at ?_); first | refine Nx.a ?_ | ((fail_if_success refine Nx.at_do rfl rfl rfl rfl ?_); first | refine Nx.at_dec_t rfl rfl rfl rfl (by first | assumption | omega) ?_ | refine Nx.at_dec_f rfl rfl rfl rfl (by first | assumption | omega) ?_ | refine Nx.at_split rfl rfl rfl rfl (fun hc => ?_) (fun hc => ?_) | refine Nx.at_splitb rfl rfl rfl rfl (fun hc => ?_) (fun hc => ?_)))
    | ((with_reducible refine Nx.is_mix ?_); first | refine Nx.m ?_ | ((fail_if_success refine Nx.m_quiet_do rfl rfl rfl rfl rfl rfl rfl ?_ ?_); (fail_if_success refine Nx.m_loud_do rfl rfl rfl rfl rfl ?_); first | refine Nx.m_dec_t rfl rfl rfl rfl (by first | assumption | omega) ?_ | refine Nx.m_dec_f rfl rfl rfl rfl (by first | assumption | omega) ?_ | refine Nx.m_split rfl rfl rfl rfl (fun hc => ?_) (fun hc => ?_) | refine Nx.m_splitb rfl rfl rfl rfl (fun hc => ?_) (fun hc => ?_)))
    | ((fail_if_success (with_reducible refine Nx.is_at ?_)); (fail_if_success (with_reducible refine Nx.is_wp ?_)); (fail_if_success (with_reducible refine Nx.is_mix ?_)); first | refine Nx.ex ?_)
  revert bx; intro b11
  refine Nx.freezeAt 0 rfl fun I1 m1 hI1 hm1 h1 => ?_
  have hb : ∀ (W : World) (R : List Res), Rd W I1 R ⟨b11, 0, none⟩ (strV p) := fun W R => Rd.imm (cellH_mono hm1 (Blk.cell h1 rfl))
  have hl1 := hl.mono hI1
  have hA := act_spec Ao co l Ar cr ro d number p t I1 hl1 (hr.mono hI1) hro hlo hn
  refine Nx.at_op rfl rfl ?_
  refine Nx.call rfl rfl rfl (by kernel_rfl) rfl (copied_spec Ao co l I1 hl1 h9 hs9) (by (exact Ent.auto)) ?_
  rintro _ _ ⟨A', c', l', rfl, hl', rfl⟩
  have hll : l'.length = l.length := by have := congrArg List.length hl'; simpa using this
  by_cases e0 : touchE (l.map (·.1)) ro d number p t = 0
  · obtain ⟨_, k, hk, rfl, _⟩ := touch_ok e0
    rw [List.length_map] at hk
    have hk1 : ((k : Int) + 1 - 1).toNat = k := by omega
    have hk' : k < l'.length := by omega
    have hat : atL (l.map (·.1)) (k + 1) = (l'.getD k default).1 := by unfold atL; rw [hk1, ← hl', lo_at hk']
    rw [e0] at hA
    have hs10 : (l'.getD k default).1.sg.length ≤ 1000 := by
      have := hs9 _ (om_mem hk)
      rw [← lo_at hk, ← hl', lo_at hk'] at this
      exact this
    refine Nx.vec_fact fun hv1 hv2 hv3 hA' => ?_
    repeat' first
      | ((with_reducible refine Nx.is_wp ?_); first | refine Nx.wo ?_ | refine Nx.p_dec rfl rfl (fun hc => ?_) (fun hc => ?_) | refine Nx.p_bool rfl rfl (fun hc => ?_) (fun hc => ?_))
      | ((first | refine Nx.at_op rfl rfl ?_ | refine Nx.m_loud rfl rfl rfl ?_ | refine Nx.at_do rfl rfl rfl rfl ?_ | refine Nx.m_loud_do rfl rfl rfl rfl rfl ?_); first | refine Nx.opr rfl rfl ?_ | refine Nx.buildA rfl rfl rfl rfl ?_ | refine Nx.load rfl rfl rfl (hb _ _) ?_ | refine Nx.callv rfl rfl rfl (by kernel_rfl) rfl hA ?_ | (refine Nx.indexAddr rfl rfl rfl rfl rfl (by omega) (by omega) (hA' (by omega)) ?_; rw [hk1]) | refine Nx.load rfl rfl rfl (Rd.vecFld 0 ouC_len rfl (by omega) 6 rfl) ?_ | refine Nx.so ?_ | refine Nx.sb (fun bx => ?_) | refine Nx.sa (fun A2 c2 => ?_))
      | ((with_reducible refine Nx.is_at ?_); first | refine Nx.a ?_ | ((fail_if_success refine Nx.at_do rfl rfl rfl rfl ?_); first | refine Nx.at_dec_t rfl rfl rfl rfl (by first | assumption | omega) ?_ | refine Nx.at_dec_f rfl rfl rfl rfl (by first | assumption | omega) ?_ | refine Nx.at_split rfl rfl rfl rfl (fun hc => ?_) (fun hc => ?_) | refine Nx.at_splitb rfl rfl rfl rfl (fun hc => ?_) (fun hc => ?_)))
      | ((with_reducible refine Nx.is_mix ?_); first | refine Nx.m ?_ | ((fail_if_success refine Nx.m_quiet_do rfl rfl rfl rfl rfl rfl rfl ?_ ?_); (fail_if_success refine Nx.m_loud_do rfl rfl rfl rfl rfl ?_); first | refine Nx.m_dec_t rfl rfl rfl rfl (by first | assumption | omega) ?_ | refine Nx.m_dec_f rfl rfl rfl rfl (by first | assumption | omega) ?_ | refine Nx.m_split rfl rfl rfl rfl (fun hc => ?_) (fun hc => ?_) | refine Nx.m_splitb rfl rfl rfl rfl (fun hc => ?_) (fun hc => ?_)))
      | ((fail_if_success (with_reducible refine Nx.is_at ?_)); (fail_if_success (with_reducible refine Nx.is_wp ?_)); (fail_if_success (with_reducible refine Nx.is_mix ?_)); first | refine Nx.ex ?_)
    refine Nx.ent (R' := [Stars (l'.map sigR), rowR A' c' l', F]) (by (exact Ent.auto)) ?_
    refine Nx.ent (Ent.takeOut k (sig_get hk')) ?_
    have hE0 : ¬ touchE (l.map (·.1)) ro d (k + 1) p t ≠ 0 := by omega
    refine Nx.at_op rfl rfl ?_
    refine Nx.call_lendR 0 rfl rfl rfl (by kernel_rfl) rfl rfl (fun m I' hI hm h => ContainsSg_spec 63 [.pointer (some ⟨b11, 0, none⟩)] (fun s => s.1 == p) (l'.getD k default).2.1 (l'.getD k default).2.2 (l'.getD k default).1.sg I' (Vec.sliceN hm h (fun _ _ => rfl)) (by kernel_rfl) (fun s _ => sign_has s p b11 I' (fun W R => Rd.imm (cellH_mono (hm1.trans hI) (Blk.cell h1 rfl))))) ?_
    rintro _ _ ⟨rfl, rfl⟩
    cases a1 : (l'.getD k default).1.sg.any (fun s => s.1 == p) with
    | true =>
      have hE : signE (l.map (·.1)) ro d (k + 1) p t text = 46 := by unfold signE; rw [if_neg hE0, hat, if_pos a1]
      rw [show signL (l.map (·.1)) ro d (k + 1) p t text = l.map (·.1) from if_neg (by rw [hE]; decide), hE]
      repeat' first
        | ((with_reducible refine Nx.is_wp ?_); first | refine Nx.wo ?_ | refine Nx.p_dec rfl rfl (fun hc => ?_) (fun hc => ?_) | refine Nx.p_bool rfl rfl (fun hc => ?_) (fun hc => ?_))
        | ((first | refine Nx.at_op rfl rfl ?_ | refine Nx.m_loud rfl rfl rfl ?_ | refine Nx.at_do rfl rfl rfl rfl ?_ | refine Nx.m_loud_do rfl rfl rfl rfl rfl ?_); first | refine Nx.opr rfl rfl ?_ | refine Nx.so ?_ | refine Nx.sb (fun bx => ?_) | refine Nx.sa (fun A2 c2 => ?_))
        | ((with_reducible refine Nx.is_at ?_); first | refine Nx.a ?_ | ((fail_if_success refine Nx.at_do rfl rfl rfl rfl ?_); first | refine Nx.at_dec_t rfl rfl rfl rfl (by first | assumption | omega) ?_ | refine Nx.at_dec_f rfl rfl rfl rfl (by first | assumption | omega) ?_ | refine Nx.at_split rfl rfl rfl rfl (fun hc => ?_) (fun hc => ?_) | refine Nx.at_splitb rfl rfl rfl rfl (fun hc => ?_) (fun hc => ?_)))
        | ((with_reducible refine Nx.is_mix ?_); first | refine Nx.m ?_ | ((fail_if_success refine Nx.m_quiet_do rfl rfl rfl rfl rfl rfl rfl ?_ ?_); (fail_if_success refine Nx.m_loud_do rfl rfl rfl rfl rfl ?_); first | refine Nx.m_dec_t rfl rfl rfl rfl (by first | assumption | omega) ?_ | refine Nx.m_dec_f rfl rfl rfl rfl (by first | assumption | omega) ?_ | refine Nx.m_split rfl rfl rfl rfl (fun hc => ?_) (fun hc => ?_) | refine Nx.m_splitb rfl rfl rfl rfl (fun hc => ?_) (fun hc => ?_)))
        | ((fail_if_success (with_reducible refine Nx.is_at ?_)); (fail_if_success (with_reducible refine Nx.is_wp ?_)); (fail_if_success (with_reducible refine Nx.is_mix ?_)); first | refine Nx.ex ?_)
      exact Nx.imm_le hI1 (Nx.ret_fn rfl [rowR A' c' l', Stars (l'.map sigR)] ⟨A', c', l', rfl, hl', rfl⟩ ((sig_back hk').trans (by (exact Ent.auto))))
    | false =>
      have a1' : ¬ (l'.getD k default).1.sg.any (fun s => s.1 == p) = true := by rw [a1]; decide
      cases t1 : (text == (l'.getD k default).1.text) with
      | false =>
        have hE : signE (l.map (·.1)) ro d (k + 1) p t text = 49 := by unfold signE; rw [if_neg hE0, hat, if_neg a1', if_pos (by simpa using t1)]
        rw [show signL (l.map (·.1)) ro d (k + 1) p t text = l.map (·.1) from if_neg (by rw [hE]; decide), hE]
        repeat' first
          | ((with_reducible refine Nx.is_wp ?_); first | refine Nx.wo ?_ | refine Nx.p_dec rfl rfl (fun hc => ?_) (fun hc => ?_) | refine Nx.p_bool rfl rfl (fun hc => ?_) (fun hc => ?_))
          | ((first | refine Nx.at_op rfl rfl ?_ | refine Nx.m_loud rfl rfl rfl ?_ | refine Nx.at_do rfl rfl rfl rfl ?_ | refine Nx.m_loud_do rfl rfl rfl rfl rfl ?_); first | (refine Nx.neq_s rfl rfl rfl ?_; rw [t1]) | refine Nx.opr rfl rfl ?_ | refine Nx.load rfl rfl rfl (Rd.vecFld 2 ouC_len rfl (by omega) 4 rfl) ?_ | refine Nx.so ?_ | refine Nx.sb (fun bx => ?_) | refine Nx.sa (fun A2 c2 => ?_))
          | ((with_reducible refine Nx.is_at ?_); first | refine Nx.a ?_ | ((fail_if_success refine Nx.at_do rfl rfl rfl rfl ?_); first | refine Nx.at_dec_t rfl rfl rfl rfl (by first | assumption | omega) ?_ | refine Nx.at_dec_f rfl rfl rfl rfl (by first | assumption | omega) ?_ | refine Nx.at_split rfl rfl rfl rfl (fun hc => ?_) (fun hc => ?_) | refine Nx.at_splitb rfl rfl rfl rfl (fun hc => ?_) (fun hc => ?_)))
          | ((with_reducible refine Nx.is_mix ?_); first | refine Nx.m ?_ | ((fail_if_success refine Nx.m_quiet_do rfl rfl rfl rfl rfl rfl rfl ?_ ?_); (fail_if_success refine Nx.m_loud_do rfl rfl rfl rfl rfl ?_); first | refine Nx.m_dec_t rfl rfl rfl rfl (by first | assumption | omega) ?_ | refine Nx.m_dec_f rfl rfl rfl rfl (by first | assumption | omega) ?_ | refine Nx.m_split rfl rfl rfl rfl (fun hc => ?_) (fun hc => ?_) | refine Nx.m_splitb rfl rfl rfl rfl (fun hc => ?_) (fun hc => ?_)))
          | ((fail_if_success (with_reducible refine Nx.is_at ?_)); (fail_if_success (with_reducible refine Nx.is_wp ?_)); (fail_if_success (with_reducible refine Nx.is_mix ?_)); first | refine Nx.ex ?_)
        exact Nx.imm_le hI1 (Nx.ret_fn rfl [rowR A' c' l', Stars (l'.map sigR)] ⟨A', c', l', rfl, hl', rfl⟩ ((sig_back hk').trans (by (exact Ent.auto))))
      | true =>
        have hE : signE (l.map (·.1)) ro d (k + 1) p t text = 0 := by unfold signE; rw [if_neg hE0, hat, if_neg a1', if_neg (by simpa using t1)]
        rw [show signL (l.map (·.1)) ro d (k + 1) p t text = putL (l.map (·.1)) (k + 1) (signO (atL (l.map (·.1)) (k + 1)) p t) from if_pos hE, hE]
        repeat' first
          | ((with_reducible refine Nx.is_wp ?_); first | refine Nx.wo ?_ | refine Nx.p_dec rfl rfl (fun hc => ?_) (fun hc => ?_) | refine Nx.p_bool rfl rfl (fun hc => ?_) (fun hc => ?_))
          | ((first | refine Nx.at_op rfl rfl ?_ | refine Nx.m_loud rfl rfl rfl ?_ | refine Nx.at_do rfl rfl rfl rfl ?_ | refine Nx.m_loud_do rfl rfl rfl rfl rfl ?_); first | (refine Nx.neq_s rfl rfl rfl ?_; rw [t1]) | refine Nx.opr rfl rfl ?_ | refine Nx.load rfl rfl rfl (Rd.vecFld 2 ouC_len rfl (by omega) 4 rfl) ?_ | refine Nx.so ?_ | refine Nx.sb (fun bx => ?_) | refine Nx.sa (fun A2 c2 => ?_))
          | ((with_reducible refine Nx.is_at ?_); first | refine Nx.a ?_ | ((fail_if_success refine Nx.at_do rfl rfl rfl rfl ?_); first | refine Nx.at_dec_t rfl rfl rfl rfl (by first | assumption | omega) ?_ | refine Nx.at_dec_f rfl rfl rfl rfl (by first | assumption | omega) ?_ | refine Nx.at_split rfl rfl rfl rfl (fun hc => ?_) (fun hc => ?_) | refine Nx.at_splitb rfl rfl rfl rfl (fun hc => ?_) (fun hc => ?_)))
          | ((with_reducible refine Nx.is_mix ?_); first | refine Nx.m ?_ | ((fail_if_success refine Nx.m_quiet_do rfl rfl rfl rfl rfl rfl rfl ?_ ?_); (fail_if_success refine Nx.m_loud_do rfl rfl rfl rfl rfl ?_); first | refine Nx.m_dec_t rfl rfl rfl rfl (by first | assumption | omega) ?_ | refine Nx.m_dec_f rfl rfl rfl rfl (by first | assumption | omega) ?_ | refine Nx.m_split rfl rfl rfl rfl (fun hc => ?_) (fun hc => ?_) | refine Nx.m_splitb rfl rfl rfl rfl (fun hc => ?_) (fun hc => ?_)))
          | ((fail_if_success (with_reducible refine Nx.is_at ?_)); (fail_if_success (with_reducible refine Nx.is_wp ?_)); (fail_if_success (with_reducible refine Nx.is_mix ?_)); first | refine Nx.ex ?_)
        refine Nx.weak (e' := [(5, .int .i64 t), (11, .pointer (some ⟨b11, 0, none⟩)), (16, .slice A' l'.length c'), (18, .pointer (some ((ad A').add (k * 7))))]) (R' := [sigR (l'.getD k default), rowR A' c' l', Stars ((l'.map sigR).eraseIdx k), F]) ⟨rfl, rfl, rfl, rfl, trivial⟩ (by (exact Ent.auto)) ?_
        repeat' first
          | ((with_reducible refine Nx.is_wp ?_); first | refine Nx.p_stopr 11 rfl ?_ | refine Nx.wo ?_ | refine Nx.p_drawF (id := 10) rfl [0, 1, 2, 3, 4, 5, 6, 7, 8, 9, 10, 11] [8, 9] [12] _ rfl rfl (by kernel_rfl) (by kernel_rfl) rfl (by repeat first | exact PanicOk.fn | refine PanicOk.then_ ?_ | refine PanicOk.inB ?_) (Ent.eraseK 0 _) ?_ | refine Nx.p_dec rfl rfl (fun hc => ?_) (fun hc => ?_) | refine Nx.p_bool rfl rfl (fun hc => ?_) (fun hc => ?_))
          | ((first | refine Nx.at_op rfl rfl ?_ | refine Nx.m_loud rfl rfl rfl ?_ | refine Nx.at_do rfl rfl rfl rfl ?_ | refine Nx.m_loud_do rfl rfl rfl rfl rfl ?_); first | refine Nx.opr rfl rfl ?_ | refine Nx.store_fld 1 rfl rfl rfl rfl rfl rfl (by omega) ?_ | refine Nx.so ?_ | refine Nx.sb (fun bx => ?_) | refine Nx.sa (fun A2 c2 => ?_))
          | ((with_reducible refine Nx.is_at ?_); first | refine Nx.a ?_ | ((fail_if_success refine Nx.at_do rfl rfl rfl rfl ?_); first | refine Nx.at_dec_t rfl rfl rfl rfl (by first | assumption | omega) ?_ | refine Nx.at_dec_f rfl rfl rfl rfl (by first | assumption | omega) ?_ | refine Nx.at_split rfl rfl rfl rfl (fun hc => ?_) (fun hc => ?_) | refine Nx.at_splitb rfl rfl rfl rfl (fun hc => ?_) (fun hc => ?_)))
          | ((with_reducible refine Nx.is_mix ?_); first | refine Nx.m_quiet rfl rfl rfl rfl rfl (by first | exact QRun.fld (A := (ad A').add (k * 7)) rfl rfl | exact QRun.opr rfl | exact QRun.load rfl rfl (Rd.vecFld 0 ouC_len rfl (by omega) 6 rfl) | exact QRun.load rfl rfl (hb _ _)) ?_ | refine Nx.m_quiet_do rfl rfl rfl rfl rfl rfl rfl (by first | exact QRun.fld (A := (ad A').add (k * 7)) rfl rfl | exact QRun.opr rfl | exact QRun.load rfl rfl (Rd.vecFld 0 ouC_len rfl (by omega) 6 rfl) | exact QRun.load rfl rfl (hb _ _)) ?_ | refine Nx.m ?_ | ((fail_if_success refine Nx.m_quiet_do rfl rfl rfl rfl rfl rfl rfl ?_ ?_); (fail_if_success refine Nx.m_loud_do rfl rfl rfl rfl rfl ?_); first | refine Nx.m_dec_t rfl rfl rfl rfl (by first | assumption | omega) ?_ | refine Nx.m_dec_f rfl rfl rfl rfl (by first | assumption | omega) ?_ | refine Nx.m_split rfl rfl rfl rfl (fun hc => ?_) (fun hc => ?_) | refine Nx.m_splitb rfl rfl rfl rfl (fun hc => ?_) (fun hc => ?_)))
          | ((fail_if_success (with_reducible refine Nx.is_at ?_)); (fail_if_success (with_reducible refine Nx.is_wp ?_)); (fail_if_success (with_reducible refine Nx.is_mix ?_)); first | refine Nx.ex ?_)
        have hsl : ((l'.getD k default).1.sg ++ [(p, t)]).length = (l'.getD k default).1.sg.length + 1 := by simp
        have hgs : ∀ y : OutM, (l'.set k y).getD k default = y := fun y => by rw [List.getD_eq_getElem?_getD, List.getElem?_set_self hk']; rfl
        rw [flat_set ouC_len (x' := (({ (l'.getD k default).1 with sg := (l'.getD k default).1.sg ++ [(p, t)] }, A2, c2) : OutM)) hk' (by omega) (by unfold ouC; dsimp only; rw [hsl]; rfl)]
        generalize hy1 : (({ (l'.getD k default).1 with sg := (l'.getD k default).1.sg ++ [(p, t)] }, A2, c2) : OutM) = y1
        have hy1s : y1.1.sg = (l'.getD k default).1.sg ++ [(p, t)] := by rw [← hy1]
        have hl1s : (l'.set k y1).length = l'.length := List.length_set
        refine unstop (Nx.weak (e' := [(16, .slice A' l'.length c'), (18, .pointer (some ((ad A').add (k * 7))))]) (R' := [Vec 50 7 A' l'.length c' ((l'.set k y1).flatMap ouC), sigR y1, Stars ((l'.map sigR).eraseIdx k), F]) ⟨rfl, rfl, trivial⟩ (by subst hy1; unfold sigR sigsR; dsimp only; rw [hsl, List.flatMap_append]; (exact Ent.auto)) ?_)
        repeat' first
          | ((with_reducible refine Nx.is_wp ?_); first | refine Nx.p_stop 12 rfl ?_ | refine Nx.wo ?_ | refine Nx.p_dec rfl rfl (fun hc => ?_) (fun hc => ?_) | refine Nx.p_bool rfl rfl (fun hc => ?_) (fun hc => ?_))
          | ((first | refine Nx.at_op rfl rfl ?_ | refine Nx.m_loud rfl rfl rfl ?_ | refine Nx.at_do rfl rfl rfl rfl ?_ | refine Nx.m_loud_do rfl rfl rfl rfl rfl ?_); first | refine Nx.opr rfl rfl ?_ | refine Nx.store_fld 0 rfl rfl rfl rfl rfl rfl (by omega) ?_ | refine Nx.so ?_ | refine Nx.sb (fun bx => ?_) | refine Nx.sa (fun A2 c2 => ?_))
          | ((with_reducible refine Nx.is_at ?_); first | refine Nx.a ?_ | ((fail_if_success refine Nx.at_do rfl rfl rfl rfl ?_); first | refine Nx.at_dec_t rfl rfl rfl rfl (by first | assumption | omega) ?_ | refine Nx.at_dec_f rfl rfl rfl rfl (by first | assumption | omega) ?_ | refine Nx.at_split rfl rfl rfl rfl (fun hc => ?_) (fun hc => ?_) | refine Nx.at_splitb rfl rfl rfl rfl (fun hc => ?_) (fun hc => ?_)))
          | ((with_reducible refine Nx.is_mix ?_); first | refine Nx.m ?_ | ((fail_if_success refine Nx.m_quiet_do rfl rfl rfl rfl rfl rfl rfl ?_ ?_); (fail_if_success refine Nx.m_loud_do rfl rfl rfl rfl rfl ?_); first | refine Nx.m_dec_t rfl rfl rfl rfl (by first | assumption | omega) ?_ | refine Nx.m_dec_f rfl rfl rfl rfl (by first | assumption | omega) ?_ | refine Nx.m_split rfl rfl rfl rfl (fun hc => ?_) (fun hc => ?_) | refine Nx.m_splitb rfl rfl rfl rfl (fun hc => ?_) (fun hc => ?_)))
          | ((fail_if_success (with_reducible refine Nx.is_at ?_)); (fail_if_success (with_reducible refine Nx.is_wp ?_)); (fail_if_success (with_reducible refine Nx.is_mix ?_)); first | refine Nx.ex ?_)
        rw [flat_set ouC_len (x' := (setSt y1.1 2, y1.2)) (by omega) (by omega) (by rw [hgs]; rfl), List.set_set]
        have hg2 := hgs (setSt y1.1 2, y1.2)
        have hl2s : (l'.set k (setSt y1.1 2, y1.2)).length = l'.length := List.length_set
        have hfin : ∀ st : Int, st = (if (l'.getD k default).1.sg.length = 1 then 3 else 2) → (l'.set k (setSt y1.1 st, y1.2)).map (·.1) = putL (l.map (·.1)) (k + 1) (signO (atL (l.map (·.1)) (k + 1)) p t) := fun st hst => by
          unfold putL
          rw [hat, hk1, map_set_log hl', ← hy1, hst]
          rfl
        generalize hL2 : l'.set k (setSt y1.1 2, y1.2) = L2 at hg2 hl2s
        refine unstop ?_
        by_cases n1 : (l'.getD k default).1.sg.length = 1
        · repeat' first
            | ((with_reducible refine Nx.is_wp ?_); first | refine Nx.wo ?_ | refine Nx.p_dec rfl rfl (fun hc => ?_) (fun hc => ?_) | refine Nx.p_bool rfl rfl (fun hc => ?_) (fun hc => ?_))
            | ((first | refine Nx.at_op rfl rfl ?_ | refine Nx.m_loud rfl rfl rfl ?_ | refine Nx.at_do rfl rfl rfl rfl ?_ | refine Nx.m_loud_do rfl rfl rfl rfl rfl ?_); first | refine Nx.opr rfl rfl ?_ | (refine Nx.load rfl rfl rfl (Rd.vecFld 0 ouC_len rfl (by omega) 6 rfl) ?_; rw [hg2, show (setSt y1.1 2).sg.length = 2 by show y1.1.sg.length = 2; rw [hy1s, hsl, n1]]) | refine Nx.store_fld 0 rfl rfl rfl rfl rfl rfl (by omega) ?_ | refine Nx.so ?_ | refine Nx.sb (fun bx => ?_) | refine Nx.sa (fun A2 c2 => ?_))
            | ((with_reducible refine Nx.is_at ?_); first | refine Nx.a ?_ | ((fail_if_success refine Nx.at_do rfl rfl rfl rfl ?_); first | refine Nx.at_dec_t rfl rfl rfl rfl (by first | assumption | omega) ?_ | refine Nx.at_dec_f rfl rfl rfl rfl (by first | assumption | omega) ?_ | refine Nx.at_split rfl rfl rfl rfl (fun hc => ?_) (fun hc => ?_) | refine Nx.at_splitb rfl rfl rfl rfl (fun hc => ?_) (fun hc => ?_)))
            | ((with_reducible refine Nx.is_mix ?_); first | refine Nx.m ?_ | ((fail_if_success refine Nx.m_quiet_do rfl rfl rfl rfl rfl rfl rfl ?_ ?_); (fail_if_success refine Nx.m_loud_do rfl rfl rfl rfl rfl ?_); first | refine Nx.m_dec_t rfl rfl rfl rfl (by first | assumption | omega) ?_ | refine Nx.m_dec_f rfl rfl rfl rfl (by first | assumption | omega) ?_ | refine Nx.m_split rfl rfl rfl rfl (fun hc => ?_) (fun hc => ?_) | refine Nx.m_splitb rfl rfl rfl rfl (fun hc => ?_) (fun hc => ?_)))
            | ((fail_if_success (with_reducible refine Nx.is_at ?_)); (fail_if_success (with_reducible refine Nx.is_wp ?_)); (fail_if_success (with_reducible refine Nx.is_mix ?_)); first | refine Nx.ex ?_)
          rw [flat_set ouC_len (x' := (setSt y1.1 3, y1.2)) (by omega) (by omega) (by rw [hg2]; rfl), ← hL2, List.set_set]
          exact Nx.imm_le hI1 (Nx.ret_fn rfl [rowR A' c' (l'.set k (setSt y1.1 3, y1.2)), Stars ((l'.set k (setSt y1.1 3, y1.2)).map sigR)] ⟨A', c', _, by rw [List.length_set], hfin 3 (by rw [if_pos n1]), rfl⟩ ((Ent.trans (R' := [sigR (setSt y1.1 3, y1.2), Stars ((l'.map sigR).eraseIdx k), rowR A' c' (l'.set k (setSt y1.1 3, y1.2)), F]) (by unfold rowR; rw [List.length_set]; (exact Ent.auto)) (sig_new hk' _)).trans (by (exact Ent.auto))))
        · repeat' first
            | ((with_reducible refine Nx.is_wp ?_); first | refine Nx.wo ?_ | refine Nx.p_dec rfl rfl (fun hc => ?_) (fun hc => ?_) | refine Nx.p_bool rfl rfl (fun hc => ?_) (fun hc => ?_))
            | ((first | refine Nx.at_op rfl rfl ?_ | refine Nx.m_loud rfl rfl rfl ?_ | refine Nx.at_do rfl rfl rfl rfl ?_ | refine Nx.m_loud_do rfl rfl rfl rfl rfl ?_); first | refine Nx.opr rfl rfl ?_ | (refine Nx.load rfl rfl rfl (Rd.vecFld 0 ouC_len rfl (by omega) 6 rfl) ?_; rw [hg2, show (setSt y1.1 2).sg.length = (l'.getD k default).1.sg.length + 1 by show y1.1.sg.length = _; rw [hy1s, hsl]]) | refine Nx.so ?_ | refine Nx.sb (fun bx => ?_) | refine Nx.sa (fun A2 c2 => ?_))
            | ((with_reducible refine Nx.is_at ?_); first | refine Nx.a ?_ | ((fail_if_success refine Nx.at_do rfl rfl rfl rfl ?_); first | refine Nx.at_dec_t rfl rfl rfl rfl (by first | assumption | omega) ?_ | refine Nx.at_dec_f rfl rfl rfl rfl (by first | assumption | omega) ?_ | refine Nx.at_split rfl rfl rfl rfl (fun hc => ?_) (fun hc => ?_) | refine Nx.at_splitb rfl rfl rfl rfl (fun hc => ?_) (fun hc => ?_)))
            | ((with_reducible refine Nx.is_mix ?_); first | refine Nx.m ?_ | ((fail_if_success refine Nx.m_quiet_do rfl rfl rfl rfl rfl rfl rfl ?_ ?_); (fail_if_success refine Nx.m_loud_do rfl rfl rfl rfl rfl ?_); first | refine Nx.m_dec_t rfl rfl rfl rfl (by first | assumption | omega) ?_ | refine Nx.m_dec_f rfl rfl rfl rfl (by first | assumption | omega) ?_ | refine Nx.m_split rfl rfl rfl rfl (fun hc => ?_) (fun hc => ?_) | refine Nx.m_splitb rfl rfl rfl rfl (fun hc => ?_) (fun hc => ?_)))
            | ((fail_if_success (with_reducible refine Nx.is_at ?_)); (fail_if_success (with_reducible refine Nx.is_wp ?_)); (fail_if_success (with_reducible refine Nx.is_mix ?_)); first | refine Nx.ex ?_)
          rw [← hL2]
          exact Nx.imm_le hI1 (Nx.ret_fn rfl [rowR A' c' (l'.set k (setSt y1.1 2, y1.2)), Stars ((l'.set k (setSt y1.1 2, y1.2)).map sigR)] ⟨A', c', _, by rw [List.length_set], hfin 2 (by rw [if_neg n1]), rfl⟩ ((Ent.trans (R' := [sigR (setSt y1.1 2, y1.2), Stars ((l'.map sigR).eraseIdx k), rowR A' c' (l'.set k (setSt y1.1 2, y1.2)), F]) (by unfold rowR; rw [List.length_set]; (exact Ent.auto)) (sig_new hk' _)).trans (by (exact Ent.auto))))
  · have hE : signE (l.map (·.1)) ro d number p t text = touchE (l.map (·.1)) ro d number p t := if_pos e0
    rw [show signL (l.map (·.1)) ro d number p t text = l.map (·.1) from if_neg (by rw [hE]; exact e0), hE]
    repeat' first
      | ((with_reducible refine Nx.is_wp ?_); first | refine Nx.wo ?_ | refine Nx.p_dec rfl rfl (fun hc => ?_) (fun hc => ?_) | refine Nx.p_bool rfl rfl (fun hc => ?_) (fun hc => ?_))
      | ((first | refine Nx.at_op rfl rfl ?_ | refine Nx.m_loud rfl rfl rfl ?_ | refine Nx.at_do rfl rfl rfl rfl ?_ | refine Nx.m_loud_do rfl rfl rfl rfl rfl ?_); first | refine Nx.opr rfl rfl ?_ | refine Nx.buildA rfl rfl rfl rfl ?_ | refine Nx.load rfl rfl rfl (hb _ _) ?_ | refine Nx.callv rfl rfl rfl (by kernel_rfl) rfl hA ?_ | refine Nx.so ?_ | refine Nx.sb (fun bx => ?_) | refine Nx.sa (fun A2 c2 => ?_))
      | ((with_reducible refine Nx.is_at ?_); first | refine Nx.a ?_ | ((fail_if_success refine Nx.at_do rfl rfl rfl rfl ?_); first | refine Nx.at_dec_t rfl rfl rfl rfl (by first | assumption | omega) ?_ | refine Nx.at_dec_f rfl rfl rfl rfl (by first | assumption | omega) ?_ | refine Nx.at_split rfl rfl rfl rfl (fun hc => ?_) (fun hc => ?_) | refine Nx.at_splitb rfl rfl rfl rfl (fun hc => ?_) (fun hc => ?_)))
      | ((with_reducible refine Nx.is_mix ?_); first | refine Nx.m ?_ | ((fail_if_success refine Nx.m_quiet_do rfl rfl rfl rfl rfl rfl rfl ?_ ?_); (fail_if_success refine Nx.m_loud_do rfl rfl rfl rfl rfl ?_); first | refine Nx.m_dec_t rfl rfl rfl rfl (by first | assumption | omega) ?_ | refine Nx.m_dec_f rfl rfl rfl rfl (by first | assumption | omega) ?_ | refine Nx.m_split rfl rfl rfl rfl (fun hc => ?_) (fun hc => ?_) | refine Nx.m_splitb rfl rfl rfl rfl (fun hc => ?_) (fun hc => ?_)))
      | ((fail_if_success (with_reducible refine Nx.is_at ?_)); (fail_if_success (with_reducible refine Nx.is_wp ?_)); (fail_if_success (with_reducible refine Nx.is_mix ?_)); first | refine Nx.ex ?_)
    exact Nx.imm_le hI1 (Nx.ret_fn rfl [rowR A' c' l', Stars (l'.map sigR)] ⟨A', c', l', rfl, hl', rfl⟩ (by (exact Ent.auto)))
end Go.Proofs.Ytaoeapmdhpkidaa
/- Contracts of functions of the given program, and lemmas about plain lists and numbers: what the laws of this seat lean on. -/
namespace Go.Proofs.Ytaoeapmdhpkidaa
open Go.Eng
section
variable {P : Program} {W : World} {I : PH} {R : List Res} {t : TypeId} {A : Option Addr} {n c : Nat}
theorem setsAt_eq : ∀ (vs cs : List Value) (i : Nat), i + vs.length ≤ cs.length → setsAt cs i vs = some (cs.take i ++ vs ++ cs.drop (i + vs.length))
  | [], cs, i, _ => by simp [setsAt]
  | v :: vs, cs, i, h => by
    simp only [List.length_cons] at h
    have hset : ∀ (cs : List Value) (i : Nat), i < cs.length → setAt cs i v = some (cs.set i v) := by
      intro cs
      induction cs with
      | nil => intro i hi; simp at hi
      | cons c r ih =>
        intro i hi
        cases i with
        | zero => rfl
        | succ i =>
          simp only [setAt]
          rw [ih i (by simpa using hi)]
          rfl
    unfold setsAt
    rw [hset cs i (by omega)]
    show setsAt (cs.set i v) (i + 1) vs = _
    rw [setsAt_eq vs (cs.set i v) (i + 1) (by rw [List.length_set]; omega)]
    congr 1
    rw [List.drop_set_of_lt (by omega), List.length_cons, show i + 1 + vs.length = i + (vs.length + 1) by omega]
    rw [List.take_succ_eq_append_getElem (by rw [List.length_set]; omega), List.getElem_set_self, List.take_set_of_le (Nat.le_refl _)]
    simp
theorem patch_take {α : Type} {L vs : List α} {i N : Nat} (h : i + vs.length ≤ N) (hN : N ≤ L.length) : (L.take i ++ vs ++ L.drop (i + vs.length)).take N = (L.take N).take i ++ vs ++ (L.take N).drop (i + vs.length) := by
  have hl : (L.take i ++ vs).length = i + vs.length := by rw [List.length_append, List.length_take]; omega
  rw [List.take_append, List.take_of_length_le (by omega), hl, List.take_take, Nat.min_eq_left (by omega), List.drop_take]
/-- Several cells of an owned list are stored. -/
theorem Wr.vecNs {sz i : Nat} {xs vs : List Value} (hi : i + vs.length ≤ n * sz) (h0 : 0 < vs.length) (h1 : ∀ v ∈ vs, v.oneCell' = true) : Wr P W I (Vec t sz A n c xs :: R) ((ad A).add i) vs (Vec t sz A n c (xs.take i ++ vs ++ xs.drop (i + vs.length)) :: R) := by
  intro w hw
  obtain ⟨⟨m, ⟨m1, m2, hd, rfl, hv, h2⟩, hsat⟩, hst⟩ := id hw
  have hxl := hv.1
  rcases hv.2 with ⟨_, hn0, _⟩ | ⟨b, cur, rfl, hb, hnc, hcm, hsz, htake⟩
  · rw [hn0, Nat.zero_mul] at hi; omega
  have hb0 : w.heap[b]? = some (.cells cur t (0, 0)) := hsat.own _ _ (PH.le_or_left _ _ _ _ hb)
  have hle : n * sz ≤ c * sz := Nat.mul_le_mul_right _ hnc
  have hcl : cur.toList.length = c * sz := by rw [Array.length_toList]; exact hsz
  have hs1 := setsAt_eq vs cur.toList i (by omega)
  obtain ⟨w', hr, hb', hk', hst'⟩ := storeCells_from (P := P) vs cur.toList _ i 0 w (by simpa using hb0) hs1 h1
  refine ⟨w', ?_, ?_⟩
  · rw [ad_some, Addr.add_lit, Nat.zero_add]
    exact hr
  · refine hw.upd (o := .cells (cur.toList.take i ++ vs ++ cur.toList.drop (i + vs.length)).toArray t (0, 0)) (b := b) (fun mm hm => ?_) hb' (fun j hne o' ho => (hk' j hne).trans ho) hst'
    rcases hm.2 with ⟨he, _, _⟩ | ⟨b', cur', he, hb1, _, _, _, _⟩
    · cases he
    cases he
    refine ⟨by rw [hb1]; rfl, ?_, .inr ⟨b, (cur.toList.take i ++ vs ++ cur.toList.drop (i + vs.length)).toArray, rfl, by simp, hnc, hcm, ?_, ?_⟩⟩
    · simp only [List.length_append, List.length_take, List.length_drop]; omega
    · simp only [List.size_toArray, List.length_append, List.length_take, List.length_drop]; omega
    · rw [List.toList_toArray, ← htake]
      exact patch_take hi (by omega)
/-- An element of a list of structs is put anew. -/
theorem flat_put {α : Type} [Inhabited α] {f : α → List Value} {sz : Nat} (hf : ∀ x, (f x).length = sz) {l : List α} {k : Nat} (x' : α) (hk : k < l.length) : (l.flatMap f).take (k * sz) ++ f x' ++ (l.flatMap f).drop (k * sz + (f x').length) = (l.set k x').flatMap f := by
  have e : l = l.take k ++ l[k] :: l.drop (k + 1) := by rw [← List.drop_eq_getElem_cons hk, List.take_append_drop]
  have hfe : l.flatMap f = (l.take k).flatMap f ++ (f l[k] ++ (l.drop (k + 1)).flatMap f) := by
    have := congrArg (List.flatMap f) e
    rw [List.flatMap_append, List.flatMap_cons] at this
    exact this
  have hl0 : ((l.take k).flatMap f).length = k * sz := by rw [flat_len hf, List.length_take, Nat.min_eq_left (by omega)]
  have h1 : (l.flatMap f).take (k * sz) = (l.take k).flatMap f := by rw [hfe, ← hl0, List.take_left]
  have h2 : (l.flatMap f).drop (k * sz + sz) = (l.drop (k + 1)).flatMap f := by
    have hl : ((l.take k).flatMap f ++ f l[k]).length = k * sz + sz := by rw [List.length_append, hl0, hf]
    rw [hfe, ← List.append_assoc, ← hl, List.drop_left]
  rw [hf, h1, h2, List.set_eq_take_append_cons_drop, if_pos hk, List.flatMap_append, List.flatMap_cons, List.append_assoc]
end
end Go.Proofs.Ytaoeapmdhpkidaa
/- Contracts of functions of the given program, and lemmas about plain lists and numbers: what the laws of this seat lean on. -/
namespace Go.Proofs.Ytaoeapmdhpkidaa
open Go.Eng
theorem any_step {l : List Sig} {q : Sig → Bool} {j : Nat} (h : j < l.length) (hn : (l.take j).any q = false) : (l.take (j + 1)).any q = q (l.getD j default) := by
  rw [List.take_succ_eq_append_getElem h, List.any_append, hn, List.getD_eq_getElem?_getD, List.getElem?_eq_getElem h]
  simp
theorem any_at {l : List Sig} {q : Sig → Bool} {j : Nat} (h : j < l.length) (hq : q (l.getD j default) = true) : l.any q = true :=
  List.any_eq_true.2 ⟨l.getD j default, by rw [List.getD_eq_getElem?_getD, List.getElem?_eq_getElem h]; exact List.getElem_mem _, hq⟩
attribute [local irreducible] opK wpList Code.wp Exit.then Exit.inBlock fnPost bodyPost Nx Calls Oper.wp Rd Rds Wr Ent Stars Blk Again Vec FnSpec wpMix QRun Stop Upto wpAt
set_option maxHeartbeats 8000000 in
set_option maxRecDepth 10000 in
theorem RSign_spec (Ao : Option Addr) (co : Nat) (l : List OutM) (Ar : Option Addr) (cr : Nat) (ro : List Shift) (d number : Int) (p : List UInt8) (t : Int) (text : List UInt8) (I : PH) (hl : Outs I Ao co l) (hr : Shifts I Ar cr ro) (hro : ∀ y ∈ ro, shOk y) (hlo : ∀ x ∈ l, I64 x.1.n) (hn : I64 number) (h9 : l.length ≤ 1000) (hs9 : ∀ x ∈ l, x.1.sg.length ≤ 1000) :
    FnSpec Try.prog 36 [.slice Ao l.length co, .slice Ar ro.length cr, .int .i64 d, .int .i64 number, strV p, .int .i64 t, strV text] I [] (listE (signL (l.map (·.1)) ro d number p t text) (signE (l.map (·.1)) ro d number p t text)) := by
  have hA := touch_spec Ao co l Ar cr ro d number p t I hl hr hro hlo hn
  refine FnSpec.enterP Try.func36 rfl Try.ntmps36 rfl fun w F => ?_
  repeat' first
    | ((with_reducible refine Nx.is_wp ?_); first | refine Nx.wo ?_ | refine Nx.p_dec rfl rfl (fun hc => ?_) (fun hc => ?_) | refine Nx.p_bool rfl rfl (fun hc => ?_) (fun hc => ?_))
    | ((first | refine Nx.at_op rfl rfl ?_ | refine Nx.m_loud rfl rfl rfl ?_ | refine Nx.at_do rfl rfl rfl rfl ?_ | refine Nx.m_loud_do rfl rfl rfl rfl rfl ?_); first | refine Nx.opr rfl rfl ?_ | refine Nx.so ?_ | refine Nx.sb (fun bx => ?_) | refine Nx.sa (fun A2 c2 => ?_))
    | ((with_reducible refine Nx.is_at ?_); first | refine Nx.a ?_ | ((fail_if_success refine Nx.at_do rfl rfl rfl rfl ?_); first | refine Nx.at_dec_t rfl rfl rfl rfl (by first | assumption | omega) ?_ | refine Nx.at_dec_f rfl rfl rfl rfl (by first | assumption | omega) ?_ | refine Nx.at_split rfl rfl rfl rfl (fun hc => ?_) (fun hc => ?_) | refine Nx.at_splitb rfl rfl rfl rfl (fun hc => ?_) (fun hc => ?_)))
    | ((with_reducible refine Nx.is_mix ?_); first | refine Nx.m ?_ | ((fail_if_success refine Nx.m_quiet_do rfl rfl rfl rfl rfl rfl rfl ?_ ?_); (fail_if_success refine Nx.m_loud_do rfl rfl rfl rfl rfl ?_); first | refine Nx.m_dec_t rfl rfl rfl rfl (by first | assumption | omega) ?_ | refine Nx.m_dec_f rfl rfl rfl rfl (by first | assumption | omega) ?_ | refine Nx.m_split rfl rfl rfl rfl (fun hc => ?_) (fun hc => ?_) | refine Nx.m_splitb rfl rfl rfl rfl (fun hc => ?_) (fun hc => ?_)))
    | ((fail_if_success (with_reducible refine Nx.is_at ?_)); (fail_if_success (with_reducible refine Nx.is_wp ?_)); (fail_if_success (with_reducible refine Nx.is_mix ?_)); first | refine Nx.ex ?_)
  refine Nx.at_op rfl rfl ?_
  refine Nx.call rfl rfl rfl (by kernel_rfl) rfl (RCopy_spec Ao co l I hl h9 hs9) (by (exact Ent.auto)) ?_
  rintro _ _ ⟨A', c', l', rfl, hl', rfl⟩
  have hll : l'.length = l.length := by have := congrArg List.length hl'; simpa using this
  by_cases e0 : touchE (l.map (·.1)) ro d number p t = 0
  · obtain ⟨_, k, hk, rfl, _⟩ := touch_ok e0
    rw [List.length_map] at hk
    have hk1 : ((k : Int) + 1 - 1).toNat = k := by omega
    have hk' : k < l'.length := by omega
    have hat : atL (l.map (·.1)) (k + 1) = (l'.getD k default).1 := by unfold atL; rw [hk1, ← hl', lo_at hk']
    rw [e0] at hA
    have hE0 : ¬ touchE (l.map (·.1)) ro d (k + 1) p t ≠ 0 := by omega
    have hs10 : (l'.getD k default).1.sg.length ≤ 1000 := by
      have := hs9 _ (om_mem hk)
      rw [← lo_at hk, ← hl', lo_at hk'] at this
      exact this
    refine Nx.vec_fact fun hv1 hv2 hv3 hA' => ?_
    repeat' first
      | ((with_reducible refine Nx.is_wp ?_); first | refine Nx.wo ?_ | refine Nx.p_dec rfl rfl (fun hc => ?_) (fun hc => ?_) | refine Nx.p_bool rfl rfl (fun hc => ?_) (fun hc => ?_))
      | ((first | refine Nx.at_op rfl rfl ?_ | refine Nx.m_loud rfl rfl rfl ?_ | refine Nx.at_do rfl rfl rfl rfl ?_ | refine Nx.m_loud_do rfl rfl rfl rfl rfl ?_); first | refine Nx.opr rfl rfl ?_ | refine Nx.callv rfl rfl rfl (by kernel_rfl) rfl hA ?_ | (refine Nx.indexAddr rfl rfl rfl rfl rfl (by omega) (by omega) (hA' (by omega)) ?_; rw [hk1]) | refine Nx.loads rfl rfl rfl rfl (Rds.vecN 0 ouC_len rfl (by omega)) rfl ?_ | refine Nx.so ?_ | refine Nx.sb (fun bx => ?_) | refine Nx.sa (fun A2 c2 => ?_))
      | ((with_reducible refine Nx.is_at ?_); first | refine Nx.a ?_ | ((fail_if_success refine Nx.at_do rfl rfl rfl rfl ?_); first | refine Nx.at_dec_t rfl rfl rfl rfl (by first | assumption | omega) ?_ | refine Nx.at_dec_f rfl rfl rfl rfl (by first | assumption | omega) ?_ | refine Nx.at_split rfl rfl rfl rfl (fun hc => ?_) (fun hc => ?_) | refine Nx.at_splitb rfl rfl rfl rfl (fun hc => ?_) (fun hc => ?_)))
      | ((with_reducible refine Nx.is_mix ?_); first | refine Nx.m ?_ | ((fail_if_success refine Nx.m_quiet_do rfl rfl rfl rfl rfl rfl rfl ?_ ?_); (fail_if_success refine Nx.m_loud_do rfl rfl rfl rfl rfl ?_); first | refine Nx.m_dec_t rfl rfl rfl rfl (by first | assumption | omega) ?_ | refine Nx.m_dec_f rfl rfl rfl rfl (by first | assumption | omega) ?_ | refine Nx.m_split rfl rfl rfl rfl (fun hc => ?_) (fun hc => ?_) | refine Nx.m_splitb rfl rfl rfl rfl (fun hc => ?_) (fun hc => ?_)))
      | ((fail_if_success (with_reducible refine Nx.is_at ?_)); (fail_if_success (with_reducible refine Nx.is_wp ?_)); (fail_if_success (with_reducible refine Nx.is_mix ?_)); first | refine Nx.ex ?_)
    revert bx; intro b18
    refine Nx.ent (R' := [Stars (l'.map sigR), Blk b18 50 (ouC (l'.getD k default)), rowR A' c' l', F]) (by (exact Ent.auto)) ?_
    refine Nx.ent (Ent.takeOut k (sig_get hk')) ?_
    refine Nx.vec_fact fun hu1 hu2 hu3 hS' => ?_
    refine Nx.p_loop (σ := Nat) (fun j => [(3, .int .i64 ((k : Int) + 1)), (4, strV p), (5, .int .i64 t), (6, strV text), (16, .slice A' l'.length c'), (18, .pointer (some ⟨b18, 0, none⟩)), (40, .slice (l'.getD k default).2.1 (l'.getD k default).1.sg.length (l'.getD k default).2.2), (41, .int .i64 (l'.getD k default).1.sg.length), (42, .int .i64 (j : Int))])
      (fun _ => [sigR (l'.getD k default), Blk b18 50 (ouC (l'.getD k default)), rowR A' c' l', Stars ((l'.map sigR).eraseIdx k), F]) (fun j => j ≤ (l'.getD k default).1.sg.length ∧ ((l'.getD k default).1.sg.take j).any (fun s => s.1 == p) = false) (fun j => (l'.getD k default).1.sg.length - j) 0 rfl ⟨Nat.zero_le _, rfl⟩ ⟨rfl, rfl, rfl, rfl, rfl, rfl, rfl, rfl, rfl, trivial⟩ (by (exact Ent.auto)) ?_
    rintro j ⟨hj, hnone⟩
    by_cases hlt : j < (l'.getD k default).1.sg.length
    · have hnext := any_step (q := fun s => s.1 == p) hlt hnone
      cases q1 : (((l'.getD k default).1.sg.getD j default).1 == p) with
      | true =>
        have a1 : (l'.getD k default).1.sg.any (fun s => s.1 == p) = true := any_at (q := fun s => s.1 == p) hlt q1
        have hE : signE (l.map (·.1)) ro d (k + 1) p t text = 46 := by unfold signE; rw [if_neg hE0, hat, if_pos a1]
        rw [show signL (l.map (·.1)) ro d (k + 1) p t text = l.map (·.1) from if_neg (by rw [hE]; decide), hE]
        repeat' first
          | ((with_reducible refine Nx.is_wp ?_); first | refine Nx.wo ?_ | refine Nx.p_dec rfl rfl (fun hc => ?_) (fun hc => ?_) | refine Nx.p_bool rfl rfl (fun hc => ?_) (fun hc => ?_))
          | ((first | refine Nx.at_op rfl rfl ?_ | refine Nx.m_loud rfl rfl rfl ?_ | refine Nx.at_do rfl rfl rfl rfl ?_ | refine Nx.m_loud_do rfl rfl rfl rfl rfl ?_); first | (refine Nx.eql_s rfl rfl rfl ?_; rw [q1]) | refine Nx.opr rfl rfl ?_ | refine Nx.indexAddr_nat rfl rfl rfl rfl rfl (by omega) (hS' (by omega)) ?_ | refine Nx.loads rfl rfl rfl rfl (Rds.vecN 0 sgC_len rfl (by omega)) rfl ?_ | refine Nx.so ?_ | refine Nx.sb (fun bx => ?_) | refine Nx.sa (fun A2 c2 => ?_))
          | ((with_reducible refine Nx.is_at ?_); first | refine Nx.a ?_ | ((fail_if_success refine Nx.at_do rfl rfl rfl rfl ?_); first | refine Nx.at_dec_t rfl rfl rfl rfl (by first | assumption | omega) ?_ | refine Nx.at_dec_f rfl rfl rfl rfl (by first | assumption | omega) ?_ | refine Nx.at_split rfl rfl rfl rfl (fun hc => ?_) (fun hc => ?_) | refine Nx.at_splitb rfl rfl rfl rfl (fun hc => ?_) (fun hc => ?_)))
          | ((with_reducible refine Nx.is_mix ?_); first | refine Nx.m ?_ | ((fail_if_success refine Nx.m_quiet_do rfl rfl rfl rfl rfl rfl rfl ?_ ?_); (fail_if_success refine Nx.m_loud_do rfl rfl rfl rfl rfl ?_); first | refine Nx.m_dec_t rfl rfl rfl rfl (by first | assumption | omega) ?_ | refine Nx.m_dec_f rfl rfl rfl rfl (by first | assumption | omega) ?_ | refine Nx.m_split rfl rfl rfl rfl (fun hc => ?_) (fun hc => ?_) | refine Nx.m_splitb rfl rfl rfl rfl (fun hc => ?_) (fun hc => ?_)))
          | ((fail_if_success (with_reducible refine Nx.is_at ?_)); (fail_if_success (with_reducible refine Nx.is_wp ?_)); (fail_if_success (with_reducible refine Nx.is_mix ?_)); first | refine Nx.ex ?_)
        exact Nx.ret_fn rfl [rowR A' c' l', Stars (l'.map sigR)] ⟨A', c', l', rfl, hl', rfl⟩ ((Ent.trans (R' := [sigR (l'.getD k default), Stars ((l'.map sigR).eraseIdx k), rowR A' c' l', F]) (by (exact Ent.auto)) (sig_back hk')).trans (by (exact Ent.auto)))
      | false =>
        repeat' first
          | ((with_reducible refine Nx.is_wp ?_); first | refine Nx.wo ?_ | refine Nx.p_dec rfl rfl (fun hc => ?_) (fun hc => ?_) | refine Nx.p_bool rfl rfl (fun hc => ?_) (fun hc => ?_))
          | ((first | refine Nx.at_op rfl rfl ?_ | refine Nx.m_loud rfl rfl rfl ?_ | refine Nx.at_do rfl rfl rfl rfl ?_ | refine Nx.m_loud_do rfl rfl rfl rfl rfl ?_); first | (refine Nx.eql_s rfl rfl rfl ?_; rw [q1]) | refine Nx.opr rfl rfl ?_ | refine Nx.indexAddr_nat rfl rfl rfl rfl rfl (by omega) (hS' (by omega)) ?_ | refine Nx.loads rfl rfl rfl rfl (Rds.vecN 0 sgC_len rfl (by omega)) rfl ?_ | refine Nx.so ?_ | refine Nx.sb (fun bx => ?_) | refine Nx.sa (fun A2 c2 => ?_))
          | ((with_reducible refine Nx.is_at ?_); first | refine Nx.a ?_ | ((fail_if_success refine Nx.at_do rfl rfl rfl rfl ?_); first | refine Nx.at_dec_t rfl rfl rfl rfl (by first | assumption | omega) ?_ | refine Nx.at_dec_f rfl rfl rfl rfl (by first | assumption | omega) ?_ | refine Nx.at_split rfl rfl rfl rfl (fun hc => ?_) (fun hc => ?_) | refine Nx.at_splitb rfl rfl rfl rfl (fun hc => ?_) (fun hc => ?_)))
          | ((with_reducible refine Nx.is_mix ?_); first | refine Nx.m ?_ | ((fail_if_success refine Nx.m_quiet_do rfl rfl rfl rfl rfl rfl rfl ?_ ?_); (fail_if_success refine Nx.m_loud_do rfl rfl rfl rfl rfl ?_); first | refine Nx.m_dec_t rfl rfl rfl rfl (by first | assumption | omega) ?_ | refine Nx.m_dec_f rfl rfl rfl rfl (by first | assumption | omega) ?_ | refine Nx.m_split rfl rfl rfl rfl (fun hc => ?_) (fun hc => ?_) | refine Nx.m_splitb rfl rfl rfl rfl (fun hc => ?_) (fun hc => ?_)))
          | ((fail_if_success (with_reducible refine Nx.is_at ?_)); (fail_if_success (with_reducible refine Nx.is_wp ?_)); (fail_if_success (with_reducible refine Nx.is_mix ?_)); first | refine Nx.ex ?_)
        exact Nx.again (j + 1) ⟨hlt, hnext.trans q1⟩ (by omega) ⟨rfl, rfl, rfl, rfl, rfl, rfl, rfl, rfl, rfl, trivial⟩ (by (exact Ent.auto))
    · obtain rfl : j = (l'.getD k default).1.sg.length := by omega
      rw [List.take_length] at hnone
      have a1' : ¬ (l'.getD k default).1.sg.any (fun s => s.1 == p) = true := by rw [hnone]; decide
      cases t1 : (text == (l'.getD k default).1.text) with
      | false =>
        have hE : signE (l.map (·.1)) ro d (k + 1) p t text = 49 := by unfold signE; rw [if_neg hE0, hat, if_neg a1', if_pos (by simpa using t1)]
        rw [show signL (l.map (·.1)) ro d (k + 1) p t text = l.map (·.1) from if_neg (by rw [hE]; decide), hE]
        repeat' first
          | ((with_reducible refine Nx.is_wp ?_); first | refine Nx.wo ?_ | refine Nx.p_dec rfl rfl (fun hc => ?_) (fun hc => ?_) | refine Nx.p_bool rfl rfl (fun hc => ?_) (fun hc => ?_))
          | ((first | refine Nx.at_op rfl rfl ?_ | refine Nx.m_loud rfl rfl rfl ?_ | refine Nx.at_do rfl rfl rfl rfl ?_ | refine Nx.m_loud_do rfl rfl rfl rfl rfl ?_); first | (refine Nx.neq_s rfl rfl rfl ?_; rw [t1]) | refine Nx.opr rfl rfl ?_ | refine Nx.so ?_ | refine Nx.sb (fun bx => ?_) | refine Nx.sa (fun A2 c2 => ?_))
          | ((with_reducible refine Nx.is_at ?_); first | refine Nx.a ?_ | ((fail_if_success refine Nx.at_do rfl rfl rfl rfl ?_); first | refine Nx.at_dec_t rfl rfl rfl rfl (by first | assumption | omega) ?_ | refine Nx.at_dec_f rfl rfl rfl rfl (by first | assumption | omega) ?_ | refine Nx.at_split rfl rfl rfl rfl (fun hc => ?_) (fun hc => ?_) | refine Nx.at_splitb rfl rfl rfl rfl (fun hc => ?_) (fun hc => ?_)))
          | ((with_reducible refine Nx.is_mix ?_); first | refine Nx.m ?_ | ((fail_if_success refine Nx.m_quiet_do rfl rfl rfl rfl rfl rfl rfl ?_ ?_); (fail_if_success refine Nx.m_loud_do rfl rfl rfl rfl rfl ?_); first | refine Nx.m_dec_t rfl rfl rfl rfl (by first | assumption | omega) ?_ | refine Nx.m_dec_f rfl rfl rfl rfl (by first | assumption | omega) ?_ | refine Nx.m_split rfl rfl rfl rfl (fun hc => ?_) (fun hc => ?_) | refine Nx.m_splitb rfl rfl rfl rfl (fun hc => ?_) (fun hc => ?_)))
          | ((fail_if_success (with_reducible refine Nx.is_at ?_)); (fail_if_success (with_reducible refine Nx.is_wp ?_)); (fail_if_success (with_reducible refine Nx.is_mix ?_)); first | refine Nx.ex ?_)
        exact Nx.ret_fn rfl [rowR A' c' l', Stars (l'.map sigR)] ⟨A', c', l', rfl, hl', rfl⟩ ((Ent.trans (R' := [sigR (l'.getD k default), Stars ((l'.map sigR).eraseIdx k), rowR A' c' l', F]) (by (exact Ent.auto)) (sig_back hk')).trans (by (exact Ent.auto)))
      | true =>
        have hE : signE (l.map (·.1)) ro d (k + 1) p t text = 0 := by unfold signE; rw [if_neg hE0, hat, if_neg a1', if_neg (by simpa using t1)]
        rw [show signL (l.map (·.1)) ro d (k + 1) p t text = putL (l.map (·.1)) (k + 1) (signO (atL (l.map (·.1)) (k + 1)) p t) from if_pos hE, hE]
        have hsl : ((l'.getD k default).1.sg ++ [(p, t)]).length = (l'.getD k default).1.sg.length + 1 := by simp
        have hfin : ∀ (st : Int) (a : Option Addr × Nat), st = (if (l'.getD k default).1.sg.length = 1 then 3 else 2) → (l'.set k (({ (l'.getD k default).1 with sg := (l'.getD k default).1.sg ++ [(p, t)], st := st }, a) : OutM)).map (·.1) = putL (l.map (·.1)) (k + 1) (signO (atL (l.map (·.1)) (k + 1)) p t) := fun st a hst => by
          unfold putL
          rw [hat, hk1, map_set_log hl', hst]
          rfl
        by_cases n1 : (l'.getD k default).1.sg.length = 1
        · repeat' first
            | ((with_reducible refine Nx.is_wp ?_); first | refine Nx.wo ?_ | refine Nx.p_dec rfl rfl (fun hc => ?_) (fun hc => ?_) | refine Nx.p_bool rfl rfl (fun hc => ?_) (fun hc => ?_))
            | ((first | refine Nx.at_op rfl rfl ?_ | refine Nx.m_loud rfl rfl rfl ?_ | refine Nx.at_do rfl rfl rfl rfl ?_ | refine Nx.m_loud_do rfl rfl rfl rfl rfl ?_); first | (refine Nx.neq_s rfl rfl rfl ?_; rw [t1]) | refine Nx.opr rfl rfl ?_ | (refine Nx.indexAddr rfl rfl rfl rfl rfl (by omega) (by omega) (hA' (by omega)) ?_; rw [hk1]) | refine Nx.so ?_ | refine Nx.sb (fun bx => ?_) | refine Nx.sa (fun A2 c2 => ?_))
            | ((with_reducible refine Nx.is_at ?_); first | refine Nx.a ?_ | ((fail_if_success refine Nx.at_do rfl rfl rfl rfl ?_); first | refine Nx.at_dec_t rfl rfl rfl rfl (by first | assumption | omega) ?_ | refine Nx.at_dec_f rfl rfl rfl rfl (by first | assumption | omega) ?_ | refine Nx.at_split rfl rfl rfl rfl (fun hc => ?_) (fun hc => ?_) | refine Nx.at_splitb rfl rfl rfl rfl (fun hc => ?_) (fun hc => ?_)))
            | ((with_reducible refine Nx.is_mix ?_); first | refine Nx.m ?_ | ((fail_if_success refine Nx.m_quiet_do rfl rfl rfl rfl rfl rfl rfl ?_ ?_); (fail_if_success refine Nx.m_loud_do rfl rfl rfl rfl rfl ?_); first | refine Nx.m_dec_t rfl rfl rfl rfl (by first | assumption | omega) ?_ | refine Nx.m_dec_f rfl rfl rfl rfl (by first | assumption | omega) ?_ | refine Nx.m_split rfl rfl rfl rfl (fun hc => ?_) (fun hc => ?_) | refine Nx.m_splitb rfl rfl rfl rfl (fun hc => ?_) (fun hc => ?_)))
            | ((fail_if_success (with_reducible refine Nx.is_at ?_)); (fail_if_success (with_reducible refine Nx.is_wp ?_)); (fail_if_success (with_reducible refine Nx.is_mix ?_)); first | refine Nx.ex ?_)
          have hoc : ouC (({ (l'.getD k default).1 with sg := (l'.getD k default).1.sg ++ [(p, t)], st := 3 }, A2, c2) : OutM) = [.int .i64 (l'.getD k default).1.n, strV (l'.getD k default).1.proj, strV (l'.getD k default).1.who, .int .i64 (l'.getD k default).1.t, strV (l'.getD k default).1.text, .int .i64 3, .slice A2 ((l'.getD k default).1.sg.length + 1) c2] := by unfold ouC; dsimp only; rw [hsl]
          have hfn := hfin 3 (A2, c2) (by rw [if_pos n1])
          have hsg : ({ (l'.getD k default).1 with sg := (l'.getD k default).1.sg ++ [(p, t)], st := 3 } : Out).sg = (l'.getD k default).1.sg ++ [(p, t)] := rfl
          generalize ({ (l'.getD k default).1 with sg := (l'.getD k default).1.sg ++ [(p, t)], st := 3 } : Out) = y at hoc hfn hsg
          refine Nx.ent (R' := [rowR A' c' l', sigR (y, A2, c2), Stars ((l'.map sigR).eraseIdx k), F]) (by unfold sigR sigsR; dsimp only; rw [hsg, hsl, List.flatMap_append]; (exact Ent.auto)) ?_
          refine Nx.at_op rfl rfl ?_
          refine Nx.store (vs := ouC (y, A2, c2)) rfl rfl (by rw [hoc]; rfl) rfl rfl (Wr.vecNs (i := k * 7) (by rw [ouC_len]; omega) (by rw [ouC_len]; decide) (fun v hv => ou_one [(y, A2, c2)] v (by simpa using hv))) ?_
          rw [flat_put ouC_len (y, A2, c2) hk']
          repeat' first
            | ((with_reducible refine Nx.is_wp ?_); first | refine Nx.wo ?_ | refine Nx.p_dec rfl rfl (fun hc => ?_) (fun hc => ?_) | refine Nx.p_bool rfl rfl (fun hc => ?_) (fun hc => ?_))
            | ((first | refine Nx.at_op rfl rfl ?_ | refine Nx.m_loud rfl rfl rfl ?_ | refine Nx.at_do rfl rfl rfl rfl ?_ | refine Nx.m_loud_do rfl rfl rfl rfl rfl ?_); first | refine Nx.opr rfl rfl ?_ | refine Nx.so ?_ | refine Nx.sb (fun bx => ?_) | refine Nx.sa (fun A2 c2 => ?_))
            | ((with_reducible refine Nx.is_at ?_); first | refine Nx.a ?_ | ((fail_if_success refine Nx.at_do rfl rfl rfl rfl ?_); first | refine Nx.at_dec_t rfl rfl rfl rfl (by first | assumption | omega) ?_ | refine Nx.at_dec_f rfl rfl rfl rfl (by first | assumption | omega) ?_ | refine Nx.at_split rfl rfl rfl rfl (fun hc => ?_) (fun hc => ?_) | refine Nx.at_splitb rfl rfl rfl rfl (fun hc => ?_) (fun hc => ?_)))
            | ((with_reducible refine Nx.is_mix ?_); first | refine Nx.m ?_ | ((fail_if_success refine Nx.m_quiet_do rfl rfl rfl rfl rfl rfl rfl ?_ ?_); (fail_if_success refine Nx.m_loud_do rfl rfl rfl rfl rfl ?_); first | refine Nx.m_dec_t rfl rfl rfl rfl (by first | assumption | omega) ?_ | refine Nx.m_dec_f rfl rfl rfl rfl (by first | assumption | omega) ?_ | refine Nx.m_split rfl rfl rfl rfl (fun hc => ?_) (fun hc => ?_) | refine Nx.m_splitb rfl rfl rfl rfl (fun hc => ?_) (fun hc => ?_)))
            | ((fail_if_success (with_reducible refine Nx.is_at ?_)); (fail_if_success (with_reducible refine Nx.is_wp ?_)); (fail_if_success (with_reducible refine Nx.is_mix ?_)); first | refine Nx.ex ?_)
          exact Nx.ret_fn rfl [rowR A' c' (l'.set k (y, A2, c2)), Stars ((l'.set k (y, A2, c2)).map sigR)] ⟨A', c', _, by rw [List.length_set], hfn, rfl⟩ ((Ent.trans (R' := [sigR (y, A2, c2), Stars ((l'.map sigR).eraseIdx k), rowR A' c' (l'.set k (y, A2, c2)), F]) (by unfold rowR; rw [List.length_set]; (exact Ent.auto)) (sig_new hk' _)).trans (by (exact Ent.auto)))
        · repeat' first
            | ((with_reducible refine Nx.is_wp ?_); first | refine Nx.wo ?_ | refine Nx.p_dec rfl rfl (fun hc => ?_) (fun hc => ?_) | refine Nx.p_bool rfl rfl (fun hc => ?_) (fun hc => ?_))
            | ((first | refine Nx.at_op rfl rfl ?_ | refine Nx.m_loud rfl rfl rfl ?_ | refine Nx.at_do rfl rfl rfl rfl ?_ | refine Nx.m_loud_do rfl rfl rfl rfl rfl ?_); first | (refine Nx.neq_s rfl rfl rfl ?_; rw [t1]) | refine Nx.opr rfl rfl ?_ | (refine Nx.indexAddr rfl rfl rfl rfl rfl (by omega) (by omega) (hA' (by omega)) ?_; rw [hk1]) | refine Nx.so ?_ | refine Nx.sb (fun bx => ?_) | refine Nx.sa (fun A2 c2 => ?_))
            | ((with_reducible refine Nx.is_at ?_); first | refine Nx.a ?_ | ((fail_if_success refine Nx.at_do rfl rfl rfl rfl ?_); first | refine Nx.at_dec_t rfl rfl rfl rfl (by first | assumption | omega) ?_ | refine Nx.at_dec_f rfl rfl rfl rfl (by first | assumption | omega) ?_ | refine Nx.at_split rfl rfl rfl rfl (fun hc => ?_) (fun hc => ?_) | refine Nx.at_splitb rfl rfl rfl rfl (fun hc => ?_) (fun hc => ?_)))
            | ((with_reducible refine Nx.is_mix ?_); first | refine Nx.m ?_ | ((fail_if_success refine Nx.m_quiet_do rfl rfl rfl rfl rfl rfl rfl ?_ ?_); (fail_if_success refine Nx.m_loud_do rfl rfl rfl rfl rfl ?_); first | refine Nx.m_dec_t rfl rfl rfl rfl (by first | assumption | omega) ?_ | refine Nx.m_dec_f rfl rfl rfl rfl (by first | assumption | omega) ?_ | refine Nx.m_split rfl rfl rfl rfl (fun hc => ?_) (fun hc => ?_) | refine Nx.m_splitb rfl rfl rfl rfl (fun hc => ?_) (fun hc => ?_)))
            | ((fail_if_success (with_reducible refine Nx.is_at ?_)); (fail_if_success (with_reducible refine Nx.is_wp ?_)); (fail_if_success (with_reducible refine Nx.is_mix ?_)); first | refine Nx.ex ?_)
          have hoc : ouC (({ (l'.getD k default).1 with sg := (l'.getD k default).1.sg ++ [(p, t)], st := 2 }, A2, c2) : OutM) = [.int .i64 (l'.getD k default).1.n, strV (l'.getD k default).1.proj, strV (l'.getD k default).1.who, .int .i64 (l'.getD k default).1.t, strV (l'.getD k default).1.text, .int .i64 2, .slice A2 ((l'.getD k default).1.sg.length + 1) c2] := by unfold ouC; dsimp only; rw [hsl]
          have hfn := hfin 2 (A2, c2) (by rw [if_neg n1])
          have hsg : ({ (l'.getD k default).1 with sg := (l'.getD k default).1.sg ++ [(p, t)], st := 2 } : Out).sg = (l'.getD k default).1.sg ++ [(p, t)] := rfl
          generalize ({ (l'.getD k default).1 with sg := (l'.getD k default).1.sg ++ [(p, t)], st := 2 } : Out) = y at hoc hfn hsg
          refine Nx.ent (R' := [rowR A' c' l', sigR (y, A2, c2), Stars ((l'.map sigR).eraseIdx k), F]) (by unfold sigR sigsR; dsimp only; rw [hsg, hsl, List.flatMap_append]; (exact Ent.auto)) ?_
          refine Nx.at_op rfl rfl ?_
          refine Nx.store (vs := ouC (y, A2, c2)) rfl rfl (by rw [hoc]; rfl) rfl rfl (Wr.vecNs (i := k * 7) (by rw [ouC_len]; omega) (by rw [ouC_len]; decide) (fun v hv => ou_one [(y, A2, c2)] v (by simpa using hv))) ?_
          rw [flat_put ouC_len (y, A2, c2) hk']
          repeat' first
            | ((with_reducible refine Nx.is_wp ?_); first | refine Nx.wo ?_ | refine Nx.p_dec rfl rfl (fun hc => ?_) (fun hc => ?_) | refine Nx.p_bool rfl rfl (fun hc => ?_) (fun hc => ?_))
            | ((first | refine Nx.at_op rfl rfl ?_ | refine Nx.m_loud rfl rfl rfl ?_ | refine Nx.at_do rfl rfl rfl rfl ?_ | refine Nx.m_loud_do rfl rfl rfl rfl rfl ?_); first | refine Nx.opr rfl rfl ?_ | refine Nx.so ?_ | refine Nx.sb (fun bx => ?_) | refine Nx.sa (fun A2 c2 => ?_))
            | ((with_reducible refine Nx.is_at ?_); first | refine Nx.a ?_ | ((fail_if_success refine Nx.at_do rfl rfl rfl rfl ?_); first | refine Nx.at_dec_t rfl rfl rfl rfl (by first | assumption | omega) ?_ | refine Nx.at_dec_f rfl rfl rfl rfl (by first | assumption | omega) ?_ | refine Nx.at_split rfl rfl rfl rfl (fun hc => ?_) (fun hc => ?_) | refine Nx.at_splitb rfl rfl rfl rfl (fun hc => ?_) (fun hc => ?_)))
            | ((with_reducible refine Nx.is_mix ?_); first | refine Nx.m ?_ | ((fail_if_success refine Nx.m_quiet_do rfl rfl rfl rfl rfl rfl rfl ?_ ?_); (fail_if_success refine Nx.m_loud_do rfl rfl rfl rfl rfl ?_); first | refine Nx.m_dec_t rfl rfl rfl rfl (by first | assumption | omega) ?_ | refine Nx.m_dec_f rfl rfl rfl rfl (by first | assumption | omega) ?_ | refine Nx.m_split rfl rfl rfl rfl (fun hc => ?_) (fun hc => ?_) | refine Nx.m_splitb rfl rfl rfl rfl (fun hc => ?_) (fun hc => ?_)))
            | ((fail_if_success (with_reducible refine Nx.is_at ?_)); (fail_if_success (with_reducible refine Nx.is_wp ?_)); (fail_if_success (with_reducible refine Nx.is_mix ?_)); first | refine Nx.ex ?_)
          exact Nx.ret_fn rfl [rowR A' c' (l'.set k (y, A2, c2)), Stars ((l'.set k (y, A2, c2)).map sigR)] ⟨A', c', _, by rw [List.length_set], hfn, rfl⟩ ((Ent.trans (R' := [sigR (y, A2, c2), Stars ((l'.map sigR).eraseIdx k), rowR A' c' (l'.set k (y, A2, c2)), F]) (by unfold rowR; rw [List.length_set]; (exact Ent.auto)) (sig_new hk' _)).trans (by (exact Ent.auto)))
  · have hE : signE (l.map (·.1)) ro d number p t text = touchE (l.map (·.1)) ro d number p t := if_pos e0
    rw [show signL (l.map (·.1)) ro d number p t text = l.map (·.1) from if_neg (by rw [hE]; exact e0), hE]
    repeat' first
      | ((with_reducible refine Nx.is_wp ?_); first | refine Nx.wo ?_ | refine Nx.p_dec rfl rfl (fun hc => ?_) (fun hc => ?_) | refine Nx.p_bool rfl rfl (fun hc => ?_) (fun hc => ?_))
      | ((first | refine Nx.at_op rfl rfl ?_ | refine Nx.m_loud rfl rfl rfl ?_ | refine Nx.at_do rfl rfl rfl rfl ?_ | refine Nx.m_loud_do rfl rfl rfl rfl rfl ?_); first | refine Nx.opr rfl rfl ?_ | refine Nx.callv rfl rfl rfl (by kernel_rfl) rfl hA ?_ | refine Nx.so ?_ | refine Nx.sb (fun bx => ?_) | refine Nx.sa (fun A2 c2 => ?_))
      | ((with_reducible refine Nx.is_at ?_); first | refine Nx.a ?_ | ((fail_if_success refine Nx.at_do rfl rfl rfl rfl ?_); first | refine Nx.at_dec_t rfl rfl rfl rfl (by first | assumption | omega) ?_ | refine Nx.at_dec_f rfl rfl rfl rfl (by first | assumption | omega) ?_ | refine Nx.at_split rfl rfl rfl rfl (fun hc => ?_) (fun hc => ?_) | refine Nx.at_splitb rfl rfl rfl rfl (fun hc => ?_) (fun hc => ?_)))
      | ((with_reducible refine Nx.is_mix ?_); first | refine Nx.m ?_ | ((fail_if_success refine Nx.m_quiet_do rfl rfl rfl rfl rfl rfl rfl ?_ ?_); (fail_if_success refine Nx.m_loud_do rfl rfl rfl rfl rfl ?_); first | refine Nx.m_dec_t rfl rfl rfl rfl (by first | assumption | omega) ?_ | refine Nx.m_dec_f rfl rfl rfl rfl (by first | assumption | omega) ?_ | refine Nx.m_split rfl rfl rfl rfl (fun hc => ?_) (fun hc => ?_) | refine Nx.m_splitb rfl rfl rfl rfl (fun hc => ?_) (fun hc => ?_)))
      | ((fail_if_success (with_reducible refine Nx.is_at ?_)); (fail_if_success (with_reducible refine Nx.is_wp ?_)); (fail_if_success (with_reducible refine Nx.is_mix ?_)); first | refine Nx.ex ?_)
    exact Nx.ret_fn rfl [rowR A' c' l', Stars (l'.map sigR)] ⟨A', c', l', rfl, hl', rfl⟩ (by (exact Ent.auto))
end Go.Proofs.Ytaoeapmdhpkidaa
