/- Contracts of functions of the given program, and lemmas about plain lists and numbers: what the laws of this seat lean on. -/
import Derived.Test.YtcmdemfhbekabaaDc7
namespace Go.Proofs.Ytcmdemfhbekabaa
open Go.Eng Go.Sol
attribute [local irreducible] opK wpList Code.wp Exit.then Exit.inBlock fnPost bodyPost Nx Calls Oper.wp Rd Rds Wr Ent Stars Blk Again Vec FnSpec wpMix QRun Stop Upto wpAt
/-! Reaches as rows of three cells; slices.Repeat of one reach -/
abbrev Rch := Int × Int × Bool
def rcC (x : Rch) : List Value := [.int .i64 x.1, .int .i64 x.2.1, .bool x.2.2]
theorem rcC_len (x : Rch) : (rcC x).length = 3 := rfl
theorem rcC_one (x : Rch) : ∀ v ∈ rcC x, v.oneCell' = true := by
  intro v hv
  unfold rcC at hv
  simp only [List.mem_cons, List.not_mem_nil, or_false] at hv
  rcases hv with rfl | rfl | rfl <;> rfl
theorem flat_one {α : Type} {f : α → List Value} (h : ∀ x, ∀ v ∈ f x, v.oneCell' = true) (l : List α) : ∀ v ∈ l.flatMap f, v.oneCell' = true := fun v hv => by
  obtain ⟨x, _, hx⟩ := List.mem_flatMap.1 hv
  exact h x v hx
set_option maxRecDepth 10000 in
set_option maxHeartbeats 8000000 in
theorem RepeatR_spec (cx : List Value) (hcx : cx.length = 3) (h1 : ∀ v ∈ cx, v.oneCell' = true) (b n : Nat) (hn1 : 1 ≤ n) (hn : n ≤ 4096) (I : PH) :
    FnSpec Try.prog 55 [.slice (some ⟨b, 0, none⟩) 1 1, .int .i64 (n : Int)] I [Blk b 48 cx] (fun v R' => ∃ b', v = .slice (some ⟨b', 0, none⟩) n n ∧ R' = [Vec 48 3 (some ⟨b', 0, none⟩) n n (List.replicate n cx).flatten]) := by
  have hM := mulU_spec n (by omega) I
  have hB : (n : Int) % B64 = n := by unfold B64; omega
  have hB1 : ((1 : Nat) : Int) % B64 = 1 := by unfold B64; decide
  refine FnSpec.enterP Try.func55 rfl Try.ntmps55 rfl fun w F => ?_
  repeat' first
    | ((with_reducible refine Nx.is_wp ?_); first | refine Nx.wo ?_ | refine Nx.p_dec rfl rfl (fun hc => ?_) (fun hc => ?_) | refine Nx.p_bool rfl rfl (fun hc => ?_) (fun hc => ?_))
    | ((first | refine Nx.at_op rfl rfl ?_ | refine Nx.m_loud rfl rfl rfl ?_ | refine Nx.at_do rfl rfl rfl rfl ?_ | refine Nx.m_loud_do rfl rfl rfl rfl rfl ?_); first | refine Nx.opr rfl rfl ?_ | (refine Nx.call (Rpre := []) rfl rfl rfl (by kernel_rfl) rfl hM (Ent.refl _) ?_; rintro _ _ ⟨rfl, rfl⟩) | (refine Nx.conv_u64 (p := ((1 : Nat) : Int)) rfl rfl rfl rfl ?_; rw [hB1]) | (refine Nx.conv_u64 (p := (n : Int)) rfl rfl rfl rfl ?_; rw [hB]) | refine Nx.conv_i64 (p := (n : Int)) rfl rfl rfl (by unfold I64; omega) rfl ?_ | refine Nx.makeStructs rcC (0, 0, false) (by_ := 24) (m := n) (sz := 3) rfl rfl rfl rfl rfl rfl rfl rfl rfl rfl (by omega) (by unfold maxLen; omega) (fun bx => ?_) | refine Nx.so ?_ | refine Nx.sb (fun bx => ?_) | refine Nx.sa (fun A2 c2 => ?_))
    | ((with_reducible refine Nx.is_at ?_); first | refine Nx.a ?_ | ((fail_if_success refine Nx.at_do rfl rfl rfl rfl ?_); first | refine Nx.at_dec_t rfl rfl rfl rfl (by first | assumption | omega) ?_ | refine Nx.at_dec_f rfl rfl rfl rfl (by first | assumption | omega) ?_ | refine Nx.at_split rfl rfl rfl rfl (fun hc => ?_) (fun hc => ?_) | refine Nx.at_splitb rfl rfl rfl rfl (fun hc => ?_) (fun hc => ?_)))
    | ((with_reducible refine Nx.is_mix ?_); first | refine Nx.m ?_ | ((fail_if_success refine Nx.m_quiet_do rfl rfl rfl rfl rfl rfl rfl ?_ ?_); (fail_if_success refine Nx.m_loud_do rfl rfl rfl rfl rfl ?_); first | refine Nx.m_dec_t rfl rfl rfl rfl (by first | assumption | omega) ?_ | refine Nx.m_dec_f rfl rfl rfl rfl (by first | assumption | omega) ?_ | refine Nx.m_split rfl rfl rfl rfl (fun hc => ?_) (fun hc => ?_) | refine Nx.m_splitb rfl rfl rfl rfl (fun hc => ?_) (fun hc => ?_)))
    | ((fail_if_success (with_reducible refine Nx.is_at ?_)); (fail_if_success (with_reducible refine Nx.is_wp ?_)); (fail_if_success (with_reducible refine Nx.is_mix ?_)); first | refine Nx.ex ?_)
  revert bx; intro b7
  generalize hx0 : (List.replicate n ((0, 0, false) : Rch)).flatMap rcC = x0
  have hx0l : x0.length = n * 3 := by rw [← hx0, flat_len rcC_len, List.length_replicate]
  have hF0 : Filled cx 3 n 1 (x0.take 0 ++ cx ++ x0.drop (0 + cx.length)) := Filled.start hcx h1 hx0l (by rw [← hx0]; exact flat_one rcC_one _) hn1
  repeat' first
    | ((with_reducible refine Nx.is_wp ?_); first | refine Nx.wo ?_ | refine Nx.p_dec rfl rfl (fun hc => ?_) (fun hc => ?_) | refine Nx.p_bool rfl rfl (fun hc => ?_) (fun hc => ?_))
    | ((first | refine Nx.at_op rfl rfl ?_ | refine Nx.m_loud rfl rfl rfl ?_ | refine Nx.at_do rfl rfl rfl rfl ?_ | refine Nx.m_loud_do rfl rfl rfl rfl rfl ?_); first | refine Nx.opr rfl rfl ?_ | refine Nx.copy_ (k := 1) (sz := 3) (cs := cx) rfl rfl rfl rfl rfl rfl (by show 1 = min 1 n; omega) (by omega) (Rds.at_ 1 rfl) (Wr.vecNs0 (by omega) (by omega) h1) ?_ | refine Nx.so ?_ | refine Nx.sb (fun bx => ?_) | refine Nx.sa (fun A2 c2 => ?_))
    | ((with_reducible refine Nx.is_at ?_); first | refine Nx.a ?_ | ((fail_if_success refine Nx.at_do rfl rfl rfl rfl ?_); first | refine Nx.at_dec_t rfl rfl rfl rfl (by first | assumption | omega) ?_ | refine Nx.at_dec_f rfl rfl rfl rfl (by first | assumption | omega) ?_ | refine Nx.at_split rfl rfl rfl rfl (fun hc => ?_) (fun hc => ?_) | refine Nx.at_splitb rfl rfl rfl rfl (fun hc => ?_) (fun hc => ?_)))
    | ((with_reducible refine Nx.is_mix ?_); first | refine Nx.m ?_ | ((fail_if_success refine Nx.m_quiet_do rfl rfl rfl rfl rfl rfl rfl ?_ ?_); (fail_if_success refine Nx.m_loud_do rfl rfl rfl rfl rfl ?_); first | refine Nx.m_dec_t rfl rfl rfl rfl (by first | assumption | omega) ?_ | refine Nx.m_dec_f rfl rfl rfl rfl (by first | assumption | omega) ?_ | refine Nx.m_split rfl rfl rfl rfl (fun hc => ?_) (fun hc => ?_) | refine Nx.m_splitb rfl rfl rfl rfl (fun hc => ?_) (fun hc => ?_)))
    | ((fail_if_success (with_reducible refine Nx.is_at ?_)); (fail_if_success (with_reducible refine Nx.is_wp ?_)); (fail_if_success (with_reducible refine Nx.is_mix ?_)); first | refine Nx.ex ?_)
  refine Nx.p_loop (σ := Nat × List Value) (fun s => [(7, .slice (some ⟨b7, 0, none⟩) n n), (8, .int .i64 (s.1 : Int))]) (fun s => [Vec 48 3 (some ⟨b7, 0, none⟩) n n s.2, F]) (fun s => 1 ≤ s.1 ∧ s.1 ≤ n ∧ Filled cx 3 n s.1 s.2) (fun s => n - s.1) (1, x0.take 0 ++ cx ++ x0.drop (0 + cx.length)) rfl ⟨Nat.le_refl _, hn1, hF0⟩ ⟨rfl, rfl, trivial⟩ (by (exact Ent.auto)) ?_
  rintro ⟨m, xs⟩ ⟨hm1, hmn, hF⟩
  dsimp only at hm1 hmn hF ⊢
  by_cases hlt : m < n
  case neg =>
    obtain rfl : m = n := by omega
    have hd := hF.done
    subst hd
    repeat' first
      | ((with_reducible refine Nx.is_wp ?_); first | refine Nx.wo ?_ | refine Nx.p_dec rfl rfl (fun hc => ?_) (fun hc => ?_) | refine Nx.p_bool rfl rfl (fun hc => ?_) (fun hc => ?_))
      | ((first | refine Nx.at_op rfl rfl ?_ | refine Nx.m_loud rfl rfl rfl ?_ | refine Nx.at_do rfl rfl rfl rfl ?_ | refine Nx.m_loud_do rfl rfl rfl rfl rfl ?_); first | refine Nx.opr rfl rfl ?_ | refine Nx.so ?_ | refine Nx.sb (fun bx => ?_) | refine Nx.sa (fun A2 c2 => ?_))
      | ((with_reducible refine Nx.is_at ?_); first | refine Nx.a ?_ | ((fail_if_success refine Nx.at_do rfl rfl rfl rfl ?_); first | refine Nx.at_dec_t rfl rfl rfl rfl (by first | assumption | omega) ?_ | refine Nx.at_dec_f rfl rfl rfl rfl (by first | assumption | omega) ?_ | refine Nx.at_split rfl rfl rfl rfl (fun hc => ?_) (fun hc => ?_) | refine Nx.at_splitb rfl rfl rfl rfl (fun hc => ?_) (fun hc => ?_)))
      | ((with_reducible refine Nx.is_mix ?_); first | refine Nx.m ?_ | ((fail_if_success refine Nx.m_quiet_do rfl rfl rfl rfl rfl rfl rfl ?_ ?_); (fail_if_success refine Nx.m_loud_do rfl rfl rfl rfl rfl ?_); first | refine Nx.m_dec_t rfl rfl rfl rfl (by first | assumption | omega) ?_ | refine Nx.m_dec_f rfl rfl rfl rfl (by first | assumption | omega) ?_ | refine Nx.m_split rfl rfl rfl rfl (fun hc => ?_) (fun hc => ?_) | refine Nx.m_splitb rfl rfl rfl rfl (fun hc => ?_) (fun hc => ?_)))
      | ((fail_if_success (with_reducible refine Nx.is_at ?_)); (fail_if_success (with_reducible refine Nx.is_wp ?_)); (fail_if_success (with_reducible refine Nx.is_mix ?_)); first | refine Nx.ex ?_)
    exact Nx.ret_fn rfl [_] ⟨b7, rfl, rfl⟩ (by (exact Ent.auto))
  have hst := hF.step hcx (k := min m (n - m)) (by omega) (by omega)
  have hxl := hF.len
  repeat' first
    | ((with_reducible refine Nx.is_wp ?_); first | refine Nx.wo ?_ | refine Nx.p_drawF (id := 9) rfl [0, 1, 2, 3, 4, 5, 6, 7, 8, 9] [7] [] _ rfl rfl (by kernel_rfl) (by kernel_rfl) rfl (by repeat first | exact PanicOk.fn | refine PanicOk.then_ ?_ | refine PanicOk.inB ?_) (Ent.eraseK 0 _) ?_ | refine Nx.p_dec rfl rfl (fun hc => ?_) (fun hc => ?_) | refine Nx.p_bool rfl rfl (fun hc => ?_) (fun hc => ?_))
    | ((first | refine Nx.at_op rfl rfl ?_ | refine Nx.m_loud rfl rfl rfl ?_ | refine Nx.at_do rfl rfl rfl rfl ?_ | refine Nx.m_loud_do rfl rfl rfl rfl rfl ?_); first | refine Nx.opr rfl rfl ?_ | refine Nx.copy_ (k := min m (n - m)) (sz := 3) (cs := xs.take (min m (n - m) * 3)) rfl rfl rfl rfl rfl rfl rfl (by rw [List.length_take]; omega) Rds.vec_take (Wr.vecNs (A := some ⟨b7, 0, none⟩) (i := m * 3) (by rw [List.length_take]; omega) (by rw [List.length_take]; omega) (fun v hv => hF.one v (List.mem_of_mem_take hv))) ?_ | refine Nx.so ?_ | refine Nx.sb (fun bx => ?_) | refine Nx.sa (fun A2 c2 => ?_))
    | ((with_reducible refine Nx.is_at ?_); first | refine Nx.a ?_ | ((fail_if_success refine Nx.at_do rfl rfl rfl rfl ?_); first | refine Nx.at_dec_t rfl rfl rfl rfl (by first | assumption | omega) ?_ | refine Nx.at_dec_f rfl rfl rfl rfl (by first | assumption | omega) ?_ | refine Nx.at_split rfl rfl rfl rfl (fun hc => ?_) (fun hc => ?_) | refine Nx.at_splitb rfl rfl rfl rfl (fun hc => ?_) (fun hc => ?_)))
    | ((with_reducible refine Nx.is_mix ?_); first | refine Nx.m_quiet rfl rfl rfl rfl rfl (by first | exact QRun.opr rfl | exact QRun.slice_from (sz := 3) rfl rfl rfl rfl hlt (Nat.le_refl _) | exact QRun.slice_hi (sz := 3) rfl rfl rfl rfl hmn) ?_ | refine Nx.m_quiet_do rfl rfl rfl rfl rfl rfl rfl (by first | exact QRun.opr rfl | exact QRun.slice_from (sz := 3) rfl rfl rfl rfl hlt (Nat.le_refl _) | exact QRun.slice_hi (sz := 3) rfl rfl rfl rfl hmn) ?_ | refine Nx.m ?_ | ((fail_if_success refine Nx.m_quiet_do rfl rfl rfl rfl rfl rfl rfl ?_ ?_); (fail_if_success refine Nx.m_loud_do rfl rfl rfl rfl rfl ?_); first | refine Nx.m_dec_t rfl rfl rfl rfl (by first | assumption | omega) ?_ | refine Nx.m_dec_f rfl rfl rfl rfl (by first | assumption | omega) ?_ | refine Nx.m_split rfl rfl rfl rfl (fun hc => ?_) (fun hc => ?_) | refine Nx.m_splitb rfl rfl rfl rfl (fun hc => ?_) (fun hc => ?_)))
    | ((fail_if_success (with_reducible refine Nx.is_at ?_)); (fail_if_success (with_reducible refine Nx.is_wp ?_)); (fail_if_success (with_reducible refine Nx.is_mix ?_)); first | refine Nx.ex ?_)
  exact Nx.again (m + min m (n - m), _) ⟨by dsimp only; omega, by dsimp only; omega, hst⟩ (by dsimp only; omega) ⟨rfl, rfl, trivial⟩ (by (exact Ent.auto))
/-! A number found in a list -/
/-! The exported functions -/
def firstOf (n : Int) (l : List EqR) : List Int × Bool × Int := if chkQ n l = 0 then ((solsOf n.toNat (eqns l)).headD [], !(solsOf n.toNat (eqns l)).isEmpty, 0) else ([], false, chkQ n l)
theorem chk_good {n : Int} {l : List EqR} (h : chkQ n l = 0) : (1 ≤ n ∧ n ≤ 48) ∧ l.length ≤ 1152 ∧ (∀ q ∈ l, GoodE n.toNat q) ∧ smallB n.toNat (eqns l) = true := by
  unfold chkQ at h
  cases hv : validB n l with
  | false => rw [hv, if_pos rfl] at h; omega
  | true =>
    rw [hv, if_neg (by decide)] at h
    obtain ⟨h1, h2, h3⟩ := valid_good hv
    refine ⟨h1, h2, h3, ?_⟩
    cases hs : smallB n.toNat (eqns l) with
    | false => rw [hs, if_pos rfl] at h; omega
    | true => rfl
set_option maxHeartbeats 8000000 in
set_option maxRecDepth 10000 in
theorem First_spec (n : Int) (A : Option Addr) (c : Nat) (l : List EqR) (I : PH) (hl : Eqs I A c l) (h9 : (allC l).length ≤ 100000) :
    FnSpec Try.prog 46 [.int .i64 n, .slice A l.length c] I []
      (fun v R' => ∃ (A' : Option Addr) (c' : Nat), v = .tuple #[.slice A' (firstOf n l).1.length c', .bool (firstOf n l).2.1, .int .i64 (firstOf n l).2.2] ∧ R' = [iR A' c' (firstOf n l).1]) := by
  have hC := check_spec n A c l I hl (by omega)
  unfold firstOf
  refine FnSpec.enterP Try.func46 rfl Try.ntmps46 rfl fun w F => ?_
  by_cases h0 : chkQ n l = 0
  case neg =>
    rw [if_neg h0]
    repeat' first
      | ((with_reducible refine Nx.is_wp ?_); first | refine Nx.wo ?_ | refine Nx.p_dec rfl rfl (fun hc => ?_) (fun hc => ?_) | refine Nx.p_bool rfl rfl (fun hc => ?_) (fun hc => ?_))
      | ((first | refine Nx.at_op rfl rfl ?_ | refine Nx.m_loud rfl rfl rfl ?_ | refine Nx.at_do rfl rfl rfl rfl ?_ | refine Nx.m_loud_do rfl rfl rfl rfl rfl ?_); first | refine Nx.opr rfl rfl ?_ | refine Nx.callv rfl rfl rfl (by kernel_rfl) rfl hC ?_ | refine Nx.so ?_ | refine Nx.sb (fun bx => ?_) | refine Nx.sa (fun A2 c2 => ?_))
      | ((with_reducible refine Nx.is_at ?_); first | refine Nx.a ?_ | ((fail_if_success refine Nx.at_do rfl rfl rfl rfl ?_); first | refine Nx.at_dec_t rfl rfl rfl rfl (by first | assumption | omega) ?_ | refine Nx.at_dec_f rfl rfl rfl rfl (by first | assumption | omega) ?_ | refine Nx.at_split rfl rfl rfl rfl (fun hc => ?_) (fun hc => ?_) | refine Nx.at_splitb rfl rfl rfl rfl (fun hc => ?_) (fun hc => ?_)))
      | ((with_reducible refine Nx.is_mix ?_); first | refine Nx.m ?_ | ((fail_if_success refine Nx.m_quiet_do rfl rfl rfl rfl rfl rfl rfl ?_ ?_); (fail_if_success refine Nx.m_loud_do rfl rfl rfl rfl rfl ?_); first | refine Nx.m_dec_t rfl rfl rfl rfl (by first | assumption | omega) ?_ | refine Nx.m_dec_f rfl rfl rfl rfl (by first | assumption | omega) ?_ | refine Nx.m_split rfl rfl rfl rfl (fun hc => ?_) (fun hc => ?_) | refine Nx.m_splitb rfl rfl rfl rfl (fun hc => ?_) (fun hc => ?_)))
      | ((fail_if_success (with_reducible refine Nx.is_at ?_)); (fail_if_success (with_reducible refine Nx.is_wp ?_)); (fail_if_success (with_reducible refine Nx.is_mix ?_)); first | refine Nx.ex ?_)
    exact Nx.ret_fn rfl [_] ⟨none, 0, rfl, rfl⟩ ((Ent.vec_nil 3 1 _).trans (by unfold iR; (exact Ent.auto)))
  rw [if_pos h0]
  obtain ⟨h1, h2, h3, _⟩ := chk_good h0
  have hS := some_spec A c l n.toNat 1 I hl h3 (by omega) (by omega) h9 (by omega) (by omega)
  rw [show ((n.toNat : Nat) : Int) = n by omega] at hS
  rw [h0] at hC
  repeat' first
    | ((with_reducible refine Nx.is_wp ?_); first | refine Nx.p_stopr 5 rfl ?_ | refine Nx.wo ?_ | refine Nx.p_dec rfl rfl (fun hc => ?_) (fun hc => ?_) | refine Nx.p_bool rfl rfl (fun hc => ?_) (fun hc => ?_))
    | ((first | refine Nx.at_op rfl rfl ?_ | refine Nx.m_loud rfl rfl rfl ?_ | refine Nx.at_do rfl rfl rfl rfl ?_ | refine Nx.m_loud_do rfl rfl rfl rfl rfl ?_); first | refine Nx.opr rfl rfl ?_ | refine Nx.callv rfl rfl rfl (by kernel_rfl) rfl hC ?_ | (refine Nx.call (Rpre := []) rfl rfl rfl (by kernel_rfl) rfl hS (Ent.refl _) ?_; rintro _ _ ⟨A1, c1, o, rfl, ho, rfl⟩) | refine Nx.so ?_ | refine Nx.sb (fun bx => ?_) | refine Nx.sa (fun A2 c2 => ?_))
    | ((with_reducible refine Nx.is_at ?_); first | refine Nx.a ?_ | ((fail_if_success refine Nx.at_do rfl rfl rfl rfl ?_); first | refine Nx.at_dec_t rfl rfl rfl rfl (by first | assumption | omega) ?_ | refine Nx.at_dec_f rfl rfl rfl rfl (by first | assumption | omega) ?_ | refine Nx.at_split rfl rfl rfl rfl (fun hc => ?_) (fun hc => ?_) | refine Nx.at_splitb rfl rfl rfl rfl (fun hc => ?_) (fun hc => ?_)))
    | ((with_reducible refine Nx.is_mix ?_); first | refine Nx.m ?_ | ((fail_if_success refine Nx.m_quiet_do rfl rfl rfl rfl rfl rfl rfl ?_ ?_); (fail_if_success refine Nx.m_loud_do rfl rfl rfl rfl rfl ?_); first | refine Nx.m_dec_t rfl rfl rfl rfl (by first | assumption | omega) ?_ | refine Nx.m_dec_f rfl rfl rfl rfl (by first | assumption | omega) ?_ | refine Nx.m_split rfl rfl rfl rfl (fun hc => ?_) (fun hc => ?_) | refine Nx.m_splitb rfl rfl rfl rfl (fun hc => ?_) (fun hc => ?_)))
    | ((fail_if_success (with_reducible refine Nx.is_at ?_)); (fail_if_success (with_reducible refine Nx.is_wp ?_)); (fail_if_success (with_reducible refine Nx.is_mix ?_)); first | refine Nx.ex ?_)
  refine unstopN ?_
  cases hsol : solsOf n.toNat (eqns l) with
  | nil =>
    rw [hsol] at ho
    have ho : o = [] := by simpa using ho
    subst ho
    repeat' first
      | ((with_reducible refine Nx.is_wp ?_); first | refine Nx.wo ?_ | refine Nx.p_dec rfl rfl (fun hc => ?_) (fun hc => ?_) | refine Nx.p_bool rfl rfl (fun hc => ?_) (fun hc => ?_))
      | ((first | refine Nx.at_op rfl rfl ?_ | refine Nx.m_loud rfl rfl rfl ?_ | refine Nx.at_do rfl rfl rfl rfl ?_ | refine Nx.m_loud_do rfl rfl rfl rfl rfl ?_); first | refine Nx.opr rfl rfl ?_ | refine Nx.so ?_ | refine Nx.sb (fun bx => ?_) | refine Nx.sa (fun A2 c2 => ?_))
      | ((with_reducible refine Nx.is_at ?_); first | refine Nx.a ?_ | ((fail_if_success refine Nx.at_do rfl rfl rfl rfl ?_); first | refine Nx.at_dec_t rfl rfl rfl rfl (by first | assumption | omega) ?_ | refine Nx.at_dec_f rfl rfl rfl rfl (by first | assumption | omega) ?_ | refine Nx.at_split rfl rfl rfl rfl (fun hc => ?_) (fun hc => ?_) | refine Nx.at_splitb rfl rfl rfl rfl (fun hc => ?_) (fun hc => ?_)))
      | ((with_reducible refine Nx.is_mix ?_); first | refine Nx.m ?_ | ((fail_if_success refine Nx.m_quiet_do rfl rfl rfl rfl rfl rfl rfl ?_ ?_); (fail_if_success refine Nx.m_loud_do rfl rfl rfl rfl rfl ?_); first | refine Nx.m_dec_t rfl rfl rfl rfl (by first | assumption | omega) ?_ | refine Nx.m_dec_f rfl rfl rfl rfl (by first | assumption | omega) ?_ | refine Nx.m_split rfl rfl rfl rfl (fun hc => ?_) (fun hc => ?_) | refine Nx.m_splitb rfl rfl rfl rfl (fun hc => ?_) (fun hc => ?_)))
      | ((fail_if_success (with_reducible refine Nx.is_at ?_)); (fail_if_success (with_reducible refine Nx.is_wp ?_)); (fail_if_success (with_reducible refine Nx.is_mix ?_)); first | refine Nx.ex ?_)
    exact Nx.ret_fn rfl [_] ⟨none, 0, rfl, rfl⟩ ((Ent.vec_nil 3 1 _).trans (by unfold iR; (exact Ent.auto)))
  | cons t r =>
    rw [hsol] at ho
    match o, ho with
    | [⟨Ao, co, to⟩], ho =>
      have ho : to = t := by simpa using ho
      subst ho
      have hone : ((([(Ao, co, to)] : List Row).length : Nat) : Int) = 1 := rfl
      refine Nx.vec_fact fun _ _ _ hAs => ?_
      repeat' first
        | ((with_reducible refine Nx.is_wp ?_); first | refine Nx.wo ?_ | refine Nx.p_dec rfl rfl (fun hc => ?_) (fun hc => ?_) | refine Nx.p_bool rfl rfl (fun hc => ?_) (fun hc => ?_))
        | ((first | refine Nx.at_op rfl rfl ?_ | refine Nx.m_loud rfl rfl rfl ?_ | refine Nx.at_do rfl rfl rfl rfl ?_ | refine Nx.m_loud_do rfl rfl rfl rfl rfl ?_); first | refine Nx.opr rfl rfl ?_ | refine Nx.indexAddr_nat (i := 0) rfl rfl rfl rfl rfl (Nat.zero_lt_succ _) (hAs (Nat.zero_lt_succ _)) ?_ | refine Nx.load rfl rfl rfl (Rd.vecEl (f := rowV) (l := [(Ao, co, to)]) (i := 0) 0 rfl (Nat.zero_lt_succ _)) ?_ | refine Nx.so ?_ | refine Nx.sb (fun bx => ?_) | refine Nx.sa (fun A2 c2 => ?_))
        | ((with_reducible refine Nx.is_at ?_); first | refine Nx.a ?_ | ((fail_if_success refine Nx.at_do rfl rfl rfl rfl ?_); first | refine Nx.at_dec_t rfl rfl rfl rfl (by first | assumption | omega) ?_ | refine Nx.at_dec_f rfl rfl rfl rfl (by first | assumption | omega) ?_ | refine Nx.at_split rfl rfl rfl rfl (fun hc => ?_) (fun hc => ?_) | refine Nx.at_splitb rfl rfl rfl rfl (fun hc => ?_) (fun hc => ?_)))
        | ((with_reducible refine Nx.is_mix ?_); first | refine Nx.m ?_ | ((fail_if_success refine Nx.m_quiet_do rfl rfl rfl rfl rfl rfl rfl ?_ ?_); (fail_if_success refine Nx.m_loud_do rfl rfl rfl rfl rfl ?_); first | refine Nx.m_dec_t rfl rfl rfl rfl (by first | assumption | omega) ?_ | refine Nx.m_dec_f rfl rfl rfl rfl (by first | assumption | omega) ?_ | refine Nx.m_split rfl rfl rfl rfl (fun hc => ?_) (fun hc => ?_) | refine Nx.m_splitb rfl rfl rfl rfl (fun hc => ?_) (fun hc => ?_)))
        | ((fail_if_success (with_reducible refine Nx.is_at ?_)); (fail_if_success (with_reducible refine Nx.is_wp ?_)); (fail_if_success (with_reducible refine Nx.is_mix ?_)); first | refine Nx.ex ?_)
      refine Nx.unfoldAt 1 (B := [rwR (Ao, co, to)]) rfl ?_
      exact Nx.ret_fn rfl [rwR (Ao, co, to)] ⟨Ao, co, rfl, rfl⟩ (by (exact Ent.auto))
end Go.Proofs.Ytcmdemfhbekabaa
/- Contracts of functions of the given program, and lemmas about plain lists and numbers: what the laws of this seat lean on. -/
namespace Go.Proofs.Ytcmdemfhbekabaa
open Go.Eng Go.Sol
attribute [local irreducible] opK wpList Code.wp Exit.then Exit.inBlock fnPost bodyPost Nx Calls Oper.wp Rd Rds Wr Ent Stars Blk Again Vec FnSpec wpMix QRun Stop Upto wpAt
/-! Made releases -/
abbrev spB (b5 : Nat) (B : Option Addr) (n cs : Nat) : Res := Blk b5 27 [.slice B n cs]
set_option maxRecDepth 10000 in
set_option maxHeartbeats 8000000 in
theorem Releases_made (b : Nat) (A B T : Option Addr) (c cs ct : Nat) (L l t : List Int) (k most : Nat) (I : PH) (hL : CodesOk I A c L) (hk : k ≤ L.length) (hl : Ints I B cs l) (hs : Sizes l) (ht : Ints I T ct t) (hT : Table l t) (hm9 : most ≤ 1000) :
    FnSpec Try.prog 21 [.pointer (some ⟨b, 0, none⟩), .agg #[.slice B l.length cs], .slice T t.length ct, .int .i64 (most : Int)] I [CodesR b A c L k]
      (fun u R' => ∃ (As : Option Addr) (c' : Nat) (rs : List Rel) (k' : Nat), u = .slice As rs.length c' ∧ rs.length ≤ most ∧ RelsOk l t rs ∧ k' ≤ L.length ∧ R' = [Vec 44 3 As rs.length c' (rs.flatMap relC), Stars (rs.map relR), CodesR b A c L k']) := by
  have hlen := hl.len
  have htl := ht.len
  refine FnSpec.enterP Try.func21 rfl Try.ntmps21 rfl fun w F => ?_
  repeat' first
    | ((with_reducible refine Nx.is_wp ?_); first | refine Nx.wo ?_ | refine Nx.p_dec rfl rfl (fun hc => ?_) (fun hc => ?_) | refine Nx.p_bool rfl rfl (fun hc => ?_) (fun hc => ?_))
    | ((first | refine Nx.at_op rfl rfl ?_ | refine Nx.m_loud rfl rfl rfl ?_ | refine Nx.at_do rfl rfl rfl rfl ?_ | refine Nx.m_loud_do rfl rfl rfl rfl rfl ?_); first | refine Nx.opr rfl rfl ?_ | (refine Nx.call rfl rfl rfl (by kernel_rfl) rfl (Next_any b A c L k ((most : Int) + 1) I hL hk (by omega)) (by (exact Ent.auto)) ?_; rintro _ _ ⟨n, k1, rfl, hn, hk1, rfl⟩) | refine Nx.so ?_ | refine Nx.sb (fun bx => ?_) | refine Nx.sa (fun A2 c2 => ?_))
    | ((with_reducible refine Nx.is_at ?_); first | refine Nx.a ?_ | ((fail_if_success refine Nx.at_do rfl rfl rfl rfl ?_); first | refine Nx.at_dec_t rfl rfl rfl rfl (by first | assumption | omega) ?_ | refine Nx.at_dec_f rfl rfl rfl rfl (by first | assumption | omega) ?_ | refine Nx.at_split rfl rfl rfl rfl (fun hc => ?_) (fun hc => ?_) | refine Nx.at_splitb rfl rfl rfl rfl (fun hc => ?_) (fun hc => ?_)))
    | ((with_reducible refine Nx.is_mix ?_); first | refine Nx.m ?_ | ((fail_if_success refine Nx.m_quiet_do rfl rfl rfl rfl rfl rfl rfl ?_ ?_); (fail_if_success refine Nx.m_loud_do rfl rfl rfl rfl rfl ?_); first | refine Nx.m_dec_t rfl rfl rfl rfl (by first | assumption | omega) ?_ | refine Nx.m_dec_f rfl rfl rfl rfl (by first | assumption | omega) ?_ | refine Nx.m_split rfl rfl rfl rfl (fun hc => ?_) (fun hc => ?_) | refine Nx.m_splitb rfl rfl rfl rfl (fun hc => ?_) (fun hc => ?_)))
    | ((fail_if_success (with_reducible refine Nx.is_at ?_)); (fail_if_success (with_reducible refine Nx.is_wp ?_)); (fail_if_success (with_reducible refine Nx.is_mix ?_)); first | refine Nx.ex ?_)
  obtain ⟨m, rfl⟩ : ∃ m : Nat, n = m := ⟨n.toNat, by omega⟩
  revert bx; intro b5
  refine Nx.p_loop (σ := Nat × Nat × Option Addr × Nat × List Rel) (fun s => [(0, .pointer (some ⟨b, 0, none⟩)), (2, .slice T t.length ct), (5, .pointer (some ⟨b5, 0, none⟩)), (9, .slice s.2.2.1 s.2.2.2.2.length s.2.2.2.1), (10, .int .i64 (s.1 : Int))])
    (fun s => [Vec 44 3 s.2.2.1 s.2.2.2.2.length s.2.2.2.1 (s.2.2.2.2.flatMap relC), Stars (s.2.2.2.2.map relR), CodesR b A c L s.2.1, spB b5 B l.length cs, F]) (fun s => s.2.1 ≤ L.length ∧ s.2.2.2.2.length + s.1 ≤ most ∧ RelsOk l t s.2.2.2.2) (fun s => s.1) (m, k1, none, 0, []) rfl
    ⟨hk1, by dsimp only; simp; omega, ⟨fun i hi => absurd hi (Nat.not_lt_zero _)⟩⟩ ⟨rfl, rfl, rfl, rfl, rfl, trivial⟩ ((Ent.stars_nil _).trans ((Ent.vec_nil 44 3 _).trans (by (exact Ent.auto)))) ?_
  rintro ⟨n, kc, As, c', rs⟩ ⟨hkc, hrl, hrs⟩
  dsimp only at hkc hrl hrs ⊢
  cases n with
  | zero =>
    repeat' first
      | ((with_reducible refine Nx.is_wp ?_); first | refine Nx.wo ?_ | refine Nx.p_dec rfl rfl (fun hc => ?_) (fun hc => ?_) | refine Nx.p_bool rfl rfl (fun hc => ?_) (fun hc => ?_))
      | ((first | refine Nx.at_op rfl rfl ?_ | refine Nx.m_loud rfl rfl rfl ?_ | refine Nx.at_do rfl rfl rfl rfl ?_ | refine Nx.m_loud_do rfl rfl rfl rfl rfl ?_); first | refine Nx.opr rfl rfl ?_ | refine Nx.so ?_ | refine Nx.sb (fun bx => ?_) | refine Nx.sa (fun A2 c2 => ?_))
      | ((with_reducible refine Nx.is_at ?_); first | refine Nx.a ?_ | ((fail_if_success refine Nx.at_do rfl rfl rfl rfl ?_); first | refine Nx.at_dec_t rfl rfl rfl rfl (by first | assumption | omega) ?_ | refine Nx.at_dec_f rfl rfl rfl rfl (by first | assumption | omega) ?_ | refine Nx.at_split rfl rfl rfl rfl (fun hc => ?_) (fun hc => ?_) | refine Nx.at_splitb rfl rfl rfl rfl (fun hc => ?_) (fun hc => ?_)))
      | ((with_reducible refine Nx.is_mix ?_); first | refine Nx.m ?_ | ((fail_if_success refine Nx.m_quiet_do rfl rfl rfl rfl rfl rfl rfl ?_ ?_); (fail_if_success refine Nx.m_loud_do rfl rfl rfl rfl rfl ?_); first | refine Nx.m_dec_t rfl rfl rfl rfl (by first | assumption | omega) ?_ | refine Nx.m_dec_f rfl rfl rfl rfl (by first | assumption | omega) ?_ | refine Nx.m_split rfl rfl rfl rfl (fun hc => ?_) (fun hc => ?_) | refine Nx.m_splitb rfl rfl rfl rfl (fun hc => ?_) (fun hc => ?_)))
      | ((fail_if_success (with_reducible refine Nx.is_at ?_)); (fail_if_success (with_reducible refine Nx.is_wp ?_)); (fail_if_success (with_reducible refine Nx.is_mix ?_)); first | refine Nx.ex ?_)
    exact Nx.ret_fn rfl [_, _, _] ⟨As, c', rs, kc, rfl, by omega, hrs, hkc, rfl⟩ (by (exact Ent.auto))
  | succ n =>
    repeat' first
      | ((with_reducible refine Nx.is_wp ?_); first | refine Nx.wo ?_ | refine Nx.p_dec rfl rfl (fun hc => ?_) (fun hc => ?_) | refine Nx.p_bool rfl rfl (fun hc => ?_) (fun hc => ?_))
      | ((first | refine Nx.at_op rfl rfl ?_ | refine Nx.m_loud rfl rfl rfl ?_ | refine Nx.at_do rfl rfl rfl rfl ?_ | refine Nx.m_loud_do rfl rfl rfl rfl rfl ?_); first | refine Nx.opr rfl rfl ?_ | (refine Nx.call rfl rfl rfl (by kernel_rfl) rfl (View_made b A B c cs L l kc I hL hkc hl hs) (by (exact Ent.auto)) ?_; rintro _ _ ⟨Av, cv, v, k2, rfl, hw, hk2, rfl⟩) | refine Nx.so ?_ | refine Nx.sb (fun bx => ?_) | refine Nx.sa (fun A2 c2 => ?_))
      | ((with_reducible refine Nx.is_at ?_); first | refine Nx.a ?_ | ((fail_if_success refine Nx.at_do rfl rfl rfl rfl ?_); first | refine Nx.at_dec_t rfl rfl rfl rfl (by first | assumption | omega) ?_ | refine Nx.at_dec_f rfl rfl rfl rfl (by first | assumption | omega) ?_ | refine Nx.at_split rfl rfl rfl rfl (fun hc => ?_) (fun hc => ?_) | refine Nx.at_splitb rfl rfl rfl rfl (fun hc => ?_) (fun hc => ?_)))
      | ((with_reducible refine Nx.is_mix ?_); first | refine Nx.m ?_ | ((fail_if_success refine Nx.m_quiet_do rfl rfl rfl rfl rfl rfl rfl ?_ ?_); (fail_if_success refine Nx.m_loud_do rfl rfl rfl rfl rfl ?_); first | refine Nx.m_dec_t rfl rfl rfl rfl (by first | assumption | omega) ?_ | refine Nx.m_dec_f rfl rfl rfl rfl (by first | assumption | omega) ?_ | refine Nx.m_split rfl rfl rfl rfl (fun hc => ?_) (fun hc => ?_) | refine Nx.m_splitb rfl rfl rfl rfl (fun hc => ?_) (fun hc => ?_)))
      | ((fail_if_success (with_reducible refine Nx.is_at ?_)); (fail_if_success (with_reducible refine Nx.is_wp ?_)); (fail_if_success (with_reducible refine Nx.is_mix ?_)); first | refine Nx.ex ?_)
    revert bx; intro b11
    refine Nx.ent (R' := [ViewR Av cv v, Blk b11 35 [.slice Av v.length cv], CodesR b A c L k2, Vec 44 3 As rs.length c' (rs.flatMap relC), Stars (rs.map relR), spB b5 B l.length cs, F]) (by (exact Ent.auto)) ?_
    refine Nx.at_op rfl rfl ?_
    refine Nx.call_lendR 0 rfl rfl rfl (by kernel_rfl) rfl rfl (fun m I' hle hm hv => RPublish_spec B Av T cs cv ct l t v I' (hl.mono hle) hs (ViewR.rows hm hv) hw (ht.mono hle) hT) ?_
    rintro _ _ ⟨Ap, rfl, rfl⟩
    have hszs := hw.sizes hs
    have hpr := hszs.bound (k := (szs v).length) (Nat.le_refl _)
    rw [List.take_length] at hpr
    generalize hP : (prod (szs v)).toNat = P
    have hsl := sums_len (pubOf l v) t P t.length
    generalize hz0 : sums (pubOf l v) t P t.length = z0 at hsl
    have hz1 : ∀ j, j < P → z0.getD j default = sumAt (pubOf l v) t (j : Int) t.length := fun j hj => by rw [← hz0, sums_at _ _ _ _ _ hj]
    repeat' first
      | ((with_reducible refine Nx.is_wp ?_); first | refine Nx.wo ?_ | refine Nx.p_dec rfl rfl (fun hc => ?_) (fun hc => ?_) | refine Nx.p_bool rfl rfl (fun hc => ?_) (fun hc => ?_))
      | ((first | refine Nx.at_op rfl rfl ?_ | refine Nx.m_loud rfl rfl rfl ?_ | refine Nx.at_do rfl rfl rfl rfl ?_ | refine Nx.m_loud_do rfl rfl rfl rfl rfl ?_); first | refine Nx.opr rfl rfl ?_ | refine Nx.so ?_ | refine Nx.sb (fun bx => ?_) | refine Nx.sa (fun A2 c2 => ?_))
      | ((with_reducible refine Nx.is_at ?_); first | refine Nx.a ?_ | ((fail_if_success refine Nx.at_do rfl rfl rfl rfl ?_); first | refine Nx.at_dec_t rfl rfl rfl rfl (by first | assumption | omega) ?_ | refine Nx.at_dec_f rfl rfl rfl rfl (by first | assumption | omega) ?_ | refine Nx.at_split rfl rfl rfl rfl (fun hc => ?_) (fun hc => ?_) | refine Nx.at_splitb rfl rfl rfl rfl (fun hc => ?_) (fun hc => ?_)))
      | ((with_reducible refine Nx.is_mix ?_); first | refine Nx.m ?_ | ((fail_if_success refine Nx.m_quiet_do rfl rfl rfl rfl rfl rfl rfl ?_ ?_); (fail_if_success refine Nx.m_loud_do rfl rfl rfl rfl rfl ?_); first | refine Nx.m_dec_t rfl rfl rfl rfl (by first | assumption | omega) ?_ | refine Nx.m_dec_f rfl rfl rfl rfl (by first | assumption | omega) ?_ | refine Nx.m_split rfl rfl rfl rfl (fun hc => ?_) (fun hc => ?_) | refine Nx.m_splitb rfl rfl rfl rfl (fun hc => ?_) (fun hc => ?_)))
      | ((fail_if_success (with_reducible refine Nx.is_at ?_)); (fail_if_success (with_reducible refine Nx.is_wp ?_)); (fail_if_success (with_reducible refine Nx.is_mix ?_)); first | refine Nx.ex ?_)
    refine Nx.p_loop (σ := Nat × Nat × List Int) (fun s => [(0, .pointer (some ⟨b, 0, none⟩)), (2, .slice T t.length ct), (5, .pointer (some ⟨b5, 0, none⟩)), (9, .slice As rs.length c'), (10, .int .i64 ((n + 1 : Nat) : Int)), (11, .pointer (some ⟨b11, 0, none⟩)), (12, .slice Ap P P), (33, .slice Ap P P), (34, .int .i64 (P : Int)), (35, .int .i64 (s.1 : Int))])
      (fun s => [Vec 3 1 Ap P P (s.2.2.map (Value.int .i64)), CodesR b A c L s.2.1, ViewR Av cv v, Blk b11 35 [.slice Av v.length cv], Vec 44 3 As rs.length c' (rs.flatMap relC), Stars (rs.map relR), spB b5 B l.length cs, F]) (fun s => s.1 ≤ P ∧ s.2.1 ≤ L.length ∧ s.2.2.length = P ∧ ∀ j, j < P → s.2.2.getD j default = -1 ∨ s.2.2.getD j default = sumAt (pubOf l v) t (j : Int) t.length) (fun s => P - s.1) (0, k2, z0) rfl
      ⟨Nat.zero_le _, hk2, hsl, fun j hj => .inr (hz1 j hj)⟩ ⟨rfl, rfl, rfl, rfl, rfl, rfl, rfl, rfl, rfl, rfl, trivial⟩ (by (exact Ent.auto)) ?_
    rintro ⟨i, ki, z⟩ ⟨hi, hki, hzl, hz⟩
    dsimp only at hi hki hzl hz ⊢
    by_cases hiP : i < P
    · refine Nx.vec_fact fun _ _ _ hAp => ?_
      repeat' first
        | ((with_reducible refine Nx.is_wp ?_); first | refine Nx.wo ?_ | refine Nx.p_dec rfl rfl (fun hc => ?_) (fun hc => ?_) | refine Nx.p_bool rfl rfl (fun hc => ?_) (fun hc => ?_))
        | ((first | refine Nx.at_op rfl rfl ?_ | refine Nx.m_loud rfl rfl rfl ?_ | refine Nx.at_do rfl rfl rfl rfl ?_ | refine Nx.m_loud_do rfl rfl rfl rfl rfl ?_); first | refine Nx.opr rfl rfl ?_ | (refine Nx.call rfl rfl rfl (by kernel_rfl) rfl (Next_any b A c L ki 5 I hL hki (by omega)) (by (exact Ent.auto)) ?_; rintro _ _ ⟨r, k3, rfl, hr, hk3, rfl⟩) | refine Nx.indexAddr_nat rfl rfl rfl rfl rfl hiP (hAp (by omega)) ?_ | refine Nx.store_of 1 (Value.int .i64) (l := z) (i := i) (z := -1) rfl rfl rfl rfl rfl rfl hiP ?_ | refine Nx.so ?_ | refine Nx.sb (fun bx => ?_) | refine Nx.sa (fun A2 c2 => ?_))
        | ((with_reducible refine Nx.is_at ?_); first | refine Nx.a ?_ | ((fail_if_success refine Nx.at_do rfl rfl rfl rfl ?_); first | refine Nx.at_dec_t rfl rfl rfl rfl (by first | assumption | omega) ?_ | refine Nx.at_dec_f rfl rfl rfl rfl (by first | assumption | omega) ?_ | refine Nx.at_split rfl rfl rfl rfl (fun hc => ?_) (fun hc => ?_) | refine Nx.at_splitb rfl rfl rfl rfl (fun hc => ?_) (fun hc => ?_)))
        | ((with_reducible refine Nx.is_mix ?_); first | refine Nx.m ?_ | ((fail_if_success refine Nx.m_quiet_do rfl rfl rfl rfl rfl rfl rfl ?_ ?_); (fail_if_success refine Nx.m_loud_do rfl rfl rfl rfl rfl ?_); first | refine Nx.m_dec_t rfl rfl rfl rfl (by first | assumption | omega) ?_ | refine Nx.m_dec_f rfl rfl rfl rfl (by first | assumption | omega) ?_ | refine Nx.m_split rfl rfl rfl rfl (fun hc => ?_) (fun hc => ?_) | refine Nx.m_splitb rfl rfl rfl rfl (fun hc => ?_) (fun hc => ?_)))
        | ((fail_if_success (with_reducible refine Nx.is_at ?_)); (fail_if_success (with_reducible refine Nx.is_wp ?_)); (fail_if_success (with_reducible refine Nx.is_mix ?_)); first | refine Nx.ex ?_)
      · exact Nx.again (i + 1, k3, z.set i (-1)) ⟨hiP, hk3, by dsimp only; rw [List.length_set]; exact hzl, fun j hj => by
            dsimp only
            by_cases hij : i = j
            · subst hij; exact .inl (getD_set_eq (by omega))
            · rw [getD_set_ne hij]; exact hz j hj⟩ (by dsimp only; omega) ⟨rfl, rfl, rfl, rfl, rfl, rfl, rfl, rfl, rfl, rfl, trivial⟩ (by (exact Ent.auto))
      · exact Nx.again (i + 1, k3, z) ⟨hiP, hk3, hzl, hz⟩ (by dsimp only; omega) ⟨rfl, rfl, rfl, rfl, rfl, rfl, rfl, rfl, rfl, rfl, trivial⟩ (by (exact Ent.auto))
    obtain rfl : i = P := by omega
    subst hzl
    repeat' first
      | ((with_reducible refine Nx.is_wp ?_); first | refine Nx.wo ?_ | refine Nx.p_dec rfl rfl (fun hc => ?_) (fun hc => ?_) | refine Nx.p_bool rfl rfl (fun hc => ?_) (fun hc => ?_))
      | ((first | refine Nx.at_op rfl rfl ?_ | refine Nx.m_loud rfl rfl rfl ?_ | refine Nx.at_do rfl rfl rfl rfl ?_ | refine Nx.m_loud_do rfl rfl rfl rfl rfl ?_); first | refine Nx.opr rfl rfl ?_ | refine Nx.so ?_ | refine Nx.sb (fun bx => ?_) | refine Nx.sa (fun A2 c2 => ?_))
      | ((with_reducible refine Nx.is_at ?_); first | refine Nx.a ?_ | ((fail_if_success refine Nx.at_do rfl rfl rfl rfl ?_); first | refine Nx.at_dec_t rfl rfl rfl rfl (by first | assumption | omega) ?_ | refine Nx.at_dec_f rfl rfl rfl rfl (by first | assumption | omega) ?_ | refine Nx.at_split rfl rfl rfl rfl (fun hc => ?_) (fun hc => ?_) | refine Nx.at_splitb rfl rfl rfl rfl (fun hc => ?_) (fun hc => ?_)))
      | ((with_reducible refine Nx.is_mix ?_); first | refine Nx.m ?_ | ((fail_if_success refine Nx.m_quiet_do rfl rfl rfl rfl rfl rfl rfl ?_ ?_); (fail_if_success refine Nx.m_loud_do rfl rfl rfl rfl rfl ?_); first | refine Nx.m_dec_t rfl rfl rfl rfl (by first | assumption | omega) ?_ | refine Nx.m_dec_f rfl rfl rfl rfl (by first | assumption | omega) ?_ | refine Nx.m_split rfl rfl rfl rfl (fun hc => ?_) (fun hc => ?_) | refine Nx.m_splitb rfl rfl rfl rfl (fun hc => ?_) (fun hc => ?_)))
      | ((fail_if_success (with_reducible refine Nx.is_at ?_)); (fail_if_success (with_reducible refine Nx.is_wp ?_)); (fail_if_success (with_reducible refine Nx.is_mix ?_)); first | refine Nx.ex ?_)
    refine Nx.again (n, ki, A2, c2, rs ++ [⟨(rs.length : Int), Av, cv, v, (Ap, z.length, z)⟩]) ⟨hki, by dsimp only; rw [List.length_append]; show rs.length + 1 + n ≤ most; omega, ⟨fun i hi => ?_⟩⟩ (by dsimp only; omega) ⟨rfl, rfl, rfl, by dsimp only; rw [List.length_append]; rfl, by dsimp only; rw [show ((n + 1 : Nat) : Int) - 1 = (n : Int) by omega]; rfl, trivial⟩ ?_
    · dsimp only
      by_cases hir : i < rs.length
      · rw [List.getD_eq_getElem?_getD, List.getElem?_append_left hir, ← List.getD_eq_getElem?_getD]
        exact hrs.each i hir
      · obtain rfl : i = rs.length := by rw [List.length_append, List.length_singleton] at hi; omega
        rw [List.getD_eq_getElem?_getD, List.getElem?_append_right (Nat.le_refl _), Nat.sub_self]
        exact ⟨⟨hw, show z.length = (prod (szs v)).toNat from hP.symm, hz⟩, rfl⟩
    · dsimp only
      refine Ent.trans (R' := [ViewR Av cv v, rowR (Ap, z.length, z), Stars (rs.map relR), Vec 44 3 A2 (rs.length + 1) c2 (rs.flatMap relC ++ relC ⟨(rs.length : Int), Av, cv, v, (Ap, z.length, z)⟩), CodesR b A c L ki, spB b5 B l.length cs, F]) (by unfold rowR relC rowV; (exact Ent.auto)) ?_
      refine Ent.pack2.trans ?_
      refine Ent.trans (R' := Stars (rs.map relR ++ [relR ⟨(rs.length : Int), Av, cv, v, (Ap, z.length, z)⟩]) :: [Vec 44 3 A2 (rs.length + 1) c2 (rs.flatMap relC ++ relC ⟨(rs.length : Int), Av, cv, v, (Ap, z.length, z)⟩), CodesR b A c L ki, spB b5 B l.length cs, F]) Ent.bundle ?_
      rw [List.length_append, List.flatMap_append, List.map_append, List.flatMap_cons, List.flatMap_nil, List.append_nil]
      (exact Ent.auto)
end Go.Proofs.Ytcmdemfhbekabaa
/- Contracts of functions of the given program, and lemmas about plain lists and numbers: what the laws of this seat lean on. -/
namespace Go.Proofs.Ytcmdemfhbekabaa
open Go.Eng Go.Sol
attribute [local irreducible] opK wpList Code.wp Exit.then Exit.inBlock fnPost bodyPost Nx Calls Oper.wp Rd Rds Wr Ent Stars Blk Again Vec FnSpec wpMix QRun Stop Upto wpAt
/-! The reference's equations: what right releases tell -/
/-- A right release of a space. -/
structure RelV (l : List Int) (r : Rel) : Prop where
  view : Viewed l r.v
  len : r.val.2.2.length = (prod (szs r.v)).toNat
  each : ∀ j, j < r.val.2.2.length → r.val.2.2.getD j default = -1 ∨ (0 ≤ r.val.2.2.getD j default ∧ r.val.2.2.getD j default ≤ 1000000)
/-- Right releases of a space, by ascending numbers. -/
structure RelsV (l : List Int) (rs : List Rel) : Prop where
  len : rs.length ≤ 24
  each : ∀ i, i < rs.length → RelV l (rs.getD i default) ∧ 0 ≤ (rs.getD i default).num ∧ (rs.getD i default).num < 24
  asc : ∀ i, i + 1 < rs.length → (rs.getD i default).num < (rs.getD (i + 1) default).num
def prevN (rs : List Rel) : Nat → Int
  | 0 => -1
  | i + 1 => (rs.getD i default).num
theorem RelsV.prev {l : List Int} {rs : List Rel} (h : RelsV l rs) : ∀ {i : Nat}, i < rs.length → prevN rs i < (rs.getD i default).num
  | 0, hi => by have := (h.each 0 hi).2.1; show -1 < _; omega
  | i + 1, hi => h.asc i hi
theorem getD_memR {l : List Rel} {k : Nat} (h : k < l.length) : l.getD k default ∈ l := by
  rw [List.getD_eq_getElem?_getD, List.getElem?_eq_getElem h]; exact List.getElem_mem _
/-! What releases tell -/
def cont (q : EqR) : List Int × Int := (q.1.2.2, q.2)
def toldK (l : List Int) (v : List Row) (vs : List Int) : Nat → List (List Int × Int)
  | 0 => []
  | j + 1 => toldK l v vs j ++ if vs.getD j default = -1 then [] else [(memK l v (j : Int) (prod l).toNat, vs.getD j default)]
def told (l : List Int) (r : Rel) : List (List Int × Int) := toldK l r.v r.val.2.2 r.val.2.2.length
abbrev eqsR (A : Option Addr) (c : Nat) (qs : List EqR) : List Res := [Vec 105 2 A qs.length c (qs.flatMap eqC), Stars (qs.map fun q => rowR q.1)]
theorem take_snocR {l : List Rel} {k : Nat} (h : k < l.length) : l.take (k + 1) = l.take k ++ [l.getD k default] := by
  rw [List.take_add_one, List.getElem?_eq_getElem h, List.getD_eq_getElem?_getD, List.getElem?_eq_getElem h]; rfl
end Go.Proofs.Ytcmdemfhbekabaa
/-
  The proof engine, part AP: a contract of a function that reads what its caller owns: it is lent and given back.
-/
namespace Go.Eng
set_option maxHeartbeats 8000000 in
theorem FnSpec.keep {P : Program} {f : FuncId} {al : List Value} {I : PH} {Rpre : List Res} {Post : Value → List Res → Prop} (B : List Res)
    (hs : ∀ m I', PH.le I I' → PH.le m I' → Stars B m → FnSpec P f al I' Rpre Post) : FnSpec P f al I (B ++ Rpre) (fun v R' => ∃ R0, Post v R0 ∧ R' = B ++ R0) := by
  intro w F hw
  rw [List.append_assoc] at hw
  obtain ⟨m, hd, hB, hl, hback⟩ := hw.lend
  refine Calls.mono (hs m _ (PH.le_or_left _ _) (PH.le_or_right hd) hB w F hl) ?_
  rintro en w' ⟨v, R', rfl, hv, hst⟩
  exact ⟨v, B ++ R', rfl, ⟨R', hv, rfl⟩, by rw [List.append_assoc]; exact hback hst⟩
theorem Ent.pre : ∀ (A B R : List Res), Ent (A ++ (B ++ R)) (A ++ R)
  | [], [], R => Ent.refl R
  | [], b :: B, R => Ent.drop (Ent.pre [] B R)
  | a :: A, B, R => Ent.cons (Ent.pre A B R)
end Go.Eng
/- Contracts of functions of the given program, and lemmas about plain lists and numbers: what the laws of this seat lean on. -/
namespace Go.Proofs.Ytcmdemfhbekabaa
open Go.Eng Go.Sol
attribute [local irreducible] opK wpList Code.wp Exit.then Exit.inBlock fnPost bodyPost Nx Calls Oper.wp Rd Rds Wr Ent Stars Blk Again Vec FnSpec wpMix QRun Stop Upto wpAt
/-! Made equations -/
theorem rels_of {As : Option Addr} {cs : Nat} {rs : List Rel} {m I' : PH} {m1 m2 : PH} (hm : PH.le m I') (h1 : Vec 44 3 As rs.length cs (rs.flatMap relC) m1) (hm1 : PH.le m1 m) (h2 : Stars (rs.map relR) m2) (hm2 : PH.le m2 m) : Rels I' As cs rs := by
  have hat : ∀ r ∈ rs, ∃ m3, PH.le m3 I' ∧ relR r m3 := fun r hr => by
    obtain ⟨k, hk, he⟩ := List.mem_iff_getElem.1 hr
    obtain ⟨m3, h3le, h3⟩ := Stars.get k (r := relR r) h2 (by rw [nthL_eq, List.getElem?_map, List.getElem?_eq_getElem hk, he]; rfl)
    exact ⟨m3, (h3le.trans hm2).trans hm, h3⟩
  refine ⟨Vec.sliceN (hm1.trans hm) h1 fun x _ => relC_len x, fun r hr => ?_, fun r hr => ?_⟩
  · obtain ⟨m3, h3, hr3⟩ := hat r hr
    obtain ⟨m4, h4le, h4⟩ := Stars.get 0 hr3 rfl
    exact ViewR.rows (h4le.trans h3) h4
  · obtain ⟨m3, h3, hr3⟩ := hat r hr
    obtain ⟨m4, h4le, h4⟩ := Stars.get 1 hr3 rfl
    exact Vec.sliceOf (h4le.trans h3) h4
abbrev tabOk (s t : List Int) (most : Int) : Prop := t.length = (prod s).toNat ∧ ∀ j, j < t.length → 0 ≤ t.getD j default ∧ t.getD j default ≤ most
abbrev toldR (B : Option Addr) (c' : Nat) (s : List Int) (At : Option Addr) (ct : Nat) (t : List Int) (As : Option Addr) (ca : Nat) (rs : List Rel) : List Res := [iR B c' s, iR At ct t, Vec 44 3 As rs.length ca (rs.flatMap relC), Stars (rs.map relR)]
set_option maxRecDepth 10000 in
set_option maxHeartbeats 8000000 in
theorem Told_made (b : Nat) (A : Option Addr) (c : Nat) (L : List Int) (k most n : Nat) (I : PH) (hL : CodesOk I A c L) (hk : k ≤ L.length) (hm : most ≤ 1000) (hn : n ≤ 1000) :
    FnSpec Try.prog 7 [.pointer (some ⟨b, 0, none⟩), .int .i64 (most : Int), .int .i64 (n : Int)] I [CodesR b A c L k]
      (fun u R' => ∃ (B : Option Addr) (c' : Nat) (s : List Int) (At : Option Addr) (ct : Nat) (t : List Int) (As : Option Addr) (ca : Nat) (rs : List Rel) (k' : Nat), u = .tuple #[.agg #[.slice B s.length c'], .slice At t.length ct, .slice As rs.length ca] ∧ Sizes s ∧ tabOk s t most ∧ rs.length ≤ n ∧ RelsOk s t rs ∧ k' ≤ L.length ∧ R' = toldR B c' s At ct t As ca rs ++ [CodesR b A c L k']) := by
  refine FnSpec.enterP Try.func7 rfl Try.ntmps7 rfl fun w F => ?_
  repeat' first
    | ((with_reducible refine Nx.is_wp ?_); first | refine Nx.wo ?_ | refine Nx.p_dec rfl rfl (fun hc => ?_) (fun hc => ?_) | refine Nx.p_bool rfl rfl (fun hc => ?_) (fun hc => ?_))
    | ((first | refine Nx.at_op rfl rfl ?_ | refine Nx.m_loud rfl rfl rfl ?_ | refine Nx.at_do rfl rfl rfl rfl ?_ | refine Nx.m_loud_do rfl rfl rfl rfl rfl ?_); first | refine Nx.opr rfl rfl ?_ | refine Nx.so ?_ | refine Nx.sb (fun bx => ?_) | refine Nx.sa (fun A2 c2 => ?_))
    | ((with_reducible refine Nx.is_at ?_); first | refine Nx.a ?_ | ((fail_if_success refine Nx.at_do rfl rfl rfl rfl ?_); first | refine Nx.at_dec_t rfl rfl rfl rfl (by first | assumption | omega) ?_ | refine Nx.at_dec_f rfl rfl rfl rfl (by first | assumption | omega) ?_ | refine Nx.at_split rfl rfl rfl rfl (fun hc => ?_) (fun hc => ?_) | refine Nx.at_splitb rfl rfl rfl rfl (fun hc => ?_) (fun hc => ?_)))
    | ((with_reducible refine Nx.is_mix ?_); first | refine Nx.m ?_ | ((fail_if_success refine Nx.m_quiet_do rfl rfl rfl rfl rfl rfl rfl ?_ ?_); (fail_if_success refine Nx.m_loud_do rfl rfl rfl rfl rfl ?_); first | refine Nx.m_dec_t rfl rfl rfl rfl (by first | assumption | omega) ?_ | refine Nx.m_dec_f rfl rfl rfl rfl (by first | assumption | omega) ?_ | refine Nx.m_split rfl rfl rfl rfl (fun hc => ?_) (fun hc => ?_) | refine Nx.m_splitb rfl rfl rfl rfl (fun hc => ?_) (fun hc => ?_)))
    | ((fail_if_success (with_reducible refine Nx.is_at ?_)); (fail_if_success (with_reducible refine Nx.is_wp ?_)); (fail_if_success (with_reducible refine Nx.is_mix ?_)); first | refine Nx.ex ?_)
  revert bx; intro b6
  refine Nx.at_op rfl rfl ?_
  refine Nx.call rfl rfl rfl (by kernel_rfl) rfl (Space_made b A c L k I hL hk) (by (exact Ent.auto)) ?_
  rintro _ _ ⟨B, c', s, k1, rfl, hs, hk1, rfl⟩
  repeat' first
    | ((with_reducible refine Nx.is_wp ?_); first | refine Nx.wo ?_ | refine Nx.p_dec rfl rfl (fun hc => ?_) (fun hc => ?_) | refine Nx.p_bool rfl rfl (fun hc => ?_) (fun hc => ?_))
    | ((first | refine Nx.at_op rfl rfl ?_ | refine Nx.m_loud rfl rfl rfl ?_ | refine Nx.at_do rfl rfl rfl rfl ?_ | refine Nx.m_loud_do rfl rfl rfl rfl rfl ?_); first | refine Nx.opr rfl rfl ?_ | refine Nx.so ?_ | refine Nx.sb (fun bx => ?_) | refine Nx.sa (fun A2 c2 => ?_))
    | ((with_reducible refine Nx.is_at ?_); first | refine Nx.a ?_ | ((fail_if_success refine Nx.at_do rfl rfl rfl rfl ?_); first | refine Nx.at_dec_t rfl rfl rfl rfl (by first | assumption | omega) ?_ | refine Nx.at_dec_f rfl rfl rfl rfl (by first | assumption | omega) ?_ | refine Nx.at_split rfl rfl rfl rfl (fun hc => ?_) (fun hc => ?_) | refine Nx.at_splitb rfl rfl rfl rfl (fun hc => ?_) (fun hc => ?_)))
    | ((with_reducible refine Nx.is_mix ?_); first | refine Nx.m ?_ | ((fail_if_success refine Nx.m_quiet_do rfl rfl rfl rfl rfl rfl rfl ?_ ?_); (fail_if_success refine Nx.m_loud_do rfl rfl rfl rfl rfl ?_); first | refine Nx.m_dec_t rfl rfl rfl rfl (by first | assumption | omega) ?_ | refine Nx.m_dec_f rfl rfl rfl rfl (by first | assumption | omega) ?_ | refine Nx.m_split rfl rfl rfl rfl (fun hc => ?_) (fun hc => ?_) | refine Nx.m_splitb rfl rfl rfl rfl (fun hc => ?_) (fun hc => ?_)))
    | ((fail_if_success (with_reducible refine Nx.is_at ?_)); (fail_if_success (with_reducible refine Nx.is_wp ?_)); (fail_if_success (with_reducible refine Nx.is_mix ?_)); first | refine Nx.ex ?_)
  revert bx; intro b9
  refine Nx.at_op rfl rfl ?_
  refine Nx.call rfl rfl rfl (by kernel_rfl) rfl (FnSpec.keep [iR B c' s] fun m I' hle hm' hv => Cells_spec b A B c c' L s k1 most I' (hL.mono hle) hk1 (by obtain ⟨m1, hm1, h1⟩ := Stars.get 0 hv rfl; exact Vec.sliceOf (hm1.trans hm') h1) hs (by omega)) (by (exact Ent.auto)) ?_
  rintro _ _ ⟨_, ⟨bt, t, k2, rfl, htl, hte, hk2, rfl⟩, rfl⟩
  have hT : Table s t := ⟨htl, fun j hj => by have := hte j hj; omega⟩
  repeat' first
    | ((with_reducible refine Nx.is_wp ?_); first | refine Nx.wo ?_ | refine Nx.p_drawF (id := 3) rfl [0, 1, 2, 3, 4, 5, 6, 7, 8, 9] [6, 7] [] _ rfl rfl (by kernel_rfl) (by kernel_rfl) rfl (by repeat first | exact PanicOk.fn | refine PanicOk.then_ ?_ | refine PanicOk.inB ?_) ((Ent.eraseK 4 _).trans (Ent.eraseK 2 _)) ?_ | refine Nx.p_dec rfl rfl (fun hc => ?_) (fun hc => ?_) | refine Nx.p_bool rfl rfl (fun hc => ?_) (fun hc => ?_))
    | ((first | refine Nx.at_op rfl rfl ?_ | refine Nx.m_loud rfl rfl rfl ?_ | refine Nx.at_do rfl rfl rfl rfl ?_ | refine Nx.m_loud_do rfl rfl rfl rfl rfl ?_); first | refine Nx.opr rfl rfl ?_ | (refine Nx.call rfl rfl rfl (by kernel_rfl) rfl (FnSpec.keep [iR B c' s, iR (some ⟨bt, 0, none⟩) t.length t] fun m I' hle hm' hv => Releases_made b A B (some ⟨bt, 0, none⟩) c c' t.length L s t k2 n I' (hL.mono hle) hk2 (by obtain ⟨m1, hm1, h1⟩ := Stars.get 0 hv rfl; exact Vec.sliceOf (hm1.trans hm') h1) hs (by obtain ⟨m1, hm1, h1⟩ := Stars.get 1 hv rfl; exact Vec.sliceOf (hm1.trans hm') h1) hT hn) (by (exact Ent.auto)) ?_; rintro _ _ ⟨_, ⟨As, ca, rs, k3, rfl, hrn, hro, hk3, rfl⟩, rfl⟩) | refine Nx.so ?_ | refine Nx.sb (fun bx => ?_) | refine Nx.sa (fun A2 c2 => ?_))
    | ((with_reducible refine Nx.is_at ?_); first | refine Nx.a ?_ | ((fail_if_success refine Nx.at_do rfl rfl rfl rfl ?_); first | refine Nx.at_dec_t rfl rfl rfl rfl (by first | assumption | omega) ?_ | refine Nx.at_dec_f rfl rfl rfl rfl (by first | assumption | omega) ?_ | refine Nx.at_split rfl rfl rfl rfl (fun hc => ?_) (fun hc => ?_) | refine Nx.at_splitb rfl rfl rfl rfl (fun hc => ?_) (fun hc => ?_)))
    | ((with_reducible refine Nx.is_mix ?_); first | refine Nx.m ?_ | ((fail_if_success refine Nx.m_quiet_do rfl rfl rfl rfl rfl rfl rfl ?_ ?_); (fail_if_success refine Nx.m_loud_do rfl rfl rfl rfl rfl ?_); first | refine Nx.m_dec_t rfl rfl rfl rfl (by first | assumption | omega) ?_ | refine Nx.m_dec_f rfl rfl rfl rfl (by first | assumption | omega) ?_ | refine Nx.m_split rfl rfl rfl rfl (fun hc => ?_) (fun hc => ?_) | refine Nx.m_splitb rfl rfl rfl rfl (fun hc => ?_) (fun hc => ?_)))
    | ((fail_if_success (with_reducible refine Nx.is_at ?_)); (fail_if_success (with_reducible refine Nx.is_wp ?_)); (fail_if_success (with_reducible refine Nx.is_mix ?_)); first | refine Nx.ex ?_)
  exact Nx.ret3 rfl (ROne.cell 0 rfl rfl rfl rfl rfl) (ROne.tmp rfl) (ROne.tmp rfl) [_, _, _, _, _] ⟨B, c', s, _, _, t, As, ca, rs, k3, rfl, hs, ⟨htl, hte⟩, hrn, hro, hk3, rfl⟩ (by (exact Ent.auto))
theorem mem_toldK {l : List Int} {v : List Row} {vs : List Int} {x : List Int × Int} : ∀ {n : Nat}, x ∈ toldK l v vs n ↔ ∃ j, j < n ∧ vs.getD j default ≠ -1 ∧ x = (memK l v (j : Int) (prod l).toNat, vs.getD j default)
  | 0 => by simp [toldK]
  | n + 1 => by
    rw [toldK, List.mem_append, mem_toldK]
    constructor
    · rintro (⟨j, h1, h2, h3⟩ | h)
      · exact ⟨j, by omega, h2, h3⟩
      · by_cases hz : vs.getD n default = -1
        · rw [if_pos hz] at h; cases h
        · rw [if_neg hz, List.mem_singleton] at h
          exact ⟨n, by omega, hz, h⟩
    · rintro ⟨j, h1, h2, h3⟩
      rcases Nat.lt_or_ge j n with hj | hj
      · exact .inl ⟨j, hj, h2, h3⟩
      · obtain rfl : j = n := by omega
        right
        rw [if_neg h2, List.mem_singleton]
        exact h3
/-- Equations with which a table agrees. -/
structure EqsOk (N : Nat) (t : List Int) (most : Int) (qs : List EqR) : Prop where
  n : 1 ≤ N ∧ N ≤ 48
  len : t.length = N
  tab : ∀ j, j < t.length → 0 ≤ t.getD j default ∧ t.getD j default ≤ most
  few : qs.length ≤ 8
  good : ∀ q ∈ qs, GoodE N q
  sum : ∀ q ∈ qs, sumC t (eqn q).1 = q.2
end Go.Proofs.Ytcmdemfhbekabaa
/- Contracts of functions of the given program, and lemmas about plain lists and numbers: what the laws of this seat lean on. -/
namespace Go.Proofs.Ytcmdemfhbekabaa
open Go.Eng Go.Sol
attribute [local irreducible] opK wpList Code.wp Exit.then Exit.inBlock fnPost bodyPost Nx Calls Oper.wp Rd Rds Wr Ent Stars Blk Again Vec FnSpec wpMix QRun Stop Upto wpAt
/-! The program's equations: what releases tell, for right views -/
def badV (z : Int) : Bool := decide (z ≠ -1) && !decide (0 ≤ z ∧ z ≤ 1000000)
set_option maxHeartbeats 8000000 in
set_option maxRecDepth 10000 in
theorem bad_spec (z : Int) (I : PH) : FnSpec Try.prog 78 [.int .i64 z] I [] (fun v R' => v = .bool (badV z) ∧ R' = []) := by
  have hv := value_spec z I
  unfold badV
  refine FnSpec.enterP Try.func78 rfl Try.ntmps78 rfl fun w F => ?_
  by_cases h : z = -1
  · rw [decide_eq_false (fun h' : z ≠ -1 => h' h), Bool.false_and]
    repeat' first
      | ((with_reducible refine Nx.is_wp ?_); first | refine Nx.wo ?_ | refine Nx.p_dec rfl rfl (fun hc => ?_) (fun hc => ?_) | refine Nx.p_bool rfl rfl (fun hc => ?_) (fun hc => ?_))
      | ((first | refine Nx.at_op rfl rfl ?_ | refine Nx.m_loud rfl rfl rfl ?_ | refine Nx.at_do rfl rfl rfl rfl ?_ | refine Nx.m_loud_do rfl rfl rfl rfl rfl ?_); first | refine Nx.opr rfl rfl ?_ | refine Nx.callv rfl rfl rfl (by kernel_rfl) rfl hv ?_ | refine Nx.so ?_ | refine Nx.sb (fun bx => ?_) | refine Nx.sa (fun A2 c2 => ?_))
      | ((with_reducible refine Nx.is_at ?_); first | refine Nx.a ?_ | ((fail_if_success refine Nx.at_do rfl rfl rfl rfl ?_); first | refine Nx.at_dec_t rfl rfl rfl rfl (by first | assumption | omega) ?_ | refine Nx.at_dec_f rfl rfl rfl rfl (by first | assumption | omega) ?_ | refine Nx.at_split rfl rfl rfl rfl (fun hc => ?_) (fun hc => ?_) | refine Nx.at_splitb rfl rfl rfl rfl (fun hc => ?_) (fun hc => ?_)))
      | ((with_reducible refine Nx.is_mix ?_); first | refine Nx.m ?_ | ((fail_if_success refine Nx.m_quiet_do rfl rfl rfl rfl rfl rfl rfl ?_ ?_); (fail_if_success refine Nx.m_loud_do rfl rfl rfl rfl rfl ?_); first | refine Nx.m_dec_t rfl rfl rfl rfl (by first | assumption | omega) ?_ | refine Nx.m_dec_f rfl rfl rfl rfl (by first | assumption | omega) ?_ | refine Nx.m_split rfl rfl rfl rfl (fun hc => ?_) (fun hc => ?_) | refine Nx.m_splitb rfl rfl rfl rfl (fun hc => ?_) (fun hc => ?_)))
      | ((fail_if_success (with_reducible refine Nx.is_at ?_)); (fail_if_success (with_reducible refine Nx.is_wp ?_)); (fail_if_success (with_reducible refine Nx.is_mix ?_)); first | refine Nx.ex ?_)
    exact Nx.ret_fn rfl [] ⟨rfl, rfl⟩ (by (exact Ent.auto))
  · rw [decide_eq_true (show z ≠ -1 from h), Bool.true_and]
    repeat' first
      | ((with_reducible refine Nx.is_wp ?_); first | refine Nx.wo ?_ | refine Nx.p_dec rfl rfl (fun hc => ?_) (fun hc => ?_) | refine Nx.p_bool rfl rfl (fun hc => ?_) (fun hc => ?_))
      | ((first | refine Nx.at_op rfl rfl ?_ | refine Nx.m_loud rfl rfl rfl ?_ | refine Nx.at_do rfl rfl rfl rfl ?_ | refine Nx.m_loud_do rfl rfl rfl rfl rfl ?_); first | refine Nx.opr rfl rfl ?_ | refine Nx.callv rfl rfl rfl (by kernel_rfl) rfl hv ?_ | refine Nx.so ?_ | refine Nx.sb (fun bx => ?_) | refine Nx.sa (fun A2 c2 => ?_))
      | ((with_reducible refine Nx.is_at ?_); first | refine Nx.a ?_ | ((fail_if_success refine Nx.at_do rfl rfl rfl rfl ?_); first | refine Nx.at_dec_t rfl rfl rfl rfl (by first | assumption | omega) ?_ | refine Nx.at_dec_f rfl rfl rfl rfl (by first | assumption | omega) ?_ | refine Nx.at_split rfl rfl rfl rfl (fun hc => ?_) (fun hc => ?_) | refine Nx.at_splitb rfl rfl rfl rfl (fun hc => ?_) (fun hc => ?_)))
      | ((with_reducible refine Nx.is_mix ?_); first | refine Nx.m ?_ | ((fail_if_success refine Nx.m_quiet_do rfl rfl rfl rfl rfl rfl rfl ?_ ?_); (fail_if_success refine Nx.m_loud_do rfl rfl rfl rfl rfl ?_); first | refine Nx.m_dec_t rfl rfl rfl rfl (by first | assumption | omega) ?_ | refine Nx.m_dec_f rfl rfl rfl rfl (by first | assumption | omega) ?_ | refine Nx.m_split rfl rfl rfl rfl (fun hc => ?_) (fun hc => ?_) | refine Nx.m_splitb rfl rfl rfl rfl (fun hc => ?_) (fun hc => ?_)))
      | ((fail_if_success (with_reducible refine Nx.is_at ?_)); (fail_if_success (with_reducible refine Nx.is_wp ?_)); (fail_if_success (with_reducible refine Nx.is_mix ?_)); first | refine Nx.ex ?_)
    exact Nx.ret_fn rfl [] ⟨rfl, rfl⟩ (by (exact Ent.auto))
/-- The error of a release. -/
def relE (l : List Int) (r : Rel) (before : Int) : Int :=
  if r.num ≤ before ∨ 24 ≤ r.num then 48 else if (r.val.2.2.length : Int) ≠ prod (szs r.v) then 17 else if r.val.2.2.any badV = true then 2 else 0
set_option maxRecDepth 10000 in
set_option maxHeartbeats 8000000 in
theorem echeck_spec (A : Option Addr) (c : Nat) (l : List Int) (r : Rel) (before : Int) (I : PH) (hl : Ints I A c l) (hs : Sizes l) (hv : RowsOf I r.va r.vc r.v) (hd : Ints I r.val.1 r.val.2.1 r.val.2.2) (hw : Viewed l r.v) :
    FnSpec Try.prog 65 [.agg #[.slice A l.length c], .agg #[.int .i64 r.num, .slice r.va r.v.length r.vc, .slice r.val.1 r.val.2.2.length r.val.2.1], .int .i64 before] I [] (fun u R' => u = .int .i64 (relE l r before) ∧ R' = []) := by
  obtain ⟨num, B, cv, v, D, cd, vs⟩ := r
  dsimp only at hv hd hw ⊢
  have hvl := hd.len
  have hP := Published_spec A B c cv l v I hl hs hv hw
  have hC := ContainsFunc_spec 78 badV D cd vs I hd (by kernel_rfl) (fun z => bad_spec z I)
  unfold relE
  dsimp only
  generalize prod (szs v) = P at hP
  refine FnSpec.enterP Try.func65 rfl Try.ntmps65 rfl fun w F => ?_
  by_cases h1 : num ≤ before
  · rw [if_pos (.inl h1)]
    repeat' first
      | ((with_reducible refine Nx.is_wp ?_); first | refine Nx.wo ?_ | refine Nx.p_dec rfl rfl (fun hc => ?_) (fun hc => ?_) | refine Nx.p_bool rfl rfl (fun hc => ?_) (fun hc => ?_))
      | ((first | refine Nx.at_op rfl rfl ?_ | refine Nx.m_loud rfl rfl rfl ?_ | refine Nx.at_do rfl rfl rfl rfl ?_ | refine Nx.m_loud_do rfl rfl rfl rfl rfl ?_); first | refine Nx.opr rfl rfl ?_ | refine Nx.so ?_ | refine Nx.sb (fun bx => ?_) | refine Nx.sa (fun A2 c2 => ?_))
      | ((with_reducible refine Nx.is_at ?_); first | refine Nx.a ?_ | ((fail_if_success refine Nx.at_do rfl rfl rfl rfl ?_); first | refine Nx.at_dec_t rfl rfl rfl rfl (by first | assumption | omega) ?_ | refine Nx.at_dec_f rfl rfl rfl rfl (by first | assumption | omega) ?_ | refine Nx.at_split rfl rfl rfl rfl (fun hc => ?_) (fun hc => ?_) | refine Nx.at_splitb rfl rfl rfl rfl (fun hc => ?_) (fun hc => ?_)))
      | ((with_reducible refine Nx.is_mix ?_); first | refine Nx.m ?_ | ((fail_if_success refine Nx.m_quiet_do rfl rfl rfl rfl rfl rfl rfl ?_ ?_); (fail_if_success refine Nx.m_loud_do rfl rfl rfl rfl rfl ?_); first | refine Nx.m_dec_t rfl rfl rfl rfl (by first | assumption | omega) ?_ | refine Nx.m_dec_f rfl rfl rfl rfl (by first | assumption | omega) ?_ | refine Nx.m_split rfl rfl rfl rfl (fun hc => ?_) (fun hc => ?_) | refine Nx.m_splitb rfl rfl rfl rfl (fun hc => ?_) (fun hc => ?_)))
      | ((fail_if_success (with_reducible refine Nx.is_at ?_)); (fail_if_success (with_reducible refine Nx.is_wp ?_)); (fail_if_success (with_reducible refine Nx.is_mix ?_)); first | refine Nx.ex ?_)
    exact Nx.ret_fn rfl [] ⟨rfl, rfl⟩ (by (exact Ent.auto))
  by_cases h2 : 24 ≤ num
  · rw [if_pos (.inr h2)]
    repeat' first
      | ((with_reducible refine Nx.is_wp ?_); first | refine Nx.wo ?_ | refine Nx.p_dec rfl rfl (fun hc => ?_) (fun hc => ?_) | refine Nx.p_bool rfl rfl (fun hc => ?_) (fun hc => ?_))
      | ((first | refine Nx.at_op rfl rfl ?_ | refine Nx.m_loud rfl rfl rfl ?_ | refine Nx.at_do rfl rfl rfl rfl ?_ | refine Nx.m_loud_do rfl rfl rfl rfl rfl ?_); first | refine Nx.opr rfl rfl ?_ | refine Nx.so ?_ | refine Nx.sb (fun bx => ?_) | refine Nx.sa (fun A2 c2 => ?_))
      | ((with_reducible refine Nx.is_at ?_); first | refine Nx.a ?_ | ((fail_if_success refine Nx.at_do rfl rfl rfl rfl ?_); first | refine Nx.at_dec_t rfl rfl rfl rfl (by first | assumption | omega) ?_ | refine Nx.at_dec_f rfl rfl rfl rfl (by first | assumption | omega) ?_ | refine Nx.at_split rfl rfl rfl rfl (fun hc => ?_) (fun hc => ?_) | refine Nx.at_splitb rfl rfl rfl rfl (fun hc => ?_) (fun hc => ?_)))
      | ((with_reducible refine Nx.is_mix ?_); first | refine Nx.m ?_ | ((fail_if_success refine Nx.m_quiet_do rfl rfl rfl rfl rfl rfl rfl ?_ ?_); (fail_if_success refine Nx.m_loud_do rfl rfl rfl rfl rfl ?_); first | refine Nx.m_dec_t rfl rfl rfl rfl (by first | assumption | omega) ?_ | refine Nx.m_dec_f rfl rfl rfl rfl (by first | assumption | omega) ?_ | refine Nx.m_split rfl rfl rfl rfl (fun hc => ?_) (fun hc => ?_) | refine Nx.m_splitb rfl rfl rfl rfl (fun hc => ?_) (fun hc => ?_)))
      | ((fail_if_success (with_reducible refine Nx.is_at ?_)); (fail_if_success (with_reducible refine Nx.is_wp ?_)); (fail_if_success (with_reducible refine Nx.is_mix ?_)); first | refine Nx.ex ?_)
    exact Nx.ret_fn rfl [] ⟨rfl, rfl⟩ (by (exact Ent.auto))
  rw [if_neg (by omega)]
  by_cases h3 : (vs.length : Int) ≠ P
  · rw [if_pos h3]
    repeat' first
      | ((with_reducible refine Nx.is_wp ?_); first | refine Nx.wo ?_ | refine Nx.p_draw (id := 6) rfl [0, 1, 2, 3, 4, 5, 6, 7] [6] _ rfl rfl (by kernel_rfl) (by kernel_rfl) rfl (by repeat first | exact PanicOk.fn | refine PanicOk.then_ ?_ | refine PanicOk.inB ?_) (Ent.refl _) ?_ | refine Nx.p_dec rfl rfl (fun hc => ?_) (fun hc => ?_) | refine Nx.p_bool rfl rfl (fun hc => ?_) (fun hc => ?_))
      | ((first | refine Nx.at_op rfl rfl ?_ | refine Nx.m_loud rfl rfl rfl ?_ | refine Nx.at_do rfl rfl rfl rfl ?_ | refine Nx.m_loud_do rfl rfl rfl rfl rfl ?_); first | refine Nx.opr rfl rfl ?_ | refine Nx.loads rfl rfl rfl rfl (Rds.cut 0 1 rfl rfl) rfl ?_ | refine Nx.callv rfl rfl rfl (by kernel_rfl) rfl (View_spec _ _ _ _ _ _ _ hl hs hv hw) ?_ | refine Nx.callv rfl rfl rfl (by kernel_rfl) rfl hP ?_ | refine Nx.so ?_ | refine Nx.sb (fun bx => ?_) | refine Nx.sa (fun A2 c2 => ?_))
      | ((with_reducible refine Nx.is_at ?_); first | refine Nx.a ?_ | ((fail_if_success refine Nx.at_do rfl rfl rfl rfl ?_); first | refine Nx.at_dec_t rfl rfl rfl rfl (by first | assumption | omega) ?_ | refine Nx.at_dec_f rfl rfl rfl rfl (by first | assumption | omega) ?_ | refine Nx.at_split rfl rfl rfl rfl (fun hc => ?_) (fun hc => ?_) | refine Nx.at_splitb rfl rfl rfl rfl (fun hc => ?_) (fun hc => ?_)))
      | ((with_reducible refine Nx.is_mix ?_); first | refine Nx.m_quiet rfl rfl rfl rfl rfl (by first | exact QRun.opr rfl | exact QRun.loads rfl rfl rfl (Rds.cut 0 1 rfl rfl) rfl) ?_ | refine Nx.m_quiet_do rfl rfl rfl rfl rfl rfl rfl (by first | exact QRun.opr rfl | exact QRun.loads rfl rfl rfl (Rds.cut 0 1 rfl rfl) rfl) ?_ | refine Nx.m ?_ | ((fail_if_success refine Nx.m_quiet_do rfl rfl rfl rfl rfl rfl rfl ?_ ?_); (fail_if_success refine Nx.m_loud_do rfl rfl rfl rfl rfl ?_); first | refine Nx.m_dec_t rfl rfl rfl rfl (by first | assumption | omega) ?_ | refine Nx.m_dec_f rfl rfl rfl rfl (by first | assumption | omega) ?_ | refine Nx.m_split rfl rfl rfl rfl (fun hc => ?_) (fun hc => ?_) | refine Nx.m_splitb rfl rfl rfl rfl (fun hc => ?_) (fun hc => ?_)))
      | ((fail_if_success (with_reducible refine Nx.is_at ?_)); (fail_if_success (with_reducible refine Nx.is_wp ?_)); (fail_if_success (with_reducible refine Nx.is_mix ?_)); first | refine Nx.ex ?_)
    exact Nx.ret_fn rfl [] ⟨rfl, rfl⟩ (by (exact Ent.auto))
  rw [if_neg h3]
  have h3 : (vs.length : Int) = P := Decidable.byContradiction h3
  cases hb : vs.any badV with
  | true =>
    rw [if_pos rfl]
    rw [hb] at hC
    repeat' first
      | ((with_reducible refine Nx.is_wp ?_); first | refine Nx.wo ?_ | refine Nx.p_draw (id := 6) rfl [0, 1, 2, 3, 4, 5, 6, 7] [6] _ rfl rfl (by kernel_rfl) (by kernel_rfl) rfl (by repeat first | exact PanicOk.fn | refine PanicOk.then_ ?_ | refine PanicOk.inB ?_) (Ent.refl _) ?_ | refine Nx.p_dec rfl rfl (fun hc => ?_) (fun hc => ?_) | refine Nx.p_bool rfl rfl (fun hc => ?_) (fun hc => ?_))
      | ((first | refine Nx.at_op rfl rfl ?_ | refine Nx.m_loud rfl rfl rfl ?_ | refine Nx.at_do rfl rfl rfl rfl ?_ | refine Nx.m_loud_do rfl rfl rfl rfl rfl ?_); first | refine Nx.opr rfl rfl ?_ | refine Nx.loads rfl rfl rfl rfl (Rds.cut 0 1 rfl rfl) rfl ?_ | refine Nx.callv rfl rfl rfl (by kernel_rfl) rfl (View_spec _ _ _ _ _ _ _ hl hs hv hw) ?_ | refine Nx.callv rfl rfl rfl (by kernel_rfl) rfl hP ?_ | refine Nx.callv rfl rfl rfl (by kernel_rfl) rfl hC ?_ | refine Nx.so ?_ | refine Nx.sb (fun bx => ?_) | refine Nx.sa (fun A2 c2 => ?_))
      | ((with_reducible refine Nx.is_at ?_); first | refine Nx.a ?_ | ((fail_if_success refine Nx.at_do rfl rfl rfl rfl ?_); first | refine Nx.at_dec_t rfl rfl rfl rfl (by first | assumption | omega) ?_ | refine Nx.at_dec_f rfl rfl rfl rfl (by first | assumption | omega) ?_ | refine Nx.at_split rfl rfl rfl rfl (fun hc => ?_) (fun hc => ?_) | refine Nx.at_splitb rfl rfl rfl rfl (fun hc => ?_) (fun hc => ?_)))
      | ((with_reducible refine Nx.is_mix ?_); first | refine Nx.m_quiet rfl rfl rfl rfl rfl (by first | exact QRun.opr rfl | exact QRun.loads rfl rfl rfl (Rds.cut 0 1 rfl rfl) rfl) ?_ | refine Nx.m_quiet_do rfl rfl rfl rfl rfl rfl rfl (by first | exact QRun.opr rfl | exact QRun.loads rfl rfl rfl (Rds.cut 0 1 rfl rfl) rfl) ?_ | refine Nx.m ?_ | ((fail_if_success refine Nx.m_quiet_do rfl rfl rfl rfl rfl rfl rfl ?_ ?_); (fail_if_success refine Nx.m_loud_do rfl rfl rfl rfl rfl ?_); first | refine Nx.m_dec_t rfl rfl rfl rfl (by first | assumption | omega) ?_ | refine Nx.m_dec_f rfl rfl rfl rfl (by first | assumption | omega) ?_ | refine Nx.m_split rfl rfl rfl rfl (fun hc => ?_) (fun hc => ?_) | refine Nx.m_splitb rfl rfl rfl rfl (fun hc => ?_) (fun hc => ?_)))
      | ((fail_if_success (with_reducible refine Nx.is_at ?_)); (fail_if_success (with_reducible refine Nx.is_wp ?_)); (fail_if_success (with_reducible refine Nx.is_mix ?_)); first | refine Nx.ex ?_)
    exact Nx.ret_fn rfl [] ⟨rfl, rfl⟩ (by (exact Ent.auto))
  | false =>
    rw [if_neg (by decide)]
    rw [hb] at hC
    repeat' first
      | ((with_reducible refine Nx.is_wp ?_); first | refine Nx.wo ?_ | refine Nx.p_draw (id := 6) rfl [0, 1, 2, 3, 4, 5, 6, 7] [6] _ rfl rfl (by kernel_rfl) (by kernel_rfl) rfl (by repeat first | exact PanicOk.fn | refine PanicOk.then_ ?_ | refine PanicOk.inB ?_) (Ent.refl _) ?_ | refine Nx.p_dec rfl rfl (fun hc => ?_) (fun hc => ?_) | refine Nx.p_bool rfl rfl (fun hc => ?_) (fun hc => ?_))
      | ((first | refine Nx.at_op rfl rfl ?_ | refine Nx.m_loud rfl rfl rfl ?_ | refine Nx.at_do rfl rfl rfl rfl ?_ | refine Nx.m_loud_do rfl rfl rfl rfl rfl ?_); first | refine Nx.opr rfl rfl ?_ | refine Nx.loads rfl rfl rfl rfl (Rds.cut 0 1 rfl rfl) rfl ?_ | refine Nx.callv rfl rfl rfl (by kernel_rfl) rfl (View_spec _ _ _ _ _ _ _ hl hs hv hw) ?_ | refine Nx.callv rfl rfl rfl (by kernel_rfl) rfl hP ?_ | refine Nx.callv rfl rfl rfl (by kernel_rfl) rfl hC ?_ | refine Nx.so ?_ | refine Nx.sb (fun bx => ?_) | refine Nx.sa (fun A2 c2 => ?_))
      | ((with_reducible refine Nx.is_at ?_); first | refine Nx.a ?_ | ((fail_if_success refine Nx.at_do rfl rfl rfl rfl ?_); first | refine Nx.at_dec_t rfl rfl rfl rfl (by first | assumption | omega) ?_ | refine Nx.at_dec_f rfl rfl rfl rfl (by first | assumption | omega) ?_ | refine Nx.at_split rfl rfl rfl rfl (fun hc => ?_) (fun hc => ?_) | refine Nx.at_splitb rfl rfl rfl rfl (fun hc => ?_) (fun hc => ?_)))
      | ((with_reducible refine Nx.is_mix ?_); first | refine Nx.m_quiet rfl rfl rfl rfl rfl (by first | exact QRun.opr rfl | exact QRun.loads rfl rfl rfl (Rds.cut 0 1 rfl rfl) rfl) ?_ | refine Nx.m_quiet_do rfl rfl rfl rfl rfl rfl rfl (by first | exact QRun.opr rfl | exact QRun.loads rfl rfl rfl (Rds.cut 0 1 rfl rfl) rfl) ?_ | refine Nx.m ?_ | ((fail_if_success refine Nx.m_quiet_do rfl rfl rfl rfl rfl rfl rfl ?_ ?_); (fail_if_success refine Nx.m_loud_do rfl rfl rfl rfl rfl ?_); first | refine Nx.m_dec_t rfl rfl rfl rfl (by first | assumption | omega) ?_ | refine Nx.m_dec_f rfl rfl rfl rfl (by first | assumption | omega) ?_ | refine Nx.m_split rfl rfl rfl rfl (fun hc => ?_) (fun hc => ?_) | refine Nx.m_splitb rfl rfl rfl rfl (fun hc => ?_) (fun hc => ?_)))
      | ((fail_if_success (with_reducible refine Nx.is_at ?_)); (fail_if_success (with_reducible refine Nx.is_wp ?_)); (fail_if_success (with_reducible refine Nx.is_mix ?_)); first | refine Nx.ex ?_)
    exact Nx.ret_fn rfl [] ⟨rfl, rfl⟩ (by (exact Ent.auto))
def relsF (l : List Int) : Int → List Rel → Int
  | _, [] => 0
  | b, r :: rest => if relE l r b ≠ 0 then relE l r b else relsF l r.num rest
/-- The error of releases. -/
def relsE (l : List Int) (rs : List Rel) : Int := if 24 < rs.length then 1 else relsF l (-1) rs
theorem drop_atR {l : List Rel} {k : Nat} (hk : k < l.length) : l.drop k = l.getD k default :: l.drop (k + 1) := by
  rw [List.drop_eq_getElem_cons hk, List.getD_eq_getElem?_getD, List.getElem?_eq_getElem hk]; rfl
theorem relsF_at {l : List Int} {rs : List Rel} {k : Nat} {b : Int} (hk : k < rs.length) : relsF l b (rs.drop k) = if relE l (rs.getD k default) b ≠ 0 then relE l (rs.getD k default) b else relsF l (rs.getD k default).num (rs.drop (k + 1)) := by
  rw [drop_atR hk, relsF]
set_option maxRecDepth 10000 in
set_option maxHeartbeats 8000000 in
theorem ECheck_spec (A As : Option Addr) (c cs : Nat) (l : List Int) (rs : List Rel) (I : PH) (hl : Ints I A c l) (hs : Sizes l) (hr : Rels I As cs rs) (hw : ∀ r ∈ rs, Viewed l r.v) :
    FnSpec Try.prog 51 [.agg #[.slice A l.length c], .slice As rs.length cs] I [] (fun u R' => u = .int .i64 (relsE l rs) ∧ R' = []) := by
  have hrl := hr.outer.len
  refine FnSpec.enterP Try.func51 rfl Try.ntmps51 rfl fun w F => ?_
  unfold relsE
  by_cases h24 : 24 < rs.length
  · rw [if_pos h24]
    repeat' first
      | ((with_reducible refine Nx.is_wp ?_); first | refine Nx.wo ?_ | refine Nx.p_dec rfl rfl (fun hc => ?_) (fun hc => ?_) | refine Nx.p_bool rfl rfl (fun hc => ?_) (fun hc => ?_))
      | ((first | refine Nx.at_op rfl rfl ?_ | refine Nx.m_loud rfl rfl rfl ?_ | refine Nx.at_do rfl rfl rfl rfl ?_ | refine Nx.m_loud_do rfl rfl rfl rfl rfl ?_); first | refine Nx.opr rfl rfl ?_ | refine Nx.callv rfl rfl rfl (by kernel_rfl) rfl (Check_spec _ _ _ _ hl hs) ?_ | refine Nx.so ?_ | refine Nx.sb (fun bx => ?_) | refine Nx.sa (fun A2 c2 => ?_))
      | ((with_reducible refine Nx.is_at ?_); first | refine Nx.a ?_ | ((fail_if_success refine Nx.at_do rfl rfl rfl rfl ?_); first | refine Nx.at_dec_t rfl rfl rfl rfl (by first | assumption | omega) ?_ | refine Nx.at_dec_f rfl rfl rfl rfl (by first | assumption | omega) ?_ | refine Nx.at_split rfl rfl rfl rfl (fun hc => ?_) (fun hc => ?_) | refine Nx.at_splitb rfl rfl rfl rfl (fun hc => ?_) (fun hc => ?_)))
      | ((with_reducible refine Nx.is_mix ?_); first | refine Nx.m ?_ | ((fail_if_success refine Nx.m_quiet_do rfl rfl rfl rfl rfl rfl rfl ?_ ?_); (fail_if_success refine Nx.m_loud_do rfl rfl rfl rfl rfl ?_); first | refine Nx.m_dec_t rfl rfl rfl rfl (by first | assumption | omega) ?_ | refine Nx.m_dec_f rfl rfl rfl rfl (by first | assumption | omega) ?_ | refine Nx.m_split rfl rfl rfl rfl (fun hc => ?_) (fun hc => ?_) | refine Nx.m_splitb rfl rfl rfl rfl (fun hc => ?_) (fun hc => ?_)))
      | ((fail_if_success (with_reducible refine Nx.is_at ?_)); (fail_if_success (with_reducible refine Nx.is_wp ?_)); (fail_if_success (with_reducible refine Nx.is_mix ?_)); first | refine Nx.ex ?_)
    exact Nx.ret_fn rfl [] ⟨rfl, rfl⟩ (by (exact Ent.auto))
  rw [if_neg h24]
  repeat' first
    | ((with_reducible refine Nx.is_wp ?_); first | refine Nx.wo ?_ | refine Nx.p_dec rfl rfl (fun hc => ?_) (fun hc => ?_) | refine Nx.p_bool rfl rfl (fun hc => ?_) (fun hc => ?_))
    | ((first | refine Nx.at_op rfl rfl ?_ | refine Nx.m_loud rfl rfl rfl ?_ | refine Nx.at_do rfl rfl rfl rfl ?_ | refine Nx.m_loud_do rfl rfl rfl rfl rfl ?_); first | refine Nx.opr rfl rfl ?_ | refine Nx.callv rfl rfl rfl (by kernel_rfl) rfl (Check_spec _ _ _ _ hl hs) ?_ | refine Nx.so ?_ | refine Nx.sb (fun bx => ?_) | refine Nx.sa (fun A2 c2 => ?_))
    | ((with_reducible refine Nx.is_at ?_); first | refine Nx.a ?_ | ((fail_if_success refine Nx.at_do rfl rfl rfl rfl ?_); first | refine Nx.at_dec_t rfl rfl rfl rfl (by first | assumption | omega) ?_ | refine Nx.at_dec_f rfl rfl rfl rfl (by first | assumption | omega) ?_ | refine Nx.at_split rfl rfl rfl rfl (fun hc => ?_) (fun hc => ?_) | refine Nx.at_splitb rfl rfl rfl rfl (fun hc => ?_) (fun hc => ?_)))
    | ((with_reducible refine Nx.is_mix ?_); first | refine Nx.m ?_ | ((fail_if_success refine Nx.m_quiet_do rfl rfl rfl rfl rfl rfl rfl ?_ ?_); (fail_if_success refine Nx.m_loud_do rfl rfl rfl rfl rfl ?_); first | refine Nx.m_dec_t rfl rfl rfl rfl (by first | assumption | omega) ?_ | refine Nx.m_dec_f rfl rfl rfl rfl (by first | assumption | omega) ?_ | refine Nx.m_split rfl rfl rfl rfl (fun hc => ?_) (fun hc => ?_) | refine Nx.m_splitb rfl rfl rfl rfl (fun hc => ?_) (fun hc => ?_)))
    | ((fail_if_success (with_reducible refine Nx.is_at ?_)); (fail_if_success (with_reducible refine Nx.is_wp ?_)); (fail_if_success (with_reducible refine Nx.is_mix ?_)); first | refine Nx.ex ?_)
  revert bx; intro b2
  refine Nx.p_loop (σ := Nat × Int) (fun s => [(2, .pointer (some ⟨b2, 0, none⟩)), (6, .int .i64 s.2), (18, .slice As rs.length cs), (19, .int .i64 rs.length), (20, .int .i64 (s.1 : Int))])
    (fun _ => [Blk b2 27 [.slice A l.length c], F]) (fun s => s.1 ≤ rs.length ∧ relsF l (-1) rs = relsF l s.2 (rs.drop s.1)) (fun s => rs.length - s.1) (0, -1) rfl ⟨Nat.zero_le _, rfl⟩ ⟨rfl, rfl, rfl, rfl, rfl, trivial⟩ (by (exact Ent.auto)) ?_
  rintro ⟨i, b⟩ ⟨hi, he⟩
  dsimp only at hi he ⊢
  by_cases hiv : i < rs.length
  case neg =>
    rw [List.drop_eq_nil_of_le (by omega), relsF] at he
    rw [he]
    repeat' first
      | ((with_reducible refine Nx.is_wp ?_); first | refine Nx.wo ?_ | refine Nx.p_dec rfl rfl (fun hc => ?_) (fun hc => ?_) | refine Nx.p_bool rfl rfl (fun hc => ?_) (fun hc => ?_))
      | ((first | refine Nx.at_op rfl rfl ?_ | refine Nx.m_loud rfl rfl rfl ?_ | refine Nx.at_do rfl rfl rfl rfl ?_ | refine Nx.m_loud_do rfl rfl rfl rfl rfl ?_); first | refine Nx.opr rfl rfl ?_ | refine Nx.so ?_ | refine Nx.sb (fun bx => ?_) | refine Nx.sa (fun A2 c2 => ?_))
      | ((with_reducible refine Nx.is_at ?_); first | refine Nx.a ?_ | ((fail_if_success refine Nx.at_do rfl rfl rfl rfl ?_); first | refine Nx.at_dec_t rfl rfl rfl rfl (by first | assumption | omega) ?_ | refine Nx.at_dec_f rfl rfl rfl rfl (by first | assumption | omega) ?_ | refine Nx.at_split rfl rfl rfl rfl (fun hc => ?_) (fun hc => ?_) | refine Nx.at_splitb rfl rfl rfl rfl (fun hc => ?_) (fun hc => ?_)))
      | ((with_reducible refine Nx.is_mix ?_); first | refine Nx.m ?_ | ((fail_if_success refine Nx.m_quiet_do rfl rfl rfl rfl rfl rfl rfl ?_ ?_); (fail_if_success refine Nx.m_loud_do rfl rfl rfl rfl rfl ?_); first | refine Nx.m_dec_t rfl rfl rfl rfl (by first | assumption | omega) ?_ | refine Nx.m_dec_f rfl rfl rfl rfl (by first | assumption | omega) ?_ | refine Nx.m_split rfl rfl rfl rfl (fun hc => ?_) (fun hc => ?_) | refine Nx.m_splitb rfl rfl rfl rfl (fun hc => ?_) (fun hc => ?_)))
      | ((fail_if_success (with_reducible refine Nx.is_at ?_)); (fail_if_success (with_reducible refine Nx.is_wp ?_)); (fail_if_success (with_reducible refine Nx.is_mix ?_)); first | refine Nx.ex ?_)
    exact Nx.ret_fn rfl [] ⟨rfl, rfl⟩ (by (exact Ent.auto))
  rw [relsF_at hiv] at he
  have hwi := hw _ (getD_memR hiv)
  have hS := echeck_spec A c l (rs.getD i default) b I hl hs (hr.view _ (getD_memR hiv)) (hr.val _ (getD_memR hiv)) hwi
  have hrds : ∀ (W : World) (R : List Res), Rds W I R ((ad As).add (i * 3)) (relC (rs.getD i default)) := fun W R => hr.outer.rds hiv
  generalize rs.getD i default = r at he hS hrds
  obtain ⟨num, va, vc, v, D, cd, vs⟩ := r
  dsimp only at he hS
  replace hrds : ∀ (W : World) (R : List Res), Rds W I R ((ad As).add (i * 3)) [.int .i64 num, .slice va v.length vc, .slice D vs.length cd] := hrds
  generalize relE l ⟨num, va, vc, v, (D, cd, vs)⟩ b = er at he hS
  by_cases h0 : er = 0
  · rw [if_neg (by omega)] at he
    subst h0
    repeat' first
      | ((with_reducible refine Nx.is_wp ?_); first | refine Nx.wo ?_ | refine Nx.p_dec rfl rfl (fun hc => ?_) (fun hc => ?_) | refine Nx.p_bool rfl rfl (fun hc => ?_) (fun hc => ?_))
      | ((first | refine Nx.at_op rfl rfl ?_ | refine Nx.m_loud rfl rfl rfl ?_ | refine Nx.at_do rfl rfl rfl rfl ?_ | refine Nx.m_loud_do rfl rfl rfl rfl rfl ?_); first | refine Nx.opr rfl rfl ?_ | refine Nx.indexAddr_nat rfl rfl rfl rfl rfl hiv (hr.outer.isSome (by omega) (by omega)) ?_ | refine Nx.loads rfl rfl rfl rfl (hrds _ _) rfl ?_ | refine Nx.callv rfl rfl rfl (by kernel_rfl) rfl hS ?_ | refine Nx.so ?_ | refine Nx.sb (fun bx => ?_) | refine Nx.sa (fun A2 c2 => ?_))
      | ((with_reducible refine Nx.is_at ?_); first | refine Nx.a ?_ | ((fail_if_success refine Nx.at_do rfl rfl rfl rfl ?_); first | refine Nx.at_dec_t rfl rfl rfl rfl (by first | assumption | omega) ?_ | refine Nx.at_dec_f rfl rfl rfl rfl (by first | assumption | omega) ?_ | refine Nx.at_split rfl rfl rfl rfl (fun hc => ?_) (fun hc => ?_) | refine Nx.at_splitb rfl rfl rfl rfl (fun hc => ?_) (fun hc => ?_)))
      | ((with_reducible refine Nx.is_mix ?_); first | refine Nx.m ?_ | ((fail_if_success refine Nx.m_quiet_do rfl rfl rfl rfl rfl rfl rfl ?_ ?_); (fail_if_success refine Nx.m_loud_do rfl rfl rfl rfl rfl ?_); first | refine Nx.m_dec_t rfl rfl rfl rfl (by first | assumption | omega) ?_ | refine Nx.m_dec_f rfl rfl rfl rfl (by first | assumption | omega) ?_ | refine Nx.m_split rfl rfl rfl rfl (fun hc => ?_) (fun hc => ?_) | refine Nx.m_splitb rfl rfl rfl rfl (fun hc => ?_) (fun hc => ?_)))
      | ((fail_if_success (with_reducible refine Nx.is_at ?_)); (fail_if_success (with_reducible refine Nx.is_wp ?_)); (fail_if_success (with_reducible refine Nx.is_mix ?_)); first | refine Nx.ex ?_)
    exact Nx.again (i + 1, num) ⟨hiv, he⟩ (by dsimp only; omega) ⟨rfl, rfl, rfl, rfl, rfl, trivial⟩ (by (exact Ent.auto))
  · rw [if_pos h0] at he
    rw [he]
    repeat' first
      | ((with_reducible refine Nx.is_wp ?_); first | refine Nx.wo ?_ | refine Nx.p_dec rfl rfl (fun hc => ?_) (fun hc => ?_) | refine Nx.p_bool rfl rfl (fun hc => ?_) (fun hc => ?_))
      | ((first | refine Nx.at_op rfl rfl ?_ | refine Nx.m_loud rfl rfl rfl ?_ | refine Nx.at_do rfl rfl rfl rfl ?_ | refine Nx.m_loud_do rfl rfl rfl rfl rfl ?_); first | refine Nx.opr rfl rfl ?_ | refine Nx.indexAddr_nat rfl rfl rfl rfl rfl hiv (hr.outer.isSome (by omega) (by omega)) ?_ | refine Nx.loads rfl rfl rfl rfl (hrds _ _) rfl ?_ | refine Nx.callv rfl rfl rfl (by kernel_rfl) rfl hS ?_ | refine Nx.so ?_ | refine Nx.sb (fun bx => ?_) | refine Nx.sa (fun A2 c2 => ?_))
      | ((with_reducible refine Nx.is_at ?_); first | refine Nx.a ?_ | ((fail_if_success refine Nx.at_do rfl rfl rfl rfl ?_); first | refine Nx.at_dec_t rfl rfl rfl rfl (by first | assumption | omega) ?_ | refine Nx.at_dec_f rfl rfl rfl rfl (by first | assumption | omega) ?_ | refine Nx.at_split rfl rfl rfl rfl (fun hc => ?_) (fun hc => ?_) | refine Nx.at_splitb rfl rfl rfl rfl (fun hc => ?_) (fun hc => ?_)))
      | ((with_reducible refine Nx.is_mix ?_); first | refine Nx.m ?_ | ((fail_if_success refine Nx.m_quiet_do rfl rfl rfl rfl rfl rfl rfl ?_ ?_); (fail_if_success refine Nx.m_loud_do rfl rfl rfl rfl rfl ?_); first | refine Nx.m_dec_t rfl rfl rfl rfl (by first | assumption | omega) ?_ | refine Nx.m_dec_f rfl rfl rfl rfl (by first | assumption | omega) ?_ | refine Nx.m_split rfl rfl rfl rfl (fun hc => ?_) (fun hc => ?_) | refine Nx.m_splitb rfl rfl rfl rfl (fun hc => ?_) (fun hc => ?_)))
      | ((fail_if_success (with_reducible refine Nx.is_at ?_)); (fail_if_success (with_reducible refine Nx.is_wp ?_)); (fail_if_success (with_reducible refine Nx.is_mix ?_)); first | refine Nx.ex ?_)
    exact Nx.ret_fn rfl [] ⟨rfl, rfl⟩ (by (exact Ent.auto))
end Go.Proofs.Ytcmdemfhbekabaa
/-
  The proof engine, part AQ: two bundles as one.
-/
namespace Go.Eng
theorem Ent.app {R R' : List Res} (h : Ent R R') : ∀ A : List Res, Ent (A ++ R) (A ++ R')
  | [] => h
  | _ :: A => Ent.cons (Ent.app h A)
theorem Ent.stars_app {A B R : List Res} : Ent (Stars A :: Stars B :: R) (Stars (A ++ B) :: R) := by
  refine Ent.unstars.trans ?_
  refine (Ent.app Ent.unstars A).trans ?_
  rw [← List.append_assoc]
  exact Ent.stars
end Go.Eng
/- Contracts of functions of the given program, and lemmas about plain lists and numbers: what the laws of this seat lean on. -/
namespace Go.Proofs.Ytcmdemfhbekabaa
open Go.Eng Go.Sol
attribute [local irreducible] opK wpList Code.wp Exit.then Exit.inBlock fnPost bodyPost Nx Calls Oper.wp Rd Rds Wr Ent Stars Blk Again Vec FnSpec wpMix QRun Stop Upto wpAt
theorem eq_one (l : List EqR) : ∀ u ∈ l.flatMap eqC, u.oneCell' = true := fun u hu => by
  obtain ⟨x, _, hx⟩ := List.mem_flatMap.1 hu
  simp only [eqC, List.mem_cons, List.not_mem_nil, or_false] at hx
  rcases hx with rfl | rfl <;> rfl
theorem relE_ok {l : List Int} {r : Rel} {b : Int} (hw : Viewed l r.v) (hs : Sizes l) (h : relE l r b = 0) : b < r.num ∧ r.num < 24 ∧ RelV l r := by
  unfold relE at h
  split at h
  · omega
  rename_i h1
  split at h
  · omega
  rename_i h2
  split at h
  · omega
  rename_i h3
  have h2 : (r.val.2.2.length : Int) = prod (szs r.v) := Decidable.byContradiction h2
  refine ⟨by omega, by omega, hw, by omega, fun j hj => ?_⟩
  have h4 : ∀ z ∈ r.val.2.2, ¬ badV z = true := fun z hz hb => h3 (List.any_eq_true.2 ⟨z, hz, hb⟩)
  have h5 := h4 _ (getD_memI hj)
  unfold badV at h5
  by_cases hz : r.val.2.2.getD j default = -1
  · exact .inl hz
  · right
    rw [decide_eq_true hz, Bool.true_and] at h5
    exact Decidable.byContradiction fun hc => h5 (by rw [decide_eq_false hc]; rfl)
theorem relE_of {l : List Int} {r : Rel} {b : Int} (hb : b < r.num) (h24 : r.num < 24) (hs : Sizes l) (h : RelV l r) : relE l r b = 0 := by
  have hp := (h.view.sizes hs).bound (k := (szs r.v).length) (Nat.le_refl _)
  rw [List.take_length] at hp
  have hl := h.len
  unfold relE
  rw [if_neg (by omega), if_neg (by omega), if_neg]
  intro ha
  obtain ⟨z, hz, hbz⟩ := List.any_eq_true.1 ha
  obtain ⟨j, hj, rfl⟩ := mem_getDI hz
  unfold badV at hbz
  rcases h.each j hj with h1 | h1
  · rw [h1] at hbz; simp at hbz
  · rw [decide_eq_true h1] at hbz; simp at hbz
theorem relsF_ok {l : List Int} (hs : Sizes l) : ∀ {rs : List Rel} {b : Int}, (∀ r ∈ rs, Viewed l r.v) → relsF l b rs = 0 → (∀ i, i < rs.length → RelV l (rs.getD i default) ∧ b < (rs.getD i default).num ∧ (rs.getD i default).num < 24) ∧ ∀ i, i + 1 < rs.length → (rs.getD i default).num < (rs.getD (i + 1) default).num
  | [], _, _, _ => ⟨fun i hi => absurd hi (Nat.not_lt_zero _), fun i hi => absurd hi (Nat.not_lt_zero _)⟩
  | r :: rs, b, hw, h => by
    rw [relsF] at h
    split at h
    · omega
    rename_i h0
    have h0 : relE l r b = 0 := Decidable.byContradiction h0
    obtain ⟨h1, h2, h3⟩ := relE_ok (hw r List.mem_cons_self) hs h0
    obtain ⟨h4, h5⟩ := relsF_ok hs (fun x hx => hw x (List.mem_cons_of_mem _ hx)) h
    refine ⟨fun i hi => ?_, fun i hi => ?_⟩
    · cases i with
      | zero => exact ⟨h3, h1, h2⟩
      | succ i =>
        obtain ⟨a, c, d⟩ := h4 i (by simpa using hi)
        exact ⟨a, by show b < (rs.getD i default).num; omega, d⟩
    · cases i with
      | zero => exact (h4 0 (by simpa using hi)).2.1
      | succ i => exact h5 i (by simpa using hi)
theorem relsF_of {l : List Int} (hs : Sizes l) : ∀ {rs : List Rel} {b : Int}, (∀ i, i < rs.length → RelV l (rs.getD i default) ∧ (rs.getD i default).num < 24) → (0 < rs.length → b < (rs.getD 0 default).num) → (∀ i, i + 1 < rs.length → (rs.getD i default).num < (rs.getD (i + 1) default).num) → relsF l b rs = 0
  | [], _, _, _, _ => rfl
  | r :: rs, b, h1, h2, h3 => by
    obtain ⟨h4, h5⟩ := h1 0 (by simp)
    rw [relsF, if_neg (by rw [show relE l r b = 0 from relE_of (h2 (by simp)) h5 hs h4]; simp)]
    exact relsF_of hs (fun i hi => h1 (i + 1) (by simpa using hi)) (fun hi => h3 0 (by simpa using hi)) fun i hi => h3 (i + 1) (by simpa using hi)
theorem relsE_iff {l : List Int} {rs : List Rel} (hs : Sizes l) (hw : ∀ r ∈ rs, Viewed l r.v) : relsE l rs = 0 ↔ RelsV l rs := by
  unfold relsE
  constructor
  · intro h
    split at h
    · omega
    obtain ⟨h1, h2⟩ := relsF_ok hs hw h
    exact ⟨by omega, fun i hi => ⟨(h1 i hi).1, by have := (h1 i hi).2.1; omega, (h1 i hi).2.2⟩, h2⟩
  · intro h
    have := h.len
    rw [if_neg (by omega)]
    exact relsF_of hs (fun i hi => ⟨(h.each i hi).1, (h.each i hi).2.2⟩) (fun hi => by have := (h.each 0 hi).2.1; omega) h.asc
set_option maxRecDepth 10000 in
set_option maxHeartbeats 8000000 in
theorem told_spec (A : Option Addr) (c : Nat) (l : List Int) (r : Rel) (I : PH) (hl : Ints I A c l) (hs : Sizes l) (hv : RowsOf I r.va r.vc r.v) (hd : Ints I r.val.1 r.val.2.1 r.val.2.2) (hV : RelV l r) :
    FnSpec Try.prog 54 [.agg #[.slice A l.length c], .agg #[.int .i64 r.num, .slice r.va r.v.length r.vc, .slice r.val.1 r.val.2.2.length r.val.2.1]] I []
      (fun u R' => ∃ (A' : Option Addr) (c' : Nat) (qs : List EqR), u = .slice A' qs.length c' ∧ qs.map cont = told l r ∧ qs.length ≤ 48 ∧ R' = eqsR A' c' qs) := by
  obtain ⟨num, va, vc, v, D, cd, vs⟩ := r
  obtain ⟨hw, hlen, heach⟩ := hV
  dsimp only at hv hd hw hlen heach ⊢
  have hszs := hw.sizes hs
  have hvl := hd.len
  have hpc := hszs.cells
  have hpr := hszs.bound (k := (szs v).length) (Nat.le_refl _)
  rw [List.take_length] at hpr
  refine FnSpec.enterP Try.func54 rfl Try.ntmps54 rfl fun w F => ?_
  repeat' first
    | ((with_reducible refine Nx.is_wp ?_); first | refine Nx.wo ?_ | refine Nx.p_dec rfl rfl (fun hc => ?_) (fun hc => ?_) | refine Nx.p_bool rfl rfl (fun hc => ?_) (fun hc => ?_))
    | ((first | refine Nx.at_op rfl rfl ?_ | refine Nx.m_loud rfl rfl rfl ?_ | refine Nx.at_do rfl rfl rfl rfl ?_ | refine Nx.m_loud_do rfl rfl rfl rfl rfl ?_); first | refine Nx.opr rfl rfl ?_ | refine Nx.so ?_ | refine Nx.sb (fun bx => ?_) | refine Nx.sa (fun A2 c2 => ?_))
    | ((with_reducible refine Nx.is_at ?_); first | refine Nx.a ?_ | ((fail_if_success refine Nx.at_do rfl rfl rfl rfl ?_); first | refine Nx.at_dec_t rfl rfl rfl rfl (by first | assumption | omega) ?_ | refine Nx.at_dec_f rfl rfl rfl rfl (by first | assumption | omega) ?_ | refine Nx.at_split rfl rfl rfl rfl (fun hc => ?_) (fun hc => ?_) | refine Nx.at_splitb rfl rfl rfl rfl (fun hc => ?_) (fun hc => ?_)))
    | ((with_reducible refine Nx.is_mix ?_); first | refine Nx.m ?_ | ((fail_if_success refine Nx.m_quiet_do rfl rfl rfl rfl rfl rfl rfl ?_ ?_); (fail_if_success refine Nx.m_loud_do rfl rfl rfl rfl rfl ?_); first | refine Nx.m_dec_t rfl rfl rfl rfl (by first | assumption | omega) ?_ | refine Nx.m_dec_f rfl rfl rfl rfl (by first | assumption | omega) ?_ | refine Nx.m_split rfl rfl rfl rfl (fun hc => ?_) (fun hc => ?_) | refine Nx.m_splitb rfl rfl rfl rfl (fun hc => ?_) (fun hc => ?_)))
    | ((fail_if_success (with_reducible refine Nx.is_at ?_)); (fail_if_success (with_reducible refine Nx.is_wp ?_)); (fail_if_success (with_reducible refine Nx.is_mix ?_)); first | refine Nx.ex ?_)
  rename_i b2
  revert bx; intro b3
  refine Nx.p_loop (σ := Nat × Option Addr × Nat × List EqR) (fun s => [(2, .pointer (some ⟨b2, 0, none⟩)), (3, .pointer (some ⟨b3, 0, none⟩)), (5, .slice s.2.1 s.2.2.2.length s.2.2.1), (11, .slice D vs.length cd), (12, .int .i64 vs.length), (13, .int .i64 (s.1 : Int))])
    (fun s => Blk b3 44 [.int .i64 num, .slice va v.length vc, .slice D vs.length cd] :: Blk b2 27 [.slice A l.length c] :: (eqsR s.2.1 s.2.2.1 s.2.2.2 ++ [F])) (fun s => s.1 ≤ vs.length ∧ s.2.2.2.map cont = toldK l v vs s.1 ∧ s.2.2.2.length ≤ s.1) (fun s => vs.length - s.1) (0, none, 0, []) rfl ⟨Nat.zero_le _, rfl, Nat.le_refl _⟩ ⟨rfl, rfl, rfl, rfl, rfl, rfl, trivial⟩ ((Ent.stars_nil _).trans ((Ent.vec_nil 105 2 _).trans (by unfold eqsR; (exact Ent.auto)))) ?_
  rintro ⟨j, Ap, cp, ps⟩ ⟨hj, hps, hpl⟩
  dsimp only at hj hps hpl ⊢
  by_cases hjv : j < vs.length
  case neg =>
    obtain rfl : j = vs.length := by omega
    repeat' first
      | ((with_reducible refine Nx.is_wp ?_); first | refine Nx.wo ?_ | refine Nx.p_dec rfl rfl (fun hc => ?_) (fun hc => ?_) | refine Nx.p_bool rfl rfl (fun hc => ?_) (fun hc => ?_))
      | ((first | refine Nx.at_op rfl rfl ?_ | refine Nx.m_loud rfl rfl rfl ?_ | refine Nx.at_do rfl rfl rfl rfl ?_ | refine Nx.m_loud_do rfl rfl rfl rfl rfl ?_); first | refine Nx.opr rfl rfl ?_ | refine Nx.so ?_ | refine Nx.sb (fun bx => ?_) | refine Nx.sa (fun A2 c2 => ?_))
      | ((with_reducible refine Nx.is_at ?_); first | refine Nx.a ?_ | ((fail_if_success refine Nx.at_do rfl rfl rfl rfl ?_); first | refine Nx.at_dec_t rfl rfl rfl rfl (by first | assumption | omega) ?_ | refine Nx.at_dec_f rfl rfl rfl rfl (by first | assumption | omega) ?_ | refine Nx.at_split rfl rfl rfl rfl (fun hc => ?_) (fun hc => ?_) | refine Nx.at_splitb rfl rfl rfl rfl (fun hc => ?_) (fun hc => ?_)))
      | ((with_reducible refine Nx.is_mix ?_); first | refine Nx.m ?_ | ((fail_if_success refine Nx.m_quiet_do rfl rfl rfl rfl rfl rfl rfl ?_ ?_); (fail_if_success refine Nx.m_loud_do rfl rfl rfl rfl rfl ?_); first | refine Nx.m_dec_t rfl rfl rfl rfl (by first | assumption | omega) ?_ | refine Nx.m_dec_f rfl rfl rfl rfl (by first | assumption | omega) ?_ | refine Nx.m_split rfl rfl rfl rfl (fun hc => ?_) (fun hc => ?_) | refine Nx.m_splitb rfl rfl rfl rfl (fun hc => ?_) (fun hc => ?_)))
      | ((fail_if_success (with_reducible refine Nx.is_at ?_)); (fail_if_success (with_reducible refine Nx.is_wp ?_)); (fail_if_success (with_reducible refine Nx.is_mix ?_)); first | refine Nx.ex ?_)
    exact Nx.ret_fn rfl [_, _] ⟨Ap, cp, ps, rfl, hps, by omega, rfl⟩ (by (exact Ent.auto))
  have hrd : ∀ (W : World) (R : List Res), Rd W I R ((ad D).add (j * 1)) (.int .i64 (vs.getD j default)) := fun W R => hd.rd hjv
  have hts : toldK l v vs (j + 1) = toldK l v vs j ++ if vs.getD j default = -1 then [] else [(memK l v (j : Int) (prod l).toNat, vs.getD j default)] := rfl
  have hM := Members_spec A va c vc l v (j : Int) I hl hs hv hw ⟨by omega, by omega⟩
  generalize memK l v (j : Int) (prod l).toNat = mm at hM hts
  generalize vs.getD j default = z at hrd hts
  by_cases hz : z = -1
  · subst hz
    rw [if_pos rfl, List.append_nil] at hts
    repeat' first
      | ((with_reducible refine Nx.is_wp ?_); first | refine Nx.wo ?_ | refine Nx.p_dec rfl rfl (fun hc => ?_) (fun hc => ?_) | refine Nx.p_bool rfl rfl (fun hc => ?_) (fun hc => ?_))
      | ((first | refine Nx.at_op rfl rfl ?_ | refine Nx.m_loud rfl rfl rfl ?_ | refine Nx.at_do rfl rfl rfl rfl ?_ | refine Nx.m_loud_do rfl rfl rfl rfl rfl ?_); first | refine Nx.opr rfl rfl ?_ | refine Nx.indexAddr_nat (A := D) rfl rfl rfl rfl rfl hjv (hd.isSome (by omega)) ?_ | refine Nx.load rfl rfl rfl (hrd _ _) ?_ | refine Nx.so ?_ | refine Nx.sb (fun bx => ?_) | refine Nx.sa (fun A2 c2 => ?_))
      | ((with_reducible refine Nx.is_at ?_); first | refine Nx.a ?_ | ((fail_if_success refine Nx.at_do rfl rfl rfl rfl ?_); first | refine Nx.at_dec_t rfl rfl rfl rfl (by first | assumption | omega) ?_ | refine Nx.at_dec_f rfl rfl rfl rfl (by first | assumption | omega) ?_ | refine Nx.at_split rfl rfl rfl rfl (fun hc => ?_) (fun hc => ?_) | refine Nx.at_splitb rfl rfl rfl rfl (fun hc => ?_) (fun hc => ?_)))
      | ((with_reducible refine Nx.is_mix ?_); first | refine Nx.m ?_ | ((fail_if_success refine Nx.m_quiet_do rfl rfl rfl rfl rfl rfl rfl ?_ ?_); (fail_if_success refine Nx.m_loud_do rfl rfl rfl rfl rfl ?_); first | refine Nx.m_dec_t rfl rfl rfl rfl (by first | assumption | omega) ?_ | refine Nx.m_dec_f rfl rfl rfl rfl (by first | assumption | omega) ?_ | refine Nx.m_split rfl rfl rfl rfl (fun hc => ?_) (fun hc => ?_) | refine Nx.m_splitb rfl rfl rfl rfl (fun hc => ?_) (fun hc => ?_)))
      | ((fail_if_success (with_reducible refine Nx.is_at ?_)); (fail_if_success (with_reducible refine Nx.is_wp ?_)); (fail_if_success (with_reducible refine Nx.is_mix ?_)); first | refine Nx.ex ?_)
    exact Nx.again (j + 1, Ap, cp, ps) ⟨hjv, by rw [hts]; exact hps, by dsimp only; omega⟩ (by dsimp only; omega) ⟨rfl, rfl, rfl, rfl, rfl, rfl, trivial⟩ (by (exact Ent.auto))
  · rw [if_neg hz] at hts
    repeat' first
      | ((with_reducible refine Nx.is_wp ?_); first | refine Nx.wo ?_ | refine Nx.p_dec rfl rfl (fun hc => ?_) (fun hc => ?_) | refine Nx.p_bool rfl rfl (fun hc => ?_) (fun hc => ?_))
      | ((first | refine Nx.at_op rfl rfl ?_ | refine Nx.m_loud rfl rfl rfl ?_ | refine Nx.at_do rfl rfl rfl rfl ?_ | refine Nx.m_loud_do rfl rfl rfl rfl rfl ?_); first | refine Nx.opr rfl rfl ?_ | refine Nx.indexAddr_nat (A := D) rfl rfl rfl rfl rfl hjv (hd.isSome (by omega)) ?_ | refine Nx.load rfl rfl rfl (hrd _ _) ?_ | refine Nx.loads rfl rfl rfl rfl (Rds.cut 0 1 rfl rfl) rfl ?_ | (refine Nx.call (Rpre := []) rfl rfl rfl (by kernel_rfl) rfl hM (Ent.refl _) ?_; rintro _ _ ⟨Am, cm, rfl, rfl⟩) | refine Nx.so ?_ | refine Nx.sb (fun bx => ?_) | refine Nx.sa (fun A2 c2 => ?_))
      | ((with_reducible refine Nx.is_at ?_); first | refine Nx.a ?_ | ((fail_if_success refine Nx.at_do rfl rfl rfl rfl ?_); first | refine Nx.at_dec_t rfl rfl rfl rfl (by first | assumption | omega) ?_ | refine Nx.at_dec_f rfl rfl rfl rfl (by first | assumption | omega) ?_ | refine Nx.at_split rfl rfl rfl rfl (fun hc => ?_) (fun hc => ?_) | refine Nx.at_splitb rfl rfl rfl rfl (fun hc => ?_) (fun hc => ?_)))
      | ((with_reducible refine Nx.is_mix ?_); first | refine Nx.m ?_ | ((fail_if_success refine Nx.m_quiet_do rfl rfl rfl rfl rfl rfl rfl ?_ ?_); (fail_if_success refine Nx.m_loud_do rfl rfl rfl rfl rfl ?_); first | refine Nx.m_dec_t rfl rfl rfl rfl (by first | assumption | omega) ?_ | refine Nx.m_dec_f rfl rfl rfl rfl (by first | assumption | omega) ?_ | refine Nx.m_split rfl rfl rfl rfl (fun hc => ?_) (fun hc => ?_) | refine Nx.m_splitb rfl rfl rfl rfl (fun hc => ?_) (fun hc => ?_)))
      | ((fail_if_success (with_reducible refine Nx.is_at ?_)); (fail_if_success (with_reducible refine Nx.is_wp ?_)); (fail_if_success (with_reducible refine Nx.is_mix ?_)); first | refine Nx.ex ?_)
    refine Nx.again (j + 1, A2, c2, ps ++ [((Am, cm, mm), z)]) ⟨hjv, by dsimp only; rw [hts, List.map_append, hps]; rfl, by dsimp only; rw [List.length_append]; show ps.length + 1 ≤ _; omega⟩ (by dsimp only; omega) ⟨rfl, rfl, by dsimp only; rw [List.length_append]; rfl, rfl, rfl, rfl, trivial⟩ ?_
    dsimp only
    refine Ent.trans (R' := rowR (Am, cm, mm) :: Stars (ps.map fun q => rowR q.1) :: [Vec 105 2 A2 (ps.length + 1) c2 (ps.flatMap eqC ++ eqC ((Am, cm, mm), z)), Blk b3 44 [.int .i64 num, .slice va v.length vc, .slice D vs.length cd], Blk b2 27 [.slice A l.length c], F]) (by unfold rowR eqC eqsR; (exact Ent.auto)) ?_
    refine Ent.trans (R' := Stars ((ps.map fun q => rowR q.1) ++ [rowR (Am, cm, mm)]) :: [Vec 105 2 A2 (ps.length + 1) c2 (ps.flatMap eqC ++ eqC ((Am, cm, mm), z)), Blk b3 44 [.int .i64 num, .slice va v.length vc, .slice D vs.length cd], Blk b2 27 [.slice A l.length c], F]) Ent.bundle ?_
    unfold eqsR
    rw [List.length_append, List.flatMap_append, List.map_append, List.flatMap_cons, List.flatMap_nil, List.append_nil]
    (exact Ent.auto)
set_option maxRecDepth 10000 in
set_option maxHeartbeats 8000000 in
theorem EAll_spec (A As : Option Addr) (c cs : Nat) (l : List Int) (rs : List Rel) (I : PH) (hl : Ints I A c l) (hs : Sizes l) (hr : Rels I As cs rs) (hw : ∀ r ∈ rs, Viewed l r.v) :
    FnSpec Try.prog 43 [.agg #[.slice A l.length c], .slice As rs.length cs] I []
      (fun u R' => ∃ (A' : Option Addr) (c' : Nat) (qs : List EqR), u = .tuple #[.slice A' qs.length c', .int .i64 (relsE l rs)] ∧ qs.map cont = (if relsE l rs = 0 then rs.flatMap (told l) else []) ∧ qs.length ≤ 24 * 48 ∧ R' = eqsR A' c' qs) := by
  have hEC := ECheck_spec A As c cs l rs I hl hs hr hw
  have hiff := relsE_iff hs hw
  refine FnSpec.enterP Try.func43 rfl Try.ntmps43 rfl fun w F => ?_
  by_cases h0 : relsE l rs = 0
  case neg =>
    rw [if_neg h0]
    generalize relsE l rs = er at h0 hEC
    repeat' first
      | ((with_reducible refine Nx.is_wp ?_); first | refine Nx.wo ?_ | refine Nx.p_dec rfl rfl (fun hc => ?_) (fun hc => ?_) | refine Nx.p_bool rfl rfl (fun hc => ?_) (fun hc => ?_))
      | ((first | refine Nx.at_op rfl rfl ?_ | refine Nx.m_loud rfl rfl rfl ?_ | refine Nx.at_do rfl rfl rfl rfl ?_ | refine Nx.m_loud_do rfl rfl rfl rfl rfl ?_); first | refine Nx.opr rfl rfl ?_ | refine Nx.callv rfl rfl rfl (by kernel_rfl) rfl hEC ?_ | refine Nx.so ?_ | refine Nx.sb (fun bx => ?_) | refine Nx.sa (fun A2 c2 => ?_))
      | ((with_reducible refine Nx.is_at ?_); first | refine Nx.a ?_ | ((fail_if_success refine Nx.at_do rfl rfl rfl rfl ?_); first | refine Nx.at_dec_t rfl rfl rfl rfl (by first | assumption | omega) ?_ | refine Nx.at_dec_f rfl rfl rfl rfl (by first | assumption | omega) ?_ | refine Nx.at_split rfl rfl rfl rfl (fun hc => ?_) (fun hc => ?_) | refine Nx.at_splitb rfl rfl rfl rfl (fun hc => ?_) (fun hc => ?_)))
      | ((with_reducible refine Nx.is_mix ?_); first | refine Nx.m ?_ | ((fail_if_success refine Nx.m_quiet_do rfl rfl rfl rfl rfl rfl rfl ?_ ?_); (fail_if_success refine Nx.m_loud_do rfl rfl rfl rfl rfl ?_); first | refine Nx.m_dec_t rfl rfl rfl rfl (by first | assumption | omega) ?_ | refine Nx.m_dec_f rfl rfl rfl rfl (by first | assumption | omega) ?_ | refine Nx.m_split rfl rfl rfl rfl (fun hc => ?_) (fun hc => ?_) | refine Nx.m_splitb rfl rfl rfl rfl (fun hc => ?_) (fun hc => ?_)))
      | ((fail_if_success (with_reducible refine Nx.is_at ?_)); (fail_if_success (with_reducible refine Nx.is_wp ?_)); (fail_if_success (with_reducible refine Nx.is_mix ?_)); first | refine Nx.ex ?_)
    exact Nx.ret_fn rfl [_, _] ⟨none, 0, [], rfl, rfl, by decide, rfl⟩ ((Ent.stars_nil _).trans ((Ent.vec_nil 105 2 _).trans (by (exact Ent.auto))))
  have hV := hiff.1 h0
  rw [if_pos h0, h0]
  rw [h0] at hEC
  have h24 := hV.len
  repeat' first
    | ((with_reducible refine Nx.is_wp ?_); first | refine Nx.wo ?_ | refine Nx.p_dec rfl rfl (fun hc => ?_) (fun hc => ?_) | refine Nx.p_bool rfl rfl (fun hc => ?_) (fun hc => ?_))
    | ((first | refine Nx.at_op rfl rfl ?_ | refine Nx.m_loud rfl rfl rfl ?_ | refine Nx.at_do rfl rfl rfl rfl ?_ | refine Nx.m_loud_do rfl rfl rfl rfl rfl ?_); first | refine Nx.opr rfl rfl ?_ | refine Nx.callv rfl rfl rfl (by kernel_rfl) rfl hEC ?_ | refine Nx.so ?_ | refine Nx.sb (fun bx => ?_) | refine Nx.sa (fun A2 c2 => ?_))
    | ((with_reducible refine Nx.is_at ?_); first | refine Nx.a ?_ | ((fail_if_success refine Nx.at_do rfl rfl rfl rfl ?_); first | refine Nx.at_dec_t rfl rfl rfl rfl (by first | assumption | omega) ?_ | refine Nx.at_dec_f rfl rfl rfl rfl (by first | assumption | omega) ?_ | refine Nx.at_split rfl rfl rfl rfl (fun hc => ?_) (fun hc => ?_) | refine Nx.at_splitb rfl rfl rfl rfl (fun hc => ?_) (fun hc => ?_)))
    | ((with_reducible refine Nx.is_mix ?_); first | refine Nx.m ?_ | ((fail_if_success refine Nx.m_quiet_do rfl rfl rfl rfl rfl rfl rfl ?_ ?_); (fail_if_success refine Nx.m_loud_do rfl rfl rfl rfl rfl ?_); first | refine Nx.m_dec_t rfl rfl rfl rfl (by first | assumption | omega) ?_ | refine Nx.m_dec_f rfl rfl rfl rfl (by first | assumption | omega) ?_ | refine Nx.m_split rfl rfl rfl rfl (fun hc => ?_) (fun hc => ?_) | refine Nx.m_splitb rfl rfl rfl rfl (fun hc => ?_) (fun hc => ?_)))
    | ((fail_if_success (with_reducible refine Nx.is_at ?_)); (fail_if_success (with_reducible refine Nx.is_wp ?_)); (fail_if_success (with_reducible refine Nx.is_mix ?_)); first | refine Nx.ex ?_)
  revert bx; intro b2
  refine Nx.p_loop (σ := Nat × Option Addr × Nat × List EqR) (fun s => [(2, .pointer (some ⟨b2, 0, none⟩)), (7, .slice s.2.1 s.2.2.2.length s.2.2.1), (16, .slice As rs.length cs), (17, .int .i64 rs.length), (18, .int .i64 (s.1 : Int))])
    (fun s => Blk b2 27 [.slice A l.length c] :: (eqsR s.2.1 s.2.2.1 s.2.2.2 ++ [F])) (fun s => s.1 ≤ rs.length ∧ s.2.2.2.map cont = (rs.take s.1).flatMap (told l) ∧ s.2.2.2.length ≤ s.1 * 48) (fun s => rs.length - s.1) (0, none, 0, []) rfl ⟨Nat.zero_le _, rfl, Nat.le_refl _⟩ ⟨rfl, rfl, rfl, rfl, rfl, trivial⟩ ((Ent.stars_nil _).trans ((Ent.vec_nil 105 2 _).trans (by unfold eqsR; (exact Ent.auto)))) ?_
  rintro ⟨i, Ao, co, qs⟩ ⟨hi, hqs, hql⟩
  dsimp only at hi hqs hql ⊢
  by_cases hiv : i < rs.length
  case neg =>
    obtain rfl : i = rs.length := by omega
    rw [List.take_length] at hqs
    repeat' first
      | ((with_reducible refine Nx.is_wp ?_); first | refine Nx.wo ?_ | refine Nx.p_dec rfl rfl (fun hc => ?_) (fun hc => ?_) | refine Nx.p_bool rfl rfl (fun hc => ?_) (fun hc => ?_))
      | ((first | refine Nx.at_op rfl rfl ?_ | refine Nx.m_loud rfl rfl rfl ?_ | refine Nx.at_do rfl rfl rfl rfl ?_ | refine Nx.m_loud_do rfl rfl rfl rfl rfl ?_); first | refine Nx.opr rfl rfl ?_ | refine Nx.so ?_ | refine Nx.sb (fun bx => ?_) | refine Nx.sa (fun A2 c2 => ?_))
      | ((with_reducible refine Nx.is_at ?_); first | refine Nx.a ?_ | ((fail_if_success refine Nx.at_do rfl rfl rfl rfl ?_); first | refine Nx.at_dec_t rfl rfl rfl rfl (by first | assumption | omega) ?_ | refine Nx.at_dec_f rfl rfl rfl rfl (by first | assumption | omega) ?_ | refine Nx.at_split rfl rfl rfl rfl (fun hc => ?_) (fun hc => ?_) | refine Nx.at_splitb rfl rfl rfl rfl (fun hc => ?_) (fun hc => ?_)))
      | ((with_reducible refine Nx.is_mix ?_); first | refine Nx.m ?_ | ((fail_if_success refine Nx.m_quiet_do rfl rfl rfl rfl rfl rfl rfl ?_ ?_); (fail_if_success refine Nx.m_loud_do rfl rfl rfl rfl rfl ?_); first | refine Nx.m_dec_t rfl rfl rfl rfl (by first | assumption | omega) ?_ | refine Nx.m_dec_f rfl rfl rfl rfl (by first | assumption | omega) ?_ | refine Nx.m_split rfl rfl rfl rfl (fun hc => ?_) (fun hc => ?_) | refine Nx.m_splitb rfl rfl rfl rfl (fun hc => ?_) (fun hc => ?_)))
      | ((fail_if_success (with_reducible refine Nx.is_at ?_)); (fail_if_success (with_reducible refine Nx.is_wp ?_)); (fail_if_success (with_reducible refine Nx.is_mix ?_)); first | refine Nx.ex ?_)
    exact Nx.ret_fn rfl [_, _] ⟨Ao, co, qs, rfl, hqs, by omega, rfl⟩ (by (exact Ent.auto))
  have htk := take_snocR hiv
  have hT := told_spec A c l (rs.getD i default) I hl hs (hr.view _ (getD_memR hiv)) (hr.val _ (getD_memR hiv)) (hV.each i hiv).1
  have hrds : ∀ (W : World) (R : List Res), Rds W I R ((ad As).add (i * 3)) (relC (rs.getD i default)) := fun W R => hr.outer.rds hiv
  generalize rs.getD i default = r at htk hT hrds
  obtain ⟨num, va, vc, v, D, cd, vs⟩ := r
  dsimp only at hT
  replace hrds : ∀ (W : World) (R : List Res), Rds W I R ((ad As).add (i * 3)) [.int .i64 num, .slice va v.length vc, .slice D vs.length cd] := hrds
  repeat' first
    | ((with_reducible refine Nx.is_wp ?_); first | refine Nx.wo ?_ | refine Nx.p_dec rfl rfl (fun hc => ?_) (fun hc => ?_) | refine Nx.p_bool rfl rfl (fun hc => ?_) (fun hc => ?_))
    | ((first | refine Nx.at_op rfl rfl ?_ | refine Nx.m_loud rfl rfl rfl ?_ | refine Nx.at_do rfl rfl rfl rfl ?_ | refine Nx.m_loud_do rfl rfl rfl rfl rfl ?_); first | refine Nx.opr rfl rfl ?_ | refine Nx.indexAddr_nat rfl rfl rfl rfl rfl hiv (hr.outer.isSome (by omega) (by omega)) ?_ | refine Nx.loads rfl rfl rfl rfl (hrds _ _) rfl ?_ | (refine Nx.call (Rpre := []) rfl rfl rfl (by kernel_rfl) rfl hT (Ent.refl _) ?_; rintro _ _ ⟨Am, cm, ps, rfl, hps, hpl, rfl⟩) | refine Nx.append_vec 3 rfl rfl rfl rfl (by kernel_rfl) rfl rfl (eq_one ps) (by omega) fun A2 c2 => ?_ | refine Nx.so ?_ | refine Nx.sb (fun bx => ?_) | refine Nx.sa (fun A2 c2 => ?_))
    | ((with_reducible refine Nx.is_at ?_); first | refine Nx.a ?_ | ((fail_if_success refine Nx.at_do rfl rfl rfl rfl ?_); first | refine Nx.at_dec_t rfl rfl rfl rfl (by first | assumption | omega) ?_ | refine Nx.at_dec_f rfl rfl rfl rfl (by first | assumption | omega) ?_ | refine Nx.at_split rfl rfl rfl rfl (fun hc => ?_) (fun hc => ?_) | refine Nx.at_splitb rfl rfl rfl rfl (fun hc => ?_) (fun hc => ?_)))
    | ((with_reducible refine Nx.is_mix ?_); first | refine Nx.m ?_ | ((fail_if_success refine Nx.m_quiet_do rfl rfl rfl rfl rfl rfl rfl ?_ ?_); (fail_if_success refine Nx.m_loud_do rfl rfl rfl rfl rfl ?_); first | refine Nx.m_dec_t rfl rfl rfl rfl (by first | assumption | omega) ?_ | refine Nx.m_dec_f rfl rfl rfl rfl (by first | assumption | omega) ?_ | refine Nx.m_split rfl rfl rfl rfl (fun hc => ?_) (fun hc => ?_) | refine Nx.m_splitb rfl rfl rfl rfl (fun hc => ?_) (fun hc => ?_)))
    | ((fail_if_success (with_reducible refine Nx.is_at ?_)); (fail_if_success (with_reducible refine Nx.is_wp ?_)); (fail_if_success (with_reducible refine Nx.is_mix ?_)); first | refine Nx.ex ?_)
  refine Nx.again (i + 1, A2, c2, qs ++ ps) ⟨hiv, by dsimp only; rw [htk, List.flatMap_append, List.flatMap_cons, List.flatMap_nil, List.append_nil, List.map_append, hqs, hps], by dsimp only; rw [List.length_append]; omega⟩ (by dsimp only; omega) ⟨rfl, by dsimp only; rw [List.length_append]; rfl, rfl, rfl, rfl, trivial⟩ ?_
  dsimp only
  refine Ent.trans (R' := Stars (qs.map fun q => rowR q.1) :: Stars (ps.map fun q => rowR q.1) :: [Vec 105 2 A2 (qs.length + ps.length) c2 (qs.flatMap eqC ++ ps.flatMap eqC), Blk b2 27 [.slice A l.length c], F]) (by (exact Ent.auto)) ?_
  refine Ent.stars_app.trans ?_
  unfold eqsR
  rw [List.length_append, List.flatMap_append, List.map_append]
  (exact Ent.auto)
end Go.Proofs.Ytcmdemfhbekabaa
/-
  The proof engine, part AN: a statement of open order in which memory that a call of its own has made is read before the next call; what is known of all worlds grows from call to call.
-/
namespace Go.Eng
section
variable {P : Program} {ops : Array Oper} {Q : Exit → Act → World → Prop} {md : Region.Mode} {S S' : World → Prop} {fin loud : List Nat}
theorem wpAnyF_weaker (h : ∀ w, S' w → S w) : ∀ (n : Nat) (listed : Array Bool) (a : Act) (w : World), wpAnyF P md ops Q S' fin n listed a w → wpAnyF P md ops Q S fin n listed a w
  | 0, _, _, _, H => H
  | n + 1, _, _, _, H => ⟨H.1, fun i hi => wpOp_mono (fun a' w' h' => ⟨fun hf => h w' (h'.1 hf), wpAnyF_weaker h n _ a' w' h'.2⟩) (H.2 i hi)⟩
/-- The operations in parts; behind each part more may be known of all worlds to come. -/
def wpSegs (P : Program) (ops : Array Oper) (Q : Exit → Act → World → Prop) (loud fin : List Nat) : List (List Nat) → (World → Prop) → Act → World → Prop
  | [], _, a, w => wpMix P ops Q AnyW fin fin a w
  | g :: r, S, a, w => wpMix P ops (Exit.then (fun a w => ∃ S' : World → Prop, (∀ u, S' u → S u) ∧ S' w ∧ wpSegs P ops Q loud fin r S' a w) Q) S loud g a w
theorem wpSegs_anyF (hs : Region.noSelect ops = true) (hQ : PanicOk Q) : ∀ (gs : List (List Nat)) (S : World → Prop) (n : Nat) (listed : Array Bool) (a : Act) (w : World), Closed .any ops listed →
    mixOkF ops fin loud gs.flatten listed = true → gs.flatten.length + fin.length ≤ n → S w → wpSegs P ops Q loud fin gs S a w → wpAnyF P .any ops Q S fin n listed a w
  | [], S, n, listed, a, w, _, hok, hl, _, h => wpMix_fin hs hQ (fun k hk => by simpa using hk) fin n listed a w (fun k hk => by simpa using hk) hok (by simpa using hl) h
  | g :: gs, S, n, listed, a, w, hcl, hok, hl, hS, h => by
    rw [List.flatten_cons] at hok hl
    have key : ∀ (r : List Nat) (n : Nat) (listed : Array Bool) (a : Act) (w : World), Closed .any ops listed → mixOkF ops fin loud (r ++ gs.flatten) listed = true → (r ++ gs.flatten).length + fin.length ≤ n → S w →
        wpMix P ops (Exit.then (fun a w => ∃ S' : World → Prop, (∀ u, S' u → S u) ∧ S' w ∧ wpSegs P ops Q loud fin gs S' a w) Q) S loud r a w → wpAnyF P .any ops Q S fin n listed a w := by
      intro r
      induction r with
      | nil =>
        rintro n listed a w hcl hok hl hS ⟨S', hi, hS', h⟩
        exact wpAnyF_weaker hi _ _ _ _ (wpSegs_anyF hs hQ gs S' n listed a w hcl hok hl hS' h)
      | cons k r ih =>
        intro n listed a w hcl hok hl hS h
        obtain ⟨o, ho, h⟩ := h
        rw [List.cons_append] at hok hl
        unfold mixOkF at hok
        rw [Bool.and_eq_true] at hok
        obtain ⟨hk, hr⟩ := hok
        cases n with
        | zero => simp at hl
        | succ n =>
          have hl' : (r ++ gs.flatten).length + fin.length ≤ n := by simp only [List.length_cons] at hl; omega
          by_cases hc : loud.contains k = true
          · rw [if_pos hc] at h hk
            simp only [Bool.and_eq_true, beq_iff_eq, Bool.not_eq_true'] at hk
            refine ⟨fun h0 => (by rw [hk.1] at h0; cases h0), fun i hi => ?_⟩
            rw [hk.1] at hi
            obtain rfl : i = k := by simpa using hi
            refine wpOp_then (T := fun a w => ∃ S' : World → Prop, (∀ u, S' u → S u) ∧ S' w ∧ wpSegs P ops Q loud fin gs S' a w) ?_
            exact wpOp_mono (fun a' w' h3 => ⟨fun _ => h3.1, ih n _ a' w' (hcl.set (by rw [hk.1]; simp)) hr hl' h3.1 h3.2⟩) h
          · rw [if_neg hc] at h hk
            simp only [Bool.and_eq_true] at hk
            obtain ⟨v, hy, h⟩ := h
            exact wpAnyF_first ho hs hQ hk.2 n listed a w hcl (Region.free_spec ho hk.1.1) (by simpa using hk.1.2) hy hS (ih n _ _ w (hcl.set (by simpa using hk.1.2)) hr hl' hS h)
    exact key g n listed a w hcl hok hl hS h
end
section
variable {C : Cx} {e e' : Env} {I I' : PH} {R R' R0 R1 : List Res} {K K' : Act → World → Prop} {Q : Exit → Act → World → Prop} {c : Code} {ops : Array Oper} {loud fin : List Nat}
theorem Nx.p_segs {id : Nat} (hid : cid c = id) (gs : List (List Nat)) (loud fin : List Nat) (R0 : List Res) (hk : ck c = 2) (hm : C.P.follows .mixedOrders = true) (hs : Region.noSelect (cops c) = true) (hok : mixOkF (cops c) fin loud gs.flatten (Array.replicate (cops c).size false) = true) (hlen : Nat.ble (gs.flatten.length + fin.length) (cops c).size = true) (hQ : PanicOk Q) (hR : Ent R R0)
    (h : Nx C e I R (wpSegs C.P (cops c) Q loud fin gs (St C.W I R0))) : Nx C e I R (c.wp C.P Q) := by
  have hc : c = .region (cid c) (cops c) true := by
    cases c <;> first | (simp [ck] at hk; done) | skip
    rename_i b
    cases b with
    | false => simp [ck] at hk
    | true => rfl
  clear hid
  rw [hc]
  intro a w ha hw
  refine wp_region_any hm (wpAny_of_fin _ _ _ _ (wpSegs_anyF (S := St C.W I R0) hs hQ gs _ _ a _ (Closed.start _) hok (Nat.le_of_ble_eq_true hlen) (hw.drew.ent hR) (h a _ ha hw.drew)))
theorem Nx.segs_in {g : List Nat} {gs : List (List Nat)} {S : World → Prop} (h : Nx C e I R (wpMix C.P ops (Exit.then (fun a w => ∃ S' : World → Prop, (∀ u, S' u → S u) ∧ S' w ∧ wpSegs C.P ops Q loud fin gs S' a w) Q) S loud g)) : Nx C e I R (wpSegs C.P ops Q loud fin (g :: gs) S) := h
theorem Nx.segs_end {S : World → Prop} (h : Nx C e I R (wpMix C.P ops Q AnyW fin fin)) : Nx C e I R (wpSegs C.P ops Q loud fin [] S) := h
/-- Behind a part: from here on 'R' is known of all worlds. -/
theorem Nx.segs_next {gs : List (List Nat)} (hle : PH.le I I') (hR : Ent R R0) (h : Nx C e I' R (wpSegs C.P ops Q loud fin gs (St C.W I' R))) : Nx C e I' R (fun a w => ∃ S' : World → Prop, (∀ u, S' u → St C.W I R0 u) ∧ S' w ∧ wpSegs C.P ops Q loud fin gs S' a w) :=
  fun a w ha hw => ⟨St C.W I' R, fun _ hu => (hu.imm_le hle).ent hR, hw, h a w ha hw⟩
end
end Go.Eng
