/- Contracts of functions of the given program, and lemmas about plain lists and numbers: what the laws of this seat lean on. -/
import Derived.Test.YtaoeapmdhpkidaaS15
namespace Go.Proofs.Ytaoeapmdhpkidaa
open Go.Eng
/-! RotaNext: plain law -/
theorem find_sorted {p : Int → Bool} : ∀ {S : List Int} {t : Int}, S.Pairwise (· ≤ ·) → t ∈ S → p t = true → ∃ u, S.find? p = some u ∧ u ≤ t
  | [], t, _, h, _ => by cases h
  | a :: S, t, hs, h, hp => by
    rw [List.pairwise_cons] at hs
    cases hpa : p a with
    | true =>
      refine ⟨a, by simp [hpa], ?_⟩
      rcases List.mem_cons.1 h with rfl | h
      · omega
      · exact hs.1 t h
    | false =>
      rcases List.mem_cons.1 h with rfl | h
      · rw [hpa] at hp; cases hp
      · obtain ⟨u, h1, h2⟩ := find_sorted hs.2 h hp
        exact ⟨u, by simp [hpa, h1], h2⟩
theorem cntP_filter (l : List Shift) (who : List UInt8) (t : Int) : cntP l who t = (l.filter fun x => onB t x && !(x.1 == who)).length := by
  rw [cntP_eq]
  unfold onP
  rw [List.filter_map, List.length_map, List.filter_filter]
  congr 1
  refine List.filter_congr fun x _ => ?_
  simp [Function.comp, Bool.and_comm]
theorem next_sound {l : List Shift} {who : List UInt8} {t0 t : Int} (h : nextP l who t0 = some t) : t0 ≤ t ∧ 2 ≤ cntP l who t := by
  unfold nextP at h
  have := List.find?_some h
  simpa using this
theorem next_first {l : List Shift} {who : List UInt8} {t0 x : Int} (hx : t0 ≤ x) (h2 : 2 ≤ cntP l who x) : ∃ t, nextP l who t0 = some t ∧ t ≤ x := by
  rw [cntP_filter] at h2
  obtain ⟨y1, y2, r, hr⟩ : ∃ y1 y2 r, (l.filter fun y => onB x y && !(y.1 == who)) = y1 :: y2 :: r := by
    match hf : l.filter fun y => onB x y && !(y.1 == who) with
    | [] => rw [hf] at h2; simp at h2
    | [a] => rw [hf] at h2; simp at h2
    | a :: b :: r => exact ⟨a, b, r, rfl⟩
  have hsub : [y1, y2].Sublist l := by
    have : [y1, y2].Sublist (l.filter fun y => onB x y && !(y.1 == who)) := by rw [hr]; exact (List.nil_sublist r).cons_cons y2 |>.cons_cons y1
    exact this.trans List.filter_sublist
  have hm1 : y1 ∈ l.filter fun y => onB x y && !(y.1 == who) := by rw [hr]; simp
  have hm2 : y2 ∈ l.filter fun y => onB x y && !(y.1 == who) := by rw [hr]; simp
  rw [List.mem_filter] at hm1 hm2
  have h1 := hm1.2
  have h2' := hm2.2
  rw [Bool.and_eq_true] at h1 h2'
  have e1 := of_decide_eq_true h1.1
  have e2 := of_decide_eq_true h2'.1
  obtain ⟨t', ht'⟩ : ∃ t', t' = max t0 (max y1.2.1 y2.2.1) := ⟨_, rfl⟩
  have hb1 : onB t' y1 = true := decide_eq_true (by omega)
  have hb2 : onB t' y2 = true := decide_eq_true (by omega)
  have hc : 2 ≤ cntP l who t' := by
    rw [cntP_filter]
    have := (hsub.filter fun y => onB t' y && !(y.1 == who)).length_le
    rw [List.filter_cons_of_pos (by rw [hb1, h1.2]; rfl), List.filter_cons_of_pos (by rw [hb2, h2'.2]; rfl)] at this
    simpa using this
  have hin : t' ∈ srtL (t0 :: l.map fun x => x.2.1) := by
    rw [srtL_mem, List.mem_cons, List.mem_map]
    by_cases c1 : t' = t0
    · exact .inl c1
    · by_cases c2 : t' = y1.2.1
      · exact .inr ⟨y1, hm1.1, c2.symm⟩
      · exact .inr ⟨y2, hm2.1, by omega⟩
  obtain ⟨u, hu, hle⟩ := find_sorted (p := fun t => decide (t0 ≤ t) && decide (2 ≤ cntP l who t)) (srtL_asc _) hin (by rw [Bool.and_eq_true, decide_eq_true_eq, decide_eq_true_eq]; exact ⟨by omega, hc⟩)
  exact ⟨u, hu, by omega⟩
def cntK (who : List UInt8) (l : List (List UInt8)) (k : Nat) : Nat := ((l.take k).filter fun s => !(s == who)).length
theorem cntK_succ {who : List UInt8} {l : List (List UInt8)} {k : Nat} (hk : k < l.length) : cntK who l (k + 1) = cntK who l k + if (l.getD k default == who) = true then 0 else 1 := by
  unfold cntK
  rw [take_snoc (p := fun s => s == who) hk, List.length_append]
  split <;> rfl
theorem cntK_le (who : List UInt8) (l : List (List UInt8)) (k : Nat) : cntK who l k ≤ l.length := by
  unfold cntK
  exact Nat.le_trans (List.length_filter_le _ _) (by rw [List.length_take]; omega)
section
attribute [local irreducible] opK wpList Code.wp Exit.then Exit.inBlock fnPost bodyPost Nx Calls Oper.wp Rd Rds Wr Ent Stars Blk Again Vec FnSpec wpMix QRun Stop Upto wpAt
set_option maxHeartbeats 4000000 in
set_option maxRecDepth 10000 in
theorem RotaNext_spec (A : Option Addr) (c : Nat) (l : List Int) (tm : Int) (I : PH) (hl : Bytes I A c l) (hx : ∀ x ∈ l, 0 ≤ x ∧ x < 256) (ht : 0 ≤ tm ∧ tm < 256) :
    FnSpec Try.prog 3 [.slice A l.length c, .int .u8 tm] I [] (fun v R' => v = .bool true ∧ R' = []) := by
  have hL := bytes_take hl hx
  refine FnSpec.enterP Try.func3 rfl Try.ntmps3 rfl fun w F => ?_
  repeat' first
    | ((with_reducible refine Nx.is_wp ?_); first | refine Nx.wo ?_ | refine Nx.p_dec rfl rfl (fun hc => ?_) (fun hc => ?_) | refine Nx.p_bool rfl rfl (fun hc => ?_) (fun hc => ?_))
    | ((first | refine Nx.at_op rfl rfl ?_ | refine Nx.m_loud rfl rfl rfl ?_ | refine Nx.at_do rfl rfl rfl rfl ?_ | refine Nx.m_loud_do rfl rfl rfl rfl rfl ?_); first | refine Nx.opr rfl rfl ?_ | refine Nx.so ?_ | refine Nx.sb (fun bx => ?_) | refine Nx.sa (fun A2 c2 => ?_))
    | ((with_reducible refine Nx.is_at ?_); first | refine Nx.a ?_ | ((fail_if_success refine Nx.at_do rfl rfl rfl rfl ?_); first | refine Nx.at_dec_t rfl rfl rfl rfl (by first | assumption | omega) ?_ | refine Nx.at_dec_f rfl rfl rfl rfl (by first | assumption | omega) ?_ | refine Nx.at_split rfl rfl rfl rfl (fun hc => ?_) (fun hc => ?_) | refine Nx.at_splitb rfl rfl rfl rfl (fun hc => ?_) (fun hc => ?_)))
    | ((with_reducible refine Nx.is_mix ?_); first | refine Nx.m ?_ | ((fail_if_success refine Nx.m_quiet_do rfl rfl rfl rfl rfl rfl rfl ?_ ?_); (fail_if_success refine Nx.m_loud_do rfl rfl rfl rfl rfl ?_); first | refine Nx.m_dec_t rfl rfl rfl rfl (by first | assumption | omega) ?_ | refine Nx.m_dec_f rfl rfl rfl rfl (by first | assumption | omega) ?_ | refine Nx.m_split rfl rfl rfl rfl (fun hc => ?_) (fun hc => ?_) | refine Nx.m_splitb rfl rfl rfl rfl (fun hc => ?_) (fun hc => ?_)))
    | ((fail_if_success (with_reducible refine Nx.is_at ?_)); (fail_if_success (with_reducible refine Nx.is_wp ?_)); (fail_if_success (with_reducible refine Nx.is_mix ?_)); first | refine Nx.ex ?_)
  refine Nx.at_op rfl rfl ?_
  refine Nx.call rfl rfl rfl (by kernel_rfl) rfl (New_codes A c l I hl) (Ent.refl _) ?_
  rintro u R' ⟨b, rfl, rfl⟩
  repeat' first
    | ((with_reducible refine Nx.is_wp ?_); first | refine Nx.wo ?_ | refine Nx.p_dec rfl rfl (fun hc => ?_) (fun hc => ?_) | refine Nx.p_bool rfl rfl (fun hc => ?_) (fun hc => ?_))
    | ((first | refine Nx.at_op rfl rfl ?_ | refine Nx.m_loud rfl rfl rfl ?_ | refine Nx.at_do rfl rfl rfl rfl ?_ | refine Nx.m_loud_do rfl rfl rfl rfl rfl ?_); first | refine Nx.opr rfl rfl ?_ | refine Nx.so ?_ | refine Nx.sb (fun bx => ?_) | refine Nx.sa (fun A2 c2 => ?_))
    | ((with_reducible refine Nx.is_at ?_); first | refine Nx.a ?_ | ((fail_if_success refine Nx.at_do rfl rfl rfl rfl ?_); first | refine Nx.at_dec_t rfl rfl rfl rfl (by first | assumption | omega) ?_ | refine Nx.at_dec_f rfl rfl rfl rfl (by first | assumption | omega) ?_ | refine Nx.at_split rfl rfl rfl rfl (fun hc => ?_) (fun hc => ?_) | refine Nx.at_splitb rfl rfl rfl rfl (fun hc => ?_) (fun hc => ?_)))
    | ((with_reducible refine Nx.is_mix ?_); first | refine Nx.m ?_ | ((fail_if_success refine Nx.m_quiet_do rfl rfl rfl rfl rfl rfl rfl ?_ ?_); (fail_if_success refine Nx.m_loud_do rfl rfl rfl rfl rfl ?_); first | refine Nx.m_dec_t rfl rfl rfl rfl (by first | assumption | omega) ?_ | refine Nx.m_dec_f rfl rfl rfl rfl (by first | assumption | omega) ?_ | refine Nx.m_split rfl rfl rfl rfl (fun hc => ?_) (fun hc => ?_) | refine Nx.m_splitb rfl rfl rfl rfl (fun hc => ?_) (fun hc => ?_)))
    | ((fail_if_success (with_reducible refine Nx.is_at ?_)); (fail_if_success (with_reducible refine Nx.is_wp ?_)); (fail_if_success (with_reducible refine Nx.is_mix ?_)); first | refine Nx.ex ?_)
  refine Nx.at_op rfl rfl ?_
  refine Nx.call rfl rfl rfl (by kernel_rfl) rfl (Rota_made b A c _ 0 I hL (Nat.zero_le _)) (by (first | done | (repeat first | exact Ent.refl _ | exact Ent.nil _ | refine Ent.pick 0 rfl ?_ | refine Ent.pick 1 rfl ?_ | refine Ent.pick 2 rfl ?_ | refine Ent.pick 3 rfl ?_ | refine Ent.pick 4 rfl ?_ | refine Ent.pick 5 rfl ?_ | refine Ent.pick 6 rfl ?_ | refine Ent.pick 7 rfl ?_ | refine Ent.pick 8 rfl ?_ | refine Ent.pick 9 rfl ?_ | refine Ent.pick 10 rfl ?_ | refine Ent.pick 11 rfl ?_ | refine Ent.pick 12 rfl ?_ | refine Ent.pick 13 rfl ?_ | refine Ent.pick 14 rfl ?_))) ?_
  rintro u R' ⟨Ar, cr, r, k1, rfl, hM, hk1, rfl⟩
  refine Nx.freezeAt 0 rfl fun I1 m1 hI1 hm1 h1 => ?_
  have hr : Shifts I1 Ar cr r := Vec.sliceN hm1 h1 (fun _ _ => rfl)
  have hE := rota_iff.2 hM.rota
  have h60 := hM.rota.few
  repeat' first
    | ((with_reducible refine Nx.is_wp ?_); first | refine Nx.wo ?_ | refine Nx.p_dec rfl rfl (fun hc => ?_) (fun hc => ?_) | refine Nx.p_bool rfl rfl (fun hc => ?_) (fun hc => ?_))
    | ((first | refine Nx.at_op rfl rfl ?_ | refine Nx.m_loud rfl rfl rfl ?_ | refine Nx.at_do rfl rfl rfl rfl ?_ | refine Nx.m_loud_do rfl rfl rfl rfl rfl ?_); first | refine Nx.opr rfl rfl ?_ | refine Nx.so ?_ | refine Nx.sb (fun bx => ?_) | refine Nx.sa (fun A2 c2 => ?_))
    | ((with_reducible refine Nx.is_at ?_); first | refine Nx.a ?_ | ((fail_if_success refine Nx.at_do rfl rfl rfl rfl ?_); first | refine Nx.at_dec_t rfl rfl rfl rfl (by first | assumption | omega) ?_ | refine Nx.at_dec_f rfl rfl rfl rfl (by first | assumption | omega) ?_ | refine Nx.at_split rfl rfl rfl rfl (fun hc => ?_) (fun hc => ?_) | refine Nx.at_splitb rfl rfl rfl rfl (fun hc => ?_) (fun hc => ?_)))
    | ((with_reducible refine Nx.is_mix ?_); first | refine Nx.m ?_ | ((fail_if_success refine Nx.m_quiet_do rfl rfl rfl rfl rfl rfl rfl ?_ ?_); (fail_if_success refine Nx.m_loud_do rfl rfl rfl rfl rfl ?_); first | refine Nx.m_dec_t rfl rfl rfl rfl (by first | assumption | omega) ?_ | refine Nx.m_dec_f rfl rfl rfl rfl (by first | assumption | omega) ?_ | refine Nx.m_split rfl rfl rfl rfl (fun hc => ?_) (fun hc => ?_) | refine Nx.m_splitb rfl rfl rfl rfl (fun hc => ?_) (fun hc => ?_)))
    | ((fail_if_success (with_reducible refine Nx.is_at ?_)); (fail_if_success (with_reducible refine Nx.is_wp ?_)); (fail_if_success (with_reducible refine Nx.is_mix ?_)); first | refine Nx.ex ?_)
  refine Nx.at_op rfl rfl ?_
  refine Nx.call rfl rfl rfl (by kernel_rfl) rfl (Name_made b A c _ k1 I1 (hL.mono hI1) hk1) (by (first | done | (repeat first | exact Ent.refl _ | exact Ent.nil _ | refine Ent.pick 0 rfl ?_ | refine Ent.pick 1 rfl ?_ | refine Ent.pick 2 rfl ?_ | refine Ent.pick 3 rfl ?_ | refine Ent.pick 4 rfl ?_ | refine Ent.pick 5 rfl ?_ | refine Ent.pick 6 rfl ?_ | refine Ent.pick 7 rfl ?_ | refine Ent.pick 8 rfl ?_ | refine Ent.pick 9 rfl ?_ | refine Ent.pick 10 rfl ?_ | refine Ent.pick 11 rfl ?_ | refine Ent.pick 12 rfl ?_ | refine Ent.pick 13 rfl ?_ | refine Ent.pick 14 rfl ?_))) ?_
  rintro u R' ⟨who, k2, rfl, hwho, hk2, rfl⟩
  obtain ⟨m, hm, hm40⟩ : ∃ m : Nat, tm % 40 = m ∧ m < 40 := ⟨(tm % 40).toNat, by omega, by omega⟩
  have hNx := Next_spec2 Ar cr r who (tm % 40) I1 hr hM.ok hE (by omega)
  obtain ⟨tt, ok, hV, hF1, hF2⟩ : ∃ (tt : Int) (ok : Bool), nextV r who (tm % 40) = .tuple #[.int .i64 tt, .bool ok, .int .i64 0] ∧ (ok = true → tm % 40 ≤ tt ∧ 2 ≤ cntP r who tt) ∧ (∀ x, tm % 40 ≤ x → 2 ≤ cntP r who x → ok = true ∧ tt ≤ x) := by
    unfold nextV
    cases hn : nextP r who (tm % 40) with
    | none => exact ⟨0, false, rfl, (fun h => by cases h), fun x h1 h2 => by obtain ⟨t, h3, _⟩ := next_first h1 h2; rw [hn] at h3; cases h3⟩
    | some t => exact ⟨t, true, rfl, (fun _ => next_sound hn), fun x h1 h2 => by
        obtain ⟨t', h3, h4⟩ := next_first h1 h2
        rw [hn] at h3; cases h3
        exact ⟨rfl, h4⟩⟩
  rw [hV] at hNx
  rw [hm] at hF1 hF2
  cases ok with
  | true =>
    obtain ⟨hF3, hF4⟩ := hF1 rfl
    have hF5 : ∀ x : Nat, (x : Int) = tt → 2 ≤ cntP r who x := fun x h => by rw [h]; exact hF4
    repeat' first
      | ((with_reducible refine Nx.is_wp ?_); first | refine Nx.wo ?_ | refine Nx.p_dec rfl rfl (fun hc => ?_) (fun hc => ?_) | refine Nx.p_bool rfl rfl (fun hc => ?_) (fun hc => ?_))
      | ((first | refine Nx.at_op rfl rfl ?_ | refine Nx.m_loud rfl rfl rfl ?_ | refine Nx.at_do rfl rfl rfl rfl ?_ | refine Nx.m_loud_do rfl rfl rfl rfl rfl ?_); first | refine Nx.opr rfl rfl ?_ | refine Nx.rem rfl rfl (by omega) (by omega) rfl ?_ | refine Nx.callv rfl rfl rfl (by kernel_rfl) rfl hNx ?_ | refine Nx.so ?_ | refine Nx.sb (fun bx => ?_) | refine Nx.sa (fun A2 c2 => ?_))
      | ((with_reducible refine Nx.is_at ?_); first | refine Nx.a ?_ | ((fail_if_success refine Nx.at_do rfl rfl rfl rfl ?_); first | refine Nx.at_dec_t rfl rfl rfl rfl (by first | assumption | omega) ?_ | refine Nx.at_dec_f rfl rfl rfl rfl (by first | assumption | omega) ?_ | refine Nx.at_split rfl rfl rfl rfl (fun hc => ?_) (fun hc => ?_) | refine Nx.at_splitb rfl rfl rfl rfl (fun hc => ?_) (fun hc => ?_)))
      | ((with_reducible refine Nx.is_mix ?_); first | refine Nx.m ?_ | ((fail_if_success refine Nx.m_quiet_do rfl rfl rfl rfl rfl rfl rfl ?_ ?_); (fail_if_success refine Nx.m_loud_do rfl rfl rfl rfl rfl ?_); first | refine Nx.m_dec_t rfl rfl rfl rfl (by first | assumption | omega) ?_ | refine Nx.m_dec_f rfl rfl rfl rfl (by first | assumption | omega) ?_ | refine Nx.m_split rfl rfl rfl rfl (fun hc => ?_) (fun hc => ?_) | refine Nx.m_splitb rfl rfl rfl rfl (fun hc => ?_) (fun hc => ?_)))
      | ((fail_if_success (with_reducible refine Nx.is_at ?_)); (fail_if_success (with_reducible refine Nx.is_wp ?_)); (fail_if_success (with_reducible refine Nx.is_mix ?_)); first | refine Nx.ex ?_)
    rw [hm]
    refine Nx.p_loop (σ := Nat) (fun x => [(6, .slice Ar r.length cr), (7, strV who), (8, .int .i64 tt), (9, .bool true), (11, .int .i64 (x : Int))])
      (fun _ => [F]) (fun x => m ≤ x ∧ x ≤ 60) (fun x => 60 - x) m rfl ⟨Nat.le_refl _, by omega⟩ ⟨rfl, rfl, rfl, rfl, rfl, trivial⟩ (by (first | done | (repeat first | exact Ent.refl _ | exact Ent.nil _ | refine Ent.pick 0 rfl ?_ | refine Ent.pick 1 rfl ?_ | refine Ent.pick 2 rfl ?_ | refine Ent.pick 3 rfl ?_ | refine Ent.pick 4 rfl ?_ | refine Ent.pick 5 rfl ?_ | refine Ent.pick 6 rfl ?_ | refine Ent.pick 7 rfl ?_ | refine Ent.pick 8 rfl ?_ | refine Ent.pick 9 rfl ?_ | refine Ent.pick 10 rfl ?_ | refine Ent.pick 11 rfl ?_ | refine Ent.pick 12 rfl ?_ | refine Ent.pick 13 rfl ?_ | refine Ent.pick 14 rfl ?_))) ?_
    rintro x ⟨hmx, hx60⟩
    by_cases hlt : x < 60
    · repeat' first
        | ((with_reducible refine Nx.is_wp ?_); first | refine Nx.wo ?_ | refine Nx.p_dec rfl rfl (fun hc => ?_) (fun hc => ?_) | refine Nx.p_bool rfl rfl (fun hc => ?_) (fun hc => ?_))
        | ((first | refine Nx.at_op rfl rfl ?_ | refine Nx.m_loud rfl rfl rfl ?_ | refine Nx.at_do rfl rfl rfl rfl ?_ | refine Nx.m_loud_do rfl rfl rfl rfl rfl ?_); first | refine Nx.opr rfl rfl ?_ | refine Nx.so ?_ | refine Nx.sb (fun bx => ?_) | refine Nx.sa (fun A2 c2 => ?_))
        | ((with_reducible refine Nx.is_at ?_); first | refine Nx.a ?_ | ((fail_if_success refine Nx.at_do rfl rfl rfl rfl ?_); first | refine Nx.at_dec_t rfl rfl rfl rfl (by first | assumption | omega) ?_ | refine Nx.at_dec_f rfl rfl rfl rfl (by first | assumption | omega) ?_ | refine Nx.at_split rfl rfl rfl rfl (fun hc => ?_) (fun hc => ?_) | refine Nx.at_splitb rfl rfl rfl rfl (fun hc => ?_) (fun hc => ?_)))
        | ((with_reducible refine Nx.is_mix ?_); first | refine Nx.m ?_ | ((fail_if_success refine Nx.m_quiet_do rfl rfl rfl rfl rfl rfl rfl ?_ ?_); (fail_if_success refine Nx.m_loud_do rfl rfl rfl rfl rfl ?_); first | refine Nx.m_dec_t rfl rfl rfl rfl (by first | assumption | omega) ?_ | refine Nx.m_dec_f rfl rfl rfl rfl (by first | assumption | omega) ?_ | refine Nx.m_split rfl rfl rfl rfl (fun hc => ?_) (fun hc => ?_) | refine Nx.m_splitb rfl rfl rfl rfl (fun hc => ?_) (fun hc => ?_)))
        | ((fail_if_success (with_reducible refine Nx.is_at ?_)); (fail_if_success (with_reducible refine Nx.is_wp ?_)); (fail_if_success (with_reducible refine Nx.is_mix ?_)); first | refine Nx.ex ?_)
      refine Nx.at_op rfl rfl ?_
      refine Nx.call rfl rfl rfl (by kernel_rfl) rfl (On_spec2 Ar cr r x I1 hr hM.ok hE) (by (first | done | (repeat first | exact Ent.refl _ | exact Ent.nil _ | refine Ent.pick 0 rfl ?_ | refine Ent.pick 1 rfl ?_ | refine Ent.pick 2 rfl ?_ | refine Ent.pick 3 rfl ?_ | refine Ent.pick 4 rfl ?_ | refine Ent.pick 5 rfl ?_ | refine Ent.pick 6 rfl ?_ | refine Ent.pick 7 rfl ?_ | refine Ent.pick 8 rfl ?_ | refine Ent.pick 9 rfl ?_ | refine Ent.pick 10 rfl ?_ | refine Ent.pick 11 rfl ?_ | refine Ent.pick 12 rfl ?_ | refine Ent.pick 13 rfl ?_ | refine Ent.pick 14 rfl ?_))) ?_
      rintro _ R' ⟨A3, c3, rfl, rfl⟩
      refine Nx.freezeAt 0 rfl fun I2 m2 hI2 hm2 h2 => ?_
      have hT : Texts I2 A3 c3 (onT r x) := Vec.sliceOf hm2 h2
      have hol := onT_len r x
      have hcN : cntK who (onT r x) (onT r x).length = cntP r who x := by unfold cntK; rw [List.take_length]; rfl
      have hF2x := hF2 x (by omega)
      generalize onT r x = os at hT hol hcN ⊢
      repeat' first
        | ((with_reducible refine Nx.is_wp ?_); first | refine Nx.wo ?_ | refine Nx.p_dec rfl rfl (fun hc => ?_) (fun hc => ?_) | refine Nx.p_bool rfl rfl (fun hc => ?_) (fun hc => ?_))
        | ((first | refine Nx.at_op rfl rfl ?_ | refine Nx.m_loud rfl rfl rfl ?_ | refine Nx.at_do rfl rfl rfl rfl ?_ | refine Nx.m_loud_do rfl rfl rfl rfl rfl ?_); first | refine Nx.opr rfl rfl ?_ | refine Nx.so ?_ | refine Nx.sb (fun bx => ?_) | refine Nx.sa (fun A2 c2 => ?_))
        | ((with_reducible refine Nx.is_at ?_); first | refine Nx.a ?_ | ((fail_if_success refine Nx.at_do rfl rfl rfl rfl ?_); first | refine Nx.at_dec_t rfl rfl rfl rfl (by first | assumption | omega) ?_ | refine Nx.at_dec_f rfl rfl rfl rfl (by first | assumption | omega) ?_ | refine Nx.at_split rfl rfl rfl rfl (fun hc => ?_) (fun hc => ?_) | refine Nx.at_splitb rfl rfl rfl rfl (fun hc => ?_) (fun hc => ?_)))
        | ((with_reducible refine Nx.is_mix ?_); first | refine Nx.m ?_ | ((fail_if_success refine Nx.m_quiet_do rfl rfl rfl rfl rfl rfl rfl ?_ ?_); (fail_if_success refine Nx.m_loud_do rfl rfl rfl rfl rfl ?_); first | refine Nx.m_dec_t rfl rfl rfl rfl (by first | assumption | omega) ?_ | refine Nx.m_dec_f rfl rfl rfl rfl (by first | assumption | omega) ?_ | refine Nx.m_split rfl rfl rfl rfl (fun hc => ?_) (fun hc => ?_) | refine Nx.m_splitb rfl rfl rfl rfl (fun hc => ?_) (fun hc => ?_)))
        | ((fail_if_success (with_reducible refine Nx.is_at ?_)); (fail_if_success (with_reducible refine Nx.is_wp ?_)); (fail_if_success (with_reducible refine Nx.is_mix ?_)); first | refine Nx.ex ?_)
      refine Nx.p_loop (σ := Nat) (fun j => [(6, .slice Ar r.length cr), (7, strV who), (8, .int .i64 tt), (9, .bool true), (11, .int .i64 (x : Int)), (12, .int .i64 (cntK who os j : Int)), (52, .slice A3 os.length c3), (53, .int .i64 os.length), (54, .int .i64 (j : Int))])
        (fun _ => [F]) (fun j => j ≤ os.length) (fun j => os.length - j) 0 rfl (Nat.zero_le _) ⟨rfl, rfl, rfl, rfl, rfl, rfl, rfl, rfl, rfl, trivial⟩ (by (first | done | (repeat first | exact Ent.refl _ | exact Ent.nil _ | refine Ent.pick 0 rfl ?_ | refine Ent.pick 1 rfl ?_ | refine Ent.pick 2 rfl ?_ | refine Ent.pick 3 rfl ?_ | refine Ent.pick 4 rfl ?_ | refine Ent.pick 5 rfl ?_ | refine Ent.pick 6 rfl ?_ | refine Ent.pick 7 rfl ?_ | refine Ent.pick 8 rfl ?_ | refine Ent.pick 9 rfl ?_ | refine Ent.pick 10 rfl ?_ | refine Ent.pick 11 rfl ?_ | refine Ent.pick 12 rfl ?_ | refine Ent.pick 13 rfl ?_ | refine Ent.pick 14 rfl ?_))) ?_
      intro j hj
      have hcl := cntK_le who os j
      by_cases hjl : j < os.length
      · have hcs := cntK_succ (who := who) hjl
        repeat' first
          | ((with_reducible refine Nx.is_wp ?_); first | refine Nx.wo ?_ | refine Nx.p_dec rfl rfl (fun hc => ?_) (fun hc => ?_) | refine Nx.p_bool rfl rfl (fun hc => ?_) (fun hc => ?_))
          | ((first | refine Nx.at_op rfl rfl ?_ | refine Nx.m_loud rfl rfl rfl ?_ | refine Nx.at_do rfl rfl rfl rfl ?_ | refine Nx.m_loud_do rfl rfl rfl rfl rfl ?_); first | refine Nx.opr rfl rfl ?_ | refine Nx.indexAddr_nat rfl rfl rfl rfl rfl (by omega) (hT.isSome (by omega)) ?_ | refine Nx.load rfl rfl rfl (hT.rd (by omega)) ?_ | refine Nx.so ?_ | refine Nx.sb (fun bx => ?_) | refine Nx.sa (fun A2 c2 => ?_))
          | ((with_reducible refine Nx.is_at ?_); first | refine Nx.a ?_ | ((fail_if_success refine Nx.at_do rfl rfl rfl rfl ?_); first | refine Nx.at_dec_t rfl rfl rfl rfl (by first | assumption | omega) ?_ | refine Nx.at_dec_f rfl rfl rfl rfl (by first | assumption | omega) ?_ | refine Nx.at_split rfl rfl rfl rfl (fun hc => ?_) (fun hc => ?_) | refine Nx.at_splitb rfl rfl rfl rfl (fun hc => ?_) (fun hc => ?_)))
          | ((with_reducible refine Nx.is_mix ?_); first | refine Nx.m ?_ | ((fail_if_success refine Nx.m_quiet_do rfl rfl rfl rfl rfl rfl rfl ?_ ?_); (fail_if_success refine Nx.m_loud_do rfl rfl rfl rfl rfl ?_); first | refine Nx.m_dec_t rfl rfl rfl rfl (by first | assumption | omega) ?_ | refine Nx.m_dec_f rfl rfl rfl rfl (by first | assumption | omega) ?_ | refine Nx.m_split rfl rfl rfl rfl (fun hc => ?_) (fun hc => ?_) | refine Nx.m_splitb rfl rfl rfl rfl (fun hc => ?_) (fun hc => ?_)))
          | ((fail_if_success (with_reducible refine Nx.is_at ?_)); (fail_if_success (with_reducible refine Nx.is_wp ?_)); (fail_if_success (with_reducible refine Nx.is_mix ?_)); first | refine Nx.ex ?_)
        · rw [ByteArray.toList_mk, ByteArray.toList_mk] at hc
          have hc : (os.getD j default == who) = false := by rw [Bool.not_eq_true'] at hc; exact hc
          rw [if_neg (by rw [hc]; decide)] at hcs
          exact Nx.again (j + 1) hjl (by omega) ⟨rfl, rfl, rfl, rfl, rfl, by rw [hcs]; rfl, rfl, rfl, rfl, trivial⟩ (by (first | done | (repeat first | exact Ent.refl _ | exact Ent.nil _ | refine Ent.pick 0 rfl ?_ | refine Ent.pick 1 rfl ?_ | refine Ent.pick 2 rfl ?_ | refine Ent.pick 3 rfl ?_ | refine Ent.pick 4 rfl ?_ | refine Ent.pick 5 rfl ?_ | refine Ent.pick 6 rfl ?_ | refine Ent.pick 7 rfl ?_ | refine Ent.pick 8 rfl ?_ | refine Ent.pick 9 rfl ?_ | refine Ent.pick 10 rfl ?_ | refine Ent.pick 11 rfl ?_ | refine Ent.pick 12 rfl ?_ | refine Ent.pick 13 rfl ?_ | refine Ent.pick 14 rfl ?_)))
        · rw [ByteArray.toList_mk, ByteArray.toList_mk] at hc
          have hc : (os.getD j default == who) = true := by rw [Bool.not_eq_false'] at hc; exact hc
          rw [if_pos hc] at hcs
          exact Nx.again (j + 1) hjl (by omega) ⟨rfl, rfl, rfl, rfl, rfl, by rw [hcs]; rfl, rfl, rfl, rfl, trivial⟩ (by (first | done | (repeat first | exact Ent.refl _ | exact Ent.nil _ | refine Ent.pick 0 rfl ?_ | refine Ent.pick 1 rfl ?_ | refine Ent.pick 2 rfl ?_ | refine Ent.pick 3 rfl ?_ | refine Ent.pick 4 rfl ?_ | refine Ent.pick 5 rfl ?_ | refine Ent.pick 6 rfl ?_ | refine Ent.pick 7 rfl ?_ | refine Ent.pick 8 rfl ?_ | refine Ent.pick 9 rfl ?_ | refine Ent.pick 10 rfl ?_ | refine Ent.pick 11 rfl ?_ | refine Ent.pick 12 rfl ?_ | refine Ent.pick 13 rfl ?_ | refine Ent.pick 14 rfl ?_)))
      · obtain rfl : j = os.length := by omega
        rw [hcN] at hcl ⊢
        have hfA : (2 ≤ cntP r who x → tt ≤ x) ∧ ((x : Int) = tt → 2 ≤ cntP r who x) := ⟨fun h => (hF2x h).2, hF5 x⟩
        repeat' first
          | ((with_reducible refine Nx.is_wp ?_); first | refine Nx.wo ?_ | refine Nx.p_dec rfl rfl (fun hc => ?_) (fun hc => ?_) | refine Nx.p_bool rfl rfl (fun hc => ?_) (fun hc => ?_))
          | ((first | refine Nx.at_op rfl rfl ?_ | refine Nx.m_loud rfl rfl rfl ?_ | refine Nx.at_do rfl rfl rfl rfl ?_ | refine Nx.m_loud_do rfl rfl rfl rfl rfl ?_); first | refine Nx.opr rfl rfl ?_ | refine Nx.so ?_ | refine Nx.sb (fun bx => ?_) | refine Nx.sa (fun A2 c2 => ?_))
          | ((with_reducible refine Nx.is_at ?_); first | refine Nx.a ?_ | ((fail_if_success refine Nx.at_do rfl rfl rfl rfl ?_); first | refine Nx.at_dec_t rfl rfl rfl rfl (by first | assumption | omega) ?_ | refine Nx.at_dec_f rfl rfl rfl rfl (by first | assumption | omega) ?_ | refine Nx.at_split rfl rfl rfl rfl (fun hc => ?_) (fun hc => ?_) | refine Nx.at_splitb rfl rfl rfl rfl (fun hc => ?_) (fun hc => ?_)))
          | ((with_reducible refine Nx.is_mix ?_); first | refine Nx.m ?_ | ((fail_if_success refine Nx.m_quiet_do rfl rfl rfl rfl rfl rfl rfl ?_ ?_); (fail_if_success refine Nx.m_loud_do rfl rfl rfl rfl rfl ?_); first | refine Nx.m_dec_t rfl rfl rfl rfl (by first | assumption | omega) ?_ | refine Nx.m_dec_f rfl rfl rfl rfl (by first | assumption | omega) ?_ | refine Nx.m_split rfl rfl rfl rfl (fun hc => ?_) (fun hc => ?_) | refine Nx.m_splitb rfl rfl rfl rfl (fun hc => ?_) (fun hc => ?_)))
          | ((fail_if_success (with_reducible refine Nx.is_at ?_)); (fail_if_success (with_reducible refine Nx.is_wp ?_)); (fail_if_success (with_reducible refine Nx.is_mix ?_)); first | refine Nx.ex ?_)
        all_goals first
          | exact Nx.imm_le hI2 (Nx.again (x + 1) ⟨by omega, by omega⟩ (by omega) ⟨rfl, rfl, rfl, rfl, rfl, trivial⟩ (by (first | done | (repeat first | exact Ent.refl _ | exact Ent.nil _ | refine Ent.pick 0 rfl ?_ | refine Ent.pick 1 rfl ?_ | refine Ent.pick 2 rfl ?_ | refine Ent.pick 3 rfl ?_ | refine Ent.pick 4 rfl ?_ | refine Ent.pick 5 rfl ?_ | refine Ent.pick 6 rfl ?_ | refine Ent.pick 7 rfl ?_ | refine Ent.pick 8 rfl ?_ | refine Ent.pick 9 rfl ?_ | refine Ent.pick 10 rfl ?_ | refine Ent.pick 11 rfl ?_ | refine Ent.pick 12 rfl ?_ | refine Ent.pick 13 rfl ?_ | refine Ent.pick 14 rfl ?_))))
          | (exfalso; omega)
    · obtain rfl : x = 60 := by omega
      repeat' first
        | ((with_reducible refine Nx.is_wp ?_); first | refine Nx.wo ?_ | refine Nx.p_dec rfl rfl (fun hc => ?_) (fun hc => ?_) | refine Nx.p_bool rfl rfl (fun hc => ?_) (fun hc => ?_))
        | ((first | refine Nx.at_op rfl rfl ?_ | refine Nx.m_loud rfl rfl rfl ?_ | refine Nx.at_do rfl rfl rfl rfl ?_ | refine Nx.m_loud_do rfl rfl rfl rfl rfl ?_); first | refine Nx.opr rfl rfl ?_ | refine Nx.callv rfl rfl rfl (by kernel_rfl) rfl (awake_spec I1) ?_ | refine Nx.so ?_ | refine Nx.sb (fun bx => ?_) | refine Nx.sa (fun A2 c2 => ?_))
        | ((with_reducible refine Nx.is_at ?_); first | refine Nx.a ?_ | ((fail_if_success refine Nx.at_do rfl rfl rfl rfl ?_); first | refine Nx.at_dec_t rfl rfl rfl rfl (by first | assumption | omega) ?_ | refine Nx.at_dec_f rfl rfl rfl rfl (by first | assumption | omega) ?_ | refine Nx.at_split rfl rfl rfl rfl (fun hc => ?_) (fun hc => ?_) | refine Nx.at_splitb rfl rfl rfl rfl (fun hc => ?_) (fun hc => ?_)))
        | ((with_reducible refine Nx.is_mix ?_); first | refine Nx.m ?_ | ((fail_if_success refine Nx.m_quiet_do rfl rfl rfl rfl rfl rfl rfl ?_ ?_); (fail_if_success refine Nx.m_loud_do rfl rfl rfl rfl rfl ?_); first | refine Nx.m_dec_t rfl rfl rfl rfl (by first | assumption | omega) ?_ | refine Nx.m_dec_f rfl rfl rfl rfl (by first | assumption | omega) ?_ | refine Nx.m_split rfl rfl rfl rfl (fun hc => ?_) (fun hc => ?_) | refine Nx.m_splitb rfl rfl rfl rfl (fun hc => ?_) (fun hc => ?_)))
        | ((fail_if_success (with_reducible refine Nx.is_at ?_)); (fail_if_success (with_reducible refine Nx.is_wp ?_)); (fail_if_success (with_reducible refine Nx.is_mix ?_)); first | refine Nx.ex ?_)
      exact Nx.imm_le hI1 (Nx.ret_fn rfl [] ⟨rfl, rfl⟩ (by (first | done | (repeat first | exact Ent.refl _ | exact Ent.nil _ | refine Ent.pick 0 rfl ?_ | refine Ent.pick 1 rfl ?_ | refine Ent.pick 2 rfl ?_ | refine Ent.pick 3 rfl ?_ | refine Ent.pick 4 rfl ?_ | refine Ent.pick 5 rfl ?_ | refine Ent.pick 6 rfl ?_ | refine Ent.pick 7 rfl ?_ | refine Ent.pick 8 rfl ?_ | refine Ent.pick 9 rfl ?_ | refine Ent.pick 10 rfl ?_ | refine Ent.pick 11 rfl ?_ | refine Ent.pick 12 rfl ?_ | refine Ent.pick 13 rfl ?_ | refine Ent.pick 14 rfl ?_))))
  | false =>
    repeat' first
      | ((with_reducible refine Nx.is_wp ?_); first | refine Nx.wo ?_ | refine Nx.p_dec rfl rfl (fun hc => ?_) (fun hc => ?_) | refine Nx.p_bool rfl rfl (fun hc => ?_) (fun hc => ?_))
      | ((first | refine Nx.at_op rfl rfl ?_ | refine Nx.m_loud rfl rfl rfl ?_ | refine Nx.at_do rfl rfl rfl rfl ?_ | refine Nx.m_loud_do rfl rfl rfl rfl rfl ?_); first | refine Nx.opr rfl rfl ?_ | refine Nx.rem rfl rfl (by omega) (by omega) rfl ?_ | refine Nx.callv rfl rfl rfl (by kernel_rfl) rfl hNx ?_ | refine Nx.so ?_ | refine Nx.sb (fun bx => ?_) | refine Nx.sa (fun A2 c2 => ?_))
      | ((with_reducible refine Nx.is_at ?_); first | refine Nx.a ?_ | ((fail_if_success refine Nx.at_do rfl rfl rfl rfl ?_); first | refine Nx.at_dec_t rfl rfl rfl rfl (by first | assumption | omega) ?_ | refine Nx.at_dec_f rfl rfl rfl rfl (by first | assumption | omega) ?_ | refine Nx.at_split rfl rfl rfl rfl (fun hc => ?_) (fun hc => ?_) | refine Nx.at_splitb rfl rfl rfl rfl (fun hc => ?_) (fun hc => ?_)))
      | ((with_reducible refine Nx.is_mix ?_); first | refine Nx.m ?_ | ((fail_if_success refine Nx.m_quiet_do rfl rfl rfl rfl rfl rfl rfl ?_ ?_); (fail_if_success refine Nx.m_loud_do rfl rfl rfl rfl rfl ?_); first | refine Nx.m_dec_t rfl rfl rfl rfl (by first | assumption | omega) ?_ | refine Nx.m_dec_f rfl rfl rfl rfl (by first | assumption | omega) ?_ | refine Nx.m_split rfl rfl rfl rfl (fun hc => ?_) (fun hc => ?_) | refine Nx.m_splitb rfl rfl rfl rfl (fun hc => ?_) (fun hc => ?_)))
      | ((fail_if_success (with_reducible refine Nx.is_at ?_)); (fail_if_success (with_reducible refine Nx.is_wp ?_)); (fail_if_success (with_reducible refine Nx.is_mix ?_)); first | refine Nx.ex ?_)
    rw [hm]
    refine Nx.p_loop (σ := Nat) (fun x => [(6, .slice Ar r.length cr), (7, strV who), (8, .int .i64 tt), (9, .bool false), (11, .int .i64 (x : Int))])
      (fun _ => [F]) (fun x => m ≤ x ∧ x ≤ 60) (fun x => 60 - x) m rfl ⟨Nat.le_refl _, by omega⟩ ⟨rfl, rfl, rfl, rfl, rfl, trivial⟩ (by (first | done | (repeat first | exact Ent.refl _ | exact Ent.nil _ | refine Ent.pick 0 rfl ?_ | refine Ent.pick 1 rfl ?_ | refine Ent.pick 2 rfl ?_ | refine Ent.pick 3 rfl ?_ | refine Ent.pick 4 rfl ?_ | refine Ent.pick 5 rfl ?_ | refine Ent.pick 6 rfl ?_ | refine Ent.pick 7 rfl ?_ | refine Ent.pick 8 rfl ?_ | refine Ent.pick 9 rfl ?_ | refine Ent.pick 10 rfl ?_ | refine Ent.pick 11 rfl ?_ | refine Ent.pick 12 rfl ?_ | refine Ent.pick 13 rfl ?_ | refine Ent.pick 14 rfl ?_))) ?_
    rintro x ⟨hmx, hx60⟩
    by_cases hlt : x < 60
    · repeat' first
        | ((with_reducible refine Nx.is_wp ?_); first | refine Nx.wo ?_ | refine Nx.p_dec rfl rfl (fun hc => ?_) (fun hc => ?_) | refine Nx.p_bool rfl rfl (fun hc => ?_) (fun hc => ?_))
        | ((first | refine Nx.at_op rfl rfl ?_ | refine Nx.m_loud rfl rfl rfl ?_ | refine Nx.at_do rfl rfl rfl rfl ?_ | refine Nx.m_loud_do rfl rfl rfl rfl rfl ?_); first | refine Nx.opr rfl rfl ?_ | refine Nx.so ?_ | refine Nx.sb (fun bx => ?_) | refine Nx.sa (fun A2 c2 => ?_))
        | ((with_reducible refine Nx.is_at ?_); first | refine Nx.a ?_ | ((fail_if_success refine Nx.at_do rfl rfl rfl rfl ?_); first | refine Nx.at_dec_t rfl rfl rfl rfl (by first | assumption | omega) ?_ | refine Nx.at_dec_f rfl rfl rfl rfl (by first | assumption | omega) ?_ | refine Nx.at_split rfl rfl rfl rfl (fun hc => ?_) (fun hc => ?_) | refine Nx.at_splitb rfl rfl rfl rfl (fun hc => ?_) (fun hc => ?_)))
        | ((with_reducible refine Nx.is_mix ?_); first | refine Nx.m ?_ | ((fail_if_success refine Nx.m_quiet_do rfl rfl rfl rfl rfl rfl rfl ?_ ?_); (fail_if_success refine Nx.m_loud_do rfl rfl rfl rfl rfl ?_); first | refine Nx.m_dec_t rfl rfl rfl rfl (by first | assumption | omega) ?_ | refine Nx.m_dec_f rfl rfl rfl rfl (by first | assumption | omega) ?_ | refine Nx.m_split rfl rfl rfl rfl (fun hc => ?_) (fun hc => ?_) | refine Nx.m_splitb rfl rfl rfl rfl (fun hc => ?_) (fun hc => ?_)))
        | ((fail_if_success (with_reducible refine Nx.is_at ?_)); (fail_if_success (with_reducible refine Nx.is_wp ?_)); (fail_if_success (with_reducible refine Nx.is_mix ?_)); first | refine Nx.ex ?_)
      refine Nx.at_op rfl rfl ?_
      refine Nx.call rfl rfl rfl (by kernel_rfl) rfl (On_spec2 Ar cr r x I1 hr hM.ok hE) (by (first | done | (repeat first | exact Ent.refl _ | exact Ent.nil _ | refine Ent.pick 0 rfl ?_ | refine Ent.pick 1 rfl ?_ | refine Ent.pick 2 rfl ?_ | refine Ent.pick 3 rfl ?_ | refine Ent.pick 4 rfl ?_ | refine Ent.pick 5 rfl ?_ | refine Ent.pick 6 rfl ?_ | refine Ent.pick 7 rfl ?_ | refine Ent.pick 8 rfl ?_ | refine Ent.pick 9 rfl ?_ | refine Ent.pick 10 rfl ?_ | refine Ent.pick 11 rfl ?_ | refine Ent.pick 12 rfl ?_ | refine Ent.pick 13 rfl ?_ | refine Ent.pick 14 rfl ?_))) ?_
      rintro _ R' ⟨A3, c3, rfl, rfl⟩
      refine Nx.freezeAt 0 rfl fun I2 m2 hI2 hm2 h2 => ?_
      have hT : Texts I2 A3 c3 (onT r x) := Vec.sliceOf hm2 h2
      have hol := onT_len r x
      have hcN : cntK who (onT r x) (onT r x).length = cntP r who x := by unfold cntK; rw [List.take_length]; rfl
      have hF2x := hF2 x (by omega)
      generalize onT r x = os at hT hol hcN ⊢
      repeat' first
        | ((with_reducible refine Nx.is_wp ?_); first | refine Nx.wo ?_ | refine Nx.p_dec rfl rfl (fun hc => ?_) (fun hc => ?_) | refine Nx.p_bool rfl rfl (fun hc => ?_) (fun hc => ?_))
        | ((first | refine Nx.at_op rfl rfl ?_ | refine Nx.m_loud rfl rfl rfl ?_ | refine Nx.at_do rfl rfl rfl rfl ?_ | refine Nx.m_loud_do rfl rfl rfl rfl rfl ?_); first | refine Nx.opr rfl rfl ?_ | refine Nx.so ?_ | refine Nx.sb (fun bx => ?_) | refine Nx.sa (fun A2 c2 => ?_))
        | ((with_reducible refine Nx.is_at ?_); first | refine Nx.a ?_ | ((fail_if_success refine Nx.at_do rfl rfl rfl rfl ?_); first | refine Nx.at_dec_t rfl rfl rfl rfl (by first | assumption | omega) ?_ | refine Nx.at_dec_f rfl rfl rfl rfl (by first | assumption | omega) ?_ | refine Nx.at_split rfl rfl rfl rfl (fun hc => ?_) (fun hc => ?_) | refine Nx.at_splitb rfl rfl rfl rfl (fun hc => ?_) (fun hc => ?_)))
        | ((with_reducible refine Nx.is_mix ?_); first | refine Nx.m ?_ | ((fail_if_success refine Nx.m_quiet_do rfl rfl rfl rfl rfl rfl rfl ?_ ?_); (fail_if_success refine Nx.m_loud_do rfl rfl rfl rfl rfl ?_); first | refine Nx.m_dec_t rfl rfl rfl rfl (by first | assumption | omega) ?_ | refine Nx.m_dec_f rfl rfl rfl rfl (by first | assumption | omega) ?_ | refine Nx.m_split rfl rfl rfl rfl (fun hc => ?_) (fun hc => ?_) | refine Nx.m_splitb rfl rfl rfl rfl (fun hc => ?_) (fun hc => ?_)))
        | ((fail_if_success (with_reducible refine Nx.is_at ?_)); (fail_if_success (with_reducible refine Nx.is_wp ?_)); (fail_if_success (with_reducible refine Nx.is_mix ?_)); first | refine Nx.ex ?_)
      refine Nx.p_loop (σ := Nat) (fun j => [(6, .slice Ar r.length cr), (7, strV who), (8, .int .i64 tt), (9, .bool false), (11, .int .i64 (x : Int)), (12, .int .i64 (cntK who os j : Int)), (52, .slice A3 os.length c3), (53, .int .i64 os.length), (54, .int .i64 (j : Int))])
        (fun _ => [F]) (fun j => j ≤ os.length) (fun j => os.length - j) 0 rfl (Nat.zero_le _) ⟨rfl, rfl, rfl, rfl, rfl, rfl, rfl, rfl, rfl, trivial⟩ (by (first | done | (repeat first | exact Ent.refl _ | exact Ent.nil _ | refine Ent.pick 0 rfl ?_ | refine Ent.pick 1 rfl ?_ | refine Ent.pick 2 rfl ?_ | refine Ent.pick 3 rfl ?_ | refine Ent.pick 4 rfl ?_ | refine Ent.pick 5 rfl ?_ | refine Ent.pick 6 rfl ?_ | refine Ent.pick 7 rfl ?_ | refine Ent.pick 8 rfl ?_ | refine Ent.pick 9 rfl ?_ | refine Ent.pick 10 rfl ?_ | refine Ent.pick 11 rfl ?_ | refine Ent.pick 12 rfl ?_ | refine Ent.pick 13 rfl ?_ | refine Ent.pick 14 rfl ?_))) ?_
      intro j hj
      have hcl := cntK_le who os j
      by_cases hjl : j < os.length
      · have hcs := cntK_succ (who := who) hjl
        repeat' first
          | ((with_reducible refine Nx.is_wp ?_); first | refine Nx.wo ?_ | refine Nx.p_dec rfl rfl (fun hc => ?_) (fun hc => ?_) | refine Nx.p_bool rfl rfl (fun hc => ?_) (fun hc => ?_))
          | ((first | refine Nx.at_op rfl rfl ?_ | refine Nx.m_loud rfl rfl rfl ?_ | refine Nx.at_do rfl rfl rfl rfl ?_ | refine Nx.m_loud_do rfl rfl rfl rfl rfl ?_); first | refine Nx.opr rfl rfl ?_ | refine Nx.indexAddr_nat rfl rfl rfl rfl rfl (by omega) (hT.isSome (by omega)) ?_ | refine Nx.load rfl rfl rfl (hT.rd (by omega)) ?_ | refine Nx.so ?_ | refine Nx.sb (fun bx => ?_) | refine Nx.sa (fun A2 c2 => ?_))
          | ((with_reducible refine Nx.is_at ?_); first | refine Nx.a ?_ | ((fail_if_success refine Nx.at_do rfl rfl rfl rfl ?_); first | refine Nx.at_dec_t rfl rfl rfl rfl (by first | assumption | omega) ?_ | refine Nx.at_dec_f rfl rfl rfl rfl (by first | assumption | omega) ?_ | refine Nx.at_split rfl rfl rfl rfl (fun hc => ?_) (fun hc => ?_) | refine Nx.at_splitb rfl rfl rfl rfl (fun hc => ?_) (fun hc => ?_)))
          | ((with_reducible refine Nx.is_mix ?_); first | refine Nx.m ?_ | ((fail_if_success refine Nx.m_quiet_do rfl rfl rfl rfl rfl rfl rfl ?_ ?_); (fail_if_success refine Nx.m_loud_do rfl rfl rfl rfl rfl ?_); first | refine Nx.m_dec_t rfl rfl rfl rfl (by first | assumption | omega) ?_ | refine Nx.m_dec_f rfl rfl rfl rfl (by first | assumption | omega) ?_ | refine Nx.m_split rfl rfl rfl rfl (fun hc => ?_) (fun hc => ?_) | refine Nx.m_splitb rfl rfl rfl rfl (fun hc => ?_) (fun hc => ?_)))
          | ((fail_if_success (with_reducible refine Nx.is_at ?_)); (fail_if_success (with_reducible refine Nx.is_wp ?_)); (fail_if_success (with_reducible refine Nx.is_mix ?_)); first | refine Nx.ex ?_)
        · rw [ByteArray.toList_mk, ByteArray.toList_mk] at hc
          have hc : (os.getD j default == who) = false := by rw [Bool.not_eq_true'] at hc; exact hc
          rw [if_neg (by rw [hc]; decide)] at hcs
          exact Nx.again (j + 1) hjl (by omega) ⟨rfl, rfl, rfl, rfl, rfl, by rw [hcs]; rfl, rfl, rfl, rfl, trivial⟩ (by (first | done | (repeat first | exact Ent.refl _ | exact Ent.nil _ | refine Ent.pick 0 rfl ?_ | refine Ent.pick 1 rfl ?_ | refine Ent.pick 2 rfl ?_ | refine Ent.pick 3 rfl ?_ | refine Ent.pick 4 rfl ?_ | refine Ent.pick 5 rfl ?_ | refine Ent.pick 6 rfl ?_ | refine Ent.pick 7 rfl ?_ | refine Ent.pick 8 rfl ?_ | refine Ent.pick 9 rfl ?_ | refine Ent.pick 10 rfl ?_ | refine Ent.pick 11 rfl ?_ | refine Ent.pick 12 rfl ?_ | refine Ent.pick 13 rfl ?_ | refine Ent.pick 14 rfl ?_)))
        · rw [ByteArray.toList_mk, ByteArray.toList_mk] at hc
          have hc : (os.getD j default == who) = true := by rw [Bool.not_eq_false'] at hc; exact hc
          rw [if_pos hc] at hcs
          exact Nx.again (j + 1) hjl (by omega) ⟨rfl, rfl, rfl, rfl, rfl, by rw [hcs]; rfl, rfl, rfl, rfl, trivial⟩ (by (first | done | (repeat first | exact Ent.refl _ | exact Ent.nil _ | refine Ent.pick 0 rfl ?_ | refine Ent.pick 1 rfl ?_ | refine Ent.pick 2 rfl ?_ | refine Ent.pick 3 rfl ?_ | refine Ent.pick 4 rfl ?_ | refine Ent.pick 5 rfl ?_ | refine Ent.pick 6 rfl ?_ | refine Ent.pick 7 rfl ?_ | refine Ent.pick 8 rfl ?_ | refine Ent.pick 9 rfl ?_ | refine Ent.pick 10 rfl ?_ | refine Ent.pick 11 rfl ?_ | refine Ent.pick 12 rfl ?_ | refine Ent.pick 13 rfl ?_ | refine Ent.pick 14 rfl ?_)))
      · obtain rfl : j = os.length := by omega
        rw [hcN] at hcl ⊢
        have hfA : ¬(2 ≤ cntP r who x) := fun h => by have := (hF2x h).1; cases this
        repeat' first
          | ((with_reducible refine Nx.is_wp ?_); first | refine Nx.wo ?_ | refine Nx.p_dec rfl rfl (fun hc => ?_) (fun hc => ?_) | refine Nx.p_bool rfl rfl (fun hc => ?_) (fun hc => ?_))
          | ((first | refine Nx.at_op rfl rfl ?_ | refine Nx.m_loud rfl rfl rfl ?_ | refine Nx.at_do rfl rfl rfl rfl ?_ | refine Nx.m_loud_do rfl rfl rfl rfl rfl ?_); first | refine Nx.opr rfl rfl ?_ | refine Nx.so ?_ | refine Nx.sb (fun bx => ?_) | refine Nx.sa (fun A2 c2 => ?_))
          | ((with_reducible refine Nx.is_at ?_); first | refine Nx.a ?_ | ((fail_if_success refine Nx.at_do rfl rfl rfl rfl ?_); first | refine Nx.at_dec_t rfl rfl rfl rfl (by first | assumption | omega) ?_ | refine Nx.at_dec_f rfl rfl rfl rfl (by first | assumption | omega) ?_ | refine Nx.at_split rfl rfl rfl rfl (fun hc => ?_) (fun hc => ?_) | refine Nx.at_splitb rfl rfl rfl rfl (fun hc => ?_) (fun hc => ?_)))
          | ((with_reducible refine Nx.is_mix ?_); first | refine Nx.m ?_ | ((fail_if_success refine Nx.m_quiet_do rfl rfl rfl rfl rfl rfl rfl ?_ ?_); (fail_if_success refine Nx.m_loud_do rfl rfl rfl rfl rfl ?_); first | refine Nx.m_dec_t rfl rfl rfl rfl (by first | assumption | omega) ?_ | refine Nx.m_dec_f rfl rfl rfl rfl (by first | assumption | omega) ?_ | refine Nx.m_split rfl rfl rfl rfl (fun hc => ?_) (fun hc => ?_) | refine Nx.m_splitb rfl rfl rfl rfl (fun hc => ?_) (fun hc => ?_)))
          | ((fail_if_success (with_reducible refine Nx.is_at ?_)); (fail_if_success (with_reducible refine Nx.is_wp ?_)); (fail_if_success (with_reducible refine Nx.is_mix ?_)); first | refine Nx.ex ?_)
        all_goals first
          | exact Nx.imm_le hI2 (Nx.again (x + 1) ⟨by omega, by omega⟩ (by omega) ⟨rfl, rfl, rfl, rfl, rfl, trivial⟩ (by (first | done | (repeat first | exact Ent.refl _ | exact Ent.nil _ | refine Ent.pick 0 rfl ?_ | refine Ent.pick 1 rfl ?_ | refine Ent.pick 2 rfl ?_ | refine Ent.pick 3 rfl ?_ | refine Ent.pick 4 rfl ?_ | refine Ent.pick 5 rfl ?_ | refine Ent.pick 6 rfl ?_ | refine Ent.pick 7 rfl ?_ | refine Ent.pick 8 rfl ?_ | refine Ent.pick 9 rfl ?_ | refine Ent.pick 10 rfl ?_ | refine Ent.pick 11 rfl ?_ | refine Ent.pick 12 rfl ?_ | refine Ent.pick 13 rfl ?_ | refine Ent.pick 14 rfl ?_))))
          | (exfalso; omega)
    · obtain rfl : x = 60 := by omega
      repeat' first
        | ((with_reducible refine Nx.is_wp ?_); first | refine Nx.wo ?_ | refine Nx.p_dec rfl rfl (fun hc => ?_) (fun hc => ?_) | refine Nx.p_bool rfl rfl (fun hc => ?_) (fun hc => ?_))
        | ((first | refine Nx.at_op rfl rfl ?_ | refine Nx.m_loud rfl rfl rfl ?_ | refine Nx.at_do rfl rfl rfl rfl ?_ | refine Nx.m_loud_do rfl rfl rfl rfl rfl ?_); first | refine Nx.opr rfl rfl ?_ | refine Nx.callv rfl rfl rfl (by kernel_rfl) rfl (awake_spec I1) ?_ | refine Nx.so ?_ | refine Nx.sb (fun bx => ?_) | refine Nx.sa (fun A2 c2 => ?_))
        | ((with_reducible refine Nx.is_at ?_); first | refine Nx.a ?_ | ((fail_if_success refine Nx.at_do rfl rfl rfl rfl ?_); first | refine Nx.at_dec_t rfl rfl rfl rfl (by first | assumption | omega) ?_ | refine Nx.at_dec_f rfl rfl rfl rfl (by first | assumption | omega) ?_ | refine Nx.at_split rfl rfl rfl rfl (fun hc => ?_) (fun hc => ?_) | refine Nx.at_splitb rfl rfl rfl rfl (fun hc => ?_) (fun hc => ?_)))
        | ((with_reducible refine Nx.is_mix ?_); first | refine Nx.m ?_ | ((fail_if_success refine Nx.m_quiet_do rfl rfl rfl rfl rfl rfl rfl ?_ ?_); (fail_if_success refine Nx.m_loud_do rfl rfl rfl rfl rfl ?_); first | refine Nx.m_dec_t rfl rfl rfl rfl (by first | assumption | omega) ?_ | refine Nx.m_dec_f rfl rfl rfl rfl (by first | assumption | omega) ?_ | refine Nx.m_split rfl rfl rfl rfl (fun hc => ?_) (fun hc => ?_) | refine Nx.m_splitb rfl rfl rfl rfl (fun hc => ?_) (fun hc => ?_)))
        | ((fail_if_success (with_reducible refine Nx.is_at ?_)); (fail_if_success (with_reducible refine Nx.is_wp ?_)); (fail_if_success (with_reducible refine Nx.is_mix ?_)); first | refine Nx.ex ?_)
      exact Nx.imm_le hI1 (Nx.ret_fn rfl [] ⟨rfl, rfl⟩ (by (first | done | (repeat first | exact Ent.refl _ | exact Ent.nil _ | refine Ent.pick 0 rfl ?_ | refine Ent.pick 1 rfl ?_ | refine Ent.pick 2 rfl ?_ | refine Ent.pick 3 rfl ?_ | refine Ent.pick 4 rfl ?_ | refine Ent.pick 5 rfl ?_ | refine Ent.pick 6 rfl ?_ | refine Ent.pick 7 rfl ?_ | refine Ent.pick 8 rfl ?_ | refine Ent.pick 9 rfl ?_ | refine Ent.pick 10 rfl ?_ | refine Ent.pick 11 rfl ?_ | refine Ent.pick 12 rfl ?_ | refine Ent.pick 13 rfl ?_ | refine Ent.pick 14 rfl ?_))))
end
end Go.Proofs.Ytaoeapmdhpkidaa
