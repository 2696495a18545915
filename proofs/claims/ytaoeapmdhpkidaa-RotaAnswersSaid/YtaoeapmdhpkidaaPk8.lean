/- Contracts of functions of the given program, and lemmas about plain lists and numbers: what the laws of this seat lean on. -/
import Derived.Test.YtaoeapmdhpkidaaPk7
namespace Go.Proofs.Ytaoeapmdhpkidaa
open Go.Eng
/-! RotaNext: plain law -/
theorem find_sorted {p : Int → Bool} : ∀ {S : List Int} {t : Int}, S.Pairwise (· ≤ ·) → t ∈ S → p t = true → ∃ u, S.find? p = some u ∧ u ≤ t
  | [], t, _, h, _ => by cases h
  | a :: S, t, hs, h, hp => by
    rw [List.pairwise_cons] at hs
    cases hpa : p a with
    | true =>
      refine ⟨a, by simp [hpa], ?_⟩
      rcases List.mem_cons.1 h with rfl | h
      · omega
      · exact hs.1 t h
    | false =>
      rcases List.mem_cons.1 h with rfl | h
      · rw [hpa] at hp; cases hp
      · obtain ⟨u, h1, h2⟩ := find_sorted hs.2 h hp
        exact ⟨u, by simp [hpa, h1], h2⟩
theorem cntP_filter (l : List Shift) (who : List UInt8) (t : Int) : cntP l who t = (l.filter fun x => onB t x && !(x.1 == who)).length := by
  rw [cntP_eq]
  unfold onP
  rw [List.filter_map, List.length_map, List.filter_filter]
  congr 1
  refine List.filter_congr fun x _ => ?_
  simp [Function.comp, Bool.and_comm]
theorem next_sound {l : List Shift} {who : List UInt8} {t0 t : Int} (h : nextP l who t0 = some t) : t0 ≤ t ∧ 2 ≤ cntP l who t := by
  unfold nextP at h
  have := List.find?_some h
  simpa using this
theorem next_first {l : List Shift} {who : List UInt8} {t0 x : Int} (hx : t0 ≤ x) (h2 : 2 ≤ cntP l who x) : ∃ t, nextP l who t0 = some t ∧ t ≤ x := by
  rw [cntP_filter] at h2
  obtain ⟨y1, y2, r, hr⟩ : ∃ y1 y2 r, (l.filter fun y => onB x y && !(y.1 == who)) = y1 :: y2 :: r := by
    match hf : l.filter fun y => onB x y && !(y.1 == who) with
    | [] => rw [hf] at h2; simp at h2
    | [a] => rw [hf] at h2; simp at h2
    | a :: b :: r => exact ⟨a, b, r, rfl⟩
  have hsub : [y1, y2].Sublist l := by
    have : [y1, y2].Sublist (l.filter fun y => onB x y && !(y.1 == who)) := by rw [hr]; exact (List.nil_sublist r).cons_cons y2 |>.cons_cons y1
    exact this.trans List.filter_sublist
  have hm1 : y1 ∈ l.filter fun y => onB x y && !(y.1 == who) := by rw [hr]; simp
  have hm2 : y2 ∈ l.filter fun y => onB x y && !(y.1 == who) := by rw [hr]; simp
  rw [List.mem_filter] at hm1 hm2
  have h1 := hm1.2
  have h2' := hm2.2
  rw [Bool.and_eq_true] at h1 h2'
  have e1 := of_decide_eq_true h1.1
  have e2 := of_decide_eq_true h2'.1
  obtain ⟨t', ht'⟩ : ∃ t', t' = max t0 (max y1.2.1 y2.2.1) := ⟨_, rfl⟩
  have hb1 : onB t' y1 = true := decide_eq_true (by omega)
  have hb2 : onB t' y2 = true := decide_eq_true (by omega)
  have hc : 2 ≤ cntP l who t' := by
    rw [cntP_filter]
    have := (hsub.filter fun y => onB t' y && !(y.1 == who)).length_le
    rw [List.filter_cons_of_pos (by rw [hb1, h1.2]; rfl), List.filter_cons_of_pos (by rw [hb2, h2'.2]; rfl)] at this
    simpa using this
  have hin : t' ∈ srtL (t0 :: l.map fun x => x.2.1) := by
    rw [srtL_mem, List.mem_cons, List.mem_map]
    by_cases c1 : t' = t0
    · exact .inl c1
    · by_cases c2 : t' = y1.2.1
      · exact .inr ⟨y1, hm1.1, c2.symm⟩
      · exact .inr ⟨y2, hm2.1, by omega⟩
  obtain ⟨u, hu, hle⟩ := find_sorted (p := fun t => decide (t0 ≤ t) && decide (2 ≤ cntP l who t)) (srtL_asc _) hin (by rw [Bool.and_eq_true, decide_eq_true_eq, decide_eq_true_eq]; exact ⟨by omega, hc⟩)
  exact ⟨u, hu, by omega⟩
def cntK (who : List UInt8) (l : List (List UInt8)) (k : Nat) : Nat := ((l.take k).filter fun s => !(s == who)).length
theorem cntK_succ {who : List UInt8} {l : List (List UInt8)} {k : Nat} (hk : k < l.length) : cntK who l (k + 1) = cntK who l k + if (l.getD k default == who) = true then 0 else 1 := by
  unfold cntK
  rw [take_snoc (p := fun s => s == who) hk, List.length_append]
  split <;> rfl
theorem cntK_le (who : List UInt8) (l : List (List UInt8)) (k : Nat) : cntK who l k ≤ l.length := by
  unfold cntK
  exact Nat.le_trans (List.length_filter_le _ _) (by rw [List.length_take]; omega)
section
attribute [local irreducible] opK wpList Code.wp Exit.then Exit.inBlock fnPost bodyPost Nx Calls Oper.wp Rd Rds Wr Ent Stars Blk Again Vec FnSpec wpMix QRun Stop Upto wpAt
set_option maxHeartbeats 4000000 in
set_option maxRecDepth 10000 in
theorem RotaNext_spec (A : Option Addr) (c : Nat) (l : List Int) (tm : Int) (I : PH) (hl : Bytes I A c l) (hx : ∀ x ∈ l, 0 ≤ x ∧ x < 256) (ht : 0 ≤ tm ∧ tm < 256) :
    FnSpec Try.prog 3 [.slice A l.length c, .int .u8 tm] I [] (fun v R' => v = .bool true ∧ R' = []) := by
  have hL := bytes_take hl hx
  refine FnSpec.enterP Try.func3 rfl Try.ntmps3 rfl fun w F => ?_
  repeat' first
    | ((with_reducible refine Nx.is_wp ?_); first | refine Nx.wo ?_ | refine Nx.p_dec rfl rfl (fun hc => ?_) (fun hc => ?_) | refine Nx.p_bool rfl rfl (fun hc => ?_) (fun hc => ?_))
    | ((first | refine Nx.at_op rfl rfl ?_ | refine Nx.m_loud rfl rfl rfl ?_ | refine Nx.at_do rfl rfl rfl rfl ?_ | refine Nx.m_loud_do rfl rfl rfl rfl rfl ?_); first | refine Nx.opr rfl rfl ?_ | refine Nx.so ?_ | refine Nx.sb (fun bx => ?_) | refine Nx.sa (fun A2 c2 => ?_))
    | ((with_reducible refine Nx.is_at ?_); first | refine Nx.a ?_ | ((fail_if_success refine Nx.at_do rfl rfl rfl rfl ?_); first | refine Nx.at_dec_t rfl rfl rfl rfl (by first | assumption | omega) ?_ | refine Nx.at_dec_f rfl rfl rfl rfl (by first | assumption | omega) ?_ | refine Nx.at_split rfl rfl rfl rfl (fun hc => ?_) (fun hc => ?_) | refine Nx.at_splitb rfl rfl rfl rfl (fun hc => ?_) (fun hc => ?_)))
    | ((with_reducible refine Nx.is_mix ?_); first | refine Nx.m ?_ | ((fail_if_success refine Nx.m_quiet_do rfl rfl rfl rfl rfl rfl rfl ?_ ?_); (fail_if_success refine Nx.m_loud_do rfl rfl rfl rfl rfl ?_); first | refine Nx.m_dec_t rfl rfl rfl rfl (by first | assumption | omega) ?_ | refine Nx.m_dec_f rfl rfl rfl rfl (by first | assumption | omega) ?_ | refine Nx.m_split rfl rfl rfl rfl (fun hc => ?_) (fun hc => ?_) | refine Nx.m_splitb rfl rfl rfl rfl (fun hc => ?_) (fun hc => ?_)))
    | ((fail_if_success (with_reducible refine Nx.is_at ?_)); (fail_if_success (with_reducible refine Nx.is_wp ?_)); (fail_if_success (with_reducible refine Nx.is_mix ?_)); first | refine Nx.ex ?_)
  refine Nx.at_op rfl rfl ?_
  refine Nx.call rfl rfl rfl (by kernel_rfl) rfl (New_codes A c l I hl) (Ent.refl _) ?_
  rintro u R' ⟨b, rfl, rfl⟩
  repeat' first
    | ((with_reducible refine Nx.is_wp ?_); first | refine Nx.wo ?_ | refine Nx.p_dec rfl rfl (fun hc => ?_) (fun hc => ?_) | refine Nx.p_bool rfl rfl (fun hc => ?_) (fun hc => ?_))
    | ((first | refine Nx.at_op rfl rfl ?_ | refine Nx.m_loud rfl rfl rfl ?_ | refine Nx.at_do rfl rfl rfl rfl ?_ | refine Nx.m_loud_do rfl rfl rfl rfl rfl ?_); first | refine Nx.opr rfl rfl ?_ | refine Nx.so ?_ | refine Nx.sb (fun bx => ?_) | refine Nx.sa (fun A2 c2 => ?_))
    | ((with_reducible refine Nx.is_at ?_); first | refine Nx.a ?_ | ((fail_if_success refine Nx.at_do rfl rfl rfl rfl ?_); first | refine Nx.at_dec_t rfl rfl rfl rfl (by first | assumption | omega) ?_ | refine Nx.at_dec_f rfl rfl rfl rfl (by first | assumption | omega) ?_ | refine Nx.at_split rfl rfl rfl rfl (fun hc => ?_) (fun hc => ?_) | refine Nx.at_splitb rfl rfl rfl rfl (fun hc => ?_) (fun hc => ?_)))
    | ((with_reducible refine Nx.is_mix ?_); first | refine Nx.m ?_ | ((fail_if_success refine Nx.m_quiet_do rfl rfl rfl rfl rfl rfl rfl ?_ ?_); (fail_if_success refine Nx.m_loud_do rfl rfl rfl rfl rfl ?_); first | refine Nx.m_dec_t rfl rfl rfl rfl (by first | assumption | omega) ?_ | refine Nx.m_dec_f rfl rfl rfl rfl (by first | assumption | omega) ?_ | refine Nx.m_split rfl rfl rfl rfl (fun hc => ?_) (fun hc => ?_) | refine Nx.m_splitb rfl rfl rfl rfl (fun hc => ?_) (fun hc => ?_)))
    | ((fail_if_success (with_reducible refine Nx.is_at ?_)); (fail_if_success (with_reducible refine Nx.is_wp ?_)); (fail_if_success (with_reducible refine Nx.is_mix ?_)); first | refine Nx.ex ?_)
  refine Nx.at_op rfl rfl ?_
  refine Nx.call rfl rfl rfl (by kernel_rfl) rfl (Rota_made b A c _ 0 I hL (Nat.zero_le _)) (by (first | done | (repeat first | exact Ent.refl _ | exact Ent.nil _ | refine Ent.pick 0 rfl ?_ | refine Ent.pick 1 rfl ?_ | refine Ent.pick 2 rfl ?_ | refine Ent.pick 3 rfl ?_ | refine Ent.pick 4 rfl ?_ | refine Ent.pick 5 rfl ?_ | refine Ent.pick 6 rfl ?_ | refine Ent.pick 7 rfl ?_ | refine Ent.pick 8 rfl ?_ | refine Ent.pick 9 rfl ?_ | refine Ent.pick 10 rfl ?_ | refine Ent.pick 11 rfl ?_ | refine Ent.pick 12 rfl ?_ | refine Ent.pick 13 rfl ?_ | refine Ent.pick 14 rfl ?_))) ?_
  rintro u R' ⟨Ar, cr, r, k1, rfl, hM, hk1, rfl⟩
  refine Nx.freezeAt 0 rfl fun I1 m1 hI1 hm1 h1 => ?_
  have hr : Shifts I1 Ar cr r := Vec.sliceN hm1 h1 (fun _ _ => rfl)
  have hE := rota_iff.2 hM.rota
  have h60 := hM.rota.few
  repeat' first
    | ((with_reducible refine Nx.is_wp ?_); first | refine Nx.wo ?_ | refine Nx.p_dec rfl rfl (fun hc => ?_) (fun hc => ?_) | refine Nx.p_bool rfl rfl (fun hc => ?_) (fun hc => ?_))
    | ((first | refine Nx.at_op rfl rfl ?_ | refine Nx.m_loud rfl rfl rfl ?_ | refine Nx.at_do rfl rfl rfl rfl ?_ | refine Nx.m_loud_do rfl rfl rfl rfl rfl ?_); first | refine Nx.opr rfl rfl ?_ | refine Nx.so ?_ | refine Nx.sb (fun bx => ?_) | refine Nx.sa (fun A2 c2 => ?_))
    | ((with_reducible refine Nx.is_at ?_); first | refine Nx.a ?_ | ((fail_if_success refine Nx.at_do rfl rfl rfl rfl ?_); first | refine Nx.at_dec_t rfl rfl rfl rfl (by first | assumption | omega) ?_ | refine Nx.at_dec_f rfl rfl rfl rfl (by first | assumption | omega) ?_ | refine Nx.at_split rfl rfl rfl rfl (fun hc => ?_) (fun hc => ?_) | refine Nx.at_splitb rfl rfl rfl rfl (fun hc => ?_) (fun hc => ?_)))
    | ((with_reducible refine Nx.is_mix ?_); first | refine Nx.m ?_ | ((fail_if_success refine Nx.m_quiet_do rfl rfl rfl rfl rfl rfl rfl ?_ ?_); (fail_if_success refine Nx.m_loud_do rfl rfl rfl rfl rfl ?_); first | refine Nx.m_dec_t rfl rfl rfl rfl (by first | assumption | omega) ?_ | refine Nx.m_dec_f rfl rfl rfl rfl (by first | assumption | omega) ?_ | refine Nx.m_split rfl rfl rfl rfl (fun hc => ?_) (fun hc => ?_) | refine Nx.m_splitb rfl rfl rfl rfl (fun hc => ?_) (fun hc => ?_)))
    | ((fail_if_success (with_reducible refine Nx.is_at ?_)); (fail_if_success (with_reducible refine Nx.is_wp ?_)); (fail_if_success (with_reducible refine Nx.is_mix ?_)); first | refine Nx.ex ?_)
  refine Nx.at_op rfl rfl ?_
  refine Nx.call rfl rfl rfl (by kernel_rfl) rfl (Name_made b A c _ k1 I1 (hL.mono hI1) hk1) (by (first | done | (repeat first | exact Ent.refl _ | exact Ent.nil _ | refine Ent.pick 0 rfl ?_ | refine Ent.pick 1 rfl ?_ | refine Ent.pick 2 rfl ?_ | refine Ent.pick 3 rfl ?_ | refine Ent.pick 4 rfl ?_ | refine Ent.pick 5 rfl ?_ | refine Ent.pick 6 rfl ?_ | refine Ent.pick 7 rfl ?_ | refine Ent.pick 8 rfl ?_ | refine Ent.pick 9 rfl ?_ | refine Ent.pick 10 rfl ?_ | refine Ent.pick 11 rfl ?_ | refine Ent.pick 12 rfl ?_ | refine Ent.pick 13 rfl ?_ | refine Ent.pick 14 rfl ?_))) ?_
  rintro u R' ⟨who, k2, rfl, hwho, hk2, rfl⟩
  obtain ⟨m, hm, hm40⟩ : ∃ m : Nat, tm % 40 = m ∧ m < 40 := ⟨(tm % 40).toNat, by omega, by omega⟩
  have hNx := Next_spec2 Ar cr r who (tm % 40) I1 hr hM.ok hE (by omega)
  obtain ⟨tt, ok, hV, hF1, hF2⟩ : ∃ (tt : Int) (ok : Bool), nextV r who (tm % 40) = .tuple #[.int .i64 tt, .bool ok, .int .i64 0] ∧ (ok = true → tm % 40 ≤ tt ∧ 2 ≤ cntP r who tt) ∧ (∀ x, tm % 40 ≤ x → 2 ≤ cntP r who x → ok = true ∧ tt ≤ x) := by
    unfold nextV
    cases hn : nextP r who (tm % 40) with
    | none => exact ⟨0, false, rfl, (fun h => by cases h), fun x h1 h2 => by obtain ⟨t, h3, _⟩ := next_first h1 h2; rw [hn] at h3; cases h3⟩
    | some t => exact ⟨t, true, rfl, (fun _ => next_sound hn), fun x h1 h2 => by
        obtain ⟨t', h3, h4⟩ := next_first h1 h2
        rw [hn] at h3; cases h3
        exact ⟨rfl, h4⟩⟩
  rw [hV] at hNx
  rw [hm] at hF1 hF2
  cases ok with
  | true =>
    obtain ⟨hF3, hF4⟩ := hF1 rfl
    have hF5 : ∀ x : Nat, (x : Int) = tt → 2 ≤ cntP r who x := fun x h => by rw [h]; exact hF4
    repeat' first
      | ((with_reducible refine Nx.is_wp ?_); first | refine Nx.wo ?_ | refine Nx.p_dec rfl rfl (fun hc => ?_) (fun hc => ?_) | refine Nx.p_bool rfl rfl (fun hc => ?_) (fun hc => ?_))
      | ((first | refine Nx.at_op rfl rfl ?_ | refine Nx.m_loud rfl rfl rfl ?_ | refine Nx.at_do rfl rfl rfl rfl ?_ | refine Nx.m_loud_do rfl rfl rfl rfl rfl ?_); first | refine Nx.opr rfl rfl ?_ | refine Nx.rem rfl rfl (by omega) (by omega) rfl ?_ | refine Nx.callv rfl rfl rfl (by kernel_rfl) rfl hNx ?_ | refine Nx.so ?_ | refine Nx.sb (fun bx => ?_) | refine Nx.sa (fun A2 c2 => ?_))
      | ((with_reducible refine Nx.is_at ?_); first | refine Nx.a ?_ | ((fail_if_success refine Nx.at_do rfl rfl rfl rfl ?_); first | refine Nx.at_dec_t rfl rfl rfl rfl (by first | assumption | omega) ?_ | refine Nx.at_dec_f rfl rfl rfl rfl (by first | assumption | omega) ?_ | refine Nx.at_split rfl rfl rfl rfl (fun hc => ?_) (fun hc => ?_) | refine Nx.at_splitb rfl rfl rfl rfl (fun hc => ?_) (fun hc => ?_)))
      | ((with_reducible refine Nx.is_mix ?_); first | refine Nx.m ?_ | ((fail_if_success refine Nx.m_quiet_do rfl rfl rfl rfl rfl rfl rfl ?_ ?_); (fail_if_success refine Nx.m_loud_do rfl rfl rfl rfl rfl ?_); first | refine Nx.m_dec_t rfl rfl rfl rfl (by first | assumption | omega) ?_ | refine Nx.m_dec_f rfl rfl rfl rfl (by first | assumption | omega) ?_ | refine Nx.m_split rfl rfl rfl rfl (fun hc => ?_) (fun hc => ?_) | refine Nx.m_splitb rfl rfl rfl rfl (fun hc => ?_) (fun hc => ?_)))
      | ((fail_if_success (with_reducible refine Nx.is_at ?_)); (fail_if_success (with_reducible refine Nx.is_wp ?_)); (fail_if_success (with_reducible refine Nx.is_mix ?_)); first | refine Nx.ex ?_)
    rw [hm]
    refine Nx.p_loop (σ := Nat) (fun x => [(6, .slice Ar r.length cr), (7, strV who), (8, .int .i64 tt), (9, .bool true), (11, .int .i64 (x : Int))])
      (fun _ => [F]) (fun x => m ≤ x ∧ x ≤ 60) (fun x => 60 - x) m rfl ⟨Nat.le_refl _, by omega⟩ ⟨rfl, rfl, rfl, rfl, rfl, trivial⟩ (by (first | done | (repeat first | exact Ent.refl _ | exact Ent.nil _ | refine Ent.pick 0 rfl ?_ | refine Ent.pick 1 rfl ?_ | refine Ent.pick 2 rfl ?_ | refine Ent.pick 3 rfl ?_ | refine Ent.pick 4 rfl ?_ | refine Ent.pick 5 rfl ?_ | refine Ent.pick 6 rfl ?_ | refine Ent.pick 7 rfl ?_ | refine Ent.pick 8 rfl ?_ | refine Ent.pick 9 rfl ?_ | refine Ent.pick 10 rfl ?_ | refine Ent.pick 11 rfl ?_ | refine Ent.pick 12 rfl ?_ | refine Ent.pick 13 rfl ?_ | refine Ent.pick 14 rfl ?_))) ?_
    rintro x ⟨hmx, hx60⟩
    by_cases hlt : x < 60
    · repeat' first
        | ((with_reducible refine Nx.is_wp ?_); first | refine Nx.wo ?_ | refine Nx.p_dec rfl rfl (fun hc => ?_) (fun hc => ?_) | refine Nx.p_bool rfl rfl (fun hc => ?_) (fun hc => ?_))
        | ((first | refine Nx.at_op rfl rfl ?_ | refine Nx.m_loud rfl rfl rfl ?_ | refine Nx.at_do rfl rfl rfl rfl ?_ | refine Nx.m_loud_do rfl rfl rfl rfl rfl ?_); first | refine Nx.opr rfl rfl ?_ | refine Nx.so ?_ | refine Nx.sb (fun bx => ?_) | refine Nx.sa (fun A2 c2 => ?_))
        | ((with_reducible refine Nx.is_at ?_); first | refine Nx.a ?_ | ((fail_if_success refine Nx.at_do rfl rfl rfl rfl ?_); first | refine Nx.at_dec_t rfl rfl rfl rfl (by first | assumption | omega) ?_ | refine Nx.at_dec_f rfl rfl rfl rfl (by first | assumption | omega) ?_ | refine Nx.at_split rfl rfl rfl rfl (fun hc => ?_) (fun hc => ?_) | refine Nx.at_splitb rfl rfl rfl rfl (fun hc => ?_) (fun hc => ?_)))
        | ((with_reducible refine Nx.is_mix ?_); first | refine Nx.m ?_ | ((fail_if_success refine Nx.m_quiet_do rfl rfl rfl rfl rfl rfl rfl ?_ ?_); (fail_if_success refine Nx.m_loud_do rfl rfl rfl rfl rfl ?_); first | refine Nx.m_dec_t rfl rfl rfl rfl (by first | assumption | omega) ?_ | refine Nx.m_dec_f rfl rfl rfl rfl (by first | assumption | omega) ?_ | refine Nx.m_split rfl rfl rfl rfl (fun hc => ?_) (fun hc => ?_) | refine Nx.m_splitb rfl rfl rfl rfl (fun hc => ?_) (fun hc => ?_)))
        | ((fail_if_success (with_reducible refine Nx.is_at ?_)); (fail_if_success (with_reducible refine Nx.is_wp ?_)); (fail_if_success (with_reducible refine Nx.is_mix ?_)); first | refine Nx.ex ?_)
      refine Nx.at_op rfl rfl ?_
      refine Nx.call rfl rfl rfl (by kernel_rfl) rfl (On_spec2 Ar cr r x I1 hr hM.ok hE) (by (first | done | (repeat first | exact Ent.refl _ | exact Ent.nil _ | refine Ent.pick 0 rfl ?_ | refine Ent.pick 1 rfl ?_ | refine Ent.pick 2 rfl ?_ | refine Ent.pick 3 rfl ?_ | refine Ent.pick 4 rfl ?_ | refine Ent.pick 5 rfl ?_ | refine Ent.pick 6 rfl ?_ | refine Ent.pick 7 rfl ?_ | refine Ent.pick 8 rfl ?_ | refine Ent.pick 9 rfl ?_ | refine Ent.pick 10 rfl ?_ | refine Ent.pick 11 rfl ?_ | refine Ent.pick 12 rfl ?_ | refine Ent.pick 13 rfl ?_ | refine Ent.pick 14 rfl ?_))) ?_
      rintro _ R' ⟨A3, c3, rfl, rfl⟩
      refine Nx.freezeAt 0 rfl fun I2 m2 hI2 hm2 h2 => ?_
      have hT : Texts I2 A3 c3 (onT r x) := Vec.sliceOf hm2 h2
      have hol := onT_len r x
      have hcN : cntK who (onT r x) (onT r x).length = cntP r who x := by unfold cntK; rw [List.take_length]; rfl
      have hF2x := hF2 x (by omega)
      generalize onT r x = os at hT hol hcN ⊢
      repeat' first
        | ((with_reducible refine Nx.is_wp ?_); first | refine Nx.wo ?_ | refine Nx.p_dec rfl rfl (fun hc => ?_) (fun hc => ?_) | refine Nx.p_bool rfl rfl (fun hc => ?_) (fun hc => ?_))
        | ((first | refine Nx.at_op rfl rfl ?_ | refine Nx.m_loud rfl rfl rfl ?_ | refine Nx.at_do rfl rfl rfl rfl ?_ | refine Nx.m_loud_do rfl rfl rfl rfl rfl ?_); first | refine Nx.opr rfl rfl ?_ | refine Nx.so ?_ | refine Nx.sb (fun bx => ?_) | refine Nx.sa (fun A2 c2 => ?_))
        | ((with_reducible refine Nx.is_at ?_); first | refine Nx.a ?_ | ((fail_if_success refine Nx.at_do rfl rfl rfl rfl ?_); first | refine Nx.at_dec_t rfl rfl rfl rfl (by first | assumption | omega) ?_ | refine Nx.at_dec_f rfl rfl rfl rfl (by first | assumption | omega) ?_ | refine Nx.at_split rfl rfl rfl rfl (fun hc => ?_) (fun hc => ?_) | refine Nx.at_splitb rfl rfl rfl rfl (fun hc => ?_) (fun hc => ?_)))
        | ((with_reducible refine Nx.is_mix ?_); first | refine Nx.m ?_ | ((fail_if_success refine Nx.m_quiet_do rfl rfl rfl rfl rfl rfl rfl ?_ ?_); (fail_if_success refine Nx.m_loud_do rfl rfl rfl rfl rfl ?_); first | refine Nx.m_dec_t rfl rfl rfl rfl (by first | assumption | omega) ?_ | refine Nx.m_dec_f rfl rfl rfl rfl (by first | assumption | omega) ?_ | refine Nx.m_split rfl rfl rfl rfl (fun hc => ?_) (fun hc => ?_) | refine Nx.m_splitb rfl rfl rfl rfl (fun hc => ?_) (fun hc => ?_)))
        | ((fail_if_success (with_reducible refine Nx.is_at ?_)); (fail_if_success (with_reducible refine Nx.is_wp ?_)); (fail_if_success (with_reducible refine Nx.is_mix ?_)); first | refine Nx.ex ?_)
      refine Nx.p_loop (σ := Nat) (fun j => [(6, .slice Ar r.length cr), (7, strV who), (8, .int .i64 tt), (9, .bool true), (11, .int .i64 (x : Int)), (12, .int .i64 (cntK who os j : Int)), (52, .slice A3 os.length c3), (53, .int .i64 os.length), (54, .int .i64 (j : Int))])
        (fun _ => [F]) (fun j => j ≤ os.length) (fun j => os.length - j) 0 rfl (Nat.zero_le _) ⟨rfl, rfl, rfl, rfl, rfl, rfl, rfl, rfl, rfl, trivial⟩ (by (first | done | (repeat first | exact Ent.refl _ | exact Ent.nil _ | refine Ent.pick 0 rfl ?_ | refine Ent.pick 1 rfl ?_ | refine Ent.pick 2 rfl ?_ | refine Ent.pick 3 rfl ?_ | refine Ent.pick 4 rfl ?_ | refine Ent.pick 5 rfl ?_ | refine Ent.pick 6 rfl ?_ | refine Ent.pick 7 rfl ?_ | refine Ent.pick 8 rfl ?_ | refine Ent.pick 9 rfl ?_ | refine Ent.pick 10 rfl ?_ | refine Ent.pick 11 rfl ?_ | refine Ent.pick 12 rfl ?_ | refine Ent.pick 13 rfl ?_ | refine Ent.pick 14 rfl ?_))) ?_
      intro j hj
      have hcl := cntK_le who os j
      by_cases hjl : j < os.length
      · have hcs := cntK_succ (who := who) hjl
        repeat' first
          | ((with_reducible refine Nx.is_wp ?_); first | refine Nx.wo ?_ | refine Nx.p_dec rfl rfl (fun hc => ?_) (fun hc => ?_) | refine Nx.p_bool rfl rfl (fun hc => ?_) (fun hc => ?_))
          | ((first | refine Nx.at_op rfl rfl ?_ | refine Nx.m_loud rfl rfl rfl ?_ | refine Nx.at_do rfl rfl rfl rfl ?_ | refine Nx.m_loud_do rfl rfl rfl rfl rfl ?_); first | refine Nx.opr rfl rfl ?_ | refine Nx.indexAddr_nat rfl rfl rfl rfl rfl (by omega) (hT.isSome (by omega)) ?_ | refine Nx.load rfl rfl rfl (hT.rd (by omega)) ?_ | refine Nx.so ?_ | refine Nx.sb (fun bx => ?_) | refine Nx.sa (fun A2 c2 => ?_))
          | ((with_reducible refine Nx.is_at ?_); first | refine Nx.a ?_ | ((fail_if_success refine Nx.at_do rfl rfl rfl rfl ?_); first | refine Nx.at_dec_t rfl rfl rfl rfl (by first | assumption | omega) ?_ | refine Nx.at_dec_f rfl rfl rfl rfl (by first | assumption | omega) ?_ | refine Nx.at_split rfl rfl rfl rfl (fun hc => ?_) (fun hc => ?_) | refine Nx.at_splitb rfl rfl rfl rfl (fun hc => ?_) (fun hc => ?_)))
          | ((with_reducible refine Nx.is_mix ?_); first | refine Nx.m ?_ | ((fail_if_success refine Nx.m_quiet_do rfl rfl rfl rfl rfl rfl rfl ?_ ?_); (fail_if_success refine Nx.m_loud_do rfl rfl rfl rfl rfl ?_); first | refine Nx.m_dec_t rfl rfl rfl rfl (by first | assumption | omega) ?_ | refine Nx.m_dec_f rfl rfl rfl rfl (by first | assumption | omega) ?_ | refine Nx.m_split rfl rfl rfl rfl (fun hc => ?_) (fun hc => ?_) | refine Nx.m_splitb rfl rfl rfl rfl (fun hc => ?_) (fun hc => ?_)))
          | ((fail_if_success (with_reducible refine Nx.is_at ?_)); (fail_if_success (with_reducible refine Nx.is_wp ?_)); (fail_if_success (with_reducible refine Nx.is_mix ?_)); first | refine Nx.ex ?_)
        · rw [ByteArray.toList_mk, ByteArray.toList_mk] at hc
          have hc : (os.getD j default == who) = false := by rw [Bool.not_eq_true'] at hc; exact hc
          rw [if_neg (by rw [hc]; decide)] at hcs
          exact Nx.again (j + 1) hjl (by omega) ⟨rfl, rfl, rfl, rfl, rfl, by rw [hcs]; rfl, rfl, rfl, rfl, trivial⟩ (by (first | done | (repeat first | exact Ent.refl _ | exact Ent.nil _ | refine Ent.pick 0 rfl ?_ | refine Ent.pick 1 rfl ?_ | refine Ent.pick 2 rfl ?_ | refine Ent.pick 3 rfl ?_ | refine Ent.pick 4 rfl ?_ | refine Ent.pick 5 rfl ?_ | refine Ent.pick 6 rfl ?_ | refine Ent.pick 7 rfl ?_ | refine Ent.pick 8 rfl ?_ | refine Ent.pick 9 rfl ?_ | refine Ent.pick 10 rfl ?_ | refine Ent.pick 11 rfl ?_ | refine Ent.pick 12 rfl ?_ | refine Ent.pick 13 rfl ?_ | refine Ent.pick 14 rfl ?_)))
        · rw [ByteArray.toList_mk, ByteArray.toList_mk] at hc
          have hc : (os.getD j default == who) = true := by rw [Bool.not_eq_false'] at hc; exact hc
          rw [if_pos hc] at hcs
          exact Nx.again (j + 1) hjl (by omega) ⟨rfl, rfl, rfl, rfl, rfl, by rw [hcs]; rfl, rfl, rfl, rfl, trivial⟩ (by (first | done | (repeat first | exact Ent.refl _ | exact Ent.nil _ | refine Ent.pick 0 rfl ?_ | refine Ent.pick 1 rfl ?_ | refine Ent.pick 2 rfl ?_ | refine Ent.pick 3 rfl ?_ | refine Ent.pick 4 rfl ?_ | refine Ent.pick 5 rfl ?_ | refine Ent.pick 6 rfl ?_ | refine Ent.pick 7 rfl ?_ | refine Ent.pick 8 rfl ?_ | refine Ent.pick 9 rfl ?_ | refine Ent.pick 10 rfl ?_ | refine Ent.pick 11 rfl ?_ | refine Ent.pick 12 rfl ?_ | refine Ent.pick 13 rfl ?_ | refine Ent.pick 14 rfl ?_)))
      · obtain rfl : j = os.length := by omega
        rw [hcN] at hcl ⊢
        have hfA : (2 ≤ cntP r who x → tt ≤ x) ∧ ((x : Int) = tt → 2 ≤ cntP r who x) := ⟨fun h => (hF2x h).2, hF5 x⟩
        repeat' first
          | ((with_reducible refine Nx.is_wp ?_); first | refine Nx.wo ?_ | refine Nx.p_dec rfl rfl (fun hc => ?_) (fun hc => ?_) | refine Nx.p_bool rfl rfl (fun hc => ?_) (fun hc => ?_))
          | ((first | refine Nx.at_op rfl rfl ?_ | refine Nx.m_loud rfl rfl rfl ?_ | refine Nx.at_do rfl rfl rfl rfl ?_ | refine Nx.m_loud_do rfl rfl rfl rfl rfl ?_); first | refine Nx.opr rfl rfl ?_ | refine Nx.so ?_ | refine Nx.sb (fun bx => ?_) | refine Nx.sa (fun A2 c2 => ?_))
          | ((with_reducible refine Nx.is_at ?_); first | refine Nx.a ?_ | ((fail_if_success refine Nx.at_do rfl rfl rfl rfl ?_); first | refine Nx.at_dec_t rfl rfl rfl rfl (by first | assumption | omega) ?_ | refine Nx.at_dec_f rfl rfl rfl rfl (by first | assumption | omega) ?_ | refine Nx.at_split rfl rfl rfl rfl (fun hc => ?_) (fun hc => ?_) | refine Nx.at_splitb rfl rfl rfl rfl (fun hc => ?_) (fun hc => ?_)))
          | ((with_reducible refine Nx.is_mix ?_); first | refine Nx.m ?_ | ((fail_if_success refine Nx.m_quiet_do rfl rfl rfl rfl rfl rfl rfl ?_ ?_); (fail_if_success refine Nx.m_loud_do rfl rfl rfl rfl rfl ?_); first | refine Nx.m_dec_t rfl rfl rfl rfl (by first | assumption | omega) ?_ | refine Nx.m_dec_f rfl rfl rfl rfl (by first | assumption | omega) ?_ | refine Nx.m_split rfl rfl rfl rfl (fun hc => ?_) (fun hc => ?_) | refine Nx.m_splitb rfl rfl rfl rfl (fun hc => ?_) (fun hc => ?_)))
          | ((fail_if_success (with_reducible refine Nx.is_at ?_)); (fail_if_success (with_reducible refine Nx.is_wp ?_)); (fail_if_success (with_reducible refine Nx.is_mix ?_)); first | refine Nx.ex ?_)
        all_goals first
          | exact Nx.imm_le hI2 (Nx.again (x + 1) ⟨by omega, by omega⟩ (by omega) ⟨rfl, rfl, rfl, rfl, rfl, trivial⟩ (by (first | done | (repeat first | exact Ent.refl _ | exact Ent.nil _ | refine Ent.pick 0 rfl ?_ | refine Ent.pick 1 rfl ?_ | refine Ent.pick 2 rfl ?_ | refine Ent.pick 3 rfl ?_ | refine Ent.pick 4 rfl ?_ | refine Ent.pick 5 rfl ?_ | refine Ent.pick 6 rfl ?_ | refine Ent.pick 7 rfl ?_ | refine Ent.pick 8 rfl ?_ | refine Ent.pick 9 rfl ?_ | refine Ent.pick 10 rfl ?_ | refine Ent.pick 11 rfl ?_ | refine Ent.pick 12 rfl ?_ | refine Ent.pick 13 rfl ?_ | refine Ent.pick 14 rfl ?_))))
          | (exfalso; omega)
    · obtain rfl : x = 60 := by omega
      repeat' first
        | ((with_reducible refine Nx.is_wp ?_); first | refine Nx.wo ?_ | refine Nx.p_dec rfl rfl (fun hc => ?_) (fun hc => ?_) | refine Nx.p_bool rfl rfl (fun hc => ?_) (fun hc => ?_))
        | ((first | refine Nx.at_op rfl rfl ?_ | refine Nx.m_loud rfl rfl rfl ?_ | refine Nx.at_do rfl rfl rfl rfl ?_ | refine Nx.m_loud_do rfl rfl rfl rfl rfl ?_); first | refine Nx.opr rfl rfl ?_ | refine Nx.callv rfl rfl rfl (by kernel_rfl) rfl (awake_spec I1) ?_ | refine Nx.so ?_ | refine Nx.sb (fun bx => ?_) | refine Nx.sa (fun A2 c2 => ?_))
        | ((with_reducible refine Nx.is_at ?_); first | refine Nx.a ?_ | ((fail_if_success refine Nx.at_do rfl rfl rfl rfl ?_); first | refine Nx.at_dec_t rfl rfl rfl rfl (by first | assumption | omega) ?_ | refine Nx.at_dec_f rfl rfl rfl rfl (by first | assumption | omega) ?_ | refine Nx.at_split rfl rfl rfl rfl (fun hc => ?_) (fun hc => ?_) | refine Nx.at_splitb rfl rfl rfl rfl (fun hc => ?_) (fun hc => ?_)))
        | ((with_reducible refine Nx.is_mix ?_); first | refine Nx.m ?_ | ((fail_if_success refine Nx.m_quiet_do rfl rfl rfl rfl rfl rfl rfl ?_ ?_); (fail_if_success refine Nx.m_loud_do rfl rfl rfl rfl rfl ?_); first | refine Nx.m_dec_t rfl rfl rfl rfl (by first | assumption | omega) ?_ | refine Nx.m_dec_f rfl rfl rfl rfl (by first | assumption | omega) ?_ | refine Nx.m_split rfl rfl rfl rfl (fun hc => ?_) (fun hc => ?_) | refine Nx.m_splitb rfl rfl rfl rfl (fun hc => ?_) (fun hc => ?_)))
        | ((fail_if_success (with_reducible refine Nx.is_at ?_)); (fail_if_success (with_reducible refine Nx.is_wp ?_)); (fail_if_success (with_reducible refine Nx.is_mix ?_)); first | refine Nx.ex ?_)
      exact Nx.imm_le hI1 (Nx.ret_fn rfl [] ⟨rfl, rfl⟩ (by (first | done | (repeat first | exact Ent.refl _ | exact Ent.nil _ | refine Ent.pick 0 rfl ?_ | refine Ent.pick 1 rfl ?_ | refine Ent.pick 2 rfl ?_ | refine Ent.pick 3 rfl ?_ | refine Ent.pick 4 rfl ?_ | refine Ent.pick 5 rfl ?_ | refine Ent.pick 6 rfl ?_ | refine Ent.pick 7 rfl ?_ | refine Ent.pick 8 rfl ?_ | refine Ent.pick 9 rfl ?_ | refine Ent.pick 10 rfl ?_ | refine Ent.pick 11 rfl ?_ | refine Ent.pick 12 rfl ?_ | refine Ent.pick 13 rfl ?_ | refine Ent.pick 14 rfl ?_))))
  | false =>
    repeat' first
      | ((with_reducible refine Nx.is_wp ?_); first | refine Nx.wo ?_ | refine Nx.p_dec rfl rfl (fun hc => ?_) (fun hc => ?_) | refine Nx.p_bool rfl rfl (fun hc => ?_) (fun hc => ?_))
      | ((first | refine Nx.at_op rfl rfl ?_ | refine Nx.m_loud rfl rfl rfl ?_ | refine Nx.at_do rfl rfl rfl rfl ?_ | refine Nx.m_loud_do rfl rfl rfl rfl rfl ?_); first | refine Nx.opr rfl rfl ?_ | refine Nx.rem rfl rfl (by omega) (by omega) rfl ?_ | refine Nx.callv rfl rfl rfl (by kernel_rfl) rfl hNx ?_ | refine Nx.so ?_ | refine Nx.sb (fun bx => ?_) | refine Nx.sa (fun A2 c2 => ?_))
      | ((with_reducible refine Nx.is_at ?_); first | refine Nx.a ?_ | ((fail_if_success refine Nx.at_do rfl rfl rfl rfl ?_); first | refine Nx.at_dec_t rfl rfl rfl rfl (by first | assumption | omega) ?_ | refine Nx.at_dec_f rfl rfl rfl rfl (by first | assumption | omega) ?_ | refine Nx.at_split rfl rfl rfl rfl (fun hc => ?_) (fun hc => ?_) | refine Nx.at_splitb rfl rfl rfl rfl (fun hc => ?_) (fun hc => ?_)))
      | ((with_reducible refine Nx.is_mix ?_); first | refine Nx.m ?_ | ((fail_if_success refine Nx.m_quiet_do rfl rfl rfl rfl rfl rfl rfl ?_ ?_); (fail_if_success refine Nx.m_loud_do rfl rfl rfl rfl rfl ?_); first | refine Nx.m_dec_t rfl rfl rfl rfl (by first | assumption | omega) ?_ | refine Nx.m_dec_f rfl rfl rfl rfl (by first | assumption | omega) ?_ | refine Nx.m_split rfl rfl rfl rfl (fun hc => ?_) (fun hc => ?_) | refine Nx.m_splitb rfl rfl rfl rfl (fun hc => ?_) (fun hc => ?_)))
      | ((fail_if_success (with_reducible refine Nx.is_at ?_)); (fail_if_success (with_reducible refine Nx.is_wp ?_)); (fail_if_success (with_reducible refine Nx.is_mix ?_)); first | refine Nx.ex ?_)
    rw [hm]
    refine Nx.p_loop (σ := Nat) (fun x => [(6, .slice Ar r.length cr), (7, strV who), (8, .int .i64 tt), (9, .bool false), (11, .int .i64 (x : Int))])
      (fun _ => [F]) (fun x => m ≤ x ∧ x ≤ 60) (fun x => 60 - x) m rfl ⟨Nat.le_refl _, by omega⟩ ⟨rfl, rfl, rfl, rfl, rfl, trivial⟩ (by (first | done | (repeat first | exact Ent.refl _ | exact Ent.nil _ | refine Ent.pick 0 rfl ?_ | refine Ent.pick 1 rfl ?_ | refine Ent.pick 2 rfl ?_ | refine Ent.pick 3 rfl ?_ | refine Ent.pick 4 rfl ?_ | refine Ent.pick 5 rfl ?_ | refine Ent.pick 6 rfl ?_ | refine Ent.pick 7 rfl ?_ | refine Ent.pick 8 rfl ?_ | refine Ent.pick 9 rfl ?_ | refine Ent.pick 10 rfl ?_ | refine Ent.pick 11 rfl ?_ | refine Ent.pick 12 rfl ?_ | refine Ent.pick 13 rfl ?_ | refine Ent.pick 14 rfl ?_))) ?_
    rintro x ⟨hmx, hx60⟩
    by_cases hlt : x < 60
    · repeat' first
        | ((with_reducible refine Nx.is_wp ?_); first | refine Nx.wo ?_ | refine Nx.p_dec rfl rfl (fun hc => ?_) (fun hc => ?_) | refine Nx.p_bool rfl rfl (fun hc => ?_) (fun hc => ?_))
        | ((first | refine Nx.at_op rfl rfl ?_ | refine Nx.m_loud rfl rfl rfl ?_ | refine Nx.at_do rfl rfl rfl rfl ?_ | refine Nx.m_loud_do rfl rfl rfl rfl rfl ?_); first | refine Nx.opr rfl rfl ?_ | refine Nx.so ?_ | refine Nx.sb (fun bx => ?_) | refine Nx.sa (fun A2 c2 => ?_))
        | ((with_reducible refine Nx.is_at ?_); first | refine Nx.a ?_ | ((fail_if_success refine Nx.at_do rfl rfl rfl rfl ?_); first | refine Nx.at_dec_t rfl rfl rfl rfl (by first | assumption | omega) ?_ | refine Nx.at_dec_f rfl rfl rfl rfl (by first | assumption | omega) ?_ | refine Nx.at_split rfl rfl rfl rfl (fun hc => ?_) (fun hc => ?_) | refine Nx.at_splitb rfl rfl rfl rfl (fun hc => ?_) (fun hc => ?_)))
        | ((with_reducible refine Nx.is_mix ?_); first | refine Nx.m ?_ | ((fail_if_success refine Nx.m_quiet_do rfl rfl rfl rfl rfl rfl rfl ?_ ?_); (fail_if_success refine Nx.m_loud_do rfl rfl rfl rfl rfl ?_); first | refine Nx.m_dec_t rfl rfl rfl rfl (by first | assumption | omega) ?_ | refine Nx.m_dec_f rfl rfl rfl rfl (by first | assumption | omega) ?_ | refine Nx.m_split rfl rfl rfl rfl (fun hc => ?_) (fun hc => ?_) | refine Nx.m_splitb rfl rfl rfl rfl (fun hc => ?_) (fun hc => ?_)))
        | ((fail_if_success (with_reducible refine Nx.is_at ?_)); (fail_if_success (with_reducible refine Nx.is_wp ?_)); (fail_if_success (with_reducible refine Nx.is_mix ?_)); first | refine Nx.ex ?_)
      refine Nx.at_op rfl rfl ?_
      refine Nx.call rfl rfl rfl (by kernel_rfl) rfl (On_spec2 Ar cr r x I1 hr hM.ok hE) (by (first | done | (repeat first | exact Ent.refl _ | exact Ent.nil _ | refine Ent.pick 0 rfl ?_ | refine Ent.pick 1 rfl ?_ | refine Ent.pick 2 rfl ?_ | refine Ent.pick 3 rfl ?_ | refine Ent.pick 4 rfl ?_ | refine Ent.pick 5 rfl ?_ | refine Ent.pick 6 rfl ?_ | refine Ent.pick 7 rfl ?_ | refine Ent.pick 8 rfl ?_ | refine Ent.pick 9 rfl ?_ | refine Ent.pick 10 rfl ?_ | refine Ent.pick 11 rfl ?_ | refine Ent.pick 12 rfl ?_ | refine Ent.pick 13 rfl ?_ | refine Ent.pick 14 rfl ?_))) ?_
      rintro _ R' ⟨A3, c3, rfl, rfl⟩
      refine Nx.freezeAt 0 rfl fun I2 m2 hI2 hm2 h2 => ?_
      have hT : Texts I2 A3 c3 (onT r x) := Vec.sliceOf hm2 h2
      have hol := onT_len r x
      have hcN : cntK who (onT r x) (onT r x).length = cntP r who x := by unfold cntK; rw [List.take_length]; rfl
      have hF2x := hF2 x (by omega)
      generalize onT r x = os at hT hol hcN ⊢
      repeat' first
        | ((with_reducible refine Nx.is_wp ?_); first | refine Nx.wo ?_ | refine Nx.p_dec rfl rfl (fun hc => ?_) (fun hc => ?_) | refine Nx.p_bool rfl rfl (fun hc => ?_) (fun hc => ?_))
        | ((first | refine Nx.at_op rfl rfl ?_ | refine Nx.m_loud rfl rfl rfl ?_ | refine Nx.at_do rfl rfl rfl rfl ?_ | refine Nx.m_loud_do rfl rfl rfl rfl rfl ?_); first | refine Nx.opr rfl rfl ?_ | refine Nx.so ?_ | refine Nx.sb (fun bx => ?_) | refine Nx.sa (fun A2 c2 => ?_))
        | ((with_reducible refine Nx.is_at ?_); first | refine Nx.a ?_ | ((fail_if_success refine Nx.at_do rfl rfl rfl rfl ?_); first | refine Nx.at_dec_t rfl rfl rfl rfl (by first | assumption | omega) ?_ | refine Nx.at_dec_f rfl rfl rfl rfl (by first | assumption | omega) ?_ | refine Nx.at_split rfl rfl rfl rfl (fun hc => ?_) (fun hc => ?_) | refine Nx.at_splitb rfl rfl rfl rfl (fun hc => ?_) (fun hc => ?_)))
        | ((with_reducible refine Nx.is_mix ?_); first | refine Nx.m ?_ | ((fail_if_success refine Nx.m_quiet_do rfl rfl rfl rfl rfl rfl rfl ?_ ?_); (fail_if_success refine Nx.m_loud_do rfl rfl rfl rfl rfl ?_); first | refine Nx.m_dec_t rfl rfl rfl rfl (by first | assumption | omega) ?_ | refine Nx.m_dec_f rfl rfl rfl rfl (by first | assumption | omega) ?_ | refine Nx.m_split rfl rfl rfl rfl (fun hc => ?_) (fun hc => ?_) | refine Nx.m_splitb rfl rfl rfl rfl (fun hc => ?_) (fun hc => ?_)))
        | ((fail_if_success (with_reducible refine Nx.is_at ?_)); (fail_if_success (with_reducible refine Nx.is_wp ?_)); (fail_if_success (with_reducible refine Nx.is_mix ?_)); first | refine Nx.ex ?_)
      refine Nx.p_loop (σ := Nat) (fun j => [(6, .slice Ar r.length cr), (7, strV who), (8, .int .i64 tt), (9, .bool false), (11, .int .i64 (x : Int)), (12, .int .i64 (cntK who os j : Int)), (52, .slice A3 os.length c3), (53, .int .i64 os.length), (54, .int .i64 (j : Int))])
        (fun _ => [F]) (fun j => j ≤ os.length) (fun j => os.length - j) 0 rfl (Nat.zero_le _) ⟨rfl, rfl, rfl, rfl, rfl, rfl, rfl, rfl, rfl, trivial⟩ (by (first | done | (repeat first | exact Ent.refl _ | exact Ent.nil _ | refine Ent.pick 0 rfl ?_ | refine Ent.pick 1 rfl ?_ | refine Ent.pick 2 rfl ?_ | refine Ent.pick 3 rfl ?_ | refine Ent.pick 4 rfl ?_ | refine Ent.pick 5 rfl ?_ | refine Ent.pick 6 rfl ?_ | refine Ent.pick 7 rfl ?_ | refine Ent.pick 8 rfl ?_ | refine Ent.pick 9 rfl ?_ | refine Ent.pick 10 rfl ?_ | refine Ent.pick 11 rfl ?_ | refine Ent.pick 12 rfl ?_ | refine Ent.pick 13 rfl ?_ | refine Ent.pick 14 rfl ?_))) ?_
      intro j hj
      have hcl := cntK_le who os j
      by_cases hjl : j < os.length
      · have hcs := cntK_succ (who := who) hjl
        repeat' first
          | ((with_reducible refine Nx.is_wp ?_); first | refine Nx.wo ?_ | refine Nx.p_dec rfl rfl (fun hc => ?_) (fun hc => ?_) | refine Nx.p_bool rfl rfl (fun hc => ?_) (fun hc => ?_))
          | ((first | refine Nx.at_op rfl rfl ?_ | refine Nx.m_loud rfl rfl rfl ?_ | refine Nx.at_do rfl rfl rfl rfl ?_ | refine Nx.m_loud_do rfl rfl rfl rfl rfl ?_); first | refine Nx.opr rfl rfl ?_ | refine Nx.indexAddr_nat rfl rfl rfl rfl rfl (by omega) (hT.isSome (by omega)) ?_ | refine Nx.load rfl rfl rfl (hT.rd (by omega)) ?_ | refine Nx.so ?_ | refine Nx.sb (fun bx => ?_) | refine Nx.sa (fun A2 c2 => ?_))
          | ((with_reducible refine Nx.is_at ?_); first | refine Nx.a ?_ | ((fail_if_success refine Nx.at_do rfl rfl rfl rfl ?_); first | refine Nx.at_dec_t rfl rfl rfl rfl (by first | assumption | omega) ?_ | refine Nx.at_dec_f rfl rfl rfl rfl (by first | assumption | omega) ?_ | refine Nx.at_split rfl rfl rfl rfl (fun hc => ?_) (fun hc => ?_) | refine Nx.at_splitb rfl rfl rfl rfl (fun hc => ?_) (fun hc => ?_)))
          | ((with_reducible refine Nx.is_mix ?_); first | refine Nx.m ?_ | ((fail_if_success refine Nx.m_quiet_do rfl rfl rfl rfl rfl rfl rfl ?_ ?_); (fail_if_success refine Nx.m_loud_do rfl rfl rfl rfl rfl ?_); first | refine Nx.m_dec_t rfl rfl rfl rfl (by first | assumption | omega) ?_ | refine Nx.m_dec_f rfl rfl rfl rfl (by first | assumption | omega) ?_ | refine Nx.m_split rfl rfl rfl rfl (fun hc => ?_) (fun hc => ?_) | refine Nx.m_splitb rfl rfl rfl rfl (fun hc => ?_) (fun hc => ?_)))
          | ((fail_if_success (with_reducible refine Nx.is_at ?_)); (fail_if_success (with_reducible refine Nx.is_wp ?_)); (fail_if_success (with_reducible refine Nx.is_mix ?_)); first | refine Nx.ex ?_)
        · rw [ByteArray.toList_mk, ByteArray.toList_mk] at hc
          have hc : (os.getD j default == who) = false := by rw [Bool.not_eq_true'] at hc; exact hc
          rw [if_neg (by rw [hc]; decide)] at hcs
          exact Nx.again (j + 1) hjl (by omega) ⟨rfl, rfl, rfl, rfl, rfl, by rw [hcs]; rfl, rfl, rfl, rfl, trivial⟩ (by (first | done | (repeat first | exact Ent.refl _ | exact Ent.nil _ | refine Ent.pick 0 rfl ?_ | refine Ent.pick 1 rfl ?_ | refine Ent.pick 2 rfl ?_ | refine Ent.pick 3 rfl ?_ | refine Ent.pick 4 rfl ?_ | refine Ent.pick 5 rfl ?_ | refine Ent.pick 6 rfl ?_ | refine Ent.pick 7 rfl ?_ | refine Ent.pick 8 rfl ?_ | refine Ent.pick 9 rfl ?_ | refine Ent.pick 10 rfl ?_ | refine Ent.pick 11 rfl ?_ | refine Ent.pick 12 rfl ?_ | refine Ent.pick 13 rfl ?_ | refine Ent.pick 14 rfl ?_)))
        · rw [ByteArray.toList_mk, ByteArray.toList_mk] at hc
          have hc : (os.getD j default == who) = true := by rw [Bool.not_eq_false'] at hc; exact hc
          rw [if_pos hc] at hcs
          exact Nx.again (j + 1) hjl (by omega) ⟨rfl, rfl, rfl, rfl, rfl, by rw [hcs]; rfl, rfl, rfl, rfl, trivial⟩ (by (first | done | (repeat first | exact Ent.refl _ | exact Ent.nil _ | refine Ent.pick 0 rfl ?_ | refine Ent.pick 1 rfl ?_ | refine Ent.pick 2 rfl ?_ | refine Ent.pick 3 rfl ?_ | refine Ent.pick 4 rfl ?_ | refine Ent.pick 5 rfl ?_ | refine Ent.pick 6 rfl ?_ | refine Ent.pick 7 rfl ?_ | refine Ent.pick 8 rfl ?_ | refine Ent.pick 9 rfl ?_ | refine Ent.pick 10 rfl ?_ | refine Ent.pick 11 rfl ?_ | refine Ent.pick 12 rfl ?_ | refine Ent.pick 13 rfl ?_ | refine Ent.pick 14 rfl ?_)))
      · obtain rfl : j = os.length := by omega
        rw [hcN] at hcl ⊢
        have hfA : ¬(2 ≤ cntP r who x) := fun h => by have := (hF2x h).1; cases this
        repeat' first
          | ((with_reducible refine Nx.is_wp ?_); first | refine Nx.wo ?_ | refine Nx.p_dec rfl rfl (fun hc => ?_) (fun hc => ?_) | refine Nx.p_bool rfl rfl (fun hc => ?_) (fun hc => ?_))
          | ((first | refine Nx.at_op rfl rfl ?_ | refine Nx.m_loud rfl rfl rfl ?_ | refine Nx.at_do rfl rfl rfl rfl ?_ | refine Nx.m_loud_do rfl rfl rfl rfl rfl ?_); first | refine Nx.opr rfl rfl ?_ | refine Nx.so ?_ | refine Nx.sb (fun bx => ?_) | refine Nx.sa (fun A2 c2 => ?_))
          | ((with_reducible refine Nx.is_at ?_); first | refine Nx.a ?_ | ((fail_if_success refine Nx.at_do rfl rfl rfl rfl ?_); first | refine Nx.at_dec_t rfl rfl rfl rfl (by first | assumption | omega) ?_ | refine Nx.at_dec_f rfl rfl rfl rfl (by first | assumption | omega) ?_ | refine Nx.at_split rfl rfl rfl rfl (fun hc => ?_) (fun hc => ?_) | refine Nx.at_splitb rfl rfl rfl rfl (fun hc => ?_) (fun hc => ?_)))
          | ((with_reducible refine Nx.is_mix ?_); first | refine Nx.m ?_ | ((fail_if_success refine Nx.m_quiet_do rfl rfl rfl rfl rfl rfl rfl ?_ ?_); (fail_if_success refine Nx.m_loud_do rfl rfl rfl rfl rfl ?_); first | refine Nx.m_dec_t rfl rfl rfl rfl (by first | assumption | omega) ?_ | refine Nx.m_dec_f rfl rfl rfl rfl (by first | assumption | omega) ?_ | refine Nx.m_split rfl rfl rfl rfl (fun hc => ?_) (fun hc => ?_) | refine Nx.m_splitb rfl rfl rfl rfl (fun hc => ?_) (fun hc => ?_)))
          | ((fail_if_success (with_reducible refine Nx.is_at ?_)); (fail_if_success (with_reducible refine Nx.is_wp ?_)); (fail_if_success (with_reducible refine Nx.is_mix ?_)); first | refine Nx.ex ?_)
        all_goals first
          | exact Nx.imm_le hI2 (Nx.again (x + 1) ⟨by omega, by omega⟩ (by omega) ⟨rfl, rfl, rfl, rfl, rfl, trivial⟩ (by (first | done | (repeat first | exact Ent.refl _ | exact Ent.nil _ | refine Ent.pick 0 rfl ?_ | refine Ent.pick 1 rfl ?_ | refine Ent.pick 2 rfl ?_ | refine Ent.pick 3 rfl ?_ | refine Ent.pick 4 rfl ?_ | refine Ent.pick 5 rfl ?_ | refine Ent.pick 6 rfl ?_ | refine Ent.pick 7 rfl ?_ | refine Ent.pick 8 rfl ?_ | refine Ent.pick 9 rfl ?_ | refine Ent.pick 10 rfl ?_ | refine Ent.pick 11 rfl ?_ | refine Ent.pick 12 rfl ?_ | refine Ent.pick 13 rfl ?_ | refine Ent.pick 14 rfl ?_))))
          | (exfalso; omega)
    · obtain rfl : x = 60 := by omega
      repeat' first
        | ((with_reducible refine Nx.is_wp ?_); first | refine Nx.wo ?_ | refine Nx.p_dec rfl rfl (fun hc => ?_) (fun hc => ?_) | refine Nx.p_bool rfl rfl (fun hc => ?_) (fun hc => ?_))
        | ((first | refine Nx.at_op rfl rfl ?_ | refine Nx.m_loud rfl rfl rfl ?_ | refine Nx.at_do rfl rfl rfl rfl ?_ | refine Nx.m_loud_do rfl rfl rfl rfl rfl ?_); first | refine Nx.opr rfl rfl ?_ | refine Nx.callv rfl rfl rfl (by kernel_rfl) rfl (awake_spec I1) ?_ | refine Nx.so ?_ | refine Nx.sb (fun bx => ?_) | refine Nx.sa (fun A2 c2 => ?_))
        | ((with_reducible refine Nx.is_at ?_); first | refine Nx.a ?_ | ((fail_if_success refine Nx.at_do rfl rfl rfl rfl ?_); first | refine Nx.at_dec_t rfl rfl rfl rfl (by first | assumption | omega) ?_ | refine Nx.at_dec_f rfl rfl rfl rfl (by first | assumption | omega) ?_ | refine Nx.at_split rfl rfl rfl rfl (fun hc => ?_) (fun hc => ?_) | refine Nx.at_splitb rfl rfl rfl rfl (fun hc => ?_) (fun hc => ?_)))
        | ((with_reducible refine Nx.is_mix ?_); first | refine Nx.m ?_ | ((fail_if_success refine Nx.m_quiet_do rfl rfl rfl rfl rfl rfl rfl ?_ ?_); (fail_if_success refine Nx.m_loud_do rfl rfl rfl rfl rfl ?_); first | refine Nx.m_dec_t rfl rfl rfl rfl (by first | assumption | omega) ?_ | refine Nx.m_dec_f rfl rfl rfl rfl (by first | assumption | omega) ?_ | refine Nx.m_split rfl rfl rfl rfl (fun hc => ?_) (fun hc => ?_) | refine Nx.m_splitb rfl rfl rfl rfl (fun hc => ?_) (fun hc => ?_)))
        | ((fail_if_success (with_reducible refine Nx.is_at ?_)); (fail_if_success (with_reducible refine Nx.is_wp ?_)); (fail_if_success (with_reducible refine Nx.is_mix ?_)); first | refine Nx.ex ?_)
      exact Nx.imm_le hI1 (Nx.ret_fn rfl [] ⟨rfl, rfl⟩ (by (first | done | (repeat first | exact Ent.refl _ | exact Ent.nil _ | refine Ent.pick 0 rfl ?_ | refine Ent.pick 1 rfl ?_ | refine Ent.pick 2 rfl ?_ | refine Ent.pick 3 rfl ?_ | refine Ent.pick 4 rfl ?_ | refine Ent.pick 5 rfl ?_ | refine Ent.pick 6 rfl ?_ | refine Ent.pick 7 rfl ?_ | refine Ent.pick 8 rfl ?_ | refine Ent.pick 9 rfl ?_ | refine Ent.pick 10 rfl ?_ | refine Ent.pick 11 rfl ?_ | refine Ent.pick 12 rfl ?_ | refine Ent.pick 13 rfl ?_ | refine Ent.pick 14 rfl ?_))))
end
end Go.Proofs.Ytaoeapmdhpkidaa
/- Contracts of functions of the given program, and lemmas about plain lists and numbers: what the laws of this seat lean on. -/
namespace Go.Proofs.Ytaoeapmdhpkidaa
open Go.Eng
structure IsSet (r : List Int) (p : Int → Prop) : Prop where
  asc : r.Pairwise (· < ·)
  mem : ∀ x, x ∈ r ↔ p x
theorem asc_ext : ∀ {a b : List Int}, a.Pairwise (· < ·) → b.Pairwise (· < ·) → (∀ x, x ∈ a ↔ x ∈ b) → a = b
  | [], [], _, _, _ => rfl
  | [], y :: s, _, _, h => by have := (h y).2 (by simp); cases this
  | x :: r, [], _, _, h => by have := (h x).1 (by simp); cases this
  | x :: r, y :: s, ha, hb, h => by
    rw [List.pairwise_cons] at ha hb
    have h1 : x = y := by
      have h2 := (h x).1 (by simp)
      have h3 := (h y).2 (by simp)
      rcases List.mem_cons.1 h2 with rfl | h2
      · rfl
      · rcases List.mem_cons.1 h3 with h3 | h3
        · exact h3.symm
        · have := ha.1 y h3; have := hb.1 x h2; omega
    subst h1
    rw [asc_ext ha.2 hb.2 (fun z => ?_)]
    have hz := h z
    simp only [List.mem_cons] at hz
    constructor
    · intro h4
      rcases hz.1 (.inr h4) with h5 | h5
      · have := ha.1 z h4; omega
      · exact h5
    · intro h4
      rcases hz.2 (.inr h4) with h5 | h5
      · have := hb.1 z h4; omega
      · exact h5
theorem IsSet.same {a b : List Int} {p q : Int → Prop} (ha : IsSet a p) (hb : IsSet b q) (h : ∀ x, p x ↔ q x) : a = b := asc_ext ha.asc hb.asc fun x => by rw [ha.mem, hb.mem, h]
theorem get_bang (l : List Int) (m : Nat) : l.toArray[m]! = l.getD m default := by
  by_cases h : m < l.length
  · rw [getElem!_pos l.toArray m (by simpa using h), List.getD_eq_getElem?_getD, List.getElem?_eq_getElem h]; simp
  · rw [getElem!_neg l.toArray m (by simpa using h), List.getD_eq_getElem?_getD, List.getElem?_eq_none (by omega)]; rfl
theorem getD_memI {l : List Int} {k : Nat} (h : k < l.length) : l.getD k default ∈ l := by
  rw [List.getD_eq_getElem?_getD, List.getElem?_eq_getElem h]; exact List.getElem_mem _
theorem mem_getDI {l : List Int} {x : Int} (h : x ∈ l) : ∃ k, k < l.length ∧ l.getD k default = x := by
  obtain ⟨k, hk, he⟩ := List.mem_iff_getElem.1 h
  exact ⟨k, hk, by rw [List.getD_eq_getElem?_getD, List.getElem?_eq_getElem hk]; exact he⟩
theorem sorted_at {l : List Int} (h : l.Pairwise (· ≤ ·)) {i j : Nat} (hij : i ≤ j) (hj : j < l.length) : l.getD i default ≤ l.getD j default := by
  rw [List.getD_eq_getElem?_getD, List.getD_eq_getElem?_getD, List.getElem?_eq_getElem (by omega), List.getElem?_eq_getElem hj]
  show l[i] ≤ l[j]
  rcases Nat.lt_or_ge i j with h1 | h1
  · exact (List.pairwise_iff_getElem.1 h) i j (by omega) hj h1
  · obtain rfl : i = j := by omega
    exact Int.le_refl _
theorem compactUpTo_set {l : List Int} (h : l.Pairwise (· ≤ ·)) : ∀ m, m ≤ l.length → (Lib.compactUpTo l.toArray m).Pairwise (· < ·) ∧ ∀ x, x ∈ Lib.compactUpTo l.toArray m ↔ ∃ j, j < m ∧ l.getD j default = x
  | 0, _ => ⟨by simp [Lib.compactUpTo], fun x => by simp [Lib.compactUpTo]⟩
  | m + 1, hm => by
    obtain ⟨h1, h2⟩ := compactUpTo_set h m (by omega)
    rw [Lib.compactUpTo_succ]
    by_cases hk : Lib.keeps l.toArray m = true
    · rw [if_pos hk, get_bang]
      have hlt : ∀ x ∈ Lib.compactUpTo l.toArray m, x < l.getD m default := fun x hx => by
        obtain ⟨j, hj, rfl⟩ := (h2 x).1 hx
        have hs := sorted_at h (i := j) (j := m - 1) (by omega) (by omega)
        have hs2 := sorted_at h (i := m - 1) (j := m) (by omega) (by omega)
        unfold Lib.keeps at hk
        rw [get_bang, get_bang] at hk
        simp at hk
        rcases hk with hk | hk
        · omega
        · have : l.getD m default ≠ l.getD (m - 1) default := by simpa [List.getD_eq_getElem?_getD] using hk
          omega
      refine ⟨List.pairwise_append.2 ⟨h1, by simp, fun a ha b hb => by simp at hb; rw [List.getD_eq_getElem?_getD] at hlt; subst hb; exact hlt a ha⟩, fun x => ?_⟩
      rw [List.mem_append, h2, List.mem_singleton]
      constructor
      · rintro (⟨j, hj, he⟩ | he)
        · exact ⟨j, by omega, he⟩
        · exact ⟨m, by omega, he.symm⟩
      · rintro ⟨j, hj, he⟩
        by_cases hjm : j = m
        · subst hjm; exact .inr he.symm
        · exact .inl ⟨j, by omega, he⟩
    · rw [if_neg hk, List.append_nil]
      refine ⟨h1, fun x => ?_⟩
      rw [h2]
      have hm0 : 0 < m := by
        rcases Nat.eq_zero_or_pos m with h0 | h0
        · subst h0; exact absurd (Lib.keeps_lt_one l.toArray 0 (by omega)) hk
        · exact h0
      have heq : l.getD m default = l.getD (m - 1) default := Decidable.byContradiction fun hne => hk (Lib.keeps_pos (by rw [get_bang, get_bang]; exact hne))
      constructor
      · rintro ⟨j, hj, he⟩; exact ⟨j, by omega, he⟩
      · rintro ⟨j, hj, he⟩
        by_cases hjm : j = m
        · subst hjm; exact ⟨j - 1, by omega, by rw [← he, heq]⟩
        · exact ⟨j, by omega, he⟩
theorem compact_set {l : List Int} (h : l.Pairwise (· ≤ ·)) : IsSet (Lib.compact l) (· ∈ l) := by
  obtain ⟨h1, h2⟩ := compactUpTo_set h l.length (Nat.le_refl _)
  refine ⟨h1, fun x => (h2 x).trans ⟨fun ⟨j, hj, he⟩ => he ▸ getD_memI hj, fun hx => ?_⟩⟩
  obtain ⟨k, hk, he⟩ := mem_getDI hx
  exact ⟨k, hk, he⟩
/-! Where the number on duty changes -/
def numN (l : List Shift) (t : Int) : Int := ((onT l t).length : Int)
theorem numN_filter (l : List Shift) (t : Int) : numN l t = ((l.filter (onB t)).length : Int) := by
  unfold numN
  rw [show (onT l t).length = (onP l t).length from srtT_len _]
  unfold onP
  rw [List.length_map]
theorem numN_same {l : List Shift} {t : Int} (h : ∀ x ∈ l, x.2.1 ≠ t ∧ x.2.2 ≠ t) : numN l t = numN l (t - 1) := by
  rw [numN_filter, numN_filter]
  congr 2
  refine List.filter_congr fun x hx => ?_
  have := h x hx
  unfold onB
  rw [decide_eq_decide]
  omega
/-- The number before a time: 0 before the first one. -/
def befN (l : List Shift) (a : Int) (k : Nat) : Int := if k = 0 then 0 else numN l (a + k - 1)
theorem befN_succ (l : List Shift) (a : Int) (k : Nat) : befN l a (k + 1) = numN l (a + k) := by
  unfold befN
  rw [if_neg (by omega)]
  congr 1
  omega
def cpL (l : List Shift) (a : Int) : Nat → List Int
  | 0 => []
  | k + 1 => cpL l a k ++ if numN l (a + k) ≠ befN l a k then [a + k, numN l (a + k)] else []
theorem cpL_succ (l : List Shift) (a : Int) (k : Nat) : cpL l a (k + 1) = cpL l a k ++ if numN l (a + k) ≠ befN l a k then [a + k, numN l (a + k)] else [] := rfl
theorem fold_skip {l : List Shift} {fr un : Int} : ∀ {ts : List Int} {s : List Int × Int}, (∀ t ∈ ts, t < fr ∨ un ≤ t) → ts.foldl (pairStep l fr un) s = s
  | [], s, _ => rfl
  | t :: ts, s, h => by
    rw [List.foldl_cons, show pairStep l fr un s t = s by unfold pairStep; rw [if_pos (h t List.mem_cons_self)], fold_skip (fun u hu => h u (List.mem_cons_of_mem _ hu))]
theorem filter_lt_succ : ∀ {ts : List Int} {T : Int}, ts.Pairwise (· < ·) → (ts.filter fun e => decide (e < T + 1)) = (ts.filter fun e => decide (e < T)) ++ if T ∈ ts then [T] else []
  | [], T, _ => by simp
  | t :: ts, T, h => by
    rw [List.pairwise_cons] at h
    have ih := filter_lt_succ (T := T) h.2
    by_cases h1 : t < T
    · rw [List.filter_cons_of_pos (by simp; omega), List.filter_cons_of_pos (by simp; omega), ih, List.cons_append]
      congr 2
      have : T ∈ t :: ts ↔ T ∈ ts := by
        rw [List.mem_cons]; exact ⟨fun h => h.resolve_left (by omega), .inr⟩
      simp only [this]
    · by_cases h2 : t = T
      · subst h2
        have hno : t ∉ ts := fun hm => by have := h.1 t hm; omega
        have e1 : (ts.filter fun e => decide (e < t)) = [] := by
          rw [List.filter_eq_nil_iff]; intro e he; have := h.1 e he; simp; omega
        rw [List.filter_cons_of_pos (by simp; omega), List.filter_cons_of_neg (by simp), ih, if_neg hno, if_pos List.mem_cons_self, e1]
        simp
      · have e1 : ∀ U : Int, U ≤ T + 1 → (ts.filter fun e => decide (e < U)) = [] := fun U hU => by
          rw [List.filter_eq_nil_iff]; intro e he; have := h.1 e he; simp; omega
        have hno : T ∉ t :: ts := fun hm => by
          rcases List.mem_cons.1 hm with hm | hm
          · omega
          · have := h.1 T hm; omega
        rw [List.filter_cons_of_neg (by simp; omega), List.filter_cons_of_neg (by simp; omega), e1 _ (by omega), e1 _ (by omega), if_neg hno]
        rfl
theorem fold_cp {l : List Shift} {a b : Int} {ts : List Int} (hs : ts.Pairwise (· < ·)) (ha : a ∈ ts) (hm : ∀ x ∈ l, x.2.1 ∈ ts ∧ x.2.2 ∈ ts) : ∀ k : Nat, a + k ≤ b →
    (ts.filter fun e => decide (e < a + k)).foldl (pairStep l a b) ([], 0) = (cpL l a k, befN l a k)
  | 0, _ => by
    rw [fold_skip fun t ht => by
      have := (List.mem_filter.1 ht).2
      simp at this
      exact .inl this]
    rfl
  | k + 1, hk => by
    have ih := fold_cp (b := b) hs ha hm k (by omega)
    rw [show a + ((k + 1 : Nat) : Int) = (a + k) + 1 by omega, filter_lt_succ hs, List.foldl_append, ih, befN_succ]
    by_cases hin : a + (k : Int) ∈ ts
    · rw [if_pos hin, List.foldl_cons, List.foldl_nil]
      unfold pairStep
      rw [if_neg (show ¬(a + (k : Int) < a ∨ b ≤ a + (k : Int)) by omega)]
      show (if numN l (a + k) ≠ befN l a k then _ else _) = _
      rw [cpL_succ]
      by_cases hne : numN l (a + k) ≠ befN l a k
      · rw [if_pos hne, if_pos hne]; rfl
      · rw [if_neg hne, if_neg hne, List.append_nil]
        have : numN l (a + k) = befN l a k := Decidable.not_not.1 hne
        rw [this]
    · rw [if_neg hin, List.foldl_nil]
      have hk0 : k ≠ 0 := fun h => by subst h; simp at hin; exact hin ha
      have hsame : numN l (a + k) = numN l (a + k - 1) := numN_same fun x hx => ⟨fun h => hin (h ▸ (hm x hx).1), fun h => hin (h ▸ (hm x hx).2)⟩
      have hb : befN l a k = numN l (a + k) := by unfold befN; rw [if_neg hk0, hsame]
      rw [cpL_succ]
      rw [hb, if_neg (by simp), List.append_nil]
theorem pairs_cp {l : List Shift} {a : Int} {n : Nat} : pairsP l a (a + n) = cpL l a n := by
  have hset := compact_set (srtL_asc (a :: l.flatMap fun x => [x.2.1, x.2.2]))
  have hmem : ∀ y, y ∈ pairTs l a ↔ y ∈ a :: l.flatMap fun x => [x.2.1, x.2.2] := fun y => (hset.mem y).trans srtL_mem
  have hasc : (pairTs l a).Pairwise (· < ·) := hset.asc
  have hm : ∀ x ∈ l, x.2.1 ∈ pairTs l a ∧ x.2.2 ∈ pairTs l a := fun x hx => by
    rw [hmem, hmem, List.mem_cons, List.mem_cons, List.mem_flatMap, List.mem_flatMap]
    exact ⟨.inr ⟨x, hx, by simp⟩, .inr ⟨x, hx, by simp⟩⟩
  have hf := fold_cp (b := a + n) hasc ((hmem a).2 List.mem_cons_self) hm n (Int.le_refl _)
  have hsplit : ∀ {ts : List Int} {T : Int}, ts.Pairwise (· < ·) → ts = (ts.filter fun e => decide (e < T)) ++ (ts.filter fun e => !(decide (e < T))) := by
    intro ts T hts
    induction ts with
    | nil => rfl
    | cons t ts ih =>
      rw [List.pairwise_cons] at hts
      by_cases h1 : t < T
      · rw [List.filter_cons_of_pos (by simp; omega), List.filter_cons_of_neg (by simp; omega), List.cons_append, ← ih hts.2]
      · have e1 : (ts.filter fun e => decide (e < T)) = [] := by
          rw [List.filter_eq_nil_iff]; intro e he; have := hts.1 e he; simp; omega
        have ih := ih hts.2
        rw [e1, List.nil_append] at ih
        rw [List.filter_cons_of_neg (by simp; omega), List.filter_cons_of_pos (by simp; omega), e1, List.nil_append, ← ih]
  unfold pairsP
  rw [hsplit (T := a + n) hasc, List.foldl_append, hf, fold_skip fun t ht => by
    have := (List.mem_filter.1 ht).2
    simp at this
    exact .inr this]
/-- What is left of the pairs from number k on. -/
def restL (l : List Shift) (a : Int) (n k : Nat) : List Int := (cpL l a n).drop (cpL l a k).length
theorem cpL_pre {l : List Shift} {a : Int} : ∀ {n k : Nat}, k ≤ n → ∃ r, cpL l a n = cpL l a k ++ r
  | 0, 0, _ => ⟨[], by simp⟩
  | 0, k + 1, h => by omega
  | n + 1, k, h => by
    by_cases hk : k = n + 1
    · subst hk; exact ⟨[], by simp⟩
    · obtain ⟨r, hr⟩ := cpL_pre (l := l) (a := a) (n := n) (k := k) (by omega)
      exact ⟨r ++ if numN l (a + n) ≠ befN l a n then [a + n, numN l (a + n)] else [], by rw [← List.append_assoc, ← hr]; rfl⟩
theorem restL_step {l : List Shift} {a : Int} {n k : Nat} (hk : k < n) : restL l a n k = (if numN l (a + k) ≠ befN l a k then [a + k, numN l (a + k)] else []) ++ restL l a n (k + 1) := by
  obtain ⟨r, hr⟩ := cpL_pre (l := l) (a := a) (n := n) (k := k + 1) (by omega)
  unfold restL
  rw [hr, List.drop_left]
  conv => lhs; rw [show cpL l a (k + 1) = cpL l a k ++ (if numN l (a + k) ≠ befN l a k then [a + k, numN l (a + k)] else []) from rfl, List.append_assoc, List.drop_left]
theorem restL_head {l : List Shift} {a : Int} : ∀ {n k : Nat}, k ≤ n → restL l a n k = [] ∨ ∃ t r, restL l a n k = t :: r ∧ a + k ≤ t
  | n, k, h => by
    by_cases hk : k = n
    · subst hk; left; unfold restL; exact List.drop_length
    · have hlt : k < n := by omega
      rw [restL_step hlt]
      by_cases hne : numN l (a + k) ≠ befN l a k
      · rw [if_pos hne]; exact .inr ⟨_, _, rfl, Int.le_refl _⟩
      · rw [if_neg hne, List.nil_append]
        rcases restL_head (l := l) (a := a) (n := n) (k := k + 1) (by omega) with h | ⟨t, r, h, h2⟩
        · exact .inl h
        · exact .inr ⟨t, r, h, by omega⟩
  termination_by n k => n - k
theorem restL_zero (l : List Shift) (a : Int) (n : Nat) : restL l a n 0 = cpL l a n := rfl
theorem cpL_even (l : List Shift) (a : Int) : ∀ n, ((cpL l a n).length : Int) % 2 = 0
  | 0 => rfl
  | n + 1 => by
    have ih := cpL_even l a n
    rw [cpL_succ, List.length_append]
    split
    · simp only [List.length_cons, List.length_nil]; omega
    · simp only [List.length_nil]; omega
theorem numN_bd (l : List Shift) (t : Int) : 0 ≤ numN l t ∧ numN l t ≤ l.length := by
  have := onT_len l t
  unfold numN
  omega
/-- Those on duty: ascending, each once. -/
theorem onT_strict {l : List Shift} (h : Rota l) (t : Int) : (onT l t).Pairwise (· < ·) := by
  have hnd : (onP l t).Pairwise (· ≠ ·) := by
    unfold onP
    rw [List.pairwise_map]
    have h2 := h.apart.filter (onB t)
    refine h2.imp_of_mem fun {a b} ha hb hab he => ?_
    have e1 := of_decide_eq_true (List.mem_filter.1 ha).2
    have e2 := of_decide_eq_true (List.mem_filter.1 hb).2
    unfold meetB at hab
    rw [he, beq_self_eq_true, Bool.true_and, decide_eq_false_iff_not] at hab
    omega
  have hnd2 : (onT l t).Pairwise (· ≠ ·) := (List.mergeSort_perm (onP l t) _).symm.nodup hnd
  have hs := srtT_asc (onP l t)
  refine (hs.and hnd2).imp fun {a b} ⟨h1, h2⟩ => ?_
  rcases str_tri a b with h3 | h3 | h3
  · exact h3
  · exact absurd h3 h2
  · exact absurd (List.le_antisymm h1 (List.le_of_lt h3)) h2
end Go.Proofs.Ytaoeapmdhpkidaa
/- Contracts of functions of the given program, and lemmas about plain lists and numbers: what the laws of this seat lean on. -/
namespace Go.Proofs.Ytaoeapmdhpkidaa
open Go.Eng
/-! The reference's lists: plain facts -/
def idxG {α : Type} (lt : α → α → Bool) (o : List α) (p : α) : Nat := o.findIdx fun y => !(lt y p)
def insG {α : Type} (lt : α → α → Bool) (o : List α) (p : α) : List α := o.take (idxG lt o p) ++ [p] ++ o.drop (idxG lt o p)
section
variable {α : Type} {lt : α → α → Bool}
theorem idxG_le (o : List α) (p : α) : idxG lt o p ≤ o.length := List.findIdx_le_length
theorem insG_cons (y : α) (o : List α) (p : α) : insG lt (y :: o) p = if lt y p = true then y :: insG lt o p else p :: y :: o := by
  unfold insG idxG
  rw [List.findIdx_cons]
  cases h : lt y p <;> simp
theorem insG_mem {x p : α} : ∀ {o : List α}, x ∈ insG lt o p ↔ x = p ∨ x ∈ o
  | [] => by simp [insG, idxG]
  | y :: o => by
    rw [insG_cons]
    split
    · rw [List.mem_cons, insG_mem, List.mem_cons]
      exact ⟨fun h => by rcases h with h | h | h; exact .inr (.inl h); exact .inl h; exact .inr (.inr h), fun h => by rcases h with h | h | h; exact .inr (.inl h); exact .inl h; exact .inr (.inr h)⟩
    · rw [List.mem_cons]
theorem insG_perm (o : List α) (p : α) : (o ++ [p]).Perm (insG lt o p) := by
  unfold insG
  generalize idxG lt o p = k
  have h : o ++ [p] = o.take k ++ (o.drop k ++ [p]) := by rw [← List.append_assoc, List.take_append_drop]
  rw [h, List.append_assoc]
  exact List.Perm.append_left _ List.perm_append_comm
theorem insG_len (o : List α) (p : α) : (insG lt o p).length = o.length + 1 := by
  have := (insG_perm (lt := lt) o p).length_eq
  rw [← this]; simp
end
def ltT (a b : List UInt8) : Bool := decide (a < b)
def ltI (a b : Int) : Bool := decide (a < b)
theorem insT_sorted {p : List UInt8} : ∀ {o : List (List UInt8)}, o.Pairwise (· ≤ ·) → (insG ltT o p).Pairwise (· ≤ ·)
  | [], _ => by simp [insG, idxG]
  | y :: o, h => by
    have h2 := List.pairwise_cons.1 h
    rw [insG_cons]
    split
    · rename_i hy
      have hy : y < p := of_decide_eq_true hy
      refine List.pairwise_cons.2 ⟨fun z hz => ?_, insT_sorted h2.2⟩
      rcases insG_mem.1 hz with rfl | hz
      · exact List.le_of_lt hy
      · exact h2.1 z hz
    · rename_i hy
      have hy : ¬ y < p := fun h => hy (decide_eq_true h)
      have hpy : p ≤ y := List.not_lt.1 hy
      refine List.pairwise_cons.2 ⟨fun z hz => ?_, h⟩
      rcases List.mem_cons.1 hz with rfl | hz
      · exact hpy
      · exact List.le_trans hpy (h2.1 z hz)
theorem onT_step {l : List Shift} {t : Int} {k : Nat} (hk : k < l.length) : onT (l.take (k + 1)) t = if onB t (l.getD k default) = true then insG ltT (onT (l.take k) t) (l.getD k default).1 else onT (l.take k) t := by
  unfold onT
  rw [onP_succ hk]
  split
  · refine srtT_eq (insT_sorted (srtT_asc _)) ?_
    exact (List.Perm.append_right _ (List.mergeSort_perm _ _).symm).trans (insG_perm _ _)
  · rfl
theorem insI_asc {p : Int} : ∀ {o : List Int}, o.Pairwise (· < ·) → p ∉ o → (insG ltI o p).Pairwise (· < ·)
  | [], _, _ => by simp [insG, idxG]
  | y :: o, h, hp => by
    have h2 := List.pairwise_cons.1 h
    have hne : p ≠ y := fun h => hp (h ▸ List.mem_cons_self)
    rw [insG_cons]
    split
    · rename_i hy
      have hy : y < p := of_decide_eq_true hy
      refine List.pairwise_cons.2 ⟨fun z hz => ?_, insI_asc h2.2 fun h => hp (List.mem_cons_of_mem _ h)⟩
      rcases insG_mem.1 hz with rfl | hz
      · exact hy
      · exact h2.1 z hz
    · rename_i hy
      have hy : ¬ y < p := fun h => hy (decide_eq_true h)
      refine List.pairwise_cons.2 ⟨fun z hz => ?_, h⟩
      rcases List.mem_cons.1 hz with rfl | hz
      · omega
      · have := h2.1 z hz; omega
theorem idxI_mem {p : Int} : ∀ {o : List Int}, o.Pairwise (· < ·) → (p ∈ o ↔ idxG ltI o p < o.length ∧ o.getD (idxG ltI o p) default = p)
  | [], _ => by simp
  | y :: o, h => by
    have h2 := List.pairwise_cons.1 h
    have ih := idxI_mem (p := p) h2.2
    have hi : idxG ltI (y :: o) p = if ltI y p = true then idxG ltI o p + 1 else 0 := by
      unfold idxG
      rw [List.findIdx_cons]
      cases ltI y p <;> rfl
    rw [hi]
    split
    · rename_i hy
      have hy : y < p := of_decide_eq_true hy
      rw [List.mem_cons, List.length_cons, List.getD_cons_succ]
      constructor
      · rintro (h | h)
        · omega
        · have := ih.1 h; exact ⟨by omega, this.2⟩
      · rintro ⟨h3, h4⟩
        exact .inr (ih.2 ⟨by omega, h4⟩)
    · rename_i hy
      have hy : ¬ y < p := fun h => hy (decide_eq_true h)
      rw [List.mem_cons, List.length_cons, List.getD_cons_zero]
      constructor
      · rintro (h | h)
        · exact ⟨by omega, h.symm⟩
        · have := h2.1 p h; omega
      · rintro ⟨_, h4⟩
        exact .inl h4.symm
/-- One time put among the times. -/
def timeStep (fr : Int) (o : List Int) (t : Int) : List Int := if fr < t ∧ t ∉ o then insG ltI o t else o
def timesL (l : List Shift) (fr : Int) : List Int := (l.flatMap fun x => [x.2.1, x.2.2]).foldl (timeStep fr) [fr]
theorem times_fold {fr : Int} : ∀ {ts o : List Int} {p : Int → Prop}, IsSet o p → IsSet (ts.foldl (timeStep fr) o) (fun t => p t ∨ (fr < t ∧ t ∈ ts))
  | [], o, p, h => ⟨h.asc, fun x => by rw [List.foldl_nil, h.mem]; simp⟩
  | t :: ts, o, p, h => by
    rw [List.foldl_cons]
    have h1 : IsSet (timeStep fr o t) (fun x => p x ∨ (fr < x ∧ x = t)) := by
      unfold timeStep
      split
      · rename_i hc
        exact ⟨insI_asc h.asc hc.2, fun x => by
          rw [insG_mem, h.mem]
          exact ⟨fun h => by rcases h with rfl | h; exact .inr ⟨hc.1, rfl⟩; exact .inl h, fun h => by rcases h with h | h; exact .inr h; exact .inl h.2⟩⟩
      · rename_i hc
        refine ⟨h.asc, fun x => ⟨fun hx => .inl ((h.mem x).1 hx), ?_⟩⟩
        rintro (hx | ⟨hx, rfl⟩)
        · exact (h.mem x).2 hx
        · exact Decidable.byContradiction fun hn => hc ⟨hx, hn⟩
    have h2 := times_fold (fr := fr) (ts := ts) h1
    refine ⟨h2.asc, fun x => (h2.mem x).trans ?_⟩
    rw [List.mem_cons]
    constructor
    · rintro ((h | ⟨h, h3⟩) | ⟨h, h3⟩)
      · exact .inl h
      · exact .inr ⟨h, .inl h3⟩
      · exact .inr ⟨h, .inr h3⟩
    · rintro (h | ⟨h, h3 | h3⟩)
      · exact .inl (.inl h)
      · exact .inl (.inr ⟨h, h3⟩)
      · exact .inr ⟨h, h3⟩
theorem times_set (l : List Shift) (fr : Int) : IsSet (timesL l fr) (fun t => t = fr ∨ (fr < t ∧ t ∈ l.flatMap fun x => [x.2.1, x.2.2])) :=
  times_fold (p := fun t => t = fr) ⟨by simp, fun x => by simp⟩
/-- The reference's pairs are the program's. -/
theorem pairs_times (l : List Shift) (fr un : Int) : pairsP l fr un = ((timesL l fr).foldl (pairStep l fr un) ([], 0)).1 := by
  have hset := compact_set (srtL_asc (fr :: l.flatMap fun x => [x.2.1, x.2.2]))
  have hmem : ∀ y, y ∈ pairTs l fr ↔ y ∈ fr :: l.flatMap fun x => [x.2.1, x.2.2] := fun y => (hset.mem y).trans srtL_mem
  have hf : (pairTs l fr).filter (fun t => decide (fr ≤ t)) = timesL l fr := by
    refine asc_ext (hset.asc.filter _) (times_set l fr).asc fun x => ?_
    rw [List.mem_filter, (times_set l fr).mem, hmem, List.mem_cons, decide_eq_true_eq]
    constructor
    · rintro ⟨h | h, h2⟩
      · exact .inl h
      · by_cases h3 : x = fr
        · exact .inl h3
        · exact .inr ⟨by omega, h⟩
    · rintro (h | ⟨h, h2⟩)
      · exact ⟨.inl h, by omega⟩
      · exact ⟨.inr h2, by omega⟩
  have hs : ∀ (ts : List Int) (s : List Int × Int), ts.foldl (pairStep l fr un) s = (ts.filter (fun t => decide (fr ≤ t))).foldl (pairStep l fr un) s := by
    intro ts
    induction ts with
    | nil => intro s; rfl
    | cons t ts ih =>
      intro s
      by_cases h : fr ≤ t
      · rw [List.filter_cons_of_pos (by simpa using h), List.foldl_cons, List.foldl_cons, ih]
      · rw [List.filter_cons_of_neg (by simpa using h), List.foldl_cons, ih, show pairStep l fr un s t = s by unfold pairStep; rw [if_pos (.inl (by omega))]]
  unfold pairsP
  rw [hs, hf]
/-- The reference's next time is the program's. -/
theorem next_times (l : List Shift) (who : List UInt8) (t0 : Int) : (timesL l t0).find? (fun t => decide (2 ≤ cntP l who t)) = nextP l who t0 := by
  have hT := times_set l t0
  have hTs : (timesL l t0).Pairwise (· ≤ ·) := hT.asc.imp fun h => by omega
  have hin : ∀ t, nextP l who t0 = some t → t ∈ timesL l t0 := fun t h => by
    have h0 := (next_sound h).1
    unfold nextP at h
    have h1 := srtL_mem.1 (List.mem_of_find?_eq_some h)
    rw [hT.mem]
    rcases List.mem_cons.1 h1 with h1 | h1
    · exact .inl h1
    · obtain ⟨x, hx, rfl⟩ := List.mem_map.1 h1
      by_cases h2 : x.2.1 = t0
      · exact .inl h2
      · exact .inr ⟨by omega, List.mem_flatMap.2 ⟨x, hx, by simp⟩⟩
  cases hb : (timesL l t0).find? (fun t => decide (2 ≤ cntP l who t)) with
  | none =>
    cases ha : nextP l who t0 with
    | none => rfl
    | some t =>
      obtain ⟨u, hu, _⟩ := find_sorted (p := fun t => decide (2 ≤ cntP l who t)) hTs (hin t ha) (decide_eq_true (next_sound ha).2)
      rw [hb] at hu; cases hu
  | some t' =>
    have h1 := List.mem_of_find?_eq_some hb
    have h2 : 2 ≤ cntP l who t' := by have := List.find?_some hb; simpa using this
    have h3 : t0 ≤ t' := by rcases (hT.mem t').1 h1 with h | h <;> omega
    obtain ⟨t, ha, hle⟩ := next_first h3 h2
    obtain ⟨u, hu, hle2⟩ := find_sorted (p := fun t => decide (2 ≤ cntP l who t)) hTs (hin t ha) (decide_eq_true (next_sound ha).2)
    rw [hb] at hu
    cases hu
    rw [ha]
    congr 1; omega
end Go.Proofs.Ytaoeapmdhpkidaa
/- Contracts of functions of the given program, and lemmas about plain lists and numbers: what the laws of this seat lean on. -/
namespace Go.Proofs.Ytaoeapmdhpkidaa
open Go.Eng
section
attribute [local irreducible] opK wpList Code.wp Exit.then Exit.inBlock fnPost bodyPost Nx Calls Oper.wp Rd Rds Wr Ent Stars Blk Again Vec FnSpec wpMix QRun Stop Upto wpAt
set_option maxRecDepth 10000 in
theorem ron_spec (x : Shift) (t : Int) (I : PH) : FnSpec Try.prog 80 [shV x, .int .i64 t] I [] (fun v R' => v = .bool (onB t x) ∧ R' = []) := by
  by_cases hp : onB t x = true
  · have hp' := of_decide_eq_true hp
    rw [hp]
    refine FnSpec.enterP Try.func80 rfl Try.ntmps80 rfl fun w F => ?_
    repeat' first
      | ((with_reducible refine Nx.is_wp ?_); first | refine Nx.wo ?_ | refine Nx.p_dec rfl rfl (fun hc => ?_) (fun hc => ?_) | refine Nx.p_bool rfl rfl (fun hc => ?_) (fun hc => ?_))
      | ((first | refine Nx.at_op rfl rfl ?_ | refine Nx.m_loud rfl rfl rfl ?_ | refine Nx.at_do rfl rfl rfl rfl ?_ | refine Nx.m_loud_do rfl rfl rfl rfl rfl ?_); first | refine Nx.opr rfl rfl ?_ | refine Nx.so ?_ | refine Nx.sb (fun bx => ?_) | refine Nx.sa (fun A2 c2 => ?_))
      | ((with_reducible refine Nx.is_at ?_); first | refine Nx.a ?_ | ((fail_if_success refine Nx.at_do rfl rfl rfl rfl ?_); first | refine Nx.at_dec_t rfl rfl rfl rfl (by first | assumption | omega) ?_ | refine Nx.at_dec_f rfl rfl rfl rfl (by first | assumption | omega) ?_ | refine Nx.at_split rfl rfl rfl rfl (fun hc => ?_) (fun hc => ?_) | refine Nx.at_splitb rfl rfl rfl rfl (fun hc => ?_) (fun hc => ?_)))
      | ((with_reducible refine Nx.is_mix ?_); first | refine Nx.m ?_ | ((fail_if_success refine Nx.m_quiet_do rfl rfl rfl rfl rfl rfl rfl ?_ ?_); (fail_if_success refine Nx.m_loud_do rfl rfl rfl rfl rfl ?_); first | refine Nx.m_dec_t rfl rfl rfl rfl (by first | assumption | omega) ?_ | refine Nx.m_dec_f rfl rfl rfl rfl (by first | assumption | omega) ?_ | refine Nx.m_split rfl rfl rfl rfl (fun hc => ?_) (fun hc => ?_) | refine Nx.m_splitb rfl rfl rfl rfl (fun hc => ?_) (fun hc => ?_)))
      | ((fail_if_success (with_reducible refine Nx.is_at ?_)); (fail_if_success (with_reducible refine Nx.is_wp ?_)); (fail_if_success (with_reducible refine Nx.is_mix ?_)); first | refine Nx.ex ?_)
    exact Nx.ret_fn rfl [] ⟨by first | rfl | simp [hp'], rfl⟩ (by (first | done | (repeat first | exact Ent.refl _ | exact Ent.nil _ | refine Ent.pick 0 rfl ?_ | refine Ent.pick 1 rfl ?_ | refine Ent.pick 2 rfl ?_ | refine Ent.pick 3 rfl ?_ | refine Ent.pick 4 rfl ?_ | refine Ent.pick 5 rfl ?_ | refine Ent.pick 6 rfl ?_ | refine Ent.pick 7 rfl ?_ | refine Ent.pick 8 rfl ?_ | refine Ent.pick 9 rfl ?_ | refine Ent.pick 10 rfl ?_ | refine Ent.pick 11 rfl ?_ | refine Ent.pick 12 rfl ?_ | refine Ent.pick 13 rfl ?_ | refine Ent.pick 14 rfl ?_)))
  · have hp0 : onB t x = false := by simpa using hp
    have hp' := of_decide_eq_false hp0
    rw [hp0]
    refine FnSpec.enterP Try.func80 rfl Try.ntmps80 rfl fun w F => ?_
    repeat' first
      | ((with_reducible refine Nx.is_wp ?_); first | refine Nx.wo ?_ | refine Nx.p_dec rfl rfl (fun hc => ?_) (fun hc => ?_) | refine Nx.p_bool rfl rfl (fun hc => ?_) (fun hc => ?_))
      | ((first | refine Nx.at_op rfl rfl ?_ | refine Nx.m_loud rfl rfl rfl ?_ | refine Nx.at_do rfl rfl rfl rfl ?_ | refine Nx.m_loud_do rfl rfl rfl rfl rfl ?_); first | refine Nx.opr rfl rfl ?_ | refine Nx.so ?_ | refine Nx.sb (fun bx => ?_) | refine Nx.sa (fun A2 c2 => ?_))
      | ((with_reducible refine Nx.is_at ?_); first | refine Nx.a ?_ | ((fail_if_success refine Nx.at_do rfl rfl rfl rfl ?_); first | refine Nx.at_dec_t rfl rfl rfl rfl (by first | assumption | omega) ?_ | refine Nx.at_dec_f rfl rfl rfl rfl (by first | assumption | omega) ?_ | refine Nx.at_split rfl rfl rfl rfl (fun hc => ?_) (fun hc => ?_) | refine Nx.at_splitb rfl rfl rfl rfl (fun hc => ?_) (fun hc => ?_)))
      | ((with_reducible refine Nx.is_mix ?_); first | refine Nx.m ?_ | ((fail_if_success refine Nx.m_quiet_do rfl rfl rfl rfl rfl rfl rfl ?_ ?_); (fail_if_success refine Nx.m_loud_do rfl rfl rfl rfl rfl ?_); first | refine Nx.m_dec_t rfl rfl rfl rfl (by first | assumption | omega) ?_ | refine Nx.m_dec_f rfl rfl rfl rfl (by first | assumption | omega) ?_ | refine Nx.m_split rfl rfl rfl rfl (fun hc => ?_) (fun hc => ?_) | refine Nx.m_splitb rfl rfl rfl rfl (fun hc => ?_) (fun hc => ?_)))
      | ((fail_if_success (with_reducible refine Nx.is_at ?_)); (fail_if_success (with_reducible refine Nx.is_wp ?_)); (fail_if_success (with_reducible refine Nx.is_mix ?_)); first | refine Nx.ex ?_)
    all_goals exact Nx.ret_fn rfl [] ⟨by first | rfl | (simp; omega), rfl⟩ (by (first | done | (repeat first | exact Ent.refl _ | exact Ent.nil _ | refine Ent.pick 0 rfl ?_ | refine Ent.pick 1 rfl ?_ | refine Ent.pick 2 rfl ?_ | refine Ent.pick 3 rfl ?_ | refine Ent.pick 4 rfl ?_ | refine Ent.pick 5 rfl ?_ | refine Ent.pick 6 rfl ?_ | refine Ent.pick 7 rfl ?_ | refine Ent.pick 8 rfl ?_ | refine Ent.pick 9 rfl ?_ | refine Ent.pick 10 rfl ?_ | refine Ent.pick 11 rfl ?_ | refine Ent.pick 12 rfl ?_ | refine Ent.pick 13 rfl ?_ | refine Ent.pick 14 rfl ?_)))
set_option maxRecDepth 10000 in
theorem Texts_spec (A B : Option Addr) (cp cq : Nat) (l r : List (List UInt8)) (I : PH) (hl : Texts I A cp l) (hr : Texts I B cq r) :
    FnSpec Try.prog 47 [.slice A l.length cp, .slice B r.length cq] I [] (fun v R' => v = .bool (decide (l = r)) ∧ R' = []) := by
  refine FnSpec.enterP Try.func47 rfl Try.ntmps47 rfl fun w F => ?_
  have h1 := hl.len
  repeat' first
    | ((with_reducible refine Nx.is_wp ?_); first | refine Nx.wo ?_ | refine Nx.p_dec rfl rfl (fun hc => ?_) (fun hc => ?_) | refine Nx.p_bool rfl rfl (fun hc => ?_) (fun hc => ?_))
    | ((first | refine Nx.at_op rfl rfl ?_ | refine Nx.m_loud rfl rfl rfl ?_ | refine Nx.at_do rfl rfl rfl rfl ?_ | refine Nx.m_loud_do rfl rfl rfl rfl rfl ?_); first | refine Nx.opr rfl rfl ?_ | refine Nx.so ?_ | refine Nx.sb (fun bx => ?_) | refine Nx.sa (fun A2 c2 => ?_))
    | ((with_reducible refine Nx.is_at ?_); first | refine Nx.a ?_ | ((fail_if_success refine Nx.at_do rfl rfl rfl rfl ?_); first | refine Nx.at_dec_t rfl rfl rfl rfl (by first | assumption | omega) ?_ | refine Nx.at_dec_f rfl rfl rfl rfl (by first | assumption | omega) ?_ | refine Nx.at_split rfl rfl rfl rfl (fun hc => ?_) (fun hc => ?_) | refine Nx.at_splitb rfl rfl rfl rfl (fun hc => ?_) (fun hc => ?_)))
    | ((with_reducible refine Nx.is_mix ?_); first | refine Nx.m ?_ | ((fail_if_success refine Nx.m_quiet_do rfl rfl rfl rfl rfl rfl rfl ?_ ?_); (fail_if_success refine Nx.m_loud_do rfl rfl rfl rfl rfl ?_); first | refine Nx.m_dec_t rfl rfl rfl rfl (by first | assumption | omega) ?_ | refine Nx.m_dec_f rfl rfl rfl rfl (by first | assumption | omega) ?_ | refine Nx.m_split rfl rfl rfl rfl (fun hc => ?_) (fun hc => ?_) | refine Nx.m_splitb rfl rfl rfl rfl (fun hc => ?_) (fun hc => ?_)))
    | ((fail_if_success (with_reducible refine Nx.is_at ?_)); (fail_if_success (with_reducible refine Nx.is_wp ?_)); (fail_if_success (with_reducible refine Nx.is_mix ?_)); first | refine Nx.ex ?_)
  · exact Nx.ret_fn rfl [] ⟨by rw [decide_eq_false]; intro h; rw [h] at hc; exact hc rfl, rfl⟩ (Ent.refl _)
  have hlen : l.length = r.length := by omega
  refine Nx.p_loop (σ := Nat) (fun k => [(0, .slice A l.length cp), (1, .slice B r.length cq), (12, .int .i64 l.length), (13, .int .i64 (k : Int))])
    (fun _ => [F]) (fun k => k ≤ l.length ∧ l.take k = r.take k) (fun k => l.length - k) 0 rfl ⟨Nat.zero_le _, by simp⟩ ⟨rfl, rfl, rfl, rfl, trivial⟩ (Ent.refl _) ?_
  rintro k ⟨hk, hsame⟩
  by_cases hlt : k < l.length
  · repeat' first
      | ((with_reducible refine Nx.is_wp ?_); first | refine Nx.wo ?_ | refine Nx.p_draw (id := 6) rfl [0, 1, 2, 3, 4, 5, 6, 7, 8] [] _ rfl rfl (by kernel_rfl) (by kernel_rfl) rfl (by repeat first | exact PanicOk.fn | refine PanicOk.then_ ?_ | refine PanicOk.inB ?_) (Ent.refl _) ?_ | refine Nx.p_dec rfl rfl (fun hc => ?_) (fun hc => ?_) | refine Nx.p_bool rfl rfl (fun hc => ?_) (fun hc => ?_))
      | ((first | refine Nx.at_op rfl rfl ?_ | refine Nx.m_loud rfl rfl rfl ?_ | refine Nx.at_do rfl rfl rfl rfl ?_ | refine Nx.m_loud_do rfl rfl rfl rfl rfl ?_); first | refine Nx.opr rfl rfl ?_ | refine Nx.so ?_ | refine Nx.sb (fun bx => ?_) | refine Nx.sa (fun A2 c2 => ?_))
      | ((with_reducible refine Nx.is_at ?_); first | refine Nx.a ?_ | ((fail_if_success refine Nx.at_do rfl rfl rfl rfl ?_); first | refine Nx.at_dec_t rfl rfl rfl rfl (by first | assumption | omega) ?_ | refine Nx.at_dec_f rfl rfl rfl rfl (by first | assumption | omega) ?_ | refine Nx.at_split rfl rfl rfl rfl (fun hc => ?_) (fun hc => ?_) | refine Nx.at_splitb rfl rfl rfl rfl (fun hc => ?_) (fun hc => ?_)))
      | ((with_reducible refine Nx.is_mix ?_); first | refine Nx.m_quiet rfl rfl rfl rfl rfl (by first | exact QRun.opr rfl | exact QRun.idx rfl rfl rfl rfl (by omega) (hl.isSome (by omega)) | exact QRun.idx rfl rfl rfl rfl (by omega) (hr.isSome (by omega)) | exact QRun.load rfl rfl (hl.rd (by omega)) | exact QRun.load rfl rfl (hr.rd (by omega))) ?_ | refine Nx.m_quiet_do rfl rfl rfl rfl rfl rfl rfl (by first | exact QRun.opr rfl | exact QRun.idx rfl rfl rfl rfl (by omega) (hl.isSome (by omega)) | exact QRun.idx rfl rfl rfl rfl (by omega) (hr.isSome (by omega)) | exact QRun.load rfl rfl (hl.rd (by omega)) | exact QRun.load rfl rfl (hr.rd (by omega))) ?_ | refine Nx.m ?_ | ((fail_if_success refine Nx.m_quiet_do rfl rfl rfl rfl rfl rfl rfl ?_ ?_); (fail_if_success refine Nx.m_loud_do rfl rfl rfl rfl rfl ?_); first | refine Nx.m_dec_t rfl rfl rfl rfl (by first | assumption | omega) ?_ | refine Nx.m_dec_f rfl rfl rfl rfl (by first | assumption | omega) ?_ | refine Nx.m_split rfl rfl rfl rfl (fun hc => ?_) (fun hc => ?_) | refine Nx.m_splitb rfl rfl rfl rfl (fun hc => ?_) (fun hc => ?_)))
      | ((fail_if_success (with_reducible refine Nx.is_at ?_)); (fail_if_success (with_reducible refine Nx.is_wp ?_)); (fail_if_success (with_reducible refine Nx.is_mix ?_)); first | refine Nx.ex ?_)
    · rw [ByteArray.toList_mk, ByteArray.toList_mk] at hc
      have hne : l ≠ r := fun h => by
        rw [h] at hc
        have hc : (!((r.getD k default) == (r.getD k default))) = true := hc
        rw [beq_self_eq_true] at hc
        cases hc
      exact Nx.ret_fn rfl [] ⟨by rw [decide_eq_false hne], rfl⟩ (Ent.refl _)
    · rw [ByteArray.toList_mk, ByteArray.toList_mk] at hc
      have hc : (!((l.getD k default) == (r.getD k default))) = false := hc
      rw [Bool.not_eq_false', beq_iff_eq] at hc
      refine Nx.again (k + 1) ⟨by omega, ?_⟩ (by omega) ⟨rfl, rfl, rfl, rfl, trivial⟩ (Ent.refl _)
      rw [List.take_succ_eq_append_getElem (by omega), List.take_succ_eq_append_getElem (by omega), hsame, ← tx_at (by omega), ← tx_at (by omega), hc]
  · obtain rfl : k = l.length := by omega
    repeat' first
      | ((with_reducible refine Nx.is_wp ?_); first | refine Nx.wo ?_ | refine Nx.p_dec rfl rfl (fun hc => ?_) (fun hc => ?_) | refine Nx.p_bool rfl rfl (fun hc => ?_) (fun hc => ?_))
      | ((first | refine Nx.at_op rfl rfl ?_ | refine Nx.m_loud rfl rfl rfl ?_ | refine Nx.at_do rfl rfl rfl rfl ?_ | refine Nx.m_loud_do rfl rfl rfl rfl rfl ?_); first | refine Nx.opr rfl rfl ?_ | refine Nx.so ?_ | refine Nx.sb (fun bx => ?_) | refine Nx.sa (fun A2 c2 => ?_))
      | ((with_reducible refine Nx.is_at ?_); first | refine Nx.a ?_ | ((fail_if_success refine Nx.at_do rfl rfl rfl rfl ?_); first | refine Nx.at_dec_t rfl rfl rfl rfl (by first | assumption | omega) ?_ | refine Nx.at_dec_f rfl rfl rfl rfl (by first | assumption | omega) ?_ | refine Nx.at_split rfl rfl rfl rfl (fun hc => ?_) (fun hc => ?_) | refine Nx.at_splitb rfl rfl rfl rfl (fun hc => ?_) (fun hc => ?_)))
      | ((with_reducible refine Nx.is_mix ?_); first | refine Nx.m ?_ | ((fail_if_success refine Nx.m_quiet_do rfl rfl rfl rfl rfl rfl rfl ?_ ?_); (fail_if_success refine Nx.m_loud_do rfl rfl rfl rfl rfl ?_); first | refine Nx.m_dec_t rfl rfl rfl rfl (by first | assumption | omega) ?_ | refine Nx.m_dec_f rfl rfl rfl rfl (by first | assumption | omega) ?_ | refine Nx.m_split rfl rfl rfl rfl (fun hc => ?_) (fun hc => ?_) | refine Nx.m_splitb rfl rfl rfl rfl (fun hc => ?_) (fun hc => ?_)))
      | ((fail_if_success (with_reducible refine Nx.is_at ?_)); (fail_if_success (with_reducible refine Nx.is_wp ?_)); (fail_if_success (with_reducible refine Nx.is_mix ?_)); first | refine Nx.ex ?_)
    rw [List.take_length, hlen, List.take_length] at hsame
    exact Nx.ret_fn rfl [] ⟨by rw [decide_eq_true hsame], rfl⟩ (Ent.refl _)
end
end Go.Proofs.Ytaoeapmdhpkidaa
/- Contracts of functions of the given program, and lemmas about plain lists and numbers: what the laws of this seat lean on. -/
namespace Go.Proofs.Ytaoeapmdhpkidaa
open Go.Eng
attribute [local irreducible] opK wpList Code.wp Exit.then Exit.inBlock fnPost bodyPost Nx Calls Oper.wp Rd Rds Wr Ent Stars Blk Again Vec FnSpec wpMix QRun Stop Upto wpAt
attribute [local irreducible] wpFork
theorem idxT_eq {o : List (List UInt8)} {p : List UInt8} {k : Nat} (hk : k ≤ o.length) (h1 : ∀ j, j < k → ltT (o.getD j default) p = true) (h2 : k < o.length → ltT (o.getD k default) p = false) : idxG ltT o p = k := by
  unfold idxG
  by_cases hlt : k < o.length
  · rw [List.findIdx_eq hlt]
    refine ⟨by have := h2 hlt; rw [tx_at hlt] at this; simp [this], fun j hj => ?_⟩
    have := h1 j hj
    rw [tx_at (by omega)] at this
    simp [this]
  · obtain rfl : k = o.length := by omega
    rw [List.findIdx_eq_length]
    intro y hy
    obtain ⟨j, hj, rfl⟩ := List.mem_iff_getElem.1 hy
    have := h1 j hj
    rw [tx_at hj] at this
    simp [this]
theorem insG_map {o : List (List UInt8)} {p : List UInt8} {k : Nat} (h : idxG ltT o p = k) : (insG ltT o p).map strV = (o.take k).map strV ++ [strV p] ++ (o.drop k).map strV := by
  unfold insG
  rw [h]
  simp
end Go.Proofs.Ytaoeapmdhpkidaa
/- Contracts of functions of the given program, and lemmas about plain lists and numbers: what the laws of this seat lean on. -/
namespace Go.Proofs.Ytaoeapmdhpkidaa
open Go.Eng
attribute [local irreducible] opK wpList Code.wp Exit.then Exit.inBlock fnPost bodyPost Nx Calls Oper.wp Rd Rds Wr Ent Stars Blk Again Vec FnSpec wpMix QRun Stop Upto wpAt
attribute [local irreducible] wpFork
set_option maxHeartbeats 4000000 in
set_option maxRecDepth 10000 in
theorem onIns (A1 : Option Addr) (c1 : Nat) (o : List (List UInt8)) (x : Shift) (vt vl vn vk : Value) (I : PH) (hT : Texts I A1 c1 o) (h9 : o.length ≤ 1000) (k : Nat) (hk : k ≤ o.length) (hi : idxG ltT o x.1 = k) (b7 : Nat) (w : World) (F : Res) (Q : Exit → Act → World → Prop) (hQ : PanicOk Q)
    (h : ∀ A4 c4, Nx ⟨Try.prog, 52, w⟩ [(1, vt), (5, .slice A4 (insG ltT o x.1).length c4), (12, vl), (13, vn), (14, vk)] I [textsR A4 c4 (insG ltT o x.1), F] (Q .normal)) :
    Nx ⟨Try.prog, 52, w⟩ [(1, vt), (5, .slice A1 o.length c1), (7, .pointer (some ⟨b7, 0, none⟩)), (8, .int .i64 (k : Int)), (12, vl), (13, vn), (14, vk)] I [Blk b7 40 (shC x), F]
      (Code.wp Try.prog (cr (cr (cr (cr (cl (cl (cr (cr (cl (cl (cr (cl (cr (cr (cr (bodyOf Try.f48)))))))))))))))) Q) := by
  have hcap := hT.cap
  have hins := insG_map hi
  have htk := hT.take k
  have htd := hT.drop hk
  refine Nx.p_fork (id := 11) rfl [1, 2, 3, 5, 6, 9, 10, 11] [13] [0, 4, 7, 8, 12] [Blk b7 40 (shC x)] 6 rfl rfl (by kernel_rfl) (by kernel_rfl) (by kernel_rfl) hQ (by (first | done | (repeat first | exact Ent.refl _ | exact Ent.nil _ | refine Ent.pick 0 rfl ?_ | refine Ent.pick 1 rfl ?_ | refine Ent.pick 2 rfl ?_ | refine Ent.pick 3 rfl ?_ | refine Ent.pick 4 rfl ?_ | refine Ent.pick 5 rfl ?_ | refine Ent.pick 6 rfl ?_ | refine Ent.pick 7 rfl ?_ | refine Ent.pick 8 rfl ?_ | refine Ent.pick 9 rfl ?_ | refine Ent.pick 10 rfl ?_ | refine Ent.pick 11 rfl ?_ | refine Ent.pick 12 rfl ?_ | refine Ent.pick 13 rfl ?_ | refine Ent.pick 14 rfl ?_))) ?_
  repeat' first
    | ((with_reducible refine Nx.is_wp ?_); first | refine Nx.wo ?_ | refine Nx.p_dec rfl rfl (fun hc => ?_) (fun hc => ?_) | refine Nx.p_bool rfl rfl (fun hc => ?_) (fun hc => ?_))
    | ((first | refine Nx.at_op rfl rfl ?_ | refine Nx.m_loud rfl rfl rfl ?_ | refine Nx.at_do rfl rfl rfl rfl ?_ | refine Nx.m_loud_do rfl rfl rfl rfl rfl ?_); first | refine Nx.opr rfl rfl ?_ | refine Nx.so ?_ | refine Nx.sb (fun bx => ?_) | refine Nx.sa (fun A2 c2 => ?_))
    | ((with_reducible refine Nx.is_at ?_); first | refine Nx.a ?_ | ((fail_if_success refine Nx.at_do rfl rfl rfl rfl ?_); first | refine Nx.at_dec_t rfl rfl rfl rfl (by first | assumption | omega) ?_ | refine Nx.at_dec_f rfl rfl rfl rfl (by first | assumption | omega) ?_ | refine Nx.at_split rfl rfl rfl rfl (fun hc => ?_) (fun hc => ?_) | refine Nx.at_splitb rfl rfl rfl rfl (fun hc => ?_) (fun hc => ?_)))
    | ((with_reducible refine Nx.is_mix ?_); first | refine Nx.m_quiet rfl rfl rfl rfl rfl (by first | exact QRun.opr rfl | exact QRun.slice_hi rfl rfl rfl rfl (by omega) | exact QRun.slice_lo rfl rfl rfl rfl (by omega) | exact QRun.load rfl rfl (Rd.at_ 0 rfl rfl)) ?_ | refine Nx.m_quiet_do rfl rfl rfl rfl rfl rfl rfl (by first | exact QRun.opr rfl | exact QRun.slice_hi rfl rfl rfl rfl (by omega) | exact QRun.slice_lo rfl rfl rfl rfl (by omega) | exact QRun.load rfl rfl (Rd.at_ 0 rfl rfl)) ?_ | refine Nx.m ?_ | ((fail_if_success refine Nx.m_quiet_do rfl rfl rfl rfl rfl rfl rfl ?_ ?_); (fail_if_success refine Nx.m_loud_do rfl rfl rfl rfl rfl ?_); first | refine Nx.m_dec_t rfl rfl rfl rfl (by first | assumption | omega) ?_ | refine Nx.m_dec_f rfl rfl rfl rfl (by first | assumption | omega) ?_ | refine Nx.m_split rfl rfl rfl rfl (fun hc => ?_) (fun hc => ?_) | refine Nx.m_splitb rfl rfl rfl rfl (fun hc => ?_) (fun hc => ?_)))
    | ((fail_if_success (with_reducible refine Nx.is_at ?_)); (fail_if_success (with_reducible refine Nx.is_wp ?_)); (fail_if_success (with_reducible refine Nx.is_mix ?_)); first | refine Nx.ex ?_)
  refine Nx.fork2 (i := 0) (j := 7) (by kernel_rfl) rfl rfl rfl rfl ?_ ?_
  · refine Nx.sb (fun b0 => ?_)
    refine Nx.mix_S (by (first | done | (repeat first | exact Ent.refl _ | exact Ent.nil _ | refine Ent.pick 0 rfl ?_ | refine Ent.pick 1 rfl ?_ | refine Ent.pick 2 rfl ?_ | refine Ent.pick 3 rfl ?_ | refine Ent.pick 4 rfl ?_ | refine Ent.pick 5 rfl ?_ | refine Ent.pick 6 rfl ?_ | refine Ent.pick 7 rfl ?_ | refine Ent.pick 8 rfl ?_ | refine Ent.pick 9 rfl ?_ | refine Ent.pick 10 rfl ?_ | refine Ent.pick 11 rfl ?_ | refine Ent.pick 12 rfl ?_ | refine Ent.pick 13 rfl ?_ | refine Ent.pick 14 rfl ?_))) ?_
    refine Nx.fork2 (i := 4) (j := 7) (by kernel_rfl) rfl rfl rfl rfl ?_ ?_
    · refine Nx.blk_vec 0 0 1 rfl rfl (by omega) ?_
      refine Nx.append rfl rfl rfl rfl (by kernel_rfl) rfl (Src.arr htk.arr (by rw [List.length_map, List.length_take]; omega) (by omega) (fun u hu => by obtain ⟨_, _, rfl⟩ := List.mem_map.1 hu; rfl)) (by omega) fun A2 c2 => ?_
      rw [Nat.zero_add, List.nil_append]
      refine Nx.mix_S (by (first | done | (repeat first | exact Ent.refl _ | exact Ent.nil _ | refine Ent.pick 0 rfl ?_ | refine Ent.pick 1 rfl ?_ | refine Ent.pick 2 rfl ?_ | refine Ent.pick 3 rfl ?_ | refine Ent.pick 4 rfl ?_ | refine Ent.pick 5 rfl ?_ | refine Ent.pick 6 rfl ?_ | refine Ent.pick 7 rfl ?_ | refine Ent.pick 8 rfl ?_ | refine Ent.pick 9 rfl ?_ | refine Ent.pick 10 rfl ?_ | refine Ent.pick 11 rfl ?_ | refine Ent.pick 12 rfl ?_ | refine Ent.pick 13 rfl ?_ | refine Ent.pick 14 rfl ?_))) ?_
      refine Nx.fork1 (i := 7) (by kernel_rfl) rfl rfl ?_
      refine Nx.sb (fun b6 => ?_)
      refine Nx.mix_S (by (first | done | (repeat first | exact Ent.refl _ | exact Ent.nil _ | refine Ent.pick 0 rfl ?_ | refine Ent.pick 1 rfl ?_ | refine Ent.pick 2 rfl ?_ | refine Ent.pick 3 rfl ?_ | refine Ent.pick 4 rfl ?_ | refine Ent.pick 5 rfl ?_ | refine Ent.pick 6 rfl ?_ | refine Ent.pick 7 rfl ?_ | refine Ent.pick 8 rfl ?_ | refine Ent.pick 9 rfl ?_ | refine Ent.pick 10 rfl ?_ | refine Ent.pick 11 rfl ?_ | refine Ent.pick 12 rfl ?_ | refine Ent.pick 13 rfl ?_ | refine Ent.pick 14 rfl ?_))) ?_
      refine Nx.fork1 (i := 8) (by kernel_rfl) rfl rfl ?_
      refine Nx.ent (R' := [Blk b6 9 [strV x.1], Vec 9 1 A2 k c2 ((o.take k).map strV), Blk b7 40 (shC x), F]) (by (first | done | (repeat first | exact Ent.refl _ | exact Ent.nil _ | refine Ent.pick 0 rfl ?_ | refine Ent.pick 1 rfl ?_ | refine Ent.pick 2 rfl ?_ | refine Ent.pick 3 rfl ?_ | refine Ent.pick 4 rfl ?_ | refine Ent.pick 5 rfl ?_ | refine Ent.pick 6 rfl ?_ | refine Ent.pick 7 rfl ?_ | refine Ent.pick 8 rfl ?_ | refine Ent.pick 9 rfl ?_ | refine Ent.pick 10 rfl ?_ | refine Ent.pick 11 rfl ?_ | refine Ent.pick 12 rfl ?_ | refine Ent.pick 13 rfl ?_ | refine Ent.pick 14 rfl ?_))) ?_
      refine Nx.append_lit 0 rfl rfl rfl rfl (by kernel_rfl) rfl rfl rfl rfl (by omega) fun A3 c3 => ?_
      refine Nx.mix_S (by (first | done | (repeat first | exact Ent.refl _ | exact Ent.nil _ | refine Ent.pick 0 rfl ?_ | refine Ent.pick 1 rfl ?_ | refine Ent.pick 2 rfl ?_ | refine Ent.pick 3 rfl ?_ | refine Ent.pick 4 rfl ?_ | refine Ent.pick 5 rfl ?_ | refine Ent.pick 6 rfl ?_ | refine Ent.pick 7 rfl ?_ | refine Ent.pick 8 rfl ?_ | refine Ent.pick 9 rfl ?_ | refine Ent.pick 10 rfl ?_ | refine Ent.pick 11 rfl ?_ | refine Ent.pick 12 rfl ?_ | refine Ent.pick 13 rfl ?_ | refine Ent.pick 14 rfl ?_))) ?_
      refine Nx.fork1 (i := 12) (by kernel_rfl) rfl rfl ?_
      refine Nx.append rfl rfl rfl rfl (by kernel_rfl) rfl (Src.arr htd.arr (by rw [List.length_map, List.length_drop]; omega) (by omega) (fun u hu => by obtain ⟨_, _, rfl⟩ := List.mem_map.1 hu; rfl)) (by omega) fun A4 c4 => ?_
      refine Nx.mix_S (by (first | done | (repeat first | exact Ent.refl _ | exact Ent.nil _ | refine Ent.pick 0 rfl ?_ | refine Ent.pick 1 rfl ?_ | refine Ent.pick 2 rfl ?_ | refine Ent.pick 3 rfl ?_ | refine Ent.pick 4 rfl ?_ | refine Ent.pick 5 rfl ?_ | refine Ent.pick 6 rfl ?_ | refine Ent.pick 7 rfl ?_ | refine Ent.pick 8 rfl ?_ | refine Ent.pick 9 rfl ?_ | refine Ent.pick 10 rfl ?_ | refine Ent.pick 11 rfl ?_ | refine Ent.pick 12 rfl ?_ | refine Ent.pick 13 rfl ?_ | refine Ent.pick 14 rfl ?_))) ?_
      refine Nx.fork_fin (by kernel_rfl) rfl ?_
      repeat' first
        | ((with_reducible refine Nx.is_wp ?_); first | refine Nx.wo ?_ | refine Nx.p_dec rfl rfl (fun hc => ?_) (fun hc => ?_) | refine Nx.p_bool rfl rfl (fun hc => ?_) (fun hc => ?_))
        | ((first | refine Nx.at_op rfl rfl ?_ | refine Nx.m_loud rfl rfl rfl ?_ | refine Nx.at_do rfl rfl rfl rfl ?_ | refine Nx.m_loud_do rfl rfl rfl rfl rfl ?_); first | refine Nx.opr rfl rfl ?_ | refine Nx.so ?_ | refine Nx.sb (fun bx => ?_) | refine Nx.sa (fun A2 c2 => ?_))
        | ((with_reducible refine Nx.is_at ?_); first | refine Nx.a ?_ | ((fail_if_success refine Nx.at_do rfl rfl rfl rfl ?_); first | refine Nx.at_dec_t rfl rfl rfl rfl (by first | assumption | omega) ?_ | refine Nx.at_dec_f rfl rfl rfl rfl (by first | assumption | omega) ?_ | refine Nx.at_split rfl rfl rfl rfl (fun hc => ?_) (fun hc => ?_) | refine Nx.at_splitb rfl rfl rfl rfl (fun hc => ?_) (fun hc => ?_)))
        | ((with_reducible refine Nx.is_mix ?_); first | refine Nx.m ?_ | ((fail_if_success refine Nx.m_quiet_do rfl rfl rfl rfl rfl rfl rfl ?_ ?_); (fail_if_success refine Nx.m_loud_do rfl rfl rfl rfl rfl ?_); first | refine Nx.m_dec_t rfl rfl rfl rfl (by first | assumption | omega) ?_ | refine Nx.m_dec_f rfl rfl rfl rfl (by first | assumption | omega) ?_ | refine Nx.m_split rfl rfl rfl rfl (fun hc => ?_) (fun hc => ?_) | refine Nx.m_splitb rfl rfl rfl rfl (fun hc => ?_) (fun hc => ?_)))
        | ((fail_if_success (with_reducible refine Nx.is_at ?_)); (fail_if_success (with_reducible refine Nx.is_wp ?_)); (fail_if_success (with_reducible refine Nx.is_mix ?_)); first | refine Nx.ex ?_)
      have hA : (o.take k).map strV ++ [strV x.1] ++ (o.drop k).map strV = (insG ltT o x.1).map strV := hins.symm
      rw [hA, show k + 1 + (o.length - k) = (insG ltT o x.1).length by rw [insG_len]; omega]
      refine Nx.weak ?_ ?_ (h A4 c4)
      · exact ⟨rfl, rfl, rfl, rfl, rfl, trivial⟩
      · (first | done | (repeat first | exact Ent.refl _ | exact Ent.nil _ | refine Ent.pick 0 rfl ?_ | refine Ent.pick 1 rfl ?_ | refine Ent.pick 2 rfl ?_ | refine Ent.pick 3 rfl ?_ | refine Ent.pick 4 rfl ?_ | refine Ent.pick 5 rfl ?_ | refine Ent.pick 6 rfl ?_ | refine Ent.pick 7 rfl ?_ | refine Ent.pick 8 rfl ?_ | refine Ent.pick 9 rfl ?_ | refine Ent.pick 10 rfl ?_ | refine Ent.pick 11 rfl ?_ | refine Ent.pick 12 rfl ?_ | refine Ent.pick 13 rfl ?_ | refine Ent.pick 14 rfl ?_))
    · refine Nx.sb (fun b6 => ?_)
      refine Nx.mix_S (by (first | done | (repeat first | exact Ent.refl _ | exact Ent.nil _ | refine Ent.pick 0 rfl ?_ | refine Ent.pick 1 rfl ?_ | refine Ent.pick 2 rfl ?_ | refine Ent.pick 3 rfl ?_ | refine Ent.pick 4 rfl ?_ | refine Ent.pick 5 rfl ?_ | refine Ent.pick 6 rfl ?_ | refine Ent.pick 7 rfl ?_ | refine Ent.pick 8 rfl ?_ | refine Ent.pick 9 rfl ?_ | refine Ent.pick 10 rfl ?_ | refine Ent.pick 11 rfl ?_ | refine Ent.pick 12 rfl ?_ | refine Ent.pick 13 rfl ?_ | refine Ent.pick 14 rfl ?_))) ?_
      refine Nx.fork1 (i := 4) (by kernel_rfl) rfl rfl ?_
      refine Nx.blk_vec 1 0 1 rfl rfl (by omega) ?_
      refine Nx.append rfl rfl rfl rfl (by kernel_rfl) rfl (Src.arr htk.arr (by rw [List.length_map, List.length_take]; omega) (by omega) (fun u hu => by obtain ⟨_, _, rfl⟩ := List.mem_map.1 hu; rfl)) (by omega) fun A2 c2 => ?_
      rw [Nat.zero_add, List.nil_append]
      refine Nx.mix_S (by (first | done | (repeat first | exact Ent.refl _ | exact Ent.nil _ | refine Ent.pick 0 rfl ?_ | refine Ent.pick 1 rfl ?_ | refine Ent.pick 2 rfl ?_ | refine Ent.pick 3 rfl ?_ | refine Ent.pick 4 rfl ?_ | refine Ent.pick 5 rfl ?_ | refine Ent.pick 6 rfl ?_ | refine Ent.pick 7 rfl ?_ | refine Ent.pick 8 rfl ?_ | refine Ent.pick 9 rfl ?_ | refine Ent.pick 10 rfl ?_ | refine Ent.pick 11 rfl ?_ | refine Ent.pick 12 rfl ?_ | refine Ent.pick 13 rfl ?_ | refine Ent.pick 14 rfl ?_))) ?_
      refine Nx.fork1 (i := 8) (by kernel_rfl) rfl rfl ?_
      refine Nx.ent (R' := [Blk b6 9 [strV x.1], Vec 9 1 A2 k c2 ((o.take k).map strV), Blk b7 40 (shC x), F]) (by (first | done | (repeat first | exact Ent.refl _ | exact Ent.nil _ | refine Ent.pick 0 rfl ?_ | refine Ent.pick 1 rfl ?_ | refine Ent.pick 2 rfl ?_ | refine Ent.pick 3 rfl ?_ | refine Ent.pick 4 rfl ?_ | refine Ent.pick 5 rfl ?_ | refine Ent.pick 6 rfl ?_ | refine Ent.pick 7 rfl ?_ | refine Ent.pick 8 rfl ?_ | refine Ent.pick 9 rfl ?_ | refine Ent.pick 10 rfl ?_ | refine Ent.pick 11 rfl ?_ | refine Ent.pick 12 rfl ?_ | refine Ent.pick 13 rfl ?_ | refine Ent.pick 14 rfl ?_))) ?_
      refine Nx.append_lit 0 rfl rfl rfl rfl (by kernel_rfl) rfl rfl rfl rfl (by omega) fun A3 c3 => ?_
      refine Nx.mix_S (by (first | done | (repeat first | exact Ent.refl _ | exact Ent.nil _ | refine Ent.pick 0 rfl ?_ | refine Ent.pick 1 rfl ?_ | refine Ent.pick 2 rfl ?_ | refine Ent.pick 3 rfl ?_ | refine Ent.pick 4 rfl ?_ | refine Ent.pick 5 rfl ?_ | refine Ent.pick 6 rfl ?_ | refine Ent.pick 7 rfl ?_ | refine Ent.pick 8 rfl ?_ | refine Ent.pick 9 rfl ?_ | refine Ent.pick 10 rfl ?_ | refine Ent.pick 11 rfl ?_ | refine Ent.pick 12 rfl ?_ | refine Ent.pick 13 rfl ?_ | refine Ent.pick 14 rfl ?_))) ?_
      refine Nx.fork1 (i := 12) (by kernel_rfl) rfl rfl ?_
      refine Nx.append rfl rfl rfl rfl (by kernel_rfl) rfl (Src.arr htd.arr (by rw [List.length_map, List.length_drop]; omega) (by omega) (fun u hu => by obtain ⟨_, _, rfl⟩ := List.mem_map.1 hu; rfl)) (by omega) fun A4 c4 => ?_
      refine Nx.mix_S (by (first | done | (repeat first | exact Ent.refl _ | exact Ent.nil _ | refine Ent.pick 0 rfl ?_ | refine Ent.pick 1 rfl ?_ | refine Ent.pick 2 rfl ?_ | refine Ent.pick 3 rfl ?_ | refine Ent.pick 4 rfl ?_ | refine Ent.pick 5 rfl ?_ | refine Ent.pick 6 rfl ?_ | refine Ent.pick 7 rfl ?_ | refine Ent.pick 8 rfl ?_ | refine Ent.pick 9 rfl ?_ | refine Ent.pick 10 rfl ?_ | refine Ent.pick 11 rfl ?_ | refine Ent.pick 12 rfl ?_ | refine Ent.pick 13 rfl ?_ | refine Ent.pick 14 rfl ?_))) ?_
      refine Nx.fork_fin (by kernel_rfl) rfl ?_
      repeat' first
        | ((with_reducible refine Nx.is_wp ?_); first | refine Nx.wo ?_ | refine Nx.p_dec rfl rfl (fun hc => ?_) (fun hc => ?_) | refine Nx.p_bool rfl rfl (fun hc => ?_) (fun hc => ?_))
        | ((first | refine Nx.at_op rfl rfl ?_ | refine Nx.m_loud rfl rfl rfl ?_ | refine Nx.at_do rfl rfl rfl rfl ?_ | refine Nx.m_loud_do rfl rfl rfl rfl rfl ?_); first | refine Nx.opr rfl rfl ?_ | refine Nx.so ?_ | refine Nx.sb (fun bx => ?_) | refine Nx.sa (fun A2 c2 => ?_))
        | ((with_reducible refine Nx.is_at ?_); first | refine Nx.a ?_ | ((fail_if_success refine Nx.at_do rfl rfl rfl rfl ?_); first | refine Nx.at_dec_t rfl rfl rfl rfl (by first | assumption | omega) ?_ | refine Nx.at_dec_f rfl rfl rfl rfl (by first | assumption | omega) ?_ | refine Nx.at_split rfl rfl rfl rfl (fun hc => ?_) (fun hc => ?_) | refine Nx.at_splitb rfl rfl rfl rfl (fun hc => ?_) (fun hc => ?_)))
        | ((with_reducible refine Nx.is_mix ?_); first | refine Nx.m ?_ | ((fail_if_success refine Nx.m_quiet_do rfl rfl rfl rfl rfl rfl rfl ?_ ?_); (fail_if_success refine Nx.m_loud_do rfl rfl rfl rfl rfl ?_); first | refine Nx.m_dec_t rfl rfl rfl rfl (by first | assumption | omega) ?_ | refine Nx.m_dec_f rfl rfl rfl rfl (by first | assumption | omega) ?_ | refine Nx.m_split rfl rfl rfl rfl (fun hc => ?_) (fun hc => ?_) | refine Nx.m_splitb rfl rfl rfl rfl (fun hc => ?_) (fun hc => ?_)))
        | ((fail_if_success (with_reducible refine Nx.is_at ?_)); (fail_if_success (with_reducible refine Nx.is_wp ?_)); (fail_if_success (with_reducible refine Nx.is_mix ?_)); first | refine Nx.ex ?_)
      have hA : (o.take k).map strV ++ [strV x.1] ++ (o.drop k).map strV = (insG ltT o x.1).map strV := hins.symm
      rw [hA, show k + 1 + (o.length - k) = (insG ltT o x.1).length by rw [insG_len]; omega]
      refine Nx.weak ?_ ?_ (h A4 c4)
      · exact ⟨rfl, rfl, rfl, rfl, rfl, trivial⟩
      · (first | done | (repeat first | exact Ent.refl _ | exact Ent.nil _ | refine Ent.pick 0 rfl ?_ | refine Ent.pick 1 rfl ?_ | refine Ent.pick 2 rfl ?_ | refine Ent.pick 3 rfl ?_ | refine Ent.pick 4 rfl ?_ | refine Ent.pick 5 rfl ?_ | refine Ent.pick 6 rfl ?_ | refine Ent.pick 7 rfl ?_ | refine Ent.pick 8 rfl ?_ | refine Ent.pick 9 rfl ?_ | refine Ent.pick 10 rfl ?_ | refine Ent.pick 11 rfl ?_ | refine Ent.pick 12 rfl ?_ | refine Ent.pick 13 rfl ?_ | refine Ent.pick 14 rfl ?_))
  · refine Nx.sb (fun b6 => ?_)
    refine Nx.mix_S (by (first | done | (repeat first | exact Ent.refl _ | exact Ent.nil _ | refine Ent.pick 0 rfl ?_ | refine Ent.pick 1 rfl ?_ | refine Ent.pick 2 rfl ?_ | refine Ent.pick 3 rfl ?_ | refine Ent.pick 4 rfl ?_ | refine Ent.pick 5 rfl ?_ | refine Ent.pick 6 rfl ?_ | refine Ent.pick 7 rfl ?_ | refine Ent.pick 8 rfl ?_ | refine Ent.pick 9 rfl ?_ | refine Ent.pick 10 rfl ?_ | refine Ent.pick 11 rfl ?_ | refine Ent.pick 12 rfl ?_ | refine Ent.pick 13 rfl ?_ | refine Ent.pick 14 rfl ?_))) ?_
    refine Nx.fork1 (i := 0) (by kernel_rfl) rfl rfl ?_
    refine Nx.sb (fun b0 => ?_)
    refine Nx.mix_S (by (first | done | (repeat first | exact Ent.refl _ | exact Ent.nil _ | refine Ent.pick 0 rfl ?_ | refine Ent.pick 1 rfl ?_ | refine Ent.pick 2 rfl ?_ | refine Ent.pick 3 rfl ?_ | refine Ent.pick 4 rfl ?_ | refine Ent.pick 5 rfl ?_ | refine Ent.pick 6 rfl ?_ | refine Ent.pick 7 rfl ?_ | refine Ent.pick 8 rfl ?_ | refine Ent.pick 9 rfl ?_ | refine Ent.pick 10 rfl ?_ | refine Ent.pick 11 rfl ?_ | refine Ent.pick 12 rfl ?_ | refine Ent.pick 13 rfl ?_ | refine Ent.pick 14 rfl ?_))) ?_
    refine Nx.fork1 (i := 4) (by kernel_rfl) rfl rfl ?_
    refine Nx.blk_vec 0 0 1 rfl rfl (by omega) ?_
    refine Nx.append rfl rfl rfl rfl (by kernel_rfl) rfl (Src.arr htk.arr (by rw [List.length_map, List.length_take]; omega) (by omega) (fun u hu => by obtain ⟨_, _, rfl⟩ := List.mem_map.1 hu; rfl)) (by omega) fun A2 c2 => ?_
    rw [Nat.zero_add, List.nil_append]
    refine Nx.mix_S (by (first | done | (repeat first | exact Ent.refl _ | exact Ent.nil _ | refine Ent.pick 0 rfl ?_ | refine Ent.pick 1 rfl ?_ | refine Ent.pick 2 rfl ?_ | refine Ent.pick 3 rfl ?_ | refine Ent.pick 4 rfl ?_ | refine Ent.pick 5 rfl ?_ | refine Ent.pick 6 rfl ?_ | refine Ent.pick 7 rfl ?_ | refine Ent.pick 8 rfl ?_ | refine Ent.pick 9 rfl ?_ | refine Ent.pick 10 rfl ?_ | refine Ent.pick 11 rfl ?_ | refine Ent.pick 12 rfl ?_ | refine Ent.pick 13 rfl ?_ | refine Ent.pick 14 rfl ?_))) ?_
    refine Nx.fork1 (i := 8) (by kernel_rfl) rfl rfl ?_
    refine Nx.ent (R' := [Blk b6 9 [strV x.1], Vec 9 1 A2 k c2 ((o.take k).map strV), Blk b7 40 (shC x), F]) (by (first | done | (repeat first | exact Ent.refl _ | exact Ent.nil _ | refine Ent.pick 0 rfl ?_ | refine Ent.pick 1 rfl ?_ | refine Ent.pick 2 rfl ?_ | refine Ent.pick 3 rfl ?_ | refine Ent.pick 4 rfl ?_ | refine Ent.pick 5 rfl ?_ | refine Ent.pick 6 rfl ?_ | refine Ent.pick 7 rfl ?_ | refine Ent.pick 8 rfl ?_ | refine Ent.pick 9 rfl ?_ | refine Ent.pick 10 rfl ?_ | refine Ent.pick 11 rfl ?_ | refine Ent.pick 12 rfl ?_ | refine Ent.pick 13 rfl ?_ | refine Ent.pick 14 rfl ?_))) ?_
    refine Nx.append_lit 0 rfl rfl rfl rfl (by kernel_rfl) rfl rfl rfl rfl (by omega) fun A3 c3 => ?_
    refine Nx.mix_S (by (first | done | (repeat first | exact Ent.refl _ | exact Ent.nil _ | refine Ent.pick 0 rfl ?_ | refine Ent.pick 1 rfl ?_ | refine Ent.pick 2 rfl ?_ | refine Ent.pick 3 rfl ?_ | refine Ent.pick 4 rfl ?_ | refine Ent.pick 5 rfl ?_ | refine Ent.pick 6 rfl ?_ | refine Ent.pick 7 rfl ?_ | refine Ent.pick 8 rfl ?_ | refine Ent.pick 9 rfl ?_ | refine Ent.pick 10 rfl ?_ | refine Ent.pick 11 rfl ?_ | refine Ent.pick 12 rfl ?_ | refine Ent.pick 13 rfl ?_ | refine Ent.pick 14 rfl ?_))) ?_
    refine Nx.fork1 (i := 12) (by kernel_rfl) rfl rfl ?_
    refine Nx.append rfl rfl rfl rfl (by kernel_rfl) rfl (Src.arr htd.arr (by rw [List.length_map, List.length_drop]; omega) (by omega) (fun u hu => by obtain ⟨_, _, rfl⟩ := List.mem_map.1 hu; rfl)) (by omega) fun A4 c4 => ?_
    refine Nx.mix_S (by (first | done | (repeat first | exact Ent.refl _ | exact Ent.nil _ | refine Ent.pick 0 rfl ?_ | refine Ent.pick 1 rfl ?_ | refine Ent.pick 2 rfl ?_ | refine Ent.pick 3 rfl ?_ | refine Ent.pick 4 rfl ?_ | refine Ent.pick 5 rfl ?_ | refine Ent.pick 6 rfl ?_ | refine Ent.pick 7 rfl ?_ | refine Ent.pick 8 rfl ?_ | refine Ent.pick 9 rfl ?_ | refine Ent.pick 10 rfl ?_ | refine Ent.pick 11 rfl ?_ | refine Ent.pick 12 rfl ?_ | refine Ent.pick 13 rfl ?_ | refine Ent.pick 14 rfl ?_))) ?_
    refine Nx.fork_fin (by kernel_rfl) rfl ?_
    repeat' first
      | ((with_reducible refine Nx.is_wp ?_); first | refine Nx.wo ?_ | refine Nx.p_dec rfl rfl (fun hc => ?_) (fun hc => ?_) | refine Nx.p_bool rfl rfl (fun hc => ?_) (fun hc => ?_))
      | ((first | refine Nx.at_op rfl rfl ?_ | refine Nx.m_loud rfl rfl rfl ?_ | refine Nx.at_do rfl rfl rfl rfl ?_ | refine Nx.m_loud_do rfl rfl rfl rfl rfl ?_); first | refine Nx.opr rfl rfl ?_ | refine Nx.so ?_ | refine Nx.sb (fun bx => ?_) | refine Nx.sa (fun A2 c2 => ?_))
      | ((with_reducible refine Nx.is_at ?_); first | refine Nx.a ?_ | ((fail_if_success refine Nx.at_do rfl rfl rfl rfl ?_); first | refine Nx.at_dec_t rfl rfl rfl rfl (by first | assumption | omega) ?_ | refine Nx.at_dec_f rfl rfl rfl rfl (by first | assumption | omega) ?_ | refine Nx.at_split rfl rfl rfl rfl (fun hc => ?_) (fun hc => ?_) | refine Nx.at_splitb rfl rfl rfl rfl (fun hc => ?_) (fun hc => ?_)))
      | ((with_reducible refine Nx.is_mix ?_); first | refine Nx.m ?_ | ((fail_if_success refine Nx.m_quiet_do rfl rfl rfl rfl rfl rfl rfl ?_ ?_); (fail_if_success refine Nx.m_loud_do rfl rfl rfl rfl rfl ?_); first | refine Nx.m_dec_t rfl rfl rfl rfl (by first | assumption | omega) ?_ | refine Nx.m_dec_f rfl rfl rfl rfl (by first | assumption | omega) ?_ | refine Nx.m_split rfl rfl rfl rfl (fun hc => ?_) (fun hc => ?_) | refine Nx.m_splitb rfl rfl rfl rfl (fun hc => ?_) (fun hc => ?_)))
      | ((fail_if_success (with_reducible refine Nx.is_at ?_)); (fail_if_success (with_reducible refine Nx.is_wp ?_)); (fail_if_success (with_reducible refine Nx.is_mix ?_)); first | refine Nx.ex ?_)
    have hA : (o.take k).map strV ++ [strV x.1] ++ (o.drop k).map strV = (insG ltT o x.1).map strV := hins.symm
    rw [hA, show k + 1 + (o.length - k) = (insG ltT o x.1).length by rw [insG_len]; omega]
    refine Nx.weak ?_ ?_ (h A4 c4)
    · exact ⟨rfl, rfl, rfl, rfl, rfl, trivial⟩
    · (first | done | (repeat first | exact Ent.refl _ | exact Ent.nil _ | refine Ent.pick 0 rfl ?_ | refine Ent.pick 1 rfl ?_ | refine Ent.pick 2 rfl ?_ | refine Ent.pick 3 rfl ?_ | refine Ent.pick 4 rfl ?_ | refine Ent.pick 5 rfl ?_ | refine Ent.pick 6 rfl ?_ | refine Ent.pick 7 rfl ?_ | refine Ent.pick 8 rfl ?_ | refine Ent.pick 9 rfl ?_ | refine Ent.pick 10 rfl ?_ | refine Ent.pick 11 rfl ?_ | refine Ent.pick 12 rfl ?_ | refine Ent.pick 13 rfl ?_ | refine Ent.pick 14 rfl ?_))
theorem idxI_eq {o : List Int} {p : Int} {k : Nat} (hk : k ≤ o.length) (h1 : ∀ j, j < k → ltI (o.getD j default) p = true) (h2 : k < o.length → ltI (o.getD k default) p = false) : idxG ltI o p = k := by
  have hg : ∀ j (h : j < o.length), o.getD j default = o[j] := fun j h => by rw [List.getD_eq_getElem?_getD, List.getElem?_eq_getElem h]; rfl
  unfold idxG
  by_cases hlt : k < o.length
  · rw [List.findIdx_eq hlt]
    refine ⟨by have := h2 hlt; rw [hg k hlt] at this; simp [this], fun j hj => ?_⟩
    have := h1 j hj
    rw [hg j (by omega)] at this
    simp [this]
  · obtain rfl : k = o.length := by omega
    rw [List.findIdx_eq_length]
    intro y hy
    obtain ⟨j, hj, rfl⟩ := List.mem_iff_getElem.1 hy
    have := h1 j hj
    rw [hg j hj] at this
    simp [this]
theorem insI_map {o : List Int} {p : Int} {k : Nat} (h : idxG ltI o p = k) : (insG ltI o p).map (Value.int .i64) = (o.take k).map (Value.int .i64) ++ [Value.int .i64 p] ++ (o.drop k).map (Value.int .i64) := by
  unfold insG
  rw [h]
  simp
set_option maxHeartbeats 4000000 in
set_option maxRecDepth 10000 in
theorem timesIns (A1 : Option Addr) (c1 : Nat) (o : List Int) (p : Int) (v1 v23 v24 v25 vl vn vk : Value) (I : PH) (hT : SliceOf (Value.int .i64) I A1 c1 o) (h9 : o.length ≤ 1000) (k : Nat) (hk : k ≤ o.length) (hi : idxG ltI o p = k) (w : World) (R : List Res) (Q : Exit → Act → World → Prop) (hQ : PanicOk Q)
    (h : ∀ A4 c4, Nx ⟨Try.prog, 75, w⟩ [(1, v1), (5, .slice A4 (insG ltI o p).length c4), (13, vl), (14, vn), (15, vk), (23, v23), (24, v24), (25, v25)] I (Vec 3 1 A4 (insG ltI o p).length c4 ((insG ltI o p).map (Value.int .i64)) :: R) (Q .normal)) :
    Nx ⟨Try.prog, 75, w⟩ [(1, v1), (5, .slice A1 o.length c1), (9, .int .i64 p), (10, .int .i64 (k : Int)), (13, vl), (14, vn), (15, vk), (23, v23), (24, v24), (25, v25)] I R
      (Code.wp Try.prog (cl (cr (cr (cr (cr (cl (cl (cr (cr (cl (cl (cr (cr (cl (cl (cr (cr (cl (cl (cr (cl (cr (cr (bodyOf Try.f75)))))))))))))))))))))))) Q) := by
  have hcap := hT.cap
  have hins := insI_map hi
  have htk := hT.take k
  have htd := hT.drop hk
  refine Nx.p_fork (id := 12) rfl [1, 2, 3, 5, 8, 9, 10] [12] [0, 4, 6, 7, 11] [] 6 rfl rfl (by kernel_rfl) (by kernel_rfl) (by kernel_rfl) hQ (Ent.nil _) ?_
  repeat' first
    | ((with_reducible refine Nx.is_wp ?_); first | refine Nx.wo ?_ | refine Nx.p_dec rfl rfl (fun hc => ?_) (fun hc => ?_) | refine Nx.p_bool rfl rfl (fun hc => ?_) (fun hc => ?_))
    | ((first | refine Nx.at_op rfl rfl ?_ | refine Nx.m_loud rfl rfl rfl ?_ | refine Nx.at_do rfl rfl rfl rfl ?_ | refine Nx.m_loud_do rfl rfl rfl rfl rfl ?_); first | refine Nx.opr rfl rfl ?_ | refine Nx.so ?_ | refine Nx.sb (fun bx => ?_) | refine Nx.sa (fun A2 c2 => ?_))
    | ((with_reducible refine Nx.is_at ?_); first | refine Nx.a ?_ | ((fail_if_success refine Nx.at_do rfl rfl rfl rfl ?_); first | refine Nx.at_dec_t rfl rfl rfl rfl (by first | assumption | omega) ?_ | refine Nx.at_dec_f rfl rfl rfl rfl (by first | assumption | omega) ?_ | refine Nx.at_split rfl rfl rfl rfl (fun hc => ?_) (fun hc => ?_) | refine Nx.at_splitb rfl rfl rfl rfl (fun hc => ?_) (fun hc => ?_)))
    | ((with_reducible refine Nx.is_mix ?_); first | refine Nx.m_quiet rfl rfl rfl rfl rfl (by first | exact QRun.opr rfl | exact QRun.slice_hi rfl rfl rfl rfl (by omega) | exact QRun.slice_lo rfl rfl rfl rfl (by omega)) ?_ | refine Nx.m_quiet_do rfl rfl rfl rfl rfl rfl rfl (by first | exact QRun.opr rfl | exact QRun.slice_hi rfl rfl rfl rfl (by omega) | exact QRun.slice_lo rfl rfl rfl rfl (by omega)) ?_ | refine Nx.m ?_ | ((fail_if_success refine Nx.m_quiet_do rfl rfl rfl rfl rfl rfl rfl ?_ ?_); (fail_if_success refine Nx.m_loud_do rfl rfl rfl rfl rfl ?_); first | refine Nx.m_dec_t rfl rfl rfl rfl (by first | assumption | omega) ?_ | refine Nx.m_dec_f rfl rfl rfl rfl (by first | assumption | omega) ?_ | refine Nx.m_split rfl rfl rfl rfl (fun hc => ?_) (fun hc => ?_) | refine Nx.m_splitb rfl rfl rfl rfl (fun hc => ?_) (fun hc => ?_)))
    | ((fail_if_success (with_reducible refine Nx.is_at ?_)); (fail_if_success (with_reducible refine Nx.is_wp ?_)); (fail_if_success (with_reducible refine Nx.is_mix ?_)); first | refine Nx.ex ?_)
  refine Nx.fork2 (i := 0) (j := 6) (by kernel_rfl) rfl rfl rfl rfl ?_ ?_
  · refine Nx.sb (fun b0 => ?_)
    refine Nx.mix_S (by (first | done | (repeat first | exact Ent.refl _ | exact Ent.nil _ | refine Ent.pick 0 rfl ?_ | refine Ent.pick 1 rfl ?_ | refine Ent.pick 2 rfl ?_ | refine Ent.pick 3 rfl ?_ | refine Ent.pick 4 rfl ?_ | refine Ent.pick 5 rfl ?_ | refine Ent.pick 6 rfl ?_ | refine Ent.pick 7 rfl ?_ | refine Ent.pick 8 rfl ?_ | refine Ent.pick 9 rfl ?_ | refine Ent.pick 10 rfl ?_ | refine Ent.pick 11 rfl ?_ | refine Ent.pick 12 rfl ?_ | refine Ent.pick 13 rfl ?_ | refine Ent.pick 14 rfl ?_))) ?_
    refine Nx.fork2 (i := 4) (j := 6) (by kernel_rfl) rfl rfl rfl rfl ?_ ?_
    · refine Nx.blk_vec 0 0 1 rfl rfl (by omega) ?_
      refine Nx.append rfl rfl rfl rfl (by kernel_rfl) rfl (Src.arr htk.arr (by rw [List.length_map, List.length_take]; omega) (by omega) (fun u hu => by obtain ⟨_, _, rfl⟩ := List.mem_map.1 hu; rfl)) (by omega) fun A2 c2 => ?_
      rw [Nat.zero_add, List.nil_append]
      refine Nx.mix_S (by (first | done | (repeat first | exact Ent.refl _ | exact Ent.nil _ | refine Ent.pick 0 rfl ?_ | refine Ent.pick 1 rfl ?_ | refine Ent.pick 2 rfl ?_ | refine Ent.pick 3 rfl ?_ | refine Ent.pick 4 rfl ?_ | refine Ent.pick 5 rfl ?_ | refine Ent.pick 6 rfl ?_ | refine Ent.pick 7 rfl ?_ | refine Ent.pick 8 rfl ?_ | refine Ent.pick 9 rfl ?_ | refine Ent.pick 10 rfl ?_ | refine Ent.pick 11 rfl ?_ | refine Ent.pick 12 rfl ?_ | refine Ent.pick 13 rfl ?_ | refine Ent.pick 14 rfl ?_))) ?_
      refine Nx.fork1 (i := 6) (by kernel_rfl) rfl rfl ?_
      refine Nx.sb (fun b6 => ?_)
      refine Nx.mix_S (by (first | done | (repeat first | exact Ent.refl _ | exact Ent.nil _ | refine Ent.pick 0 rfl ?_ | refine Ent.pick 1 rfl ?_ | refine Ent.pick 2 rfl ?_ | refine Ent.pick 3 rfl ?_ | refine Ent.pick 4 rfl ?_ | refine Ent.pick 5 rfl ?_ | refine Ent.pick 6 rfl ?_ | refine Ent.pick 7 rfl ?_ | refine Ent.pick 8 rfl ?_ | refine Ent.pick 9 rfl ?_ | refine Ent.pick 10 rfl ?_ | refine Ent.pick 11 rfl ?_ | refine Ent.pick 12 rfl ?_ | refine Ent.pick 13 rfl ?_ | refine Ent.pick 14 rfl ?_))) ?_
      refine Nx.fork1 (i := 7) (by kernel_rfl) rfl rfl ?_
      refine Nx.ent (R' := [Blk b6 3 [.int .i64 p], Vec 3 1 A2 k c2 ((o.take k).map (Value.int .i64))]++R) (by (first | done | (repeat first | exact Ent.refl _ | exact Ent.nil _ | refine Ent.pick 0 rfl ?_ | refine Ent.pick 1 rfl ?_ | refine Ent.pick 2 rfl ?_ | refine Ent.pick 3 rfl ?_ | refine Ent.pick 4 rfl ?_ | refine Ent.pick 5 rfl ?_ | refine Ent.pick 6 rfl ?_ | refine Ent.pick 7 rfl ?_ | refine Ent.pick 8 rfl ?_ | refine Ent.pick 9 rfl ?_ | refine Ent.pick 10 rfl ?_ | refine Ent.pick 11 rfl ?_ | refine Ent.pick 12 rfl ?_ | refine Ent.pick 13 rfl ?_ | refine Ent.pick 14 rfl ?_))) ?_
      refine Nx.append_lit 0 rfl rfl rfl rfl (by kernel_rfl) rfl rfl rfl rfl (by omega) fun A3 c3 => ?_
      refine Nx.mix_S (by (first | done | (repeat first | exact Ent.refl _ | exact Ent.nil _ | refine Ent.pick 0 rfl ?_ | refine Ent.pick 1 rfl ?_ | refine Ent.pick 2 rfl ?_ | refine Ent.pick 3 rfl ?_ | refine Ent.pick 4 rfl ?_ | refine Ent.pick 5 rfl ?_ | refine Ent.pick 6 rfl ?_ | refine Ent.pick 7 rfl ?_ | refine Ent.pick 8 rfl ?_ | refine Ent.pick 9 rfl ?_ | refine Ent.pick 10 rfl ?_ | refine Ent.pick 11 rfl ?_ | refine Ent.pick 12 rfl ?_ | refine Ent.pick 13 rfl ?_ | refine Ent.pick 14 rfl ?_))) ?_
      refine Nx.fork1 (i := 11) (by kernel_rfl) rfl rfl ?_
      refine Nx.append rfl rfl rfl rfl (by kernel_rfl) rfl (Src.arr htd.arr (by rw [List.length_map, List.length_drop]; omega) (by omega) (fun u hu => by obtain ⟨_, _, rfl⟩ := List.mem_map.1 hu; rfl)) (by omega) fun A4 c4 => ?_
      refine Nx.mix_S (by (first | done | (repeat first | exact Ent.refl _ | exact Ent.nil _ | refine Ent.pick 0 rfl ?_ | refine Ent.pick 1 rfl ?_ | refine Ent.pick 2 rfl ?_ | refine Ent.pick 3 rfl ?_ | refine Ent.pick 4 rfl ?_ | refine Ent.pick 5 rfl ?_ | refine Ent.pick 6 rfl ?_ | refine Ent.pick 7 rfl ?_ | refine Ent.pick 8 rfl ?_ | refine Ent.pick 9 rfl ?_ | refine Ent.pick 10 rfl ?_ | refine Ent.pick 11 rfl ?_ | refine Ent.pick 12 rfl ?_ | refine Ent.pick 13 rfl ?_ | refine Ent.pick 14 rfl ?_))) ?_
      refine Nx.fork_fin (by kernel_rfl) rfl ?_
      repeat' first
        | ((with_reducible refine Nx.is_wp ?_); first | refine Nx.wo ?_ | refine Nx.p_dec rfl rfl (fun hc => ?_) (fun hc => ?_) | refine Nx.p_bool rfl rfl (fun hc => ?_) (fun hc => ?_))
        | ((first | refine Nx.at_op rfl rfl ?_ | refine Nx.m_loud rfl rfl rfl ?_ | refine Nx.at_do rfl rfl rfl rfl ?_ | refine Nx.m_loud_do rfl rfl rfl rfl rfl ?_); first | refine Nx.opr rfl rfl ?_ | refine Nx.so ?_ | refine Nx.sb (fun bx => ?_) | refine Nx.sa (fun A2 c2 => ?_))
        | ((with_reducible refine Nx.is_at ?_); first | refine Nx.a ?_ | ((fail_if_success refine Nx.at_do rfl rfl rfl rfl ?_); first | refine Nx.at_dec_t rfl rfl rfl rfl (by first | assumption | omega) ?_ | refine Nx.at_dec_f rfl rfl rfl rfl (by first | assumption | omega) ?_ | refine Nx.at_split rfl rfl rfl rfl (fun hc => ?_) (fun hc => ?_) | refine Nx.at_splitb rfl rfl rfl rfl (fun hc => ?_) (fun hc => ?_)))
        | ((with_reducible refine Nx.is_mix ?_); first | refine Nx.m ?_ | ((fail_if_success refine Nx.m_quiet_do rfl rfl rfl rfl rfl rfl rfl ?_ ?_); (fail_if_success refine Nx.m_loud_do rfl rfl rfl rfl rfl ?_); first | refine Nx.m_dec_t rfl rfl rfl rfl (by first | assumption | omega) ?_ | refine Nx.m_dec_f rfl rfl rfl rfl (by first | assumption | omega) ?_ | refine Nx.m_split rfl rfl rfl rfl (fun hc => ?_) (fun hc => ?_) | refine Nx.m_splitb rfl rfl rfl rfl (fun hc => ?_) (fun hc => ?_)))
        | ((fail_if_success (with_reducible refine Nx.is_at ?_)); (fail_if_success (with_reducible refine Nx.is_wp ?_)); (fail_if_success (with_reducible refine Nx.is_mix ?_)); first | refine Nx.ex ?_)
      have hA : (o.take k).map (Value.int .i64) ++ [.int .i64 p] ++ (o.drop k).map (Value.int .i64) = (insG ltI o p).map (Value.int .i64) := hins.symm
      rw [hA, show k + 1 + (o.length - k) = (insG ltI o p).length by rw [insG_len]; omega]
      refine Nx.weak ?_ ?_ (h A4 c4)
      · exact ⟨rfl, rfl, rfl, rfl, rfl, rfl, rfl, rfl, trivial⟩
      · (first | done | (repeat first | exact Ent.refl _ | exact Ent.nil _ | refine Ent.pick 0 rfl ?_ | refine Ent.pick 1 rfl ?_ | refine Ent.pick 2 rfl ?_ | refine Ent.pick 3 rfl ?_ | refine Ent.pick 4 rfl ?_ | refine Ent.pick 5 rfl ?_ | refine Ent.pick 6 rfl ?_ | refine Ent.pick 7 rfl ?_ | refine Ent.pick 8 rfl ?_ | refine Ent.pick 9 rfl ?_ | refine Ent.pick 10 rfl ?_ | refine Ent.pick 11 rfl ?_ | refine Ent.pick 12 rfl ?_ | refine Ent.pick 13 rfl ?_ | refine Ent.pick 14 rfl ?_))
    · refine Nx.sb (fun b6 => ?_)
      refine Nx.mix_S (by (first | done | (repeat first | exact Ent.refl _ | exact Ent.nil _ | refine Ent.pick 0 rfl ?_ | refine Ent.pick 1 rfl ?_ | refine Ent.pick 2 rfl ?_ | refine Ent.pick 3 rfl ?_ | refine Ent.pick 4 rfl ?_ | refine Ent.pick 5 rfl ?_ | refine Ent.pick 6 rfl ?_ | refine Ent.pick 7 rfl ?_ | refine Ent.pick 8 rfl ?_ | refine Ent.pick 9 rfl ?_ | refine Ent.pick 10 rfl ?_ | refine Ent.pick 11 rfl ?_ | refine Ent.pick 12 rfl ?_ | refine Ent.pick 13 rfl ?_ | refine Ent.pick 14 rfl ?_))) ?_
      refine Nx.fork1 (i := 4) (by kernel_rfl) rfl rfl ?_
      refine Nx.blk_vec 1 0 1 rfl rfl (by omega) ?_
      refine Nx.append rfl rfl rfl rfl (by kernel_rfl) rfl (Src.arr htk.arr (by rw [List.length_map, List.length_take]; omega) (by omega) (fun u hu => by obtain ⟨_, _, rfl⟩ := List.mem_map.1 hu; rfl)) (by omega) fun A2 c2 => ?_
      rw [Nat.zero_add, List.nil_append]
      refine Nx.mix_S (by (first | done | (repeat first | exact Ent.refl _ | exact Ent.nil _ | refine Ent.pick 0 rfl ?_ | refine Ent.pick 1 rfl ?_ | refine Ent.pick 2 rfl ?_ | refine Ent.pick 3 rfl ?_ | refine Ent.pick 4 rfl ?_ | refine Ent.pick 5 rfl ?_ | refine Ent.pick 6 rfl ?_ | refine Ent.pick 7 rfl ?_ | refine Ent.pick 8 rfl ?_ | refine Ent.pick 9 rfl ?_ | refine Ent.pick 10 rfl ?_ | refine Ent.pick 11 rfl ?_ | refine Ent.pick 12 rfl ?_ | refine Ent.pick 13 rfl ?_ | refine Ent.pick 14 rfl ?_))) ?_
      refine Nx.fork1 (i := 7) (by kernel_rfl) rfl rfl ?_
      refine Nx.ent (R' := [Blk b6 3 [.int .i64 p], Vec 3 1 A2 k c2 ((o.take k).map (Value.int .i64))]++R) (by (first | done | (repeat first | exact Ent.refl _ | exact Ent.nil _ | refine Ent.pick 0 rfl ?_ | refine Ent.pick 1 rfl ?_ | refine Ent.pick 2 rfl ?_ | refine Ent.pick 3 rfl ?_ | refine Ent.pick 4 rfl ?_ | refine Ent.pick 5 rfl ?_ | refine Ent.pick 6 rfl ?_ | refine Ent.pick 7 rfl ?_ | refine Ent.pick 8 rfl ?_ | refine Ent.pick 9 rfl ?_ | refine Ent.pick 10 rfl ?_ | refine Ent.pick 11 rfl ?_ | refine Ent.pick 12 rfl ?_ | refine Ent.pick 13 rfl ?_ | refine Ent.pick 14 rfl ?_))) ?_
      refine Nx.append_lit 0 rfl rfl rfl rfl (by kernel_rfl) rfl rfl rfl rfl (by omega) fun A3 c3 => ?_
      refine Nx.mix_S (by (first | done | (repeat first | exact Ent.refl _ | exact Ent.nil _ | refine Ent.pick 0 rfl ?_ | refine Ent.pick 1 rfl ?_ | refine Ent.pick 2 rfl ?_ | refine Ent.pick 3 rfl ?_ | refine Ent.pick 4 rfl ?_ | refine Ent.pick 5 rfl ?_ | refine Ent.pick 6 rfl ?_ | refine Ent.pick 7 rfl ?_ | refine Ent.pick 8 rfl ?_ | refine Ent.pick 9 rfl ?_ | refine Ent.pick 10 rfl ?_ | refine Ent.pick 11 rfl ?_ | refine Ent.pick 12 rfl ?_ | refine Ent.pick 13 rfl ?_ | refine Ent.pick 14 rfl ?_))) ?_
      refine Nx.fork1 (i := 11) (by kernel_rfl) rfl rfl ?_
      refine Nx.append rfl rfl rfl rfl (by kernel_rfl) rfl (Src.arr htd.arr (by rw [List.length_map, List.length_drop]; omega) (by omega) (fun u hu => by obtain ⟨_, _, rfl⟩ := List.mem_map.1 hu; rfl)) (by omega) fun A4 c4 => ?_
      refine Nx.mix_S (by (first | done | (repeat first | exact Ent.refl _ | exact Ent.nil _ | refine Ent.pick 0 rfl ?_ | refine Ent.pick 1 rfl ?_ | refine Ent.pick 2 rfl ?_ | refine Ent.pick 3 rfl ?_ | refine Ent.pick 4 rfl ?_ | refine Ent.pick 5 rfl ?_ | refine Ent.pick 6 rfl ?_ | refine Ent.pick 7 rfl ?_ | refine Ent.pick 8 rfl ?_ | refine Ent.pick 9 rfl ?_ | refine Ent.pick 10 rfl ?_ | refine Ent.pick 11 rfl ?_ | refine Ent.pick 12 rfl ?_ | refine Ent.pick 13 rfl ?_ | refine Ent.pick 14 rfl ?_))) ?_
      refine Nx.fork_fin (by kernel_rfl) rfl ?_
      repeat' first
        | ((with_reducible refine Nx.is_wp ?_); first | refine Nx.wo ?_ | refine Nx.p_dec rfl rfl (fun hc => ?_) (fun hc => ?_) | refine Nx.p_bool rfl rfl (fun hc => ?_) (fun hc => ?_))
        | ((first | refine Nx.at_op rfl rfl ?_ | refine Nx.m_loud rfl rfl rfl ?_ | refine Nx.at_do rfl rfl rfl rfl ?_ | refine Nx.m_loud_do rfl rfl rfl rfl rfl ?_); first | refine Nx.opr rfl rfl ?_ | refine Nx.so ?_ | refine Nx.sb (fun bx => ?_) | refine Nx.sa (fun A2 c2 => ?_))
        | ((with_reducible refine Nx.is_at ?_); first | refine Nx.a ?_ | ((fail_if_success refine Nx.at_do rfl rfl rfl rfl ?_); first | refine Nx.at_dec_t rfl rfl rfl rfl (by first | assumption | omega) ?_ | refine Nx.at_dec_f rfl rfl rfl rfl (by first | assumption | omega) ?_ | refine Nx.at_split rfl rfl rfl rfl (fun hc => ?_) (fun hc => ?_) | refine Nx.at_splitb rfl rfl rfl rfl (fun hc => ?_) (fun hc => ?_)))
        | ((with_reducible refine Nx.is_mix ?_); first | refine Nx.m ?_ | ((fail_if_success refine Nx.m_quiet_do rfl rfl rfl rfl rfl rfl rfl ?_ ?_); (fail_if_success refine Nx.m_loud_do rfl rfl rfl rfl rfl ?_); first | refine Nx.m_dec_t rfl rfl rfl rfl (by first | assumption | omega) ?_ | refine Nx.m_dec_f rfl rfl rfl rfl (by first | assumption | omega) ?_ | refine Nx.m_split rfl rfl rfl rfl (fun hc => ?_) (fun hc => ?_) | refine Nx.m_splitb rfl rfl rfl rfl (fun hc => ?_) (fun hc => ?_)))
        | ((fail_if_success (with_reducible refine Nx.is_at ?_)); (fail_if_success (with_reducible refine Nx.is_wp ?_)); (fail_if_success (with_reducible refine Nx.is_mix ?_)); first | refine Nx.ex ?_)
      have hA : (o.take k).map (Value.int .i64) ++ [.int .i64 p] ++ (o.drop k).map (Value.int .i64) = (insG ltI o p).map (Value.int .i64) := hins.symm
      rw [hA, show k + 1 + (o.length - k) = (insG ltI o p).length by rw [insG_len]; omega]
      refine Nx.weak ?_ ?_ (h A4 c4)
      · exact ⟨rfl, rfl, rfl, rfl, rfl, rfl, rfl, rfl, trivial⟩
      · (first | done | (repeat first | exact Ent.refl _ | exact Ent.nil _ | refine Ent.pick 0 rfl ?_ | refine Ent.pick 1 rfl ?_ | refine Ent.pick 2 rfl ?_ | refine Ent.pick 3 rfl ?_ | refine Ent.pick 4 rfl ?_ | refine Ent.pick 5 rfl ?_ | refine Ent.pick 6 rfl ?_ | refine Ent.pick 7 rfl ?_ | refine Ent.pick 8 rfl ?_ | refine Ent.pick 9 rfl ?_ | refine Ent.pick 10 rfl ?_ | refine Ent.pick 11 rfl ?_ | refine Ent.pick 12 rfl ?_ | refine Ent.pick 13 rfl ?_ | refine Ent.pick 14 rfl ?_))
  · refine Nx.sb (fun b6 => ?_)
    refine Nx.mix_S (by (first | done | (repeat first | exact Ent.refl _ | exact Ent.nil _ | refine Ent.pick 0 rfl ?_ | refine Ent.pick 1 rfl ?_ | refine Ent.pick 2 rfl ?_ | refine Ent.pick 3 rfl ?_ | refine Ent.pick 4 rfl ?_ | refine Ent.pick 5 rfl ?_ | refine Ent.pick 6 rfl ?_ | refine Ent.pick 7 rfl ?_ | refine Ent.pick 8 rfl ?_ | refine Ent.pick 9 rfl ?_ | refine Ent.pick 10 rfl ?_ | refine Ent.pick 11 rfl ?_ | refine Ent.pick 12 rfl ?_ | refine Ent.pick 13 rfl ?_ | refine Ent.pick 14 rfl ?_))) ?_
    refine Nx.fork1 (i := 0) (by kernel_rfl) rfl rfl ?_
    refine Nx.sb (fun b0 => ?_)
    refine Nx.mix_S (by (first | done | (repeat first | exact Ent.refl _ | exact Ent.nil _ | refine Ent.pick 0 rfl ?_ | refine Ent.pick 1 rfl ?_ | refine Ent.pick 2 rfl ?_ | refine Ent.pick 3 rfl ?_ | refine Ent.pick 4 rfl ?_ | refine Ent.pick 5 rfl ?_ | refine Ent.pick 6 rfl ?_ | refine Ent.pick 7 rfl ?_ | refine Ent.pick 8 rfl ?_ | refine Ent.pick 9 rfl ?_ | refine Ent.pick 10 rfl ?_ | refine Ent.pick 11 rfl ?_ | refine Ent.pick 12 rfl ?_ | refine Ent.pick 13 rfl ?_ | refine Ent.pick 14 rfl ?_))) ?_
    refine Nx.fork1 (i := 4) (by kernel_rfl) rfl rfl ?_
    refine Nx.blk_vec 0 0 1 rfl rfl (by omega) ?_
    refine Nx.append rfl rfl rfl rfl (by kernel_rfl) rfl (Src.arr htk.arr (by rw [List.length_map, List.length_take]; omega) (by omega) (fun u hu => by obtain ⟨_, _, rfl⟩ := List.mem_map.1 hu; rfl)) (by omega) fun A2 c2 => ?_
    rw [Nat.zero_add, List.nil_append]
    refine Nx.mix_S (by (first | done | (repeat first | exact Ent.refl _ | exact Ent.nil _ | refine Ent.pick 0 rfl ?_ | refine Ent.pick 1 rfl ?_ | refine Ent.pick 2 rfl ?_ | refine Ent.pick 3 rfl ?_ | refine Ent.pick 4 rfl ?_ | refine Ent.pick 5 rfl ?_ | refine Ent.pick 6 rfl ?_ | refine Ent.pick 7 rfl ?_ | refine Ent.pick 8 rfl ?_ | refine Ent.pick 9 rfl ?_ | refine Ent.pick 10 rfl ?_ | refine Ent.pick 11 rfl ?_ | refine Ent.pick 12 rfl ?_ | refine Ent.pick 13 rfl ?_ | refine Ent.pick 14 rfl ?_))) ?_
    refine Nx.fork1 (i := 7) (by kernel_rfl) rfl rfl ?_
    refine Nx.ent (R' := [Blk b6 3 [.int .i64 p], Vec 3 1 A2 k c2 ((o.take k).map (Value.int .i64))]++R) (by (first | done | (repeat first | exact Ent.refl _ | exact Ent.nil _ | refine Ent.pick 0 rfl ?_ | refine Ent.pick 1 rfl ?_ | refine Ent.pick 2 rfl ?_ | refine Ent.pick 3 rfl ?_ | refine Ent.pick 4 rfl ?_ | refine Ent.pick 5 rfl ?_ | refine Ent.pick 6 rfl ?_ | refine Ent.pick 7 rfl ?_ | refine Ent.pick 8 rfl ?_ | refine Ent.pick 9 rfl ?_ | refine Ent.pick 10 rfl ?_ | refine Ent.pick 11 rfl ?_ | refine Ent.pick 12 rfl ?_ | refine Ent.pick 13 rfl ?_ | refine Ent.pick 14 rfl ?_))) ?_
    refine Nx.append_lit 0 rfl rfl rfl rfl (by kernel_rfl) rfl rfl rfl rfl (by omega) fun A3 c3 => ?_
    refine Nx.mix_S (by (first | done | (repeat first | exact Ent.refl _ | exact Ent.nil _ | refine Ent.pick 0 rfl ?_ | refine Ent.pick 1 rfl ?_ | refine Ent.pick 2 rfl ?_ | refine Ent.pick 3 rfl ?_ | refine Ent.pick 4 rfl ?_ | refine Ent.pick 5 rfl ?_ | refine Ent.pick 6 rfl ?_ | refine Ent.pick 7 rfl ?_ | refine Ent.pick 8 rfl ?_ | refine Ent.pick 9 rfl ?_ | refine Ent.pick 10 rfl ?_ | refine Ent.pick 11 rfl ?_ | refine Ent.pick 12 rfl ?_ | refine Ent.pick 13 rfl ?_ | refine Ent.pick 14 rfl ?_))) ?_
    refine Nx.fork1 (i := 11) (by kernel_rfl) rfl rfl ?_
    refine Nx.append rfl rfl rfl rfl (by kernel_rfl) rfl (Src.arr htd.arr (by rw [List.length_map, List.length_drop]; omega) (by omega) (fun u hu => by obtain ⟨_, _, rfl⟩ := List.mem_map.1 hu; rfl)) (by omega) fun A4 c4 => ?_
    refine Nx.mix_S (by (first | done | (repeat first | exact Ent.refl _ | exact Ent.nil _ | refine Ent.pick 0 rfl ?_ | refine Ent.pick 1 rfl ?_ | refine Ent.pick 2 rfl ?_ | refine Ent.pick 3 rfl ?_ | refine Ent.pick 4 rfl ?_ | refine Ent.pick 5 rfl ?_ | refine Ent.pick 6 rfl ?_ | refine Ent.pick 7 rfl ?_ | refine Ent.pick 8 rfl ?_ | refine Ent.pick 9 rfl ?_ | refine Ent.pick 10 rfl ?_ | refine Ent.pick 11 rfl ?_ | refine Ent.pick 12 rfl ?_ | refine Ent.pick 13 rfl ?_ | refine Ent.pick 14 rfl ?_))) ?_
    refine Nx.fork_fin (by kernel_rfl) rfl ?_
    repeat' first
      | ((with_reducible refine Nx.is_wp ?_); first | refine Nx.wo ?_ | refine Nx.p_dec rfl rfl (fun hc => ?_) (fun hc => ?_) | refine Nx.p_bool rfl rfl (fun hc => ?_) (fun hc => ?_))
      | ((first | refine Nx.at_op rfl rfl ?_ | refine Nx.m_loud rfl rfl rfl ?_ | refine Nx.at_do rfl rfl rfl rfl ?_ | refine Nx.m_loud_do rfl rfl rfl rfl rfl ?_); first | refine Nx.opr rfl rfl ?_ | refine Nx.so ?_ | refine Nx.sb (fun bx => ?_) | refine Nx.sa (fun A2 c2 => ?_))
      | ((with_reducible refine Nx.is_at ?_); first | refine Nx.a ?_ | ((fail_if_success refine Nx.at_do rfl rfl rfl rfl ?_); first | refine Nx.at_dec_t rfl rfl rfl rfl (by first | assumption | omega) ?_ | refine Nx.at_dec_f rfl rfl rfl rfl (by first | assumption | omega) ?_ | refine Nx.at_split rfl rfl rfl rfl (fun hc => ?_) (fun hc => ?_) | refine Nx.at_splitb rfl rfl rfl rfl (fun hc => ?_) (fun hc => ?_)))
      | ((with_reducible refine Nx.is_mix ?_); first | refine Nx.m ?_ | ((fail_if_success refine Nx.m_quiet_do rfl rfl rfl rfl rfl rfl rfl ?_ ?_); (fail_if_success refine Nx.m_loud_do rfl rfl rfl rfl rfl ?_); first | refine Nx.m_dec_t rfl rfl rfl rfl (by first | assumption | omega) ?_ | refine Nx.m_dec_f rfl rfl rfl rfl (by first | assumption | omega) ?_ | refine Nx.m_split rfl rfl rfl rfl (fun hc => ?_) (fun hc => ?_) | refine Nx.m_splitb rfl rfl rfl rfl (fun hc => ?_) (fun hc => ?_)))
      | ((fail_if_success (with_reducible refine Nx.is_at ?_)); (fail_if_success (with_reducible refine Nx.is_wp ?_)); (fail_if_success (with_reducible refine Nx.is_mix ?_)); first | refine Nx.ex ?_)
    have hA : (o.take k).map (Value.int .i64) ++ [.int .i64 p] ++ (o.drop k).map (Value.int .i64) = (insG ltI o p).map (Value.int .i64) := hins.symm
    rw [hA, show k + 1 + (o.length - k) = (insG ltI o p).length by rw [insG_len]; omega]
    refine Nx.weak ?_ ?_ (h A4 c4)
    · exact ⟨rfl, rfl, rfl, rfl, rfl, rfl, rfl, rfl, trivial⟩
    · (first | done | (repeat first | exact Ent.refl _ | exact Ent.nil _ | refine Ent.pick 0 rfl ?_ | refine Ent.pick 1 rfl ?_ | refine Ent.pick 2 rfl ?_ | refine Ent.pick 3 rfl ?_ | refine Ent.pick 4 rfl ?_ | refine Ent.pick 5 rfl ?_ | refine Ent.pick 6 rfl ?_ | refine Ent.pick 7 rfl ?_ | refine Ent.pick 8 rfl ?_ | refine Ent.pick 9 rfl ?_ | refine Ent.pick 10 rfl ?_ | refine Ent.pick 11 rfl ?_ | refine Ent.pick 12 rfl ?_ | refine Ent.pick 13 rfl ?_ | refine Ent.pick 14 rfl ?_))
end Go.Proofs.Ytaoeapmdhpkidaa
