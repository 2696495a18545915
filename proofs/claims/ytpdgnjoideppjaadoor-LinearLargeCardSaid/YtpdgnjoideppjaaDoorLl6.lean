/- Contracts of functions of the given program, and lemmas about plain lists and numbers: what the laws of this seat lean on. -/
import Derived.Test.YtpdgnjoideppjaaDoorLl5
namespace Go.Proofs.YtpdgnjoideppjaaDoor
open Go.Eng Go.Det
attribute [local irreducible] opK wpList Code.wp Exit.then Exit.inBlock fnPost bodyPost Nx Calls Oper.wp Rd Rds Wr Ent Stars Blk Again Vec FnSpec wpMix QRun Stop Upto wpAt
/-! Sizes of minors -/
theorem rsum_mid (A : Nat → Nat → Int) (r c : Nat) (p q : List Nat) : rsum A r (p ++ c :: q) = (A r c).natAbs + rsum A r (p ++ q) := by
  rw [rsum_app, rsum_app, rsum]; omega
theorem rsum_sub (A : Nat → Nat → Int) (r : Nat) : ∀ (cs L : List Nat), cs.Nodup → (∀ x ∈ cs, x ∈ L) → rsum A r cs ≤ rsum A r L
  | [], _, _, _ => Nat.zero_le _
  | c :: cs, L, hn, hs => by
    obtain ⟨p, q, rfl⟩ := List.append_of_mem (hs c (by simp))
    obtain ⟨hn1, hn2⟩ := List.nodup_cons.1 hn
    have := rsum_sub A r cs (p ++ q) hn2 fun x hx => by
      have h := hs x (by simp [hx])
      simp at h ⊢
      rcases h with h | h | h
      · exact .inl h
      · exact absurd (h ▸ hx) hn1
      · exact .inr h
    rw [rsum_mid, rsum]; omega
theorem rsum_take (A : Nat → Nat → Int) (r : Nat) (l : List Int) (h : ∀ c, A r c = l.getD c 0) : ∀ k, k ≤ l.length → rsum A r (List.range k) = absS (l.take k)
  | 0, _ => by simp [rsum, absS]
  | k + 1, hk => by
    rw [List.range_succ, rsum_app, rsum_take A r l h k (by omega), absS_step (by omega), rsum, rsum, h]; omega
/-- A product of factors that are at least 1. -/
def facs (f : Nat → Nat) : List Nat → Nat
  | [] => 1
  | r :: R => f r * facs f R
theorem facs_app (f : Nat → Nat) : ∀ p q : List Nat, facs f (p ++ q) = facs f p * facs f q
  | [], q => by simp [facs]
  | x :: p, q => by simp only [List.cons_append, facs]; rw [facs_app f p q, Nat.mul_assoc]
theorem facs_pos {f : Nat → Nat} (h : ∀ r, 1 ≤ f r) : ∀ R : List Nat, 1 ≤ facs f R
  | [] => Nat.le_refl _
  | r :: R => Nat.mul_le_mul (h r) (facs_pos h R)
theorem facs_sub {f : Nat → Nat} (h : ∀ r, 1 ≤ f r) : ∀ (R L : List Nat), R.Nodup → (∀ x ∈ R, x ∈ L) → facs f R ≤ facs f L
  | [], L, _, _ => facs_pos h L
  | c :: R, L, hn, hs => by
    obtain ⟨p, q, rfl⟩ := List.append_of_mem (hs c (by simp))
    obtain ⟨hn1, hn2⟩ := List.nodup_cons.1 hn
    have := facs_sub h R (p ++ q) hn2 fun x hx => by
      have h := hs x (by simp [hx])
      simp at h ⊢
      rcases h with h | h | h
      · exact .inl h
      · exact absurd (h ▸ hx) hn1
      · exact .inr h
    rw [facs_app, facs, facs, Nat.mul_left_comm, ← facs_app]
    exact Nat.mul_le_mul (Nat.le_refl _) this
theorem facs_prod (m : List (List Int)) : ∀ k, k ≤ m.length → facs (fun r => max 1 (absS (m.getD r []))) (List.range k) = prodM (m.take k)
  | 0, _ => rfl
  | k + 1, hk => by
    rw [List.range_succ, facs_app, facs_prod m k (by omega), prodM_step (by omega), facs, facs, Nat.mul_one]
theorem rprod_facs {A : Nat → Nat → Int} {cs : List Nat} {f : Nat → Nat} : ∀ (R : List Nat), (∀ r ∈ R, rsum A r cs ≤ f r) → rprod A cs R ≤ facs f R
  | [], _ => Nat.le_refl _
  | r :: R, h => Nat.mul_le_mul (h r (by simp)) (rprod_facs R fun s hs => h s (by simp [hs]))
theorem minr_bd {m : List (List Int)} (hf : Fit m) {R cs : List Nat} (hR : R.Nodup) (hRb : ∀ r ∈ R, r < m.length) (hc : cs.Nodup) (hcb : ∀ c ∈ cs, c < m.length) : (minr (entM m) R cs).natAbs ≤ T120 := by
  refine Nat.le_trans (minr_le _ R cs) (Nat.le_trans (rprod_facs (f := fun r => max 1 (absS (m.getD r []))) R fun r hr => ?_) ?_)
  · have h1 := rsum_sub (entM m) r cs (List.range m.length) hc fun x hx => List.mem_range.2 (hcb x hx)
    have hrl : (m.getD r []).length = m.length := hf.len _ (by rw [List.getD_eq_getElem?_getD, List.getElem?_eq_getElem (hRb r hr)]; exact List.getElem_mem _)
    have h2 := rsum_take (entM m) r (m.getD r []) (fun c => rfl) m.length (by omega)
    rw [h2, ← hrl, List.take_length] at h1
    exact Nat.le_trans h1 (Nat.le_max_right _ _)
  · refine Nat.le_trans (facs_sub (fun r => Nat.le_max_left _ _) R (List.range m.length) hR fun x hx => List.mem_range.2 (hRb x hx)) ?_
    rw [facs_prod m m.length (Nat.le_refl _), List.take_length]
    exact hf.prod
theorem det_bd {m : List (List Int)} (hf : Fit m) : (detM m).natAbs ≤ T120 := minr_bd hf List.nodup_range (fun _ hr => List.mem_range.1 hr) List.nodup_range (fun _ hr => List.mem_range.1 hr)
theorem det_inw {z : Int} (h : z.natAbs ≤ T120) : InW z ∧ z.natAbs < H127 := by unfold T120 at h; unfold InW H127; omega
theorem Fit.sq {v : List Row} (h : Fit (matL v)) : ∀ k, k < v.length → (v.getD k default).2.2.length = v.length := fun k hk => by
  have := h.len (v.getD k default).2.2 (List.mem_map.2 ⟨_, row_mem hk, rfl⟩)
  rw [matL_len] at this; exact this
/-! Is the determinant 0? -/
def zeroB (m : List (List Int)) : Bool := decide (chkE m = 0 ∧ detM m = 0)
set_option maxRecDepth 10000 in
set_option maxHeartbeats 4000000 in
theorem Zero_spec (A : Option Addr) (c : Nat) (v : List Row) (I : PH) (hm : Mat I A c v) : FnSpec Tryd.prog 13 [.slice A v.length c] I [] (fun u R' => u = .bool (zeroB (matL v)) ∧ R' = []) := by
  have hC := Check_spec A c v I hm
  by_cases h0 : chkE (matL v) = 0
  · have hf := chk_ok.1 h0
    have hD := det_spec A c v I hm hf.small hf.sq (by have := hf.few; rw [matL_len] at this; omega)
    have hS := sign_spec (detM (matL v)) (det_inw (det_bd hf)).1 I
    have hz : zeroB (matL v) = decide ((detM (matL v)).sign = 0) := by
      unfold zeroB
      rw [decide_eq_decide]
      exact ⟨fun h => by rw [h.2]; rfl, fun h => ⟨h0, Int.sign_eq_zero_iff_zero.1 h⟩⟩
    rw [h0] at hC
    rw [hz]
    refine FnSpec.enterP Tryd.func13 rfl Tryd.ntmps13 rfl fun w F => ?_
    repeat' first
      | ((with_reducible refine Nx.is_wp ?_); first | refine Nx.wo ?_ | refine Nx.p_dec rfl rfl (fun hc => ?_) (fun hc => ?_) | refine Nx.p_bool rfl rfl (fun hc => ?_) (fun hc => ?_))
      | ((first | refine Nx.at_op rfl rfl ?_ | refine Nx.m_loud rfl rfl rfl ?_ | refine Nx.at_do rfl rfl rfl rfl ?_ | refine Nx.m_loud_do rfl rfl rfl rfl rfl ?_); first | refine Nx.opr rfl rfl ?_ | refine Nx.callv rfl rfl rfl (by kernel_rfl) rfl hC ?_ | refine Nx.callv rfl rfl rfl (by kernel_rfl) rfl hD ?_ | refine Nx.callv rfl rfl rfl (by kernel_rfl) rfl hS ?_ | refine Nx.so ?_ | refine Nx.sb (fun bx => ?_) | refine Nx.sa (fun A2 c2 => ?_))
      | ((with_reducible refine Nx.is_at ?_); first | refine Nx.a ?_ | ((fail_if_success refine Nx.at_do rfl rfl rfl rfl ?_); first | refine Nx.at_dec_t rfl rfl rfl rfl (by first | assumption | omega) ?_ | refine Nx.at_dec_f rfl rfl rfl rfl (by first | assumption | omega) ?_ | refine Nx.at_split rfl rfl rfl rfl (fun hc => ?_) (fun hc => ?_) | refine Nx.at_splitb rfl rfl rfl rfl (fun hc => ?_) (fun hc => ?_)))
      | ((with_reducible refine Nx.is_mix ?_); first | refine Nx.m ?_ | ((fail_if_success refine Nx.m_quiet_do rfl rfl rfl rfl rfl rfl rfl ?_ ?_); (fail_if_success refine Nx.m_loud_do rfl rfl rfl rfl rfl ?_); first | refine Nx.m_dec_t rfl rfl rfl rfl (by first | assumption | omega) ?_ | refine Nx.m_dec_f rfl rfl rfl rfl (by first | assumption | omega) ?_ | refine Nx.m_split rfl rfl rfl rfl (fun hc => ?_) (fun hc => ?_) | refine Nx.m_splitb rfl rfl rfl rfl (fun hc => ?_) (fun hc => ?_)))
      | ((fail_if_success (with_reducible refine Nx.is_at ?_)); (fail_if_success (with_reducible refine Nx.is_wp ?_)); (fail_if_success (with_reducible refine Nx.is_mix ?_)); first | refine Nx.ex ?_)
    exact Nx.ret_fn rfl [] ⟨rfl, rfl⟩ (by (exact Ent.auto))
  · have hz : zeroB (matL v) = false := decide_eq_false fun h => h0 h.1
    rw [hz]
    refine FnSpec.enterP Tryd.func13 rfl Tryd.ntmps13 rfl fun w F => ?_
    repeat' first
      | ((with_reducible refine Nx.is_wp ?_); first | refine Nx.wo ?_ | refine Nx.p_dec rfl rfl (fun hc => ?_) (fun hc => ?_) | refine Nx.p_bool rfl rfl (fun hc => ?_) (fun hc => ?_))
      | ((first | refine Nx.at_op rfl rfl ?_ | refine Nx.m_loud rfl rfl rfl ?_ | refine Nx.at_do rfl rfl rfl rfl ?_ | refine Nx.m_loud_do rfl rfl rfl rfl rfl ?_); first | refine Nx.opr rfl rfl ?_ | refine Nx.callv rfl rfl rfl (by kernel_rfl) rfl hC ?_ | refine Nx.so ?_ | refine Nx.sb (fun bx => ?_) | refine Nx.sa (fun A2 c2 => ?_))
      | ((with_reducible refine Nx.is_at ?_); first | refine Nx.a ?_ | ((fail_if_success refine Nx.at_do rfl rfl rfl rfl ?_); first | refine Nx.at_dec_t rfl rfl rfl rfl (by first | assumption | omega) ?_ | refine Nx.at_dec_f rfl rfl rfl rfl (by first | assumption | omega) ?_ | refine Nx.at_split rfl rfl rfl rfl (fun hc => ?_) (fun hc => ?_) | refine Nx.at_splitb rfl rfl rfl rfl (fun hc => ?_) (fun hc => ?_)))
      | ((with_reducible refine Nx.is_mix ?_); first | refine Nx.m ?_ | ((fail_if_success refine Nx.m_quiet_do rfl rfl rfl rfl rfl rfl rfl ?_ ?_); (fail_if_success refine Nx.m_loud_do rfl rfl rfl rfl rfl ?_); first | refine Nx.m_dec_t rfl rfl rfl rfl (by first | assumption | omega) ?_ | refine Nx.m_dec_f rfl rfl rfl rfl (by first | assumption | omega) ?_ | refine Nx.m_split rfl rfl rfl rfl (fun hc => ?_) (fun hc => ?_) | refine Nx.m_splitb rfl rfl rfl rfl (fun hc => ?_) (fun hc => ?_)))
      | ((fail_if_success (with_reducible refine Nx.is_at ?_)); (fail_if_success (with_reducible refine Nx.is_wp ?_)); (fail_if_success (with_reducible refine Nx.is_mix ?_)); first | refine Nx.ex ?_)
    exact Nx.ret_fn rfl [] ⟨by first | rfl | simp [h0], rfl⟩ (by (exact Ent.auto))
set_option maxRecDepth 10000 in
set_option maxHeartbeats 4000000 in
theorem rZero_spec (A : Option Addr) (c : Nat) (v : List Row) (I : PH) (hm : Mat I A c v) : FnSpec Tryd.prog 32 [.slice A v.length c] I [] (fun u R' => u = .bool (zeroB (matL v)) ∧ R' = []) := by
  have hC := rCheck_spec A c v I hm
  by_cases h0 : chkE (matL v) = 0
  · have hf := chk_ok.1 h0
    have hD := rdet_spec A c v I hm hf.small hf.sq (by have := hf.few; rw [matL_len] at this; omega)
    have hS := zero_spec (detM (matL v)) (det_inw (det_bd hf)).1 I
    have hz : zeroB (matL v) = decide (detM (matL v) = 0) := by
      unfold zeroB
      rw [decide_eq_decide]
      exact ⟨fun h => h.2, fun h => ⟨h0, h⟩⟩
    rw [h0] at hC
    rw [hz]
    refine FnSpec.enterP Tryd.func32 rfl Tryd.ntmps32 rfl fun w F => ?_
    repeat' first
      | ((with_reducible refine Nx.is_wp ?_); first | refine Nx.wo ?_ | refine Nx.p_dec rfl rfl (fun hc => ?_) (fun hc => ?_) | refine Nx.p_bool rfl rfl (fun hc => ?_) (fun hc => ?_))
      | ((first | refine Nx.at_op rfl rfl ?_ | refine Nx.m_loud rfl rfl rfl ?_ | refine Nx.at_do rfl rfl rfl rfl ?_ | refine Nx.m_loud_do rfl rfl rfl rfl rfl ?_); first | refine Nx.opr rfl rfl ?_ | refine Nx.callv rfl rfl rfl (by kernel_rfl) rfl hC ?_ | refine Nx.callv rfl rfl rfl (by kernel_rfl) rfl hD ?_ | refine Nx.callv rfl rfl rfl (by kernel_rfl) rfl hS ?_ | refine Nx.so ?_ | refine Nx.sb (fun bx => ?_) | refine Nx.sa (fun A2 c2 => ?_))
      | ((with_reducible refine Nx.is_at ?_); first | refine Nx.a ?_ | ((fail_if_success refine Nx.at_do rfl rfl rfl rfl ?_); first | refine Nx.at_dec_t rfl rfl rfl rfl (by first | assumption | omega) ?_ | refine Nx.at_dec_f rfl rfl rfl rfl (by first | assumption | omega) ?_ | refine Nx.at_split rfl rfl rfl rfl (fun hc => ?_) (fun hc => ?_) | refine Nx.at_splitb rfl rfl rfl rfl (fun hc => ?_) (fun hc => ?_)))
      | ((with_reducible refine Nx.is_mix ?_); first | refine Nx.m ?_ | ((fail_if_success refine Nx.m_quiet_do rfl rfl rfl rfl rfl rfl rfl ?_ ?_); (fail_if_success refine Nx.m_loud_do rfl rfl rfl rfl rfl ?_); first | refine Nx.m_dec_t rfl rfl rfl rfl (by first | assumption | omega) ?_ | refine Nx.m_dec_f rfl rfl rfl rfl (by first | assumption | omega) ?_ | refine Nx.m_split rfl rfl rfl rfl (fun hc => ?_) (fun hc => ?_) | refine Nx.m_splitb rfl rfl rfl rfl (fun hc => ?_) (fun hc => ?_)))
      | ((fail_if_success (with_reducible refine Nx.is_at ?_)); (fail_if_success (with_reducible refine Nx.is_wp ?_)); (fail_if_success (with_reducible refine Nx.is_mix ?_)); first | refine Nx.ex ?_)
    exact Nx.ret_fn rfl [] ⟨rfl, rfl⟩ (by (exact Ent.auto))
  · have hz : zeroB (matL v) = false := decide_eq_false fun h => h0 h.1
    rw [hz]
    refine FnSpec.enterP Tryd.func32 rfl Tryd.ntmps32 rfl fun w F => ?_
    repeat' first
      | ((with_reducible refine Nx.is_wp ?_); first | refine Nx.wo ?_ | refine Nx.p_dec rfl rfl (fun hc => ?_) (fun hc => ?_) | refine Nx.p_bool rfl rfl (fun hc => ?_) (fun hc => ?_))
      | ((first | refine Nx.at_op rfl rfl ?_ | refine Nx.m_loud rfl rfl rfl ?_ | refine Nx.at_do rfl rfl rfl rfl ?_ | refine Nx.m_loud_do rfl rfl rfl rfl rfl ?_); first | refine Nx.opr rfl rfl ?_ | refine Nx.callv rfl rfl rfl (by kernel_rfl) rfl hC ?_ | refine Nx.so ?_ | refine Nx.sb (fun bx => ?_) | refine Nx.sa (fun A2 c2 => ?_))
      | ((with_reducible refine Nx.is_at ?_); first | refine Nx.a ?_ | ((fail_if_success refine Nx.at_do rfl rfl rfl rfl ?_); first | refine Nx.at_dec_t rfl rfl rfl rfl (by first | assumption | omega) ?_ | refine Nx.at_dec_f rfl rfl rfl rfl (by first | assumption | omega) ?_ | refine Nx.at_split rfl rfl rfl rfl (fun hc => ?_) (fun hc => ?_) | refine Nx.at_splitb rfl rfl rfl rfl (fun hc => ?_) (fun hc => ?_)))
      | ((with_reducible refine Nx.is_mix ?_); first | refine Nx.m ?_ | ((fail_if_success refine Nx.m_quiet_do rfl rfl rfl rfl rfl rfl rfl ?_ ?_); (fail_if_success refine Nx.m_loud_do rfl rfl rfl rfl rfl ?_); first | refine Nx.m_dec_t rfl rfl rfl rfl (by first | assumption | omega) ?_ | refine Nx.m_dec_f rfl rfl rfl rfl (by first | assumption | omega) ?_ | refine Nx.m_split rfl rfl rfl rfl (fun hc => ?_) (fun hc => ?_) | refine Nx.m_splitb rfl rfl rfl rfl (fun hc => ?_) (fun hc => ?_)))
      | ((fail_if_success (with_reducible refine Nx.is_at ?_)); (fail_if_success (with_reducible refine Nx.is_wp ?_)); (fail_if_success (with_reducible refine Nx.is_mix ?_)); first | refine Nx.ex ?_)
    exact Nx.ret_fn rfl [] ⟨by first | rfl | simp [h0], rfl⟩ (by (exact Ent.auto))
end Go.Proofs.YtpdgnjoideppjaaDoor
/- Contracts of functions of the given program, and lemmas about plain lists and numbers: what the laws of this seat lean on. -/
namespace Go.Proofs.YtpdgnjoideppjaaDoor
open Go.Eng Go.Det
attribute [local irreducible] opK wpList Code.wp Exit.then Exit.inBlock fnPost bodyPost Nx Calls Oper.wp Rd Rds Wr Ent Stars Blk Again Vec FnSpec wpMix QRun Stop Upto wpAt
/-! The ratio of two determinants -/
def ratioV (a b : List (List Int)) : Value := if chkE a ≠ 0 then .tuple #[fracV 0 0, .int .i64 (chkE a)] else if chkE b ≠ 0 then .tuple #[fracV 0 0, .int .i64 (chkE b)] else if detM b = 0 then .tuple #[fracV 0 0, .int .i64 15] else redV (Rat.divInt (detM a) (detM b))
theorem redV_form (q : Rat) : ∃ n d e : Int, redV q = .tuple #[.agg #[.int .i64 n, .int .i64 d], .int .i64 e] := ⟨_, _, _, rfl⟩
set_option maxRecDepth 10000 in
set_option maxHeartbeats 4000000 in
theorem Ratio_spec (A B : Option Addr) (ca cb : Nat) (v u : List Row) (I : PH) (hT : TabI I) (hm : Mat I A ca v) (hu : Mat I B cb u) : FnSpec Tryd.prog 16 [.slice A v.length ca, .slice B u.length cb] I [] (fun x R' => x = ratioV (matL v) (matL u) ∧ R' = []) := by
  have hC := Check_spec A ca v I hm
  have hC2 := Check_spec B cb u I hu
  by_cases h0 : chkE (matL v) = 0
  · rw [h0] at hC
    by_cases h1 : chkE (matL u) = 0
    · rw [h1] at hC2
      have hf := chk_ok.1 h0
      have hg := chk_ok.1 h1
      have hD := det_spec A ca v I hm hf.small hf.sq (by have := hf.few; rw [matL_len] at this; omega)
      have hE := det_spec B cb u I hu hg.small hg.sq (by have := hg.few; rw [matL_len] at this; omega)
      have hS := sign_spec (detM (matL u)) (det_inw (det_bd hg)).1 I
      by_cases hz : detM (matL u) = 0
      · have hV : ratioV (matL v) (matL u) = .tuple #[fracV 0 0, .int .i64 15] := by unfold ratioV; rw [if_neg (by omega), if_neg (by omega), if_pos hz]
        rw [hV]
        rw [show (detM (matL u)).sign = 0 by rw [hz]; rfl] at hS
        refine FnSpec.enterP Tryd.func16 rfl Tryd.ntmps16 rfl fun w F => ?_
        repeat' first
          | ((with_reducible refine Nx.is_wp ?_); first | refine Nx.wo ?_ | refine Nx.p_dec rfl rfl (fun hc => ?_) (fun hc => ?_) | refine Nx.p_bool rfl rfl (fun hc => ?_) (fun hc => ?_))
          | ((first | refine Nx.at_op rfl rfl ?_ | refine Nx.m_loud rfl rfl rfl ?_ | refine Nx.at_do rfl rfl rfl rfl ?_ | refine Nx.m_loud_do rfl rfl rfl rfl rfl ?_); first | refine Nx.opr rfl rfl ?_ | refine Nx.callv rfl rfl rfl (by kernel_rfl) rfl hC ?_ | refine Nx.callv rfl rfl rfl (by kernel_rfl) rfl hC2 ?_ | refine Nx.callv rfl rfl rfl (by kernel_rfl) rfl hE ?_ | refine Nx.callv rfl rfl rfl (by kernel_rfl) rfl hS ?_ | refine Nx.so ?_ | refine Nx.sb (fun bx => ?_) | refine Nx.sa (fun A2 c2 => ?_))
          | ((with_reducible refine Nx.is_at ?_); first | refine Nx.a ?_ | ((fail_if_success refine Nx.at_do rfl rfl rfl rfl ?_); first | refine Nx.at_dec_t rfl rfl rfl rfl (by first | assumption | omega) ?_ | refine Nx.at_dec_f rfl rfl rfl rfl (by first | assumption | omega) ?_ | refine Nx.at_split rfl rfl rfl rfl (fun hc => ?_) (fun hc => ?_) | refine Nx.at_splitb rfl rfl rfl rfl (fun hc => ?_) (fun hc => ?_)))
          | ((with_reducible refine Nx.is_mix ?_); first | refine Nx.m ?_ | ((fail_if_success refine Nx.m_quiet_do rfl rfl rfl rfl rfl rfl rfl ?_ ?_); (fail_if_success refine Nx.m_loud_do rfl rfl rfl rfl rfl ?_); first | refine Nx.m_dec_t rfl rfl rfl rfl (by first | assumption | omega) ?_ | refine Nx.m_dec_f rfl rfl rfl rfl (by first | assumption | omega) ?_ | refine Nx.m_split rfl rfl rfl rfl (fun hc => ?_) (fun hc => ?_) | refine Nx.m_splitb rfl rfl rfl rfl (fun hc => ?_) (fun hc => ?_)))
          | ((fail_if_success (with_reducible refine Nx.is_at ?_)); (fail_if_success (with_reducible refine Nx.is_wp ?_)); (fail_if_success (with_reducible refine Nx.is_mix ?_)); first | refine Nx.ex ?_)
        exact Nx.ret2 rfl (ROne.cell 0 rfl rfl rfl rfl rfl) (ROne.tmp rfl) [] ⟨rfl, rfl⟩ (by (exact Ent.auto))
      · have hV : ratioV (matL v) (matL u) = redV (Rat.divInt (detM (matL v)) (detM (matL u))) := by unfold ratioV; rw [if_neg (by omega), if_neg (by omega), if_neg hz]
        have hsn : (detM (matL u)).sign ≠ 0 := fun h => hz (Int.sign_eq_zero_iff_zero.1 h)
        have hR := Reduced_spec (detM (matL v)) (detM (matL u)) (det_inw (det_bd hf)).2 hz (det_inw (det_bd hg)).2 I hT
        obtain ⟨n, d, e, hr⟩ := redV_form (Rat.divInt (detM (matL v)) (detM (matL u)))
        rw [hV, hr]
        rw [hr] at hR
        refine FnSpec.enterP Tryd.func16 rfl Tryd.ntmps16 rfl fun w F => ?_
        repeat' first
          | ((with_reducible refine Nx.is_wp ?_); first | refine Nx.wo ?_ | refine Nx.p_drawF (id := 10) rfl [0, 2, 1, 3, 4, 5] [1, 3] [6, 7] _ rfl rfl (by kernel_rfl) (by kernel_rfl) rfl (by repeat first | exact PanicOk.fn | refine PanicOk.then_ ?_ | refine PanicOk.inB ?_) (Ent.refl _) ?_ | refine Nx.p_dec rfl rfl (fun hc => ?_) (fun hc => ?_) | refine Nx.p_bool rfl rfl (fun hc => ?_) (fun hc => ?_))
          | ((first | refine Nx.at_op rfl rfl ?_ | refine Nx.m_loud rfl rfl rfl ?_ | refine Nx.at_do rfl rfl rfl rfl ?_ | refine Nx.m_loud_do rfl rfl rfl rfl rfl ?_); first | refine Nx.opr rfl rfl ?_ | refine Nx.callv rfl rfl rfl (by kernel_rfl) rfl hC ?_ | refine Nx.callv rfl rfl rfl (by kernel_rfl) rfl hC2 ?_ | refine Nx.callv rfl rfl rfl (by kernel_rfl) rfl hE ?_ | refine Nx.callv rfl rfl rfl (by kernel_rfl) rfl hS ?_ | refine Nx.callv rfl rfl rfl (by kernel_rfl) rfl hD ?_ | refine Nx.callv rfl rfl rfl (by kernel_rfl) rfl hR ?_ | refine Nx.so ?_ | refine Nx.sb (fun bx => ?_) | refine Nx.sa (fun A2 c2 => ?_))
          | ((with_reducible refine Nx.is_at ?_); first | refine Nx.a ?_ | ((fail_if_success refine Nx.at_do rfl rfl rfl rfl ?_); first | refine Nx.at_dec_t rfl rfl rfl rfl (by first | assumption | omega) ?_ | refine Nx.at_dec_f rfl rfl rfl rfl (by first | assumption | omega) ?_ | refine Nx.at_split rfl rfl rfl rfl (fun hc => ?_) (fun hc => ?_) | refine Nx.at_splitb rfl rfl rfl rfl (fun hc => ?_) (fun hc => ?_)))
          | ((with_reducible refine Nx.is_mix ?_); first | refine Nx.m ?_ | ((fail_if_success refine Nx.m_quiet_do rfl rfl rfl rfl rfl rfl rfl ?_ ?_); (fail_if_success refine Nx.m_loud_do rfl rfl rfl rfl rfl ?_); first | refine Nx.m_dec_t rfl rfl rfl rfl (by first | assumption | omega) ?_ | refine Nx.m_dec_f rfl rfl rfl rfl (by first | assumption | omega) ?_ | refine Nx.m_split rfl rfl rfl rfl (fun hc => ?_) (fun hc => ?_) | refine Nx.m_splitb rfl rfl rfl rfl (fun hc => ?_) (fun hc => ?_)))
          | ((fail_if_success (with_reducible refine Nx.is_at ?_)); (fail_if_success (with_reducible refine Nx.is_wp ?_)); (fail_if_success (with_reducible refine Nx.is_mix ?_)); first | refine Nx.ex ?_)
        exact Nx.ret2 rfl (ROne.cell 0 rfl rfl rfl rfl rfl) (ROne.tmp rfl) [] ⟨rfl, rfl⟩ (by (exact Ent.auto))
    · have hV : ratioV (matL v) (matL u) = .tuple #[fracV 0 0, .int .i64 (chkE (matL u))] := by unfold ratioV; rw [if_neg (by omega), if_pos h1]
      rw [hV]
      refine FnSpec.enterP Tryd.func16 rfl Tryd.ntmps16 rfl fun w F => ?_
      repeat' first
        | ((with_reducible refine Nx.is_wp ?_); first | refine Nx.wo ?_ | refine Nx.p_dec rfl rfl (fun hc => ?_) (fun hc => ?_) | refine Nx.p_bool rfl rfl (fun hc => ?_) (fun hc => ?_))
        | ((first | refine Nx.at_op rfl rfl ?_ | refine Nx.m_loud rfl rfl rfl ?_ | refine Nx.at_do rfl rfl rfl rfl ?_ | refine Nx.m_loud_do rfl rfl rfl rfl rfl ?_); first | refine Nx.opr rfl rfl ?_ | refine Nx.callv rfl rfl rfl (by kernel_rfl) rfl hC ?_ | refine Nx.callv rfl rfl rfl (by kernel_rfl) rfl hC2 ?_ | refine Nx.so ?_ | refine Nx.sb (fun bx => ?_) | refine Nx.sa (fun A2 c2 => ?_))
        | ((with_reducible refine Nx.is_at ?_); first | refine Nx.a ?_ | ((fail_if_success refine Nx.at_do rfl rfl rfl rfl ?_); first | refine Nx.at_dec_t rfl rfl rfl rfl (by first | assumption | omega) ?_ | refine Nx.at_dec_f rfl rfl rfl rfl (by first | assumption | omega) ?_ | refine Nx.at_split rfl rfl rfl rfl (fun hc => ?_) (fun hc => ?_) | refine Nx.at_splitb rfl rfl rfl rfl (fun hc => ?_) (fun hc => ?_)))
        | ((with_reducible refine Nx.is_mix ?_); first | refine Nx.m ?_ | ((fail_if_success refine Nx.m_quiet_do rfl rfl rfl rfl rfl rfl rfl ?_ ?_); (fail_if_success refine Nx.m_loud_do rfl rfl rfl rfl rfl ?_); first | refine Nx.m_dec_t rfl rfl rfl rfl (by first | assumption | omega) ?_ | refine Nx.m_dec_f rfl rfl rfl rfl (by first | assumption | omega) ?_ | refine Nx.m_split rfl rfl rfl rfl (fun hc => ?_) (fun hc => ?_) | refine Nx.m_splitb rfl rfl rfl rfl (fun hc => ?_) (fun hc => ?_)))
        | ((fail_if_success (with_reducible refine Nx.is_at ?_)); (fail_if_success (with_reducible refine Nx.is_wp ?_)); (fail_if_success (with_reducible refine Nx.is_mix ?_)); first | refine Nx.ex ?_)
      exact Nx.ret2 rfl (ROne.cell 0 rfl rfl rfl rfl rfl) (ROne.tmp rfl) [] ⟨rfl, rfl⟩ (by (exact Ent.auto))
  · have hV : ratioV (matL v) (matL u) = .tuple #[fracV 0 0, .int .i64 (chkE (matL v))] := if_pos h0
    rw [hV]
    refine FnSpec.enterP Tryd.func16 rfl Tryd.ntmps16 rfl fun w F => ?_
    repeat' first
      | ((with_reducible refine Nx.is_wp ?_); first | refine Nx.wo ?_ | refine Nx.p_dec rfl rfl (fun hc => ?_) (fun hc => ?_) | refine Nx.p_bool rfl rfl (fun hc => ?_) (fun hc => ?_))
      | ((first | refine Nx.at_op rfl rfl ?_ | refine Nx.m_loud rfl rfl rfl ?_ | refine Nx.at_do rfl rfl rfl rfl ?_ | refine Nx.m_loud_do rfl rfl rfl rfl rfl ?_); first | refine Nx.opr rfl rfl ?_ | refine Nx.callv rfl rfl rfl (by kernel_rfl) rfl hC ?_ | refine Nx.so ?_ | refine Nx.sb (fun bx => ?_) | refine Nx.sa (fun A2 c2 => ?_))
      | ((with_reducible refine Nx.is_at ?_); first | refine Nx.a ?_ | ((fail_if_success refine Nx.at_do rfl rfl rfl rfl ?_); first | refine Nx.at_dec_t rfl rfl rfl rfl (by first | assumption | omega) ?_ | refine Nx.at_dec_f rfl rfl rfl rfl (by first | assumption | omega) ?_ | refine Nx.at_split rfl rfl rfl rfl (fun hc => ?_) (fun hc => ?_) | refine Nx.at_splitb rfl rfl rfl rfl (fun hc => ?_) (fun hc => ?_)))
      | ((with_reducible refine Nx.is_mix ?_); first | refine Nx.m ?_ | ((fail_if_success refine Nx.m_quiet_do rfl rfl rfl rfl rfl rfl rfl ?_ ?_); (fail_if_success refine Nx.m_loud_do rfl rfl rfl rfl rfl ?_); first | refine Nx.m_dec_t rfl rfl rfl rfl (by first | assumption | omega) ?_ | refine Nx.m_dec_f rfl rfl rfl rfl (by first | assumption | omega) ?_ | refine Nx.m_split rfl rfl rfl rfl (fun hc => ?_) (fun hc => ?_) | refine Nx.m_splitb rfl rfl rfl rfl (fun hc => ?_) (fun hc => ?_)))
      | ((fail_if_success (with_reducible refine Nx.is_at ?_)); (fail_if_success (with_reducible refine Nx.is_wp ?_)); (fail_if_success (with_reducible refine Nx.is_mix ?_)); first | refine Nx.ex ?_)
    exact Nx.ret2 rfl (ROne.cell 0 rfl rfl rfl rfl rfl) (ROne.tmp rfl) [] ⟨rfl, rfl⟩ (by (exact Ent.auto))
set_option maxRecDepth 10000 in
set_option maxHeartbeats 4000000 in
theorem rRatio_spec (A B : Option Addr) (ca cb : Nat) (v u : List Row) (I : PH) (hm : Mat I A ca v) (hu : Mat I B cb u) : FnSpec Tryd.prog 29 [.slice A v.length ca, .slice B u.length cb] I [] (fun x R' => x = ratioV (matL v) (matL u) ∧ R' = []) := by
  have hC := rCheck_spec A ca v I hm
  have hC2 := rCheck_spec B cb u I hu
  by_cases h0 : chkE (matL v) = 0
  · rw [h0] at hC
    by_cases h1 : chkE (matL u) = 0
    · rw [h1] at hC2
      have hf := chk_ok.1 h0
      have hg := chk_ok.1 h1
      have hD := rdet_spec A ca v I hm hf.small hf.sq (by have := hf.few; rw [matL_len] at this; omega)
      have hE := rdet_spec B cb u I hu hg.small hg.sq (by have := hg.few; rw [matL_len] at this; omega)
      have hS := zero_spec (detM (matL u)) (det_inw (det_bd hg)).1 I
      by_cases hz : detM (matL u) = 0
      · have hV : ratioV (matL v) (matL u) = .tuple #[fracV 0 0, .int .i64 15] := by unfold ratioV; rw [if_neg (by omega), if_neg (by omega), if_pos hz]
        rw [hV]
        rw [decide_eq_true hz] at hS
        refine FnSpec.enterP Tryd.func29 rfl Tryd.ntmps29 rfl fun w F => ?_
        repeat' first
          | ((with_reducible refine Nx.is_wp ?_); first | refine Nx.wo ?_ | refine Nx.p_dec rfl rfl (fun hc => ?_) (fun hc => ?_) | refine Nx.p_bool rfl rfl (fun hc => ?_) (fun hc => ?_))
          | ((first | refine Nx.at_op rfl rfl ?_ | refine Nx.m_loud rfl rfl rfl ?_ | refine Nx.at_do rfl rfl rfl rfl ?_ | refine Nx.m_loud_do rfl rfl rfl rfl rfl ?_); first | refine Nx.opr rfl rfl ?_ | refine Nx.callv rfl rfl rfl (by kernel_rfl) rfl hC ?_ | refine Nx.callv rfl rfl rfl (by kernel_rfl) rfl hC2 ?_ | refine Nx.callv rfl rfl rfl (by kernel_rfl) rfl hE ?_ | refine Nx.callv rfl rfl rfl (by kernel_rfl) rfl hS ?_ | refine Nx.so ?_ | refine Nx.sb (fun bx => ?_) | refine Nx.sa (fun A2 c2 => ?_))
          | ((with_reducible refine Nx.is_at ?_); first | refine Nx.a ?_ | ((fail_if_success refine Nx.at_do rfl rfl rfl rfl ?_); first | refine Nx.at_dec_t rfl rfl rfl rfl (by first | assumption | omega) ?_ | refine Nx.at_dec_f rfl rfl rfl rfl (by first | assumption | omega) ?_ | refine Nx.at_split rfl rfl rfl rfl (fun hc => ?_) (fun hc => ?_) | refine Nx.at_splitb rfl rfl rfl rfl (fun hc => ?_) (fun hc => ?_)))
          | ((with_reducible refine Nx.is_mix ?_); first | refine Nx.m ?_ | ((fail_if_success refine Nx.m_quiet_do rfl rfl rfl rfl rfl rfl rfl ?_ ?_); (fail_if_success refine Nx.m_loud_do rfl rfl rfl rfl rfl ?_); first | refine Nx.m_dec_t rfl rfl rfl rfl (by first | assumption | omega) ?_ | refine Nx.m_dec_f rfl rfl rfl rfl (by first | assumption | omega) ?_ | refine Nx.m_split rfl rfl rfl rfl (fun hc => ?_) (fun hc => ?_) | refine Nx.m_splitb rfl rfl rfl rfl (fun hc => ?_) (fun hc => ?_)))
          | ((fail_if_success (with_reducible refine Nx.is_at ?_)); (fail_if_success (with_reducible refine Nx.is_wp ?_)); (fail_if_success (with_reducible refine Nx.is_mix ?_)); first | refine Nx.ex ?_)
        exact Nx.ret2 rfl (ROne.cell 0 rfl rfl rfl rfl rfl) (ROne.tmp rfl) [] ⟨rfl, rfl⟩ (by (exact Ent.auto))
      · have hV : ratioV (matL v) (matL u) = redV (Rat.divInt (detM (matL v)) (detM (matL u))) := by unfold ratioV; rw [if_neg (by omega), if_neg (by omega), if_neg hz]
        rw [decide_eq_false hz] at hS
        have hR := Reduce_spec (detM (matL v)) (detM (matL u)) (det_inw (det_bd hf)).2 hz (det_inw (det_bd hg)).2 I
        obtain ⟨n, d, e, hr⟩ := redV_form (Rat.divInt (detM (matL v)) (detM (matL u)))
        rw [hV, hr]
        rw [hr] at hR
        refine FnSpec.enterP Tryd.func29 rfl Tryd.ntmps29 rfl fun w F => ?_
        repeat' first
          | ((with_reducible refine Nx.is_wp ?_); first | refine Nx.wo ?_ | refine Nx.p_dec rfl rfl (fun hc => ?_) (fun hc => ?_) | refine Nx.p_bool rfl rfl (fun hc => ?_) (fun hc => ?_))
          | ((first | refine Nx.at_op rfl rfl ?_ | refine Nx.m_loud rfl rfl rfl ?_ | refine Nx.at_do rfl rfl rfl rfl ?_ | refine Nx.m_loud_do rfl rfl rfl rfl rfl ?_); first | refine Nx.opr rfl rfl ?_ | refine Nx.callv rfl rfl rfl (by kernel_rfl) rfl hC ?_ | refine Nx.callv rfl rfl rfl (by kernel_rfl) rfl hC2 ?_ | refine Nx.callv rfl rfl rfl (by kernel_rfl) rfl hE ?_ | refine Nx.callv rfl rfl rfl (by kernel_rfl) rfl hS ?_ | refine Nx.callv rfl rfl rfl (by kernel_rfl) rfl hD ?_ | refine Nx.callv rfl rfl rfl (by kernel_rfl) rfl hR ?_ | refine Nx.so ?_ | refine Nx.sb (fun bx => ?_) | refine Nx.sa (fun A2 c2 => ?_))
          | ((with_reducible refine Nx.is_at ?_); first | refine Nx.a ?_ | ((fail_if_success refine Nx.at_do rfl rfl rfl rfl ?_); first | refine Nx.at_dec_t rfl rfl rfl rfl (by first | assumption | omega) ?_ | refine Nx.at_dec_f rfl rfl rfl rfl (by first | assumption | omega) ?_ | refine Nx.at_split rfl rfl rfl rfl (fun hc => ?_) (fun hc => ?_) | refine Nx.at_splitb rfl rfl rfl rfl (fun hc => ?_) (fun hc => ?_)))
          | ((with_reducible refine Nx.is_mix ?_); first | refine Nx.m ?_ | ((fail_if_success refine Nx.m_quiet_do rfl rfl rfl rfl rfl rfl rfl ?_ ?_); (fail_if_success refine Nx.m_loud_do rfl rfl rfl rfl rfl ?_); first | refine Nx.m_dec_t rfl rfl rfl rfl (by first | assumption | omega) ?_ | refine Nx.m_dec_f rfl rfl rfl rfl (by first | assumption | omega) ?_ | refine Nx.m_split rfl rfl rfl rfl (fun hc => ?_) (fun hc => ?_) | refine Nx.m_splitb rfl rfl rfl rfl (fun hc => ?_) (fun hc => ?_)))
          | ((fail_if_success (with_reducible refine Nx.is_at ?_)); (fail_if_success (with_reducible refine Nx.is_wp ?_)); (fail_if_success (with_reducible refine Nx.is_mix ?_)); first | refine Nx.ex ?_)
        exact Nx.ret2 rfl (ROne.cell 0 rfl rfl rfl rfl rfl) (ROne.tmp rfl) [] ⟨rfl, rfl⟩ (by (exact Ent.auto))
    · have hV : ratioV (matL v) (matL u) = .tuple #[fracV 0 0, .int .i64 (chkE (matL u))] := by unfold ratioV; rw [if_neg (by omega), if_pos h1]
      rw [hV]
      refine FnSpec.enterP Tryd.func29 rfl Tryd.ntmps29 rfl fun w F => ?_
      repeat' first
        | ((with_reducible refine Nx.is_wp ?_); first | refine Nx.wo ?_ | refine Nx.p_dec rfl rfl (fun hc => ?_) (fun hc => ?_) | refine Nx.p_bool rfl rfl (fun hc => ?_) (fun hc => ?_))
        | ((first | refine Nx.at_op rfl rfl ?_ | refine Nx.m_loud rfl rfl rfl ?_ | refine Nx.at_do rfl rfl rfl rfl ?_ | refine Nx.m_loud_do rfl rfl rfl rfl rfl ?_); first | refine Nx.opr rfl rfl ?_ | refine Nx.callv rfl rfl rfl (by kernel_rfl) rfl hC ?_ | refine Nx.callv rfl rfl rfl (by kernel_rfl) rfl hC2 ?_ | refine Nx.so ?_ | refine Nx.sb (fun bx => ?_) | refine Nx.sa (fun A2 c2 => ?_))
        | ((with_reducible refine Nx.is_at ?_); first | refine Nx.a ?_ | ((fail_if_success refine Nx.at_do rfl rfl rfl rfl ?_); first | refine Nx.at_dec_t rfl rfl rfl rfl (by first | assumption | omega) ?_ | refine Nx.at_dec_f rfl rfl rfl rfl (by first | assumption | omega) ?_ | refine Nx.at_split rfl rfl rfl rfl (fun hc => ?_) (fun hc => ?_) | refine Nx.at_splitb rfl rfl rfl rfl (fun hc => ?_) (fun hc => ?_)))
        | ((with_reducible refine Nx.is_mix ?_); first | refine Nx.m ?_ | ((fail_if_success refine Nx.m_quiet_do rfl rfl rfl rfl rfl rfl rfl ?_ ?_); (fail_if_success refine Nx.m_loud_do rfl rfl rfl rfl rfl ?_); first | refine Nx.m_dec_t rfl rfl rfl rfl (by first | assumption | omega) ?_ | refine Nx.m_dec_f rfl rfl rfl rfl (by first | assumption | omega) ?_ | refine Nx.m_split rfl rfl rfl rfl (fun hc => ?_) (fun hc => ?_) | refine Nx.m_splitb rfl rfl rfl rfl (fun hc => ?_) (fun hc => ?_)))
        | ((fail_if_success (with_reducible refine Nx.is_at ?_)); (fail_if_success (with_reducible refine Nx.is_wp ?_)); (fail_if_success (with_reducible refine Nx.is_mix ?_)); first | refine Nx.ex ?_)
      exact Nx.ret2 rfl (ROne.cell 0 rfl rfl rfl rfl rfl) (ROne.tmp rfl) [] ⟨rfl, rfl⟩ (by (exact Ent.auto))
  · have hV : ratioV (matL v) (matL u) = .tuple #[fracV 0 0, .int .i64 (chkE (matL v))] := if_pos h0
    rw [hV]
    refine FnSpec.enterP Tryd.func29 rfl Tryd.ntmps29 rfl fun w F => ?_
    repeat' first
      | ((with_reducible refine Nx.is_wp ?_); first | refine Nx.wo ?_ | refine Nx.p_dec rfl rfl (fun hc => ?_) (fun hc => ?_) | refine Nx.p_bool rfl rfl (fun hc => ?_) (fun hc => ?_))
      | ((first | refine Nx.at_op rfl rfl ?_ | refine Nx.m_loud rfl rfl rfl ?_ | refine Nx.at_do rfl rfl rfl rfl ?_ | refine Nx.m_loud_do rfl rfl rfl rfl rfl ?_); first | refine Nx.opr rfl rfl ?_ | refine Nx.callv rfl rfl rfl (by kernel_rfl) rfl hC ?_ | refine Nx.so ?_ | refine Nx.sb (fun bx => ?_) | refine Nx.sa (fun A2 c2 => ?_))
      | ((with_reducible refine Nx.is_at ?_); first | refine Nx.a ?_ | ((fail_if_success refine Nx.at_do rfl rfl rfl rfl ?_); first | refine Nx.at_dec_t rfl rfl rfl rfl (by first | assumption | omega) ?_ | refine Nx.at_dec_f rfl rfl rfl rfl (by first | assumption | omega) ?_ | refine Nx.at_split rfl rfl rfl rfl (fun hc => ?_) (fun hc => ?_) | refine Nx.at_splitb rfl rfl rfl rfl (fun hc => ?_) (fun hc => ?_)))
      | ((with_reducible refine Nx.is_mix ?_); first | refine Nx.m ?_ | ((fail_if_success refine Nx.m_quiet_do rfl rfl rfl rfl rfl rfl rfl ?_ ?_); (fail_if_success refine Nx.m_loud_do rfl rfl rfl rfl rfl ?_); first | refine Nx.m_dec_t rfl rfl rfl rfl (by first | assumption | omega) ?_ | refine Nx.m_dec_f rfl rfl rfl rfl (by first | assumption | omega) ?_ | refine Nx.m_split rfl rfl rfl rfl (fun hc => ?_) (fun hc => ?_) | refine Nx.m_splitb rfl rfl rfl rfl (fun hc => ?_) (fun hc => ?_)))
      | ((fail_if_success (with_reducible refine Nx.is_at ?_)); (fail_if_success (with_reducible refine Nx.is_wp ?_)); (fail_if_success (with_reducible refine Nx.is_mix ?_)); first | refine Nx.ex ?_)
    exact Nx.ret2 rfl (ROne.cell 0 rfl rfl rfl rfl rfl) (ROne.tmp rfl) [] ⟨rfl, rfl⟩ (by (exact Ent.auto))
end Go.Proofs.YtpdgnjoideppjaaDoor
/- Contracts of functions of the given program, and lemmas about plain lists and numbers: what the laws of this seat lean on. -/
namespace Go.Proofs.YtpdgnjoideppjaaDoor
open Go.Eng Go.Det
attribute [local irreducible] opK wpList Code.wp Exit.then Exit.inBlock fnPost bodyPost Nx Calls Oper.wp Rd Rds Wr Ent Stars Blk Again Vec FnSpec wpMix QRun Stop Upto wpAt
/-! A column replaced -/
def repL (m : List (List Int)) (j : Nat) (b : List Int) : List (List Int) := (List.range m.length).map fun i => (m.getD i []).set j (b.getD i 0)
abbrev intsR (A : Option Addr) (c : Nat) (l : List Int) : Res := Vec 3 1 A l.length c (l.map (Value.int .i64))
abbrev rowR (r : Row) : Res := intsR r.1 r.2.1 r.2.2
/-- What a function that makes a matrix leaves. -/
def matPost (m : List (List Int)) (u : Value) (R' : List Res) : Prop := ∃ (A' : Option Addr) (c' : Nat) (o : List Row), u = .slice A' o.length c' ∧ matL o = m ∧ R' = [Vec 28 1 A' o.length c' (o.map rowV), Stars (o.map rowR)]
theorem mat_given {I : PH} {A : Option Addr} {c : Nat} {o : List Row} {m1 m2 : PH} (hm1 : PH.le m1 I) (h1 : Vec 28 1 A o.length c (o.map rowV) m1) (hm2 : PH.le m2 I) (h2 : Stars (o.map rowR) m2) : Mat I A c o := by
  refine ⟨Vec.sliceOf hm1 h1, fun x hx => ?_⟩
  obtain ⟨k, hk, rfl⟩ := List.mem_iff_getElem.1 hx
  obtain ⟨m', hle, hr⟩ := Stars.get k h2 (r := rowR o[k]) (by rw [nthL_eq, List.getElem?_map, List.getElem?_eq_getElem hk]; rfl)
  exact Vec.sliceOf (t := 3) (hle.trans hm2) hr
theorem nil_rows (n : Nat) {R : List Res} : Ent R (Stars ((List.replicate n ((none, 0, []) : Row)).map rowR) :: R) := by
  induction n with
  | zero => exact Ent.stars_nil _
  | succ n ih =>
    rw [List.replicate_succ']
    rw [List.map_append]
    exact ih.trans ((Ent.vec_nil _ _ _).trans Ent.bundle)
set_option maxRecDepth 10000 in
set_option maxHeartbeats 4000000 in
theorem replaced_spec (A : Option Addr) (c : Nat) (v : List Row) (I : PH) (hm : Mat I A c v) (hsq : ∀ k, k < v.length → (v.getD k default).2.2.length = v.length) (h9 : v.length ≤ 1000) (j : Nat) (hj : j < v.length) (B : Option Addr) (cb : Nat) (b : List Int) (hb : Ints I B cb b) (hbl : b.length = v.length) :
    FnSpec Tryd.prog 23 [.slice A v.length c, .int .i64 (j : Int), .slice B b.length cb] I [] (matPost (repL (matL v) j b)) := by
  have hlen := hm.outer.len
  refine FnSpec.enterP Tryd.func23 rfl Tryd.ntmps23 rfl fun w F => ?_
  repeat' first
    | ((with_reducible refine Nx.is_wp ?_); first | refine Nx.wo ?_ | refine Nx.p_dec rfl rfl (fun hc => ?_) (fun hc => ?_) | refine Nx.p_bool rfl rfl (fun hc => ?_) (fun hc => ?_))
    | ((first | refine Nx.at_op rfl rfl ?_ | refine Nx.m_loud rfl rfl rfl ?_ | refine Nx.at_do rfl rfl rfl rfl ?_ | refine Nx.m_loud_do rfl rfl rfl rfl rfl ?_); first | refine Nx.opr rfl rfl ?_ | refine Nx.makeSlice (by_ := 24) rfl rfl rfl rfl rfl rfl rfl rfl rfl (by omega) (by unfold maxLen; omega) (fun bx => ?_) | refine Nx.so ?_ | refine Nx.sb (fun bx => ?_) | refine Nx.sa (fun A2 c2 => ?_))
    | ((with_reducible refine Nx.is_at ?_); first | refine Nx.a ?_ | ((fail_if_success refine Nx.at_do rfl rfl rfl rfl ?_); first | refine Nx.at_dec_t rfl rfl rfl rfl (by first | assumption | omega) ?_ | refine Nx.at_dec_f rfl rfl rfl rfl (by first | assumption | omega) ?_ | refine Nx.at_split rfl rfl rfl rfl (fun hc => ?_) (fun hc => ?_) | refine Nx.at_splitb rfl rfl rfl rfl (fun hc => ?_) (fun hc => ?_)))
    | ((with_reducible refine Nx.is_mix ?_); first | refine Nx.m ?_ | ((fail_if_success refine Nx.m_quiet_do rfl rfl rfl rfl rfl rfl rfl ?_ ?_); (fail_if_success refine Nx.m_loud_do rfl rfl rfl rfl rfl ?_); first | refine Nx.m_dec_t rfl rfl rfl rfl (by first | assumption | omega) ?_ | refine Nx.m_dec_f rfl rfl rfl rfl (by first | assumption | omega) ?_ | refine Nx.m_split rfl rfl rfl rfl (fun hc => ?_) (fun hc => ?_) | refine Nx.m_splitb rfl rfl rfl rfl (fun hc => ?_) (fun hc => ?_)))
    | ((fail_if_success (with_reducible refine Nx.is_at ?_)); (fail_if_success (with_reducible refine Nx.is_wp ?_)); (fail_if_success (with_reducible refine Nx.is_mix ?_)); first | refine Nx.ex ?_)
  revert bx; intro bA
  refine Nx.ent (R' := [Vec 28 1 (some ⟨bA, 0, none⟩) v.length v.length ((List.replicate v.length (none, 0, [])).map rowV), Stars ((List.replicate v.length (none, 0, [])).map rowR), F]) (by rw [List.map_replicate]; exact Ent.pick 0 rfl ((nil_rows v.length).trans (by (exact Ent.auto)))) ?_
  refine Nx.p_loop (σ := Nat × List Row) (fun x => [(1, .int .i64 (j : Int)), (2, .slice B b.length cb), (7, .slice (some ⟨bA, 0, none⟩) v.length v.length), (13, .slice A v.length c), (14, .int .i64 v.length), (15, .int .i64 (x.1 : Int))])
    (fun x => [Vec 28 1 (some ⟨bA, 0, none⟩) v.length v.length (x.2.map rowV), Stars (x.2.map rowR), F]) (fun x => x.1 ≤ v.length ∧ x.2.length = v.length ∧ (∀ i, i < x.1 → (x.2.getD i default).2.2 = (v.getD i default).2.2.set j (b.getD i 0)) ∧ ∀ i, x.1 ≤ i → i < v.length → x.2.getD i default = (none, 0, [])) (fun x => v.length - x.1) (0, List.replicate v.length (none, 0, [])) rfl ⟨Nat.zero_le _, by simp, fun i hi => absurd hi (Nat.not_lt_zero _), fun i _ hi => by rw [List.getD_eq_getElem?_getD, List.getElem?_replicate, if_pos hi]; rfl⟩ ⟨rfl, rfl, rfl, rfl, rfl, rfl, trivial⟩ (by (exact Ent.auto)) ?_
  rintro ⟨k, o⟩ ⟨hk, hol, hdone, hnil⟩
  dsimp only at hk hol hdone hnil ⊢
  by_cases hlt : k < v.length
  · have hrl := hsq k hlt
    have hr := hm.rows _ (row_mem hlt)
    have hk0 := hnil k (Nat.le_refl _) hlt
    have hdk := hdone
    generalize hrow' : (v.getD k default) = rw' at hrl hr
    obtain ⟨Al, cl, l⟩ := rw'
    dsimp only at hrl hr
    have hmr : ∀ (W : World) (R : List Res), Rd W I R ((ad A).add (k * 1)) (.slice Al v.length cl) := fun W R => by
      have := hm.outer.rd (W := W) (R := R) (k := k) hlt
      rw [hrow', show rowV (Al, cl, l) = .slice Al v.length cl by rw [← hrl]; rfl] at this
      exact this
    have hget : (o.map rowR)[k]? = some (rowR (none, 0, [])) := by
      rw [List.getElem?_map, List.getElem?_eq_getElem (by omega)]
      rw [List.getD_eq_getElem?_getD, List.getElem?_eq_getElem (by omega)] at hk0
      rw [show o[k] = (none, 0, []) from hk0]; rfl
    have hbx := hb.rd (k := k) (by omega) (W := w) (R := [])
    have hbr : ∀ (W : World) (R : List Res), Rd W I R ((ad B).add (k * 1)) (.int .i64 (b.getD k default)) := fun W R => hb.rd (by omega)
    have hBs := hb.isSome (by omega)
    refine Nx.ent (R' := [Stars (o.map rowR), Vec 28 1 (some ⟨bA, 0, none⟩) v.length v.length (o.map rowV), F]) (by (exact Ent.auto)) ?_
    refine Nx.ent (Ent.takeOut k hget) ?_
    refine Nx.ent (R' := [Vec 3 1 none 0 0 [], Stars ((o.map rowR).eraseIdx k), Vec 28 1 (some ⟨bA, 0, none⟩) v.length v.length (o.map rowV), F]) (by (exact Ent.auto)) ?_
    repeat' first
      | ((with_reducible refine Nx.is_wp ?_); first | refine Nx.wo ?_ | refine Nx.p_dec rfl rfl (fun hc => ?_) (fun hc => ?_) | refine Nx.p_bool rfl rfl (fun hc => ?_) (fun hc => ?_))
      | ((first | refine Nx.at_op rfl rfl ?_ | refine Nx.m_loud rfl rfl rfl ?_ | refine Nx.at_do rfl rfl rfl rfl ?_ | refine Nx.m_loud_do rfl rfl rfl rfl rfl ?_); first | refine Nx.opr rfl rfl ?_ | refine Nx.indexAddr_nat rfl rfl rfl rfl rfl (by omega) (hm.outer.isSome (by omega)) ?_ | refine Nx.load rfl rfl rfl (hmr _ _) ?_ | (refine Nx.append rfl rfl rfl rfl (by kernel_rfl) rfl (Src.arr hr.arr (by simp [hrl]) (by omega) (fun u hu => by obtain ⟨z, _, rfl⟩ := List.mem_map.1 hu; rfl)) (by omega) (fun A8 c8 => ?_); rw [Nat.zero_add, List.nil_append]) | refine Nx.indexAddr_nat rfl rfl rfl rfl rfl (by omega) rfl ?_ | refine Nx.store_of 2 rowV (z := (A8, c8, l)) rfl (by rw [show rowV (A8, c8, l) = .slice A8 v.length c8 by rw [← hrl]; rfl]; rfl) rfl rfl rfl rfl (by omega) ?_ | refine Nx.so ?_ | refine Nx.sb (fun bx => ?_) | refine Nx.sa (fun A2 c2 => ?_))
      | ((with_reducible refine Nx.is_at ?_); first | refine Nx.a ?_ | ((fail_if_success refine Nx.at_do rfl rfl rfl rfl ?_); first | refine Nx.at_dec_t rfl rfl rfl rfl (by first | assumption | omega) ?_ | refine Nx.at_dec_f rfl rfl rfl rfl (by first | assumption | omega) ?_ | refine Nx.at_split rfl rfl rfl rfl (fun hc => ?_) (fun hc => ?_) | refine Nx.at_splitb rfl rfl rfl rfl (fun hc => ?_) (fun hc => ?_)))
      | ((with_reducible refine Nx.is_mix ?_); first | refine Nx.m ?_ | ((fail_if_success refine Nx.m_quiet_do rfl rfl rfl rfl rfl rfl rfl ?_ ?_); (fail_if_success refine Nx.m_loud_do rfl rfl rfl rfl rfl ?_); first | refine Nx.m_dec_t rfl rfl rfl rfl (by first | assumption | omega) ?_ | refine Nx.m_dec_f rfl rfl rfl rfl (by first | assumption | omega) ?_ | refine Nx.m_split rfl rfl rfl rfl (fun hc => ?_) (fun hc => ?_) | refine Nx.m_splitb rfl rfl rfl rfl (fun hc => ?_) (fun hc => ?_)))
      | ((fail_if_success (with_reducible refine Nx.is_at ?_)); (fail_if_success (with_reducible refine Nx.is_wp ?_)); (fail_if_success (with_reducible refine Nx.is_mix ?_)); first | refine Nx.ex ?_)
    have hV : (o.set k (A8, c8, l)).map rowV = (o.set k (A8, c8, l.set j (b.getD k default))).map rowV := by
      rw [List.map_set, List.map_set]
      congr 1
      unfold rowV; dsimp only; rw [List.length_set]
    have hS : (o.set k (A8, c8, l.set j (b.getD k default))).map rowR = (o.map rowR).set k (rowR (A8, c8, l.set j (b.getD k default))) := List.map_set
    have hok : (o.set k (A8, c8, l)).getD k default = (A8, c8, l) := by rw [List.getD_eq_getElem?_getD, List.getElem?_set_self (by omega)]; rfl
    refine Nx.ent (R' := [Vec 3 1 A8 v.length c8 (l.map (Value.int .i64)), Vec 28 1 (some ⟨bA, 0, none⟩) v.length v.length ((o.set k (A8, c8, l)).map rowV), Stars ((o.map rowR).eraseIdx k), F]) (by (exact Ent.auto)) ?_
    refine Nx.vec_fact fun hv1 hv2 hv3 hA8 => ?_
    have hrd8 : ∀ (W : World) (R : List Res) (r0 : Res), Rd W I (r0 :: Vec 28 1 (some ⟨bA, 0, none⟩) v.length v.length ((o.set k (A8, c8, l)).map rowV) :: R) ((ad (some ⟨bA, 0, none⟩)).add (k * 1)) (.slice A8 v.length c8) := fun W R r0 => by
      have := Rd.vecEl (W := W) (I := I) (R := r0 :: Vec 28 1 (some ⟨bA, 0, none⟩) v.length v.length ((o.set k (A8, c8, l)).map rowV) :: R) 1 (f := rowV) (l := o.set k (A8, c8, l)) (i := k) rfl (by rw [List.length_set]; omega)
      rw [hok, show rowV (A8, c8, l) = .slice A8 v.length c8 by rw [← hrl]; rfl] at this
      exact this
    repeat' first
      | ((with_reducible refine Nx.is_wp ?_); first | refine Nx.wo ?_ | refine Nx.p_drawF (id := 6) rfl [0, 1, 2, 3, 4, 5, 6, 7, 8, 9] [] [10] _ rfl rfl (by kernel_rfl) (by kernel_rfl) rfl (by repeat first | exact PanicOk.fn | refine PanicOk.then_ ?_ | refine PanicOk.inB ?_) (Ent.refl _) ?_ | refine Nx.p_dec rfl rfl (fun hc => ?_) (fun hc => ?_) | refine Nx.p_bool rfl rfl (fun hc => ?_) (fun hc => ?_))
      | ((first | refine Nx.at_op rfl rfl ?_ | refine Nx.m_loud rfl rfl rfl ?_ | refine Nx.at_do rfl rfl rfl rfl ?_ | refine Nx.m_loud_do rfl rfl rfl rfl rfl ?_); first | refine Nx.opr rfl rfl ?_ | refine Nx.store_of 0 (Value.int .i64) rfl rfl rfl rfl rfl rfl (by omega) ?_ | refine Nx.so ?_ | refine Nx.sb (fun bx => ?_) | refine Nx.sa (fun A2 c2 => ?_))
      | ((with_reducible refine Nx.is_at ?_); first | refine Nx.a ?_ | ((fail_if_success refine Nx.at_do rfl rfl rfl rfl ?_); first | refine Nx.at_dec_t rfl rfl rfl rfl (by first | assumption | omega) ?_ | refine Nx.at_dec_f rfl rfl rfl rfl (by first | assumption | omega) ?_ | refine Nx.at_split rfl rfl rfl rfl (fun hc => ?_) (fun hc => ?_) | refine Nx.at_splitb rfl rfl rfl rfl (fun hc => ?_) (fun hc => ?_)))
      | ((with_reducible refine Nx.is_mix ?_); first | refine Nx.m_quiet rfl rfl rfl rfl rfl (by first | exact QRun.opr rfl | exact QRun.idx rfl rfl rfl rfl (by omega) rfl | exact QRun.idx rfl rfl rfl rfl (by omega) hBs | exact QRun.idx rfl rfl rfl rfl (by omega) (hA8 (by omega)) | exact QRun.load rfl rfl (hrd8 _ _ _) | exact QRun.load rfl rfl (hbr _ _)) ?_ | refine Nx.m_quiet_do rfl rfl rfl rfl rfl rfl rfl (by first | exact QRun.opr rfl | exact QRun.idx rfl rfl rfl rfl (by omega) rfl | exact QRun.idx rfl rfl rfl rfl (by omega) hBs | exact QRun.idx rfl rfl rfl rfl (by omega) (hA8 (by omega)) | exact QRun.load rfl rfl (hrd8 _ _ _) | exact QRun.load rfl rfl (hbr _ _)) ?_ | refine Nx.m ?_ | ((fail_if_success refine Nx.m_quiet_do rfl rfl rfl rfl rfl rfl rfl ?_ ?_); (fail_if_success refine Nx.m_loud_do rfl rfl rfl rfl rfl ?_); first | refine Nx.m_dec_t rfl rfl rfl rfl (by first | assumption | omega) ?_ | refine Nx.m_dec_f rfl rfl rfl rfl (by first | assumption | omega) ?_ | refine Nx.m_split rfl rfl rfl rfl (fun hc => ?_) (fun hc => ?_) | refine Nx.m_splitb rfl rfl rfl rfl (fun hc => ?_) (fun hc => ?_)))
      | ((fail_if_success (with_reducible refine Nx.is_at ?_)); (fail_if_success (with_reducible refine Nx.is_wp ?_)); (fail_if_success (with_reducible refine Nx.is_mix ?_)); first | refine Nx.ex ?_)
    have hl' : (l.set j (b.getD k default)).length = v.length := by rw [List.length_set]; exact hrl
    refine Nx.again (k + 1, o.set k (A8, c8, l.set j (b.getD k default))) ⟨hlt, by dsimp only; rw [List.length_set]; exact hol, fun i hi => ?_, fun i hi1 hi2 => ?_⟩ (by dsimp only; omega) ⟨rfl, rfl, rfl, rfl, rfl, rfl, trivial⟩ ?_
    · dsimp only at hi ⊢
      by_cases hik : i = k
      · subst hik
        rw [List.getD_eq_getElem?_getD, List.getElem?_set_self (by omega), hrow']
        rfl
      · rw [List.getD_eq_getElem?_getD, List.getElem?_set_ne (Ne.symm hik), ← List.getD_eq_getElem?_getD]
        exact hdone i (by omega)
    · dsimp only at hi1 ⊢
      rw [List.getD_eq_getElem?_getD, List.getElem?_set_ne (by omega), ← List.getD_eq_getElem?_getD]
      exact hnil i (by omega) hi2
    · dsimp only
      rw [← hV, hS]
      refine Ent.trans (R' := [rowR (A8, c8, l.set j (b.getD k default)), Stars ((o.map rowR).eraseIdx k), Vec 28 1 (some ⟨bA, 0, none⟩) v.length v.length ((o.set k (A8, c8, l)).map rowV), F]) (by unfold rowR intsR; dsimp only; rw [hl']; (exact Ent.auto)) ((Ent.putIn k (by rw [List.length_map]; omega)).trans (by (exact Ent.auto)))
  · obtain rfl : k = v.length := by omega
    repeat' first
      | ((with_reducible refine Nx.is_wp ?_); first | refine Nx.wo ?_ | refine Nx.p_dec rfl rfl (fun hc => ?_) (fun hc => ?_) | refine Nx.p_bool rfl rfl (fun hc => ?_) (fun hc => ?_))
      | ((first | refine Nx.at_op rfl rfl ?_ | refine Nx.m_loud rfl rfl rfl ?_ | refine Nx.at_do rfl rfl rfl rfl ?_ | refine Nx.m_loud_do rfl rfl rfl rfl rfl ?_); first | refine Nx.opr rfl rfl ?_ | refine Nx.so ?_ | refine Nx.sb (fun bx => ?_) | refine Nx.sa (fun A2 c2 => ?_))
      | ((with_reducible refine Nx.is_at ?_); first | refine Nx.a ?_ | ((fail_if_success refine Nx.at_do rfl rfl rfl rfl ?_); first | refine Nx.at_dec_t rfl rfl rfl rfl (by first | assumption | omega) ?_ | refine Nx.at_dec_f rfl rfl rfl rfl (by first | assumption | omega) ?_ | refine Nx.at_split rfl rfl rfl rfl (fun hc => ?_) (fun hc => ?_) | refine Nx.at_splitb rfl rfl rfl rfl (fun hc => ?_) (fun hc => ?_)))
      | ((with_reducible refine Nx.is_mix ?_); first | refine Nx.m ?_ | ((fail_if_success refine Nx.m_quiet_do rfl rfl rfl rfl rfl rfl rfl ?_ ?_); (fail_if_success refine Nx.m_loud_do rfl rfl rfl rfl rfl ?_); first | refine Nx.m_dec_t rfl rfl rfl rfl (by first | assumption | omega) ?_ | refine Nx.m_dec_f rfl rfl rfl rfl (by first | assumption | omega) ?_ | refine Nx.m_split rfl rfl rfl rfl (fun hc => ?_) (fun hc => ?_) | refine Nx.m_splitb rfl rfl rfl rfl (fun hc => ?_) (fun hc => ?_)))
      | ((fail_if_success (with_reducible refine Nx.is_at ?_)); (fail_if_success (with_reducible refine Nx.is_wp ?_)); (fail_if_success (with_reducible refine Nx.is_mix ?_)); first | refine Nx.ex ?_)
    refine Nx.ret_fn rfl [Vec 28 1 (some ⟨bA, 0, none⟩) v.length v.length (o.map rowV), Stars (o.map rowR)] ⟨some ⟨bA, 0, none⟩, v.length, o, by rw [hol], ?_, by rw [hol]⟩ (by (exact Ent.auto))
    refine List.ext_getElem? fun i => ?_
    unfold repL
    rw [List.getElem?_map, show (matL o)[i]? = (o[i]?).map (·.2.2) from List.getElem?_map]
    by_cases hi : i < v.length
    · have h3 := hdone i hi
      rw [List.getElem?_eq_getElem (show i < o.length by omega), List.getElem?_range (by rw [matL_len]; exact hi)]
      simp only [Option.map_some]
      rw [matL_at hi, ← h3, List.getD_eq_getElem?_getD, List.getElem?_eq_getElem (show i < o.length by omega)]
      rfl
    · rw [List.getElem?_eq_none (show o.length ≤ i by omega), List.getElem?_eq_none (show (List.range (matL v).length).length ≤ i by rw [List.length_range, matL_len]; omega)]
      rfl
end Go.Proofs.YtpdgnjoideppjaaDoor
/- Contracts of functions of the given program, and lemmas about plain lists and numbers: what the laws of this seat lean on. -/
namespace Go.Proofs.YtpdgnjoideppjaaDoor
open Go.Eng Go.Det
attribute [local irreducible] opK wpList Code.wp Exit.then Exit.inBlock fnPost bodyPost Nx Calls Oper.wp Rd Rds Wr Ent Stars Blk Again Vec FnSpec wpMix QRun Stop Upto wpAt
theorem repL_len (m : List (List Int)) (j : Nat) (b : List Int) : (repL m j b).length = m.length := by unfold repL; rw [List.length_map, List.length_range]
theorem repL_at {m : List (List Int)} {j k : Nat} {b : List Int} (hk : k < m.length) : (repL m j b)[k]'(by rw [repL_len]; exact hk) = (m.getD k []).set j (b.getD k 0) := by
  unfold repL
  rw [List.getElem_map, List.getElem_range]
set_option maxRecDepth 10000 in
set_option maxHeartbeats 4000000 in
theorem put_spec (A : Option Addr) (c : Nat) (v : List Row) (I : PH) (hm : Mat I A c v) (hsq : ∀ k, k < v.length → (v.getD k default).2.2.length = v.length) (h9 : v.length ≤ 1000) (j : Nat) (hj : j < v.length) (B : Option Addr) (cb : Nat) (b : List Int) (hb : Ints I B cb b) (hbl : b.length = v.length) :
    FnSpec Tryd.prog 51 [.slice A v.length c, .slice B b.length cb, .int .i64 (j : Int)] I [] (matPost (repL (matL v) j b)) := by
  have hlen := hm.outer.len
  have hRl : (repL (matL v) j b).length = v.length := by rw [repL_len, matL_len]
  refine FnSpec.enterP Tryd.func51 rfl Tryd.ntmps51 rfl fun w F => ?_
  repeat' first
    | ((with_reducible refine Nx.is_wp ?_); first | refine Nx.wo ?_ | refine Nx.p_dec rfl rfl (fun hc => ?_) (fun hc => ?_) | refine Nx.p_bool rfl rfl (fun hc => ?_) (fun hc => ?_))
    | ((first | refine Nx.at_op rfl rfl ?_ | refine Nx.m_loud rfl rfl rfl ?_ | refine Nx.at_do rfl rfl rfl rfl ?_ | refine Nx.m_loud_do rfl rfl rfl rfl rfl ?_); first | refine Nx.opr rfl rfl ?_ | refine Nx.so ?_ | refine Nx.sb (fun bx => ?_) | refine Nx.sa (fun A2 c2 => ?_))
    | ((with_reducible refine Nx.is_at ?_); first | refine Nx.a ?_ | ((fail_if_success refine Nx.at_do rfl rfl rfl rfl ?_); first | refine Nx.at_dec_t rfl rfl rfl rfl (by first | assumption | omega) ?_ | refine Nx.at_dec_f rfl rfl rfl rfl (by first | assumption | omega) ?_ | refine Nx.at_split rfl rfl rfl rfl (fun hc => ?_) (fun hc => ?_) | refine Nx.at_splitb rfl rfl rfl rfl (fun hc => ?_) (fun hc => ?_)))
    | ((with_reducible refine Nx.is_mix ?_); first | refine Nx.m ?_ | ((fail_if_success refine Nx.m_quiet_do rfl rfl rfl rfl rfl rfl rfl ?_ ?_); (fail_if_success refine Nx.m_loud_do rfl rfl rfl rfl rfl ?_); first | refine Nx.m_dec_t rfl rfl rfl rfl (by first | assumption | omega) ?_ | refine Nx.m_dec_f rfl rfl rfl rfl (by first | assumption | omega) ?_ | refine Nx.m_split rfl rfl rfl rfl (fun hc => ?_) (fun hc => ?_) | refine Nx.m_splitb rfl rfl rfl rfl (fun hc => ?_) (fun hc => ?_)))
    | ((fail_if_success (with_reducible refine Nx.is_at ?_)); (fail_if_success (with_reducible refine Nx.is_wp ?_)); (fail_if_success (with_reducible refine Nx.is_mix ?_)); first | refine Nx.ex ?_)
  refine Nx.p_loop (σ := Nat × Option Addr × Nat × List Row) (fun x => [(0, .slice A v.length c), (1, .slice B b.length cb), (2, .int .i64 (j : Int)), (7, .slice x.2.1 x.2.2.2.length x.2.2.1), (8, .int .i64 (x.1 : Int))])
    (fun x => [Vec 28 1 x.2.1 x.2.2.2.length x.2.2.1 (x.2.2.2.map rowV), Stars (x.2.2.2.map rowR), F]) (fun x => x.1 ≤ v.length ∧ x.2.2.2.length = x.1 ∧ matL x.2.2.2 = (repL (matL v) j b).take x.1) (fun x => v.length - x.1) (0, none, 0, []) rfl ⟨Nat.zero_le _, rfl, rfl⟩ ⟨rfl, rfl, rfl, rfl, rfl, trivial⟩ ((Ent.vec_nil _ _ _).trans (Ent.pick 0 rfl ((Ent.stars_nil _).trans (by (exact Ent.auto))))) ?_
  rintro ⟨k, Ao, co, o⟩ ⟨hk, hol, hdone⟩
  dsimp only at hk hol hdone ⊢
  by_cases hlt : k < v.length
  · have hrl := hsq k hlt
    have hr := hm.rows _ (row_mem hlt)
    have hrep := repL_at (m := matL v) (j := j) (k := k) (b := b) (by rw [matL_len]; exact hlt)
    rw [matL_at hlt] at hrep
    generalize hrow' : (v.getD k default) = rw' at hrl hr hrep
    obtain ⟨Al, cl, l⟩ := rw'
    dsimp only at hrl hr hrep
    have hmr : ∀ (W : World) (R : List Res), Rd W I R ((ad A).add (k * 1)) (.slice Al v.length cl) := fun W R => by
      have := hm.outer.rd (W := W) (R := R) (k := k) hlt
      rw [hrow', show rowV (Al, cl, l) = .slice Al v.length cl by rw [← hrl]; rfl] at this
      exact this
    have hbr : ∀ (W : World) (R : List Res), Rd W I R ((ad B).add (k * 1)) (.int .i64 (b.getD k default)) := fun W R => hb.rd (by omega)
    have hBs := hb.isSome (by omega)
    refine Nx.ent (R' := [Vec 3 1 none 0 0 [], Vec 28 1 Ao o.length co (o.map rowV), Stars (o.map rowR), F]) ((Ent.vec_nil _ _ _).trans (by (exact Ent.auto))) ?_
    repeat' first
      | ((with_reducible refine Nx.is_wp ?_); first | refine Nx.wo ?_ | refine Nx.p_dec rfl rfl (fun hc => ?_) (fun hc => ?_) | refine Nx.p_bool rfl rfl (fun hc => ?_) (fun hc => ?_))
      | ((first | refine Nx.at_op rfl rfl ?_ | refine Nx.m_loud rfl rfl rfl ?_ | refine Nx.at_do rfl rfl rfl rfl ?_ | refine Nx.m_loud_do rfl rfl rfl rfl rfl ?_); first | refine Nx.opr rfl rfl ?_ | refine Nx.indexAddr_nat rfl rfl rfl rfl rfl (by omega) (hm.outer.isSome (by omega)) ?_ | refine Nx.load rfl rfl rfl (hmr _ _) ?_ | (refine Nx.append rfl rfl rfl rfl (by kernel_rfl) rfl (Src.arr hr.arr (by simp [hrl]) (by omega) (fun u hu => by obtain ⟨z, _, rfl⟩ := List.mem_map.1 hu; rfl)) (by omega) (fun A8 c8 => ?_); rw [Nat.zero_add, List.nil_append]; refine Nx.vec_fact fun hv1 hv2 hv3 hA8 => ?_) | refine Nx.indexAddr_nat rfl rfl rfl rfl rfl (by omega) hBs ?_ | refine Nx.load rfl rfl rfl (hbr _ _) ?_ | refine Nx.indexAddr_nat rfl rfl rfl rfl rfl (by omega) (hA8 (by omega)) ?_ | refine Nx.store_of 0 (Value.int .i64) rfl rfl rfl rfl rfl rfl (by omega) ?_ | refine Nx.so ?_ | refine Nx.sb (fun bx => ?_) | refine Nx.sa (fun A2 c2 => ?_))
      | ((with_reducible refine Nx.is_at ?_); first | refine Nx.a ?_ | ((fail_if_success refine Nx.at_do rfl rfl rfl rfl ?_); first | refine Nx.at_dec_t rfl rfl rfl rfl (by first | assumption | omega) ?_ | refine Nx.at_dec_f rfl rfl rfl rfl (by first | assumption | omega) ?_ | refine Nx.at_split rfl rfl rfl rfl (fun hc => ?_) (fun hc => ?_) | refine Nx.at_splitb rfl rfl rfl rfl (fun hc => ?_) (fun hc => ?_)))
      | ((with_reducible refine Nx.is_mix ?_); first | refine Nx.m ?_ | ((fail_if_success refine Nx.m_quiet_do rfl rfl rfl rfl rfl rfl rfl ?_ ?_); (fail_if_success refine Nx.m_loud_do rfl rfl rfl rfl rfl ?_); first | refine Nx.m_dec_t rfl rfl rfl rfl (by first | assumption | omega) ?_ | refine Nx.m_dec_f rfl rfl rfl rfl (by first | assumption | omega) ?_ | refine Nx.m_split rfl rfl rfl rfl (fun hc => ?_) (fun hc => ?_) | refine Nx.m_splitb rfl rfl rfl rfl (fun hc => ?_) (fun hc => ?_)))
      | ((fail_if_success (with_reducible refine Nx.is_at ?_)); (fail_if_success (with_reducible refine Nx.is_wp ?_)); (fail_if_success (with_reducible refine Nx.is_mix ?_)); first | refine Nx.ex ?_)
    have hl' : (l.set j (b.getD k default)).length = v.length := by rw [List.length_set]; exact hrl
    have hol' : (o ++ [((A8, c8, l.set j (b.getD k default)) : Row)]).length = o.length + 1 := by simp
    refine Nx.again (k + 1, A2, c2, o ++ [(A8, c8, l.set j (b.getD k default))]) ⟨hlt, by dsimp only; rw [hol', hol], ?_⟩ (by dsimp only; omega) ⟨rfl, rfl, rfl, by dsimp only; rw [hol']; rfl, rfl, trivial⟩ ?_
    · dsimp only
      rw [List.take_succ_eq_append_getElem (by rw [hRl]; exact hlt), hrep, ← hdone]
      unfold matL
      rw [List.map_append]
      rfl
    · dsimp only
      rw [hol', List.map_append, List.map_append]
      refine Ent.trans (R' := [rowR (A8, c8, l.set j (b.getD k default)), Stars (o.map rowR), Vec 28 1 A2 (o.length + 1) c2 (o.map rowV ++ [.slice A8 v.length c8]), F]) (by unfold rowR intsR; dsimp only; rw [hl']; (exact Ent.auto)) (Ent.bundle.trans ?_)
      rw [show ([((A8, c8, l.set j (b.getD k default)) : Row)].map rowV) = [.slice A8 v.length c8] by rw [← hl']; rfl]
      (exact Ent.auto)
  · obtain rfl : k = v.length := by omega
    rw [← hRl, List.take_length] at hdone
    repeat' first
      | ((with_reducible refine Nx.is_wp ?_); first | refine Nx.wo ?_ | refine Nx.p_dec rfl rfl (fun hc => ?_) (fun hc => ?_) | refine Nx.p_bool rfl rfl (fun hc => ?_) (fun hc => ?_))
      | ((first | refine Nx.at_op rfl rfl ?_ | refine Nx.m_loud rfl rfl rfl ?_ | refine Nx.at_do rfl rfl rfl rfl ?_ | refine Nx.m_loud_do rfl rfl rfl rfl rfl ?_); first | refine Nx.opr rfl rfl ?_ | refine Nx.so ?_ | refine Nx.sb (fun bx => ?_) | refine Nx.sa (fun A2 c2 => ?_))
      | ((with_reducible refine Nx.is_at ?_); first | refine Nx.a ?_ | ((fail_if_success refine Nx.at_do rfl rfl rfl rfl ?_); first | refine Nx.at_dec_t rfl rfl rfl rfl (by first | assumption | omega) ?_ | refine Nx.at_dec_f rfl rfl rfl rfl (by first | assumption | omega) ?_ | refine Nx.at_split rfl rfl rfl rfl (fun hc => ?_) (fun hc => ?_) | refine Nx.at_splitb rfl rfl rfl rfl (fun hc => ?_) (fun hc => ?_)))
      | ((with_reducible refine Nx.is_mix ?_); first | refine Nx.m ?_ | ((fail_if_success refine Nx.m_quiet_do rfl rfl rfl rfl rfl rfl rfl ?_ ?_); (fail_if_success refine Nx.m_loud_do rfl rfl rfl rfl rfl ?_); first | refine Nx.m_dec_t rfl rfl rfl rfl (by first | assumption | omega) ?_ | refine Nx.m_dec_f rfl rfl rfl rfl (by first | assumption | omega) ?_ | refine Nx.m_split rfl rfl rfl rfl (fun hc => ?_) (fun hc => ?_) | refine Nx.m_splitb rfl rfl rfl rfl (fun hc => ?_) (fun hc => ?_)))
      | ((fail_if_success (with_reducible refine Nx.is_at ?_)); (fail_if_success (with_reducible refine Nx.is_wp ?_)); (fail_if_success (with_reducible refine Nx.is_mix ?_)); first | refine Nx.ex ?_)
    exact Nx.ret_fn rfl [Vec 28 1 Ao o.length co (o.map rowV), Stars (o.map rowR)] ⟨Ao, co, o, rfl, hdone, rfl⟩ (by (exact Ent.auto))
end Go.Proofs.YtpdgnjoideppjaaDoor
/- Contracts of functions of the given program, and lemmas about plain lists and numbers: what the laws of this seat lean on. -/
namespace Go.Proofs.YtpdgnjoideppjaaDoor
open Go.Eng Go.Det
attribute [local irreducible] opK wpList Code.wp Exit.then Exit.inBlock fnPost bodyPost Nx Calls Oper.wp Rd Rds Wr Ent Stars Blk Again Vec FnSpec wpMix QRun Stop Upto wpAt
/-! Systems solved -/
/-- The first one that is not 0. -/
def firstE (f : Nat → Int) : Nat → Int
  | 0 => 0
  | n + 1 => if firstE f n ≠ 0 then firstE f n else f n
theorem firstE_zero {f : Nat → Int} : ∀ {n : Nat}, firstE f n = 0 ↔ ∀ k, k < n → f k = 0
  | 0 => ⟨fun _ k hk => absurd hk (Nat.not_lt_zero _), fun _ => rfl⟩
  | n + 1 => by
    unfold firstE
    constructor
    · intro h k hk
      split at h
      · rename_i h1; exact absurd h h1
      · rename_i h1
        by_cases hkn : k = n
        · rw [hkn]; exact h
        · exact firstE_zero.1 (Decidable.not_not.1 h1) k (by omega)
    · intro h
      rw [if_neg (fun h1 => h1 (firstE_zero.2 fun k hk => h k (by omega)))]
      exact h n (by omega)
theorem firstE_at {f : Nat → Int} {k : Nat} (h : ∀ i, i < k → f i = 0) (hk : f k ≠ 0) : ∀ {n : Nat}, k < n → firstE f n = f k
  | 0, hn => absurd hn (Nat.not_lt_zero _)
  | n + 1, hn => by
    unfold firstE
    by_cases hkn : k = n
    · subst hkn
      rw [if_neg (fun h1 => h1 (firstE_zero.2 h))]
    · have := firstE_at h hk (n := n) (by omega)
      rw [this, if_pos hk]
def solQ (m : List (List Int)) (b : List Int) (i : Nat) : Rat := Rat.divInt (detM (repL m i b)) (detM m)
def solE (m : List (List Int)) (b : List Int) : Int := if chkE m ≠ 0 then chkE m else if b.length ≠ m.length then 17 else if firstE (fun i => chkE (repL m i b)) m.length ≠ 0 then firstE (fun i => chkE (repL m i b)) m.length else if detM m = 0 then 15 else firstE (fun i => redE (solQ m b i)) m.length
def solL (m : List (List Int)) (b : List Int) : List (Int × Int) := if solE m b = 0 then (List.range m.length).map fun i => (redN (solQ m b i), redD (solQ m b i)) else []
abbrev frC (x : Int × Int) : List Value := [.int .i64 x.1, .int .i64 x.2]
abbrev fracsR (A : Option Addr) (c : Nat) (l : List (Int × Int)) : Res := Vec 37 2 A l.length c (l.flatMap frC)
/-- What a function leaves that gives fractions and an error. -/
def fracPost (l : List (Int × Int)) (e : Int) (u : Value) (R' : List Res) : Prop := ∃ (A' : Option Addr) (c' : Nat), u = .tuple #[.slice A' l.length c', .int .i64 e] ∧ R' = [fracsR A' c' l]
end Go.Proofs.YtpdgnjoideppjaaDoor
/- Contracts of functions of the given program, and lemmas about plain lists and numbers: what the laws of this seat lean on. -/
namespace Go.Proofs.YtpdgnjoideppjaaDoor
open Go.Eng Go.Det
attribute [local irreducible] opK wpList Code.wp Exit.then Exit.inBlock fnPost bodyPost Nx Calls Oper.wp Rd Rds Wr Ent Stars Blk Again Vec FnSpec wpMix QRun Stop Upto wpAt
theorem solL_not {m : List (List Int)} {b : List Int} (h : solE m b ≠ 0) : solL m b = [] := if_neg h
set_option maxRecDepth 10000 in
set_option maxHeartbeats 8000000 in
theorem Solve_spec (A : Option Addr) (c : Nat) (v : List Row) (I : PH) (hT : TabI I) (hm : Mat I A c v) (B : Option Addr) (cb : Nat) (b : List Int) (hb : Ints I B cb b) :
    FnSpec Tryd.prog 12 [.slice A v.length c, .slice B b.length cb] I [] (fracPost (solL (matL v) b) (solE (matL v) b)) := by
  have hC := Check_spec A c v I hm
  have hml := matL_len v
  have hbl := hb.len
  have hvl := hm.outer.len
  refine FnSpec.enterP Tryd.func12 rfl Tryd.ntmps12 rfl fun w F => ?_
  by_cases h0 : chkE (matL v) = 0
  case neg =>
    have hE : solE (matL v) b = chkE (matL v) := if_pos h0
    rw [solL_not (by rw [hE]; exact h0), hE]
    repeat' first
      | ((with_reducible refine Nx.is_wp ?_); first | refine Nx.wo ?_ | refine Nx.p_dec rfl rfl (fun hc => ?_) (fun hc => ?_) | refine Nx.p_bool rfl rfl (fun hc => ?_) (fun hc => ?_))
      | ((first | refine Nx.at_op rfl rfl ?_ | refine Nx.m_loud rfl rfl rfl ?_ | refine Nx.at_do rfl rfl rfl rfl ?_ | refine Nx.m_loud_do rfl rfl rfl rfl rfl ?_); first | refine Nx.opr rfl rfl ?_ | refine Nx.callv rfl rfl rfl (by kernel_rfl) rfl hC ?_ | refine Nx.so ?_ | refine Nx.sb (fun bx => ?_) | refine Nx.sa (fun A2 c2 => ?_))
      | ((with_reducible refine Nx.is_at ?_); first | refine Nx.a ?_ | ((fail_if_success refine Nx.at_do rfl rfl rfl rfl ?_); first | refine Nx.at_dec_t rfl rfl rfl rfl (by first | assumption | omega) ?_ | refine Nx.at_dec_f rfl rfl rfl rfl (by first | assumption | omega) ?_ | refine Nx.at_split rfl rfl rfl rfl (fun hc => ?_) (fun hc => ?_) | refine Nx.at_splitb rfl rfl rfl rfl (fun hc => ?_) (fun hc => ?_)))
      | ((with_reducible refine Nx.is_mix ?_); first | refine Nx.m ?_ | ((fail_if_success refine Nx.m_quiet_do rfl rfl rfl rfl rfl rfl rfl ?_ ?_); (fail_if_success refine Nx.m_loud_do rfl rfl rfl rfl rfl ?_); first | refine Nx.m_dec_t rfl rfl rfl rfl (by first | assumption | omega) ?_ | refine Nx.m_dec_f rfl rfl rfl rfl (by first | assumption | omega) ?_ | refine Nx.m_split rfl rfl rfl rfl (fun hc => ?_) (fun hc => ?_) | refine Nx.m_splitb rfl rfl rfl rfl (fun hc => ?_) (fun hc => ?_)))
      | ((fail_if_success (with_reducible refine Nx.is_at ?_)); (fail_if_success (with_reducible refine Nx.is_wp ?_)); (fail_if_success (with_reducible refine Nx.is_mix ?_)); first | refine Nx.ex ?_)
    exact Nx.ret_fn rfl [fracsR none 0 []] ⟨none, 0, rfl, rfl⟩ ((Ent.vec_nil _ _ _).trans (by (exact Ent.auto)))
  rw [h0] at hC
  have hf := chk_ok.1 h0
  have hfew := hf.few
  rw [hml] at hfew
  have hsq := hf.sq
  by_cases h1 : b.length = v.length
  case neg =>
    have hE : solE (matL v) b = 17 := by unfold solE; rw [if_neg (by omega), if_pos (by omega)]
    rw [solL_not (by rw [hE]; decide), hE]
    repeat' first
      | ((with_reducible refine Nx.is_wp ?_); first | refine Nx.wo ?_ | refine Nx.p_dec rfl rfl (fun hc => ?_) (fun hc => ?_) | refine Nx.p_bool rfl rfl (fun hc => ?_) (fun hc => ?_))
      | ((first | refine Nx.at_op rfl rfl ?_ | refine Nx.m_loud rfl rfl rfl ?_ | refine Nx.at_do rfl rfl rfl rfl ?_ | refine Nx.m_loud_do rfl rfl rfl rfl rfl ?_); first | refine Nx.opr rfl rfl ?_ | refine Nx.callv rfl rfl rfl (by kernel_rfl) rfl hC ?_ | refine Nx.so ?_ | refine Nx.sb (fun bx => ?_) | refine Nx.sa (fun A2 c2 => ?_))
      | ((with_reducible refine Nx.is_at ?_); first | refine Nx.a ?_ | ((fail_if_success refine Nx.at_do rfl rfl rfl rfl ?_); first | refine Nx.at_dec_t rfl rfl rfl rfl (by first | assumption | omega) ?_ | refine Nx.at_dec_f rfl rfl rfl rfl (by first | assumption | omega) ?_ | refine Nx.at_split rfl rfl rfl rfl (fun hc => ?_) (fun hc => ?_) | refine Nx.at_splitb rfl rfl rfl rfl (fun hc => ?_) (fun hc => ?_)))
      | ((with_reducible refine Nx.is_mix ?_); first | refine Nx.m ?_ | ((fail_if_success refine Nx.m_quiet_do rfl rfl rfl rfl rfl rfl rfl ?_ ?_); (fail_if_success refine Nx.m_loud_do rfl rfl rfl rfl rfl ?_); first | refine Nx.m_dec_t rfl rfl rfl rfl (by first | assumption | omega) ?_ | refine Nx.m_dec_f rfl rfl rfl rfl (by first | assumption | omega) ?_ | refine Nx.m_split rfl rfl rfl rfl (fun hc => ?_) (fun hc => ?_) | refine Nx.m_splitb rfl rfl rfl rfl (fun hc => ?_) (fun hc => ?_)))
      | ((fail_if_success (with_reducible refine Nx.is_at ?_)); (fail_if_success (with_reducible refine Nx.is_wp ?_)); (fail_if_success (with_reducible refine Nx.is_mix ?_)); first | refine Nx.ex ?_)
    exact Nx.ret_fn rfl [fracsR none 0 []] ⟨none, 0, rfl, rfl⟩ ((Ent.vec_nil _ _ _).trans (by (exact Ent.auto)))
  have hE0 : solE (matL v) b = if firstE (fun i => chkE (repL (matL v) i b)) v.length ≠ 0 then firstE (fun i => chkE (repL (matL v) i b)) v.length else if detM (matL v) = 0 then 15 else firstE (fun i => redE (solQ (matL v) b i)) v.length := by
    unfold solE
    rw [if_neg (by omega), if_neg (by omega), hml]
  repeat' first
    | ((with_reducible refine Nx.is_wp ?_); first | refine Nx.wo ?_ | refine Nx.p_dec rfl rfl (fun hc => ?_) (fun hc => ?_) | refine Nx.p_bool rfl rfl (fun hc => ?_) (fun hc => ?_))
    | ((first | refine Nx.at_op rfl rfl ?_ | refine Nx.m_loud rfl rfl rfl ?_ | refine Nx.at_do rfl rfl rfl rfl ?_ | refine Nx.m_loud_do rfl rfl rfl rfl rfl ?_); first | refine Nx.opr rfl rfl ?_ | refine Nx.callv rfl rfl rfl (by kernel_rfl) rfl hC ?_ | refine Nx.so ?_ | refine Nx.sb (fun bx => ?_) | refine Nx.sa (fun A2 c2 => ?_))
    | ((with_reducible refine Nx.is_at ?_); first | refine Nx.a ?_ | ((fail_if_success refine Nx.at_do rfl rfl rfl rfl ?_); first | refine Nx.at_dec_t rfl rfl rfl rfl (by first | assumption | omega) ?_ | refine Nx.at_dec_f rfl rfl rfl rfl (by first | assumption | omega) ?_ | refine Nx.at_split rfl rfl rfl rfl (fun hc => ?_) (fun hc => ?_) | refine Nx.at_splitb rfl rfl rfl rfl (fun hc => ?_) (fun hc => ?_)))
    | ((with_reducible refine Nx.is_mix ?_); first | refine Nx.m ?_ | ((fail_if_success refine Nx.m_quiet_do rfl rfl rfl rfl rfl rfl rfl ?_ ?_); (fail_if_success refine Nx.m_loud_do rfl rfl rfl rfl rfl ?_); first | refine Nx.m_dec_t rfl rfl rfl rfl (by first | assumption | omega) ?_ | refine Nx.m_dec_f rfl rfl rfl rfl (by first | assumption | omega) ?_ | refine Nx.m_split rfl rfl rfl rfl (fun hc => ?_) (fun hc => ?_) | refine Nx.m_splitb rfl rfl rfl rfl (fun hc => ?_) (fun hc => ?_)))
    | ((fail_if_success (with_reducible refine Nx.is_at ?_)); (fail_if_success (with_reducible refine Nx.is_wp ?_)); (fail_if_success (with_reducible refine Nx.is_mix ?_)); first | refine Nx.ex ?_)
  refine Nx.p_loop (σ := Nat) (fun k => [(0, .slice A v.length c), (1, .slice B b.length cb), (25, .int .i64 v.length), (26, .int .i64 (k : Int))])
    (fun _ => [F]) (fun k => k ≤ v.length ∧ ∀ i, i < k → chkE (repL (matL v) i b) = 0) (fun k => v.length - k) 0 rfl ⟨Nat.zero_le _, fun i hi => absurd hi (Nat.not_lt_zero _)⟩ ⟨rfl, rfl, rfl, rfl, trivial⟩ (by (exact Ent.auto)) ?_
  rintro k ⟨hk, hgood⟩
  by_cases hlt : k < v.length
  · repeat' first
      | ((with_reducible refine Nx.is_wp ?_); first | refine Nx.wo ?_ | refine Nx.p_dec rfl rfl (fun hc => ?_) (fun hc => ?_) | refine Nx.p_bool rfl rfl (fun hc => ?_) (fun hc => ?_))
      | ((first | refine Nx.at_op rfl rfl ?_ | refine Nx.m_loud rfl rfl rfl ?_ | refine Nx.at_do rfl rfl rfl rfl ?_ | refine Nx.m_loud_do rfl rfl rfl rfl rfl ?_); first | refine Nx.opr rfl rfl ?_ | refine Nx.so ?_ | refine Nx.sb (fun bx => ?_) | refine Nx.sa (fun A2 c2 => ?_))
      | ((with_reducible refine Nx.is_at ?_); first | refine Nx.a ?_ | ((fail_if_success refine Nx.at_do rfl rfl rfl rfl ?_); first | refine Nx.at_dec_t rfl rfl rfl rfl (by first | assumption | omega) ?_ | refine Nx.at_dec_f rfl rfl rfl rfl (by first | assumption | omega) ?_ | refine Nx.at_split rfl rfl rfl rfl (fun hc => ?_) (fun hc => ?_) | refine Nx.at_splitb rfl rfl rfl rfl (fun hc => ?_) (fun hc => ?_)))
      | ((with_reducible refine Nx.is_mix ?_); first | refine Nx.m ?_ | ((fail_if_success refine Nx.m_quiet_do rfl rfl rfl rfl rfl rfl rfl ?_ ?_); (fail_if_success refine Nx.m_loud_do rfl rfl rfl rfl rfl ?_); first | refine Nx.m_dec_t rfl rfl rfl rfl (by first | assumption | omega) ?_ | refine Nx.m_dec_f rfl rfl rfl rfl (by first | assumption | omega) ?_ | refine Nx.m_split rfl rfl rfl rfl (fun hc => ?_) (fun hc => ?_) | refine Nx.m_splitb rfl rfl rfl rfl (fun hc => ?_) (fun hc => ?_)))
      | ((fail_if_success (with_reducible refine Nx.is_at ?_)); (fail_if_success (with_reducible refine Nx.is_wp ?_)); (fail_if_success (with_reducible refine Nx.is_mix ?_)); first | refine Nx.ex ?_)
    refine Nx.at_op rfl rfl ?_
    refine Nx.call (Rpre := []) rfl rfl rfl (by kernel_rfl) rfl (replaced_spec A c v I hm hsq (by omega) k hlt B cb b hb h1) (Ent.refl _) ?_
    rintro _ _ ⟨A3, c3, o3, rfl, ho3, rfl⟩
    refine Nx.freezeAt 0 rfl fun I1 m1 hI1 hm1 h1' => ?_
    refine Nx.freezeAt 0 rfl fun I2 m2 hI2 hm2 h2' => ?_
    have hM3 : Mat I2 A3 c3 o3 := mat_given (hm1.trans hI2) h1' hm2 h2'
    have hC3 := Check_spec A3 c3 o3 I2 hM3
    rw [ho3] at hC3
    by_cases he : chkE (repL (matL v) k b) = 0
    · rw [he] at hC3
      repeat' first
        | ((with_reducible refine Nx.is_wp ?_); first | refine Nx.wo ?_ | refine Nx.p_dec rfl rfl (fun hc => ?_) (fun hc => ?_) | refine Nx.p_bool rfl rfl (fun hc => ?_) (fun hc => ?_))
        | ((first | refine Nx.at_op rfl rfl ?_ | refine Nx.m_loud rfl rfl rfl ?_ | refine Nx.at_do rfl rfl rfl rfl ?_ | refine Nx.m_loud_do rfl rfl rfl rfl rfl ?_); first | refine Nx.opr rfl rfl ?_ | refine Nx.callv rfl rfl rfl (by kernel_rfl) rfl hC3 ?_ | refine Nx.so ?_ | refine Nx.sb (fun bx => ?_) | refine Nx.sa (fun A2 c2 => ?_))
        | ((with_reducible refine Nx.is_at ?_); first | refine Nx.a ?_ | ((fail_if_success refine Nx.at_do rfl rfl rfl rfl ?_); first | refine Nx.at_dec_t rfl rfl rfl rfl (by first | assumption | omega) ?_ | refine Nx.at_dec_f rfl rfl rfl rfl (by first | assumption | omega) ?_ | refine Nx.at_split rfl rfl rfl rfl (fun hc => ?_) (fun hc => ?_) | refine Nx.at_splitb rfl rfl rfl rfl (fun hc => ?_) (fun hc => ?_)))
        | ((with_reducible refine Nx.is_mix ?_); first | refine Nx.m ?_ | ((fail_if_success refine Nx.m_quiet_do rfl rfl rfl rfl rfl rfl rfl ?_ ?_); (fail_if_success refine Nx.m_loud_do rfl rfl rfl rfl rfl ?_); first | refine Nx.m_dec_t rfl rfl rfl rfl (by first | assumption | omega) ?_ | refine Nx.m_dec_f rfl rfl rfl rfl (by first | assumption | omega) ?_ | refine Nx.m_split rfl rfl rfl rfl (fun hc => ?_) (fun hc => ?_) | refine Nx.m_splitb rfl rfl rfl rfl (fun hc => ?_) (fun hc => ?_)))
        | ((fail_if_success (with_reducible refine Nx.is_at ?_)); (fail_if_success (with_reducible refine Nx.is_wp ?_)); (fail_if_success (with_reducible refine Nx.is_mix ?_)); first | refine Nx.ex ?_)
      exact Nx.imm_le (hI1.trans hI2) (Nx.again (k + 1) ⟨hlt, fun i hi => by
        by_cases hik : i = k
        · rw [hik]; exact he
        · exact hgood i (by omega)⟩ (by omega) ⟨rfl, rfl, rfl, rfl, trivial⟩ (by (exact Ent.auto)))
    · have hfi := firstE_at (f := fun i => chkE (repL (matL v) i b)) hgood he hlt
      have hE : solE (matL v) b = chkE (repL (matL v) k b) := by rw [hE0, hfi, if_pos he]
      rw [solL_not (by rw [hE]; exact he), hE]
      repeat' first
        | ((with_reducible refine Nx.is_wp ?_); first | refine Nx.wo ?_ | refine Nx.p_dec rfl rfl (fun hc => ?_) (fun hc => ?_) | refine Nx.p_bool rfl rfl (fun hc => ?_) (fun hc => ?_))
        | ((first | refine Nx.at_op rfl rfl ?_ | refine Nx.m_loud rfl rfl rfl ?_ | refine Nx.at_do rfl rfl rfl rfl ?_ | refine Nx.m_loud_do rfl rfl rfl rfl rfl ?_); first | refine Nx.opr rfl rfl ?_ | refine Nx.callv rfl rfl rfl (by kernel_rfl) rfl hC3 ?_ | refine Nx.so ?_ | refine Nx.sb (fun bx => ?_) | refine Nx.sa (fun A2 c2 => ?_))
        | ((with_reducible refine Nx.is_at ?_); first | refine Nx.a ?_ | ((fail_if_success refine Nx.at_do rfl rfl rfl rfl ?_); first | refine Nx.at_dec_t rfl rfl rfl rfl (by first | assumption | omega) ?_ | refine Nx.at_dec_f rfl rfl rfl rfl (by first | assumption | omega) ?_ | refine Nx.at_split rfl rfl rfl rfl (fun hc => ?_) (fun hc => ?_) | refine Nx.at_splitb rfl rfl rfl rfl (fun hc => ?_) (fun hc => ?_)))
        | ((with_reducible refine Nx.is_mix ?_); first | refine Nx.m ?_ | ((fail_if_success refine Nx.m_quiet_do rfl rfl rfl rfl rfl rfl rfl ?_ ?_); (fail_if_success refine Nx.m_loud_do rfl rfl rfl rfl rfl ?_); first | refine Nx.m_dec_t rfl rfl rfl rfl (by first | assumption | omega) ?_ | refine Nx.m_dec_f rfl rfl rfl rfl (by first | assumption | omega) ?_ | refine Nx.m_split rfl rfl rfl rfl (fun hc => ?_) (fun hc => ?_) | refine Nx.m_splitb rfl rfl rfl rfl (fun hc => ?_) (fun hc => ?_)))
        | ((fail_if_success (with_reducible refine Nx.is_at ?_)); (fail_if_success (with_reducible refine Nx.is_wp ?_)); (fail_if_success (with_reducible refine Nx.is_mix ?_)); first | refine Nx.ex ?_)
      exact Nx.imm_le (hI1.trans hI2) (Nx.ret_fn rfl [fracsR none 0 []] ⟨none, 0, rfl, rfl⟩ ((Ent.vec_nil _ _ _).trans (by (exact Ent.auto))))
  obtain rfl : k = v.length := by omega
  rw [firstE_zero.2 hgood, if_neg (by decide)] at hE0
  have hD := det_spec A c v I hm hf.small hsq (by omega)
  have hS := sign_spec (detM (matL v)) (det_inw (det_bd hf)).1 I
  by_cases hz : detM (matL v) = 0
  · rw [if_pos hz] at hE0
    rw [solL_not (by rw [hE0]; decide), hE0]
    rw [show (detM (matL v)).sign = 0 by rw [hz]; rfl] at hS
    repeat' first
      | ((with_reducible refine Nx.is_wp ?_); first | refine Nx.wo ?_ | refine Nx.p_dec rfl rfl (fun hc => ?_) (fun hc => ?_) | refine Nx.p_bool rfl rfl (fun hc => ?_) (fun hc => ?_))
      | ((first | refine Nx.at_op rfl rfl ?_ | refine Nx.m_loud rfl rfl rfl ?_ | refine Nx.at_do rfl rfl rfl rfl ?_ | refine Nx.m_loud_do rfl rfl rfl rfl rfl ?_); first | refine Nx.opr rfl rfl ?_ | refine Nx.callv rfl rfl rfl (by kernel_rfl) rfl hD ?_ | refine Nx.callv rfl rfl rfl (by kernel_rfl) rfl hS ?_ | refine Nx.so ?_ | refine Nx.sb (fun bx => ?_) | refine Nx.sa (fun A2 c2 => ?_))
      | ((with_reducible refine Nx.is_at ?_); first | refine Nx.a ?_ | ((fail_if_success refine Nx.at_do rfl rfl rfl rfl ?_); first | refine Nx.at_dec_t rfl rfl rfl rfl (by first | assumption | omega) ?_ | refine Nx.at_dec_f rfl rfl rfl rfl (by first | assumption | omega) ?_ | refine Nx.at_split rfl rfl rfl rfl (fun hc => ?_) (fun hc => ?_) | refine Nx.at_splitb rfl rfl rfl rfl (fun hc => ?_) (fun hc => ?_)))
      | ((with_reducible refine Nx.is_mix ?_); first | refine Nx.m ?_ | ((fail_if_success refine Nx.m_quiet_do rfl rfl rfl rfl rfl rfl rfl ?_ ?_); (fail_if_success refine Nx.m_loud_do rfl rfl rfl rfl rfl ?_); first | refine Nx.m_dec_t rfl rfl rfl rfl (by first | assumption | omega) ?_ | refine Nx.m_dec_f rfl rfl rfl rfl (by first | assumption | omega) ?_ | refine Nx.m_split rfl rfl rfl rfl (fun hc => ?_) (fun hc => ?_) | refine Nx.m_splitb rfl rfl rfl rfl (fun hc => ?_) (fun hc => ?_)))
      | ((fail_if_success (with_reducible refine Nx.is_at ?_)); (fail_if_success (with_reducible refine Nx.is_wp ?_)); (fail_if_success (with_reducible refine Nx.is_mix ?_)); first | refine Nx.ex ?_)
    exact Nx.ret_fn rfl [fracsR none 0 []] ⟨none, 0, rfl, rfl⟩ ((Ent.vec_nil _ _ _).trans (by (exact Ent.auto)))
  rw [if_neg hz] at hE0
  have hsn : (detM (matL v)).sign ≠ 0 := fun h => hz (Int.sign_eq_zero_iff_zero.1 h)
  repeat' first
    | ((with_reducible refine Nx.is_wp ?_); first | refine Nx.wo ?_ | refine Nx.p_dec rfl rfl (fun hc => ?_) (fun hc => ?_) | refine Nx.p_bool rfl rfl (fun hc => ?_) (fun hc => ?_))
    | ((first | refine Nx.at_op rfl rfl ?_ | refine Nx.m_loud rfl rfl rfl ?_ | refine Nx.at_do rfl rfl rfl rfl ?_ | refine Nx.m_loud_do rfl rfl rfl rfl rfl ?_); first | refine Nx.opr rfl rfl ?_ | refine Nx.callv rfl rfl rfl (by kernel_rfl) rfl hD ?_ | refine Nx.callv rfl rfl rfl (by kernel_rfl) rfl hS ?_ | refine Nx.so ?_ | refine Nx.sb (fun bx => ?_) | refine Nx.sa (fun A2 c2 => ?_))
    | ((with_reducible refine Nx.is_at ?_); first | refine Nx.a ?_ | ((fail_if_success refine Nx.at_do rfl rfl rfl rfl ?_); first | refine Nx.at_dec_t rfl rfl rfl rfl (by first | assumption | omega) ?_ | refine Nx.at_dec_f rfl rfl rfl rfl (by first | assumption | omega) ?_ | refine Nx.at_split rfl rfl rfl rfl (fun hc => ?_) (fun hc => ?_) | refine Nx.at_splitb rfl rfl rfl rfl (fun hc => ?_) (fun hc => ?_)))
    | ((with_reducible refine Nx.is_mix ?_); first | refine Nx.m ?_ | ((fail_if_success refine Nx.m_quiet_do rfl rfl rfl rfl rfl rfl rfl ?_ ?_); (fail_if_success refine Nx.m_loud_do rfl rfl rfl rfl rfl ?_); first | refine Nx.m_dec_t rfl rfl rfl rfl (by first | assumption | omega) ?_ | refine Nx.m_dec_f rfl rfl rfl rfl (by first | assumption | omega) ?_ | refine Nx.m_split rfl rfl rfl rfl (fun hc => ?_) (fun hc => ?_) | refine Nx.m_splitb rfl rfl rfl rfl (fun hc => ?_) (fun hc => ?_)))
    | ((fail_if_success (with_reducible refine Nx.is_at ?_)); (fail_if_success (with_reducible refine Nx.is_wp ?_)); (fail_if_success (with_reducible refine Nx.is_mix ?_)); first | refine Nx.ex ?_)
  revert bx; intro b9
  refine Nx.ent (R' := [Blk b9 WT (wideL (detM (matL v))), F]) (by (exact Ent.auto)) ?_
  refine Nx.p_loop (σ := Nat × Option Addr × Nat) (fun x => [(0, .slice A v.length c), (1, .slice B b.length cb), (9, .pointer (some ⟨b9, 0, none⟩)), (10, .slice x.2.1 ((List.range x.1).map fun i => (redN (solQ (matL v) b i), redD (solQ (matL v) b i))).length x.2.2), (44, .int .i64 v.length), (45, .int .i64 (x.1 : Int))])
    (fun x => [fracsR x.2.1 x.2.2 ((List.range x.1).map fun i => (redN (solQ (matL v) b i), redD (solQ (matL v) b i))), Blk b9 WT (wideL (detM (matL v))), F]) (fun x => x.1 ≤ v.length ∧ ∀ i, i < x.1 → redE (solQ (matL v) b i) = 0) (fun x => v.length - x.1) (0, none, 0) rfl ⟨Nat.zero_le _, fun i hi => absurd hi (Nat.not_lt_zero _)⟩ ⟨rfl, rfl, rfl, rfl, rfl, rfl, trivial⟩ ((Ent.vec_nil _ _ _).trans (by (exact Ent.auto))) ?_
  rintro ⟨k, Ao, co⟩ ⟨hk, hzero⟩
  dsimp only at hk hzero ⊢
  generalize hL : (List.range k).map (fun i => (redN (solQ (matL v) b i), redD (solQ (matL v) b i))) = L
  have hLl : L.length = k := by rw [← hL, List.length_map, List.length_range]
  by_cases hlt : k < v.length
  · have hck := hgood k hlt
    have hfk := chk_ok.1 hck
    have hR : FnSpec Tryd.prog 26 [wideV (detM (repL (matL v) k b)), wideV (detM (matL v))] I [] (fun u R' => u = .tuple #[.agg #[.int .i64 (redN (solQ (matL v) b k)), .int .i64 (redD (solQ (matL v) b k))], .int .i64 (redE (solQ (matL v) b k))] ∧ R' = []) := Reduced_spec (detM (repL (matL v) k b)) (detM (matL v)) (det_inw (det_bd hfk)).2 hz (det_inw (det_bd hf)).2 I hT
    have hrs := replaced_spec A c v I hm hsq (by omega) k hlt B cb b hb h1
    have hds := fun (A3 : Option Addr) (c3 : Nat) (o3 : List Row) (ho3 : matL o3 = repL (matL v) k b) (I' : PH) (h : Mat I' A3 c3 o3) => det_spec A3 c3 o3 I' h (by rw [ho3]; exact hfk.small) (by have := hfk; rw [← ho3] at this; exact this.sq) (by have := hfk.few; rw [← ho3, matL_len] at this; omega)
    by_cases he : redE (solQ (matL v) b k) = 0
    · repeat' first
        | ((with_reducible refine Nx.is_wp ?_); first | refine Nx.wo ?_ | refine Nx.p_poolF (id := 20) rfl [0, 1, 2, 5, 3, 4, 6, 7, 8, 9] [3, 4, 6] [9, 8] [11, 12] [11] [⟨10, 12, 37, _⟩] rfl rfl (by kernel_rfl) (by kernel_rfl) (by decide) (PoolFit.cons ⟨⟨_, _, _, rfl⟩, rfl, rfl⟩ PoolFit.nil) (by repeat first | exact PanicOk.fn | refine PanicOk.then_ ?_ | refine PanicOk.inB ?_) (Ent.refl _) ?_ | refine Nx.p_dec rfl rfl (fun hc => ?_) (fun hc => ?_) | refine Nx.p_bool rfl rfl (fun hc => ?_) (fun hc => ?_))
        | ((first | refine Nx.at_op rfl rfl ?_ | refine Nx.m_loud rfl rfl rfl ?_ | refine Nx.at_do rfl rfl rfl rfl ?_ | refine Nx.m_loud_do rfl rfl rfl rfl rfl ?_ | refine GoodF.loud_ rfl rfl rfl rfl (fun ex X => ?_)); first | refine Nx.opr rfl rfl ?_ | (refine Nx.call (Rpre := []) rfl rfl rfl (by kernel_rfl) rfl hrs (Ent.refl _) ?_; rintro _ _ ⟨A3, c3, o3, rfl, ho3, rfl⟩) | (refine Nx.call_lendR2 1 1 rfl rfl rfl (by kernel_rfl) rfl rfl rfl (fun m1 m2 I' hI hm1 h1 hm2 h2 => hds _ _ _ ho3 I' (mat_given hm1 h1 hm2 h2)) ?_; rintro _ _ ⟨rfl, rfl⟩; rw [ho3]) | refine Nx.callv rfl rfl rfl (by kernel_rfl) rfl hR ?_ | refine Nx.so ?_ | refine Nx.sb (fun bx => ?_) | refine Nx.sa (fun A2 c2 => ?_))
        | ((with_reducible refine Nx.is_at ?_); first | refine Nx.a ?_ | ((fail_if_success refine Nx.at_do rfl rfl rfl rfl ?_); first | refine Nx.at_dec_t rfl rfl rfl rfl (by first | assumption | omega) ?_ | refine Nx.at_dec_f rfl rfl rfl rfl (by first | assumption | omega) ?_ | refine Nx.at_split rfl rfl rfl rfl (fun hc => ?_) (fun hc => ?_) | refine Nx.at_splitb rfl rfl rfl rfl (fun hc => ?_) (fun hc => ?_)))
        | ((with_reducible refine Nx.is_mix ?_); first | refine Nx.m_quiet rfl rfl rfl rfl rfl (by first | exact QRun.opr rfl | exact QRun.loads rfl rfl rfl (Rds.at_ 1 rfl) rfl) ?_ | refine Nx.m_quiet_do rfl rfl rfl rfl rfl rfl rfl (by first | exact QRun.opr rfl | exact QRun.loads rfl rfl rfl (Rds.at_ 1 rfl) rfl) ?_ | refine Nx.m ?_ | ((fail_if_success refine Nx.m_quiet_do rfl rfl rfl rfl rfl rfl rfl ?_ ?_); (fail_if_success refine Nx.m_loud_do rfl rfl rfl rfl rfl ?_); first | refine Nx.m_dec_t rfl rfl rfl rfl (by first | assumption | omega) ?_ | refine Nx.m_dec_f rfl rfl rfl rfl (by first | assumption | omega) ?_ | refine Nx.m_split rfl rfl rfl rfl (fun hc => ?_) (fun hc => ?_) | refine Nx.m_splitb rfl rfl rfl rfl (fun hc => ?_) (fun hc => ?_)))
        | ((with_reducible refine GoodF.is ?_); first | refine GoodF.quiet rfl rfl rfl rfl rfl rfl (by first | exact QRun.opr rfl | exact QRun.loads rfl rfl rfl (Rds.at_ 1 rfl) rfl |  exact QRun.std) ?_ | refine GoodF.done1 rfl (fun bx => ?_) | refine GoodF.done2 rfl (fun bx by_ => ?_) | refine GoodF.done3 rfl (fun bx by_ bz => ?_))
        | ((fail_if_success (with_reducible refine Nx.is_at ?_)); (fail_if_success (with_reducible refine Nx.is_wp ?_)); (fail_if_success (with_reducible refine Nx.is_mix ?_)); first | refine Nx.ex ?_ | refine Nx.pool_nextF 0 rfl (by exact Ent.auto) ?_ | refine Nx.pool_nextF 1 rfl (by exact Ent.auto) ?_ | refine Nx.pool_nextF 2 rfl (by exact Ent.auto) ?_ | refine Nx.pool_nextF 3 rfl (by exact Ent.auto) ?_)
      have hL2 : (List.range (k + 1)).map (fun i => (redN (solQ (matL v) b i), redD (solQ (matL v) b i))) = L ++ [(redN (solQ (matL v) b k), redD (solQ (matL v) b k))] := by rw [List.range_succ, List.map_append, hL]; rfl
      have hL3 : (L ++ [(redN (solQ (matL v) b k), redD (solQ (matL v) b k))]).length = L.length + 1 := by simp
      exact Nx.again (k + 1, A2, c2) ⟨hlt, fun i hi => by
        by_cases hik : i = k
        · rw [hik]; exact he
        · exact hzero i (by omega)⟩ (by dsimp only; omega) ⟨rfl, rfl, rfl, by dsimp only; rw [hL2, hL3]; rfl, rfl, rfl, trivial⟩ (by dsimp only; rw [hL2]; unfold fracsR; rw [hL3, List.flatMap_append]; (exact Ent.auto))
    · have hfi := firstE_at (f := fun i => redE (solQ (matL v) b i)) hzero he hlt
      have hE : solE (matL v) b = redE (solQ (matL v) b k) := by rw [hE0, hfi]
      rw [solL_not (by rw [hE]; exact he), hE]
      repeat' first
        | ((with_reducible refine Nx.is_wp ?_); first | refine Nx.wo ?_ | refine Nx.p_poolF (id := 20) rfl [0, 1, 2, 5, 3, 4, 6, 7, 8, 9] [3, 4, 6] [9, 8] [11, 12] [11] [⟨10, 12, 37, _⟩] rfl rfl (by kernel_rfl) (by kernel_rfl) (by decide) (PoolFit.cons ⟨⟨_, _, _, rfl⟩, rfl, rfl⟩ PoolFit.nil) (by repeat first | exact PanicOk.fn | refine PanicOk.then_ ?_ | refine PanicOk.inB ?_) (Ent.refl _) ?_ | refine Nx.p_dec rfl rfl (fun hc => ?_) (fun hc => ?_) | refine Nx.p_bool rfl rfl (fun hc => ?_) (fun hc => ?_))
        | ((first | refine Nx.at_op rfl rfl ?_ | refine Nx.m_loud rfl rfl rfl ?_ | refine Nx.at_do rfl rfl rfl rfl ?_ | refine Nx.m_loud_do rfl rfl rfl rfl rfl ?_ | refine GoodF.loud_ rfl rfl rfl rfl (fun ex X => ?_)); first | refine Nx.opr rfl rfl ?_ | (refine Nx.call (Rpre := []) rfl rfl rfl (by kernel_rfl) rfl hrs (Ent.refl _) ?_; rintro _ _ ⟨A3, c3, o3, rfl, ho3, rfl⟩) | (refine Nx.call_lendR2 1 1 rfl rfl rfl (by kernel_rfl) rfl rfl rfl (fun m1 m2 I' hI hm1 h1 hm2 h2 => hds _ _ _ ho3 I' (mat_given hm1 h1 hm2 h2)) ?_; rintro _ _ ⟨rfl, rfl⟩; rw [ho3]) | refine Nx.callv rfl rfl rfl (by kernel_rfl) rfl hR ?_ | refine Nx.so ?_ | refine Nx.sb (fun bx => ?_) | refine Nx.sa (fun A2 c2 => ?_))
        | ((with_reducible refine Nx.is_at ?_); first | refine Nx.a ?_ | ((fail_if_success refine Nx.at_do rfl rfl rfl rfl ?_); first | refine Nx.at_dec_t rfl rfl rfl rfl (by first | assumption | omega) ?_ | refine Nx.at_dec_f rfl rfl rfl rfl (by first | assumption | omega) ?_ | refine Nx.at_split rfl rfl rfl rfl (fun hc => ?_) (fun hc => ?_) | refine Nx.at_splitb rfl rfl rfl rfl (fun hc => ?_) (fun hc => ?_)))
        | ((with_reducible refine Nx.is_mix ?_); first | refine Nx.m_quiet rfl rfl rfl rfl rfl (by first | exact QRun.opr rfl | exact QRun.loads rfl rfl rfl (Rds.at_ 1 rfl) rfl) ?_ | refine Nx.m_quiet_do rfl rfl rfl rfl rfl rfl rfl (by first | exact QRun.opr rfl | exact QRun.loads rfl rfl rfl (Rds.at_ 1 rfl) rfl) ?_ | refine Nx.m ?_ | ((fail_if_success refine Nx.m_quiet_do rfl rfl rfl rfl rfl rfl rfl ?_ ?_); (fail_if_success refine Nx.m_loud_do rfl rfl rfl rfl rfl ?_); first | refine Nx.m_dec_t rfl rfl rfl rfl (by first | assumption | omega) ?_ | refine Nx.m_dec_f rfl rfl rfl rfl (by first | assumption | omega) ?_ | refine Nx.m_split rfl rfl rfl rfl (fun hc => ?_) (fun hc => ?_) | refine Nx.m_splitb rfl rfl rfl rfl (fun hc => ?_) (fun hc => ?_)))
        | ((with_reducible refine GoodF.is ?_); first | refine GoodF.quiet rfl rfl rfl rfl rfl rfl (by first | exact QRun.opr rfl | exact QRun.loads rfl rfl rfl (Rds.at_ 1 rfl) rfl |  exact QRun.std) ?_ | refine GoodF.done1 rfl (fun bx => ?_) | refine GoodF.done2 rfl (fun bx by_ => ?_) | refine GoodF.done3 rfl (fun bx by_ bz => ?_))
        | ((fail_if_success (with_reducible refine Nx.is_at ?_)); (fail_if_success (with_reducible refine Nx.is_wp ?_)); (fail_if_success (with_reducible refine Nx.is_mix ?_)); first | refine Nx.ex ?_ | refine Nx.pool_nextF 0 rfl (by exact Ent.auto) ?_ | refine Nx.pool_nextF 1 rfl (by exact Ent.auto) ?_ | refine Nx.pool_nextF 2 rfl (by exact Ent.auto) ?_ | refine Nx.pool_nextF 3 rfl (by exact Ent.auto) ?_)
      exact Nx.ret_fn rfl [fracsR none 0 []] ⟨none, 0, rfl, rfl⟩ ((Ent.vec_nil _ _ _).trans (by (exact Ent.auto)))
  · obtain rfl : k = v.length := by omega
    have hEz : solE (matL v) b = 0 := by rw [hE0]; exact firstE_zero.2 hzero
    have hLs : solL (matL v) b = L := by unfold solL; rw [if_pos hEz, hml]; exact hL
    rw [hLs, hEz]
    repeat' first
      | ((with_reducible refine Nx.is_wp ?_); first | refine Nx.wo ?_ | refine Nx.p_dec rfl rfl (fun hc => ?_) (fun hc => ?_) | refine Nx.p_bool rfl rfl (fun hc => ?_) (fun hc => ?_))
      | ((first | refine Nx.at_op rfl rfl ?_ | refine Nx.m_loud rfl rfl rfl ?_ | refine Nx.at_do rfl rfl rfl rfl ?_ | refine Nx.m_loud_do rfl rfl rfl rfl rfl ?_); first | refine Nx.opr rfl rfl ?_ | refine Nx.so ?_ | refine Nx.sb (fun bx => ?_) | refine Nx.sa (fun A2 c2 => ?_))
      | ((with_reducible refine Nx.is_at ?_); first | refine Nx.a ?_ | ((fail_if_success refine Nx.at_do rfl rfl rfl rfl ?_); first | refine Nx.at_dec_t rfl rfl rfl rfl (by first | assumption | omega) ?_ | refine Nx.at_dec_f rfl rfl rfl rfl (by first | assumption | omega) ?_ | refine Nx.at_split rfl rfl rfl rfl (fun hc => ?_) (fun hc => ?_) | refine Nx.at_splitb rfl rfl rfl rfl (fun hc => ?_) (fun hc => ?_)))
      | ((with_reducible refine Nx.is_mix ?_); first | refine Nx.m ?_ | ((fail_if_success refine Nx.m_quiet_do rfl rfl rfl rfl rfl rfl rfl ?_ ?_); (fail_if_success refine Nx.m_loud_do rfl rfl rfl rfl rfl ?_); first | refine Nx.m_dec_t rfl rfl rfl rfl (by first | assumption | omega) ?_ | refine Nx.m_dec_f rfl rfl rfl rfl (by first | assumption | omega) ?_ | refine Nx.m_split rfl rfl rfl rfl (fun hc => ?_) (fun hc => ?_) | refine Nx.m_splitb rfl rfl rfl rfl (fun hc => ?_) (fun hc => ?_)))
      | ((fail_if_success (with_reducible refine Nx.is_at ?_)); (fail_if_success (with_reducible refine Nx.is_wp ?_)); (fail_if_success (with_reducible refine Nx.is_mix ?_)); first | refine Nx.ex ?_)
    exact Nx.ret_fn rfl [fracsR Ao co L] ⟨Ao, co, rfl, rfl⟩ (by (exact Ent.auto))
end Go.Proofs.YtpdgnjoideppjaaDoor
/- Contracts of functions of the given program, and lemmas about plain lists and numbers: what the laws of this seat lean on. -/
namespace Go.Proofs.YtpdgnjoideppjaaDoor
open Go.Eng Go.Det
attribute [local irreducible] opK wpList Code.wp Exit.then Exit.inBlock fnPost bodyPost Nx Calls Oper.wp Rd Rds Wr Ent Stars Blk Again Vec FnSpec wpMix QRun Stop Upto wpAt
set_option maxRecDepth 10000 in
set_option maxHeartbeats 8000000 in
theorem rSolve_spec (A : Option Addr) (c : Nat) (v : List Row) (I : PH) (hm : Mat I A c v) (B : Option Addr) (cb : Nat) (b : List Int) (hb : Ints I B cb b) :
    FnSpec Tryd.prog 30 [.slice A v.length c, .slice B b.length cb] I [] (fracPost (solL (matL v) b) (solE (matL v) b)) := by
  have hC := rCheck_spec A c v I hm
  have hml := matL_len v
  have hbl := hb.len
  have hvl := hm.outer.len
  refine FnSpec.enterP Tryd.func30 rfl Tryd.ntmps30 rfl fun w F => ?_
  by_cases h0 : chkE (matL v) = 0
  case neg =>
    have hE : solE (matL v) b = chkE (matL v) := if_pos h0
    rw [solL_not (by rw [hE]; exact h0), hE]
    repeat' first
      | ((with_reducible refine Nx.is_wp ?_); first | refine Nx.wo ?_ | refine Nx.p_dec rfl rfl (fun hc => ?_) (fun hc => ?_) | refine Nx.p_bool rfl rfl (fun hc => ?_) (fun hc => ?_))
      | ((first | refine Nx.at_op rfl rfl ?_ | refine Nx.m_loud rfl rfl rfl ?_ | refine Nx.at_do rfl rfl rfl rfl ?_ | refine Nx.m_loud_do rfl rfl rfl rfl rfl ?_); first | refine Nx.opr rfl rfl ?_ | refine Nx.callv rfl rfl rfl (by kernel_rfl) rfl hC ?_ | refine Nx.so ?_ | refine Nx.sb (fun bx => ?_) | refine Nx.sa (fun A2 c2 => ?_))
      | ((with_reducible refine Nx.is_at ?_); first | refine Nx.a ?_ | ((fail_if_success refine Nx.at_do rfl rfl rfl rfl ?_); first | refine Nx.at_dec_t rfl rfl rfl rfl (by first | assumption | omega) ?_ | refine Nx.at_dec_f rfl rfl rfl rfl (by first | assumption | omega) ?_ | refine Nx.at_split rfl rfl rfl rfl (fun hc => ?_) (fun hc => ?_) | refine Nx.at_splitb rfl rfl rfl rfl (fun hc => ?_) (fun hc => ?_)))
      | ((with_reducible refine Nx.is_mix ?_); first | refine Nx.m ?_ | ((fail_if_success refine Nx.m_quiet_do rfl rfl rfl rfl rfl rfl rfl ?_ ?_); (fail_if_success refine Nx.m_loud_do rfl rfl rfl rfl rfl ?_); first | refine Nx.m_dec_t rfl rfl rfl rfl (by first | assumption | omega) ?_ | refine Nx.m_dec_f rfl rfl rfl rfl (by first | assumption | omega) ?_ | refine Nx.m_split rfl rfl rfl rfl (fun hc => ?_) (fun hc => ?_) | refine Nx.m_splitb rfl rfl rfl rfl (fun hc => ?_) (fun hc => ?_)))
      | ((fail_if_success (with_reducible refine Nx.is_at ?_)); (fail_if_success (with_reducible refine Nx.is_wp ?_)); (fail_if_success (with_reducible refine Nx.is_mix ?_)); first | refine Nx.ex ?_)
    exact Nx.ret_fn rfl [fracsR none 0 []] ⟨none, 0, rfl, rfl⟩ ((Ent.vec_nil _ _ _).trans (by (exact Ent.auto)))
  rw [h0] at hC
  have hf := chk_ok.1 h0
  have hfew := hf.few
  rw [hml] at hfew
  have hsq := hf.sq
  by_cases h1 : b.length = v.length
  case neg =>
    have hE : solE (matL v) b = 17 := by unfold solE; rw [if_neg (by omega), if_pos (by omega)]
    rw [solL_not (by rw [hE]; decide), hE]
    repeat' first
      | ((with_reducible refine Nx.is_wp ?_); first | refine Nx.wo ?_ | refine Nx.p_dec rfl rfl (fun hc => ?_) (fun hc => ?_) | refine Nx.p_bool rfl rfl (fun hc => ?_) (fun hc => ?_))
      | ((first | refine Nx.at_op rfl rfl ?_ | refine Nx.m_loud rfl rfl rfl ?_ | refine Nx.at_do rfl rfl rfl rfl ?_ | refine Nx.m_loud_do rfl rfl rfl rfl rfl ?_); first | refine Nx.opr rfl rfl ?_ | refine Nx.callv rfl rfl rfl (by kernel_rfl) rfl hC ?_ | refine Nx.so ?_ | refine Nx.sb (fun bx => ?_) | refine Nx.sa (fun A2 c2 => ?_))
      | ((with_reducible refine Nx.is_at ?_); first | refine Nx.a ?_ | ((fail_if_success refine Nx.at_do rfl rfl rfl rfl ?_); first | refine Nx.at_dec_t rfl rfl rfl rfl (by first | assumption | omega) ?_ | refine Nx.at_dec_f rfl rfl rfl rfl (by first | assumption | omega) ?_ | refine Nx.at_split rfl rfl rfl rfl (fun hc => ?_) (fun hc => ?_) | refine Nx.at_splitb rfl rfl rfl rfl (fun hc => ?_) (fun hc => ?_)))
      | ((with_reducible refine Nx.is_mix ?_); first | refine Nx.m ?_ | ((fail_if_success refine Nx.m_quiet_do rfl rfl rfl rfl rfl rfl rfl ?_ ?_); (fail_if_success refine Nx.m_loud_do rfl rfl rfl rfl rfl ?_); first | refine Nx.m_dec_t rfl rfl rfl rfl (by first | assumption | omega) ?_ | refine Nx.m_dec_f rfl rfl rfl rfl (by first | assumption | omega) ?_ | refine Nx.m_split rfl rfl rfl rfl (fun hc => ?_) (fun hc => ?_) | refine Nx.m_splitb rfl rfl rfl rfl (fun hc => ?_) (fun hc => ?_)))
      | ((fail_if_success (with_reducible refine Nx.is_at ?_)); (fail_if_success (with_reducible refine Nx.is_wp ?_)); (fail_if_success (with_reducible refine Nx.is_mix ?_)); first | refine Nx.ex ?_)
    exact Nx.ret_fn rfl [fracsR none 0 []] ⟨none, 0, rfl, rfl⟩ ((Ent.vec_nil _ _ _).trans (by (exact Ent.auto)))
  have hE0 : solE (matL v) b = if firstE (fun i => chkE (repL (matL v) i b)) v.length ≠ 0 then firstE (fun i => chkE (repL (matL v) i b)) v.length else if detM (matL v) = 0 then 15 else firstE (fun i => redE (solQ (matL v) b i)) v.length := by
    unfold solE
    rw [if_neg (by omega), if_neg (by omega), hml]
  repeat' first
    | ((with_reducible refine Nx.is_wp ?_); first | refine Nx.wo ?_ | refine Nx.p_dec rfl rfl (fun hc => ?_) (fun hc => ?_) | refine Nx.p_bool rfl rfl (fun hc => ?_) (fun hc => ?_))
    | ((first | refine Nx.at_op rfl rfl ?_ | refine Nx.m_loud rfl rfl rfl ?_ | refine Nx.at_do rfl rfl rfl rfl ?_ | refine Nx.m_loud_do rfl rfl rfl rfl rfl ?_); first | refine Nx.opr rfl rfl ?_ | refine Nx.callv rfl rfl rfl (by kernel_rfl) rfl hC ?_ | refine Nx.so ?_ | refine Nx.sb (fun bx => ?_) | refine Nx.sa (fun A2 c2 => ?_))
    | ((with_reducible refine Nx.is_at ?_); first | refine Nx.a ?_ | ((fail_if_success refine Nx.at_do rfl rfl rfl rfl ?_); first | refine Nx.at_dec_t rfl rfl rfl rfl (by first | assumption | omega) ?_ | refine Nx.at_dec_f rfl rfl rfl rfl (by first | assumption | omega) ?_ | refine Nx.at_split rfl rfl rfl rfl (fun hc => ?_) (fun hc => ?_) | refine Nx.at_splitb rfl rfl rfl rfl (fun hc => ?_) (fun hc => ?_)))
    | ((with_reducible refine Nx.is_mix ?_); first | refine Nx.m ?_ | ((fail_if_success refine Nx.m_quiet_do rfl rfl rfl rfl rfl rfl rfl ?_ ?_); (fail_if_success refine Nx.m_loud_do rfl rfl rfl rfl rfl ?_); first | refine Nx.m_dec_t rfl rfl rfl rfl (by first | assumption | omega) ?_ | refine Nx.m_dec_f rfl rfl rfl rfl (by first | assumption | omega) ?_ | refine Nx.m_split rfl rfl rfl rfl (fun hc => ?_) (fun hc => ?_) | refine Nx.m_splitb rfl rfl rfl rfl (fun hc => ?_) (fun hc => ?_)))
    | ((fail_if_success (with_reducible refine Nx.is_at ?_)); (fail_if_success (with_reducible refine Nx.is_wp ?_)); (fail_if_success (with_reducible refine Nx.is_mix ?_)); first | refine Nx.ex ?_)
  refine Nx.p_loop (σ := Nat) (fun k => [(0, .slice A v.length c), (1, .slice B b.length cb), (7, .int .i64 (k : Int))])
    (fun _ => [F]) (fun k => k ≤ v.length ∧ ∀ i, i < k → chkE (repL (matL v) i b) = 0) (fun k => v.length - k) 0 rfl ⟨Nat.zero_le _, fun i hi => absurd hi (Nat.not_lt_zero _)⟩ ⟨rfl, rfl, rfl, trivial⟩ (by (exact Ent.auto)) ?_
  rintro k ⟨hk, hgood⟩
  by_cases hlt : k < v.length
  · repeat' first
      | ((with_reducible refine Nx.is_wp ?_); first | refine Nx.wo ?_ | refine Nx.p_dec rfl rfl (fun hc => ?_) (fun hc => ?_) | refine Nx.p_bool rfl rfl (fun hc => ?_) (fun hc => ?_))
      | ((first | refine Nx.at_op rfl rfl ?_ | refine Nx.m_loud rfl rfl rfl ?_ | refine Nx.at_do rfl rfl rfl rfl ?_ | refine Nx.m_loud_do rfl rfl rfl rfl rfl ?_); first | refine Nx.opr rfl rfl ?_ | refine Nx.so ?_ | refine Nx.sb (fun bx => ?_) | refine Nx.sa (fun A2 c2 => ?_))
      | ((with_reducible refine Nx.is_at ?_); first | refine Nx.a ?_ | ((fail_if_success refine Nx.at_do rfl rfl rfl rfl ?_); first | refine Nx.at_dec_t rfl rfl rfl rfl (by first | assumption | omega) ?_ | refine Nx.at_dec_f rfl rfl rfl rfl (by first | assumption | omega) ?_ | refine Nx.at_split rfl rfl rfl rfl (fun hc => ?_) (fun hc => ?_) | refine Nx.at_splitb rfl rfl rfl rfl (fun hc => ?_) (fun hc => ?_)))
      | ((with_reducible refine Nx.is_mix ?_); first | refine Nx.m ?_ | ((fail_if_success refine Nx.m_quiet_do rfl rfl rfl rfl rfl rfl rfl ?_ ?_); (fail_if_success refine Nx.m_loud_do rfl rfl rfl rfl rfl ?_); first | refine Nx.m_dec_t rfl rfl rfl rfl (by first | assumption | omega) ?_ | refine Nx.m_dec_f rfl rfl rfl rfl (by first | assumption | omega) ?_ | refine Nx.m_split rfl rfl rfl rfl (fun hc => ?_) (fun hc => ?_) | refine Nx.m_splitb rfl rfl rfl rfl (fun hc => ?_) (fun hc => ?_)))
      | ((fail_if_success (with_reducible refine Nx.is_at ?_)); (fail_if_success (with_reducible refine Nx.is_wp ?_)); (fail_if_success (with_reducible refine Nx.is_mix ?_)); first | refine Nx.ex ?_)
    refine Nx.at_op rfl rfl ?_
    refine Nx.call (Rpre := []) rfl rfl rfl (by kernel_rfl) rfl (put_spec A c v I hm hsq (by omega) k hlt B cb b hb h1) (Ent.refl _) ?_
    rintro _ _ ⟨A3, c3, o3, rfl, ho3, rfl⟩
    refine Nx.freezeAt 0 rfl fun I1 m1 hI1 hm1 h1' => ?_
    refine Nx.freezeAt 0 rfl fun I2 m2 hI2 hm2 h2' => ?_
    have hM3 : Mat I2 A3 c3 o3 := mat_given (hm1.trans hI2) h1' hm2 h2'
    have hC3 := rCheck_spec A3 c3 o3 I2 hM3
    rw [ho3] at hC3
    by_cases he : chkE (repL (matL v) k b) = 0
    · rw [he] at hC3
      repeat' first
        | ((with_reducible refine Nx.is_wp ?_); first | refine Nx.wo ?_ | refine Nx.p_dec rfl rfl (fun hc => ?_) (fun hc => ?_) | refine Nx.p_bool rfl rfl (fun hc => ?_) (fun hc => ?_))
        | ((first | refine Nx.at_op rfl rfl ?_ | refine Nx.m_loud rfl rfl rfl ?_ | refine Nx.at_do rfl rfl rfl rfl ?_ | refine Nx.m_loud_do rfl rfl rfl rfl rfl ?_); first | refine Nx.opr rfl rfl ?_ | refine Nx.callv rfl rfl rfl (by kernel_rfl) rfl hC3 ?_ | refine Nx.so ?_ | refine Nx.sb (fun bx => ?_) | refine Nx.sa (fun A2 c2 => ?_))
        | ((with_reducible refine Nx.is_at ?_); first | refine Nx.a ?_ | ((fail_if_success refine Nx.at_do rfl rfl rfl rfl ?_); first | refine Nx.at_dec_t rfl rfl rfl rfl (by first | assumption | omega) ?_ | refine Nx.at_dec_f rfl rfl rfl rfl (by first | assumption | omega) ?_ | refine Nx.at_split rfl rfl rfl rfl (fun hc => ?_) (fun hc => ?_) | refine Nx.at_splitb rfl rfl rfl rfl (fun hc => ?_) (fun hc => ?_)))
        | ((with_reducible refine Nx.is_mix ?_); first | refine Nx.m ?_ | ((fail_if_success refine Nx.m_quiet_do rfl rfl rfl rfl rfl rfl rfl ?_ ?_); (fail_if_success refine Nx.m_loud_do rfl rfl rfl rfl rfl ?_); first | refine Nx.m_dec_t rfl rfl rfl rfl (by first | assumption | omega) ?_ | refine Nx.m_dec_f rfl rfl rfl rfl (by first | assumption | omega) ?_ | refine Nx.m_split rfl rfl rfl rfl (fun hc => ?_) (fun hc => ?_) | refine Nx.m_splitb rfl rfl rfl rfl (fun hc => ?_) (fun hc => ?_)))
        | ((fail_if_success (with_reducible refine Nx.is_at ?_)); (fail_if_success (with_reducible refine Nx.is_wp ?_)); (fail_if_success (with_reducible refine Nx.is_mix ?_)); first | refine Nx.ex ?_)
      exact Nx.imm_le (hI1.trans hI2) (Nx.again (k + 1) ⟨hlt, fun i hi => by
        by_cases hik : i = k
        · rw [hik]; exact he
        · exact hgood i (by omega)⟩ (by omega) ⟨rfl, rfl, rfl, trivial⟩ (by (exact Ent.auto)))
    · have hfi := firstE_at (f := fun i => chkE (repL (matL v) i b)) hgood he hlt
      have hE : solE (matL v) b = chkE (repL (matL v) k b) := by rw [hE0, hfi, if_pos he]
      rw [solL_not (by rw [hE]; exact he), hE]
      repeat' first
        | ((with_reducible refine Nx.is_wp ?_); first | refine Nx.wo ?_ | refine Nx.p_dec rfl rfl (fun hc => ?_) (fun hc => ?_) | refine Nx.p_bool rfl rfl (fun hc => ?_) (fun hc => ?_))
        | ((first | refine Nx.at_op rfl rfl ?_ | refine Nx.m_loud rfl rfl rfl ?_ | refine Nx.at_do rfl rfl rfl rfl ?_ | refine Nx.m_loud_do rfl rfl rfl rfl rfl ?_); first | refine Nx.opr rfl rfl ?_ | refine Nx.callv rfl rfl rfl (by kernel_rfl) rfl hC3 ?_ | refine Nx.so ?_ | refine Nx.sb (fun bx => ?_) | refine Nx.sa (fun A2 c2 => ?_))
        | ((with_reducible refine Nx.is_at ?_); first | refine Nx.a ?_ | ((fail_if_success refine Nx.at_do rfl rfl rfl rfl ?_); first | refine Nx.at_dec_t rfl rfl rfl rfl (by first | assumption | omega) ?_ | refine Nx.at_dec_f rfl rfl rfl rfl (by first | assumption | omega) ?_ | refine Nx.at_split rfl rfl rfl rfl (fun hc => ?_) (fun hc => ?_) | refine Nx.at_splitb rfl rfl rfl rfl (fun hc => ?_) (fun hc => ?_)))
        | ((with_reducible refine Nx.is_mix ?_); first | refine Nx.m ?_ | ((fail_if_success refine Nx.m_quiet_do rfl rfl rfl rfl rfl rfl rfl ?_ ?_); (fail_if_success refine Nx.m_loud_do rfl rfl rfl rfl rfl ?_); first | refine Nx.m_dec_t rfl rfl rfl rfl (by first | assumption | omega) ?_ | refine Nx.m_dec_f rfl rfl rfl rfl (by first | assumption | omega) ?_ | refine Nx.m_split rfl rfl rfl rfl (fun hc => ?_) (fun hc => ?_) | refine Nx.m_splitb rfl rfl rfl rfl (fun hc => ?_) (fun hc => ?_)))
        | ((fail_if_success (with_reducible refine Nx.is_at ?_)); (fail_if_success (with_reducible refine Nx.is_wp ?_)); (fail_if_success (with_reducible refine Nx.is_mix ?_)); first | refine Nx.ex ?_)
      exact Nx.imm_le (hI1.trans hI2) (Nx.ret_fn rfl [fracsR none 0 []] ⟨none, 0, rfl, rfl⟩ ((Ent.vec_nil _ _ _).trans (by (exact Ent.auto))))
  obtain rfl : k = v.length := by omega
  rw [firstE_zero.2 hgood, if_neg (by decide)] at hE0
  have hD := rdet_spec A c v I hm hf.small hsq (by omega)
  have hS := zero_spec (detM (matL v)) (det_inw (det_bd hf)).1 I
  by_cases hz : detM (matL v) = 0
  · rw [if_pos hz] at hE0
    rw [solL_not (by rw [hE0]; decide), hE0]
    rw [decide_eq_true hz] at hS
    repeat' first
      | ((with_reducible refine Nx.is_wp ?_); first | refine Nx.wo ?_ | refine Nx.p_dec rfl rfl (fun hc => ?_) (fun hc => ?_) | refine Nx.p_bool rfl rfl (fun hc => ?_) (fun hc => ?_))
      | ((first | refine Nx.at_op rfl rfl ?_ | refine Nx.m_loud rfl rfl rfl ?_ | refine Nx.at_do rfl rfl rfl rfl ?_ | refine Nx.m_loud_do rfl rfl rfl rfl rfl ?_); first | refine Nx.opr rfl rfl ?_ | refine Nx.callv rfl rfl rfl (by kernel_rfl) rfl hD ?_ | refine Nx.callv rfl rfl rfl (by kernel_rfl) rfl hS ?_ | refine Nx.so ?_ | refine Nx.sb (fun bx => ?_) | refine Nx.sa (fun A2 c2 => ?_))
      | ((with_reducible refine Nx.is_at ?_); first | refine Nx.a ?_ | ((fail_if_success refine Nx.at_do rfl rfl rfl rfl ?_); first | refine Nx.at_dec_t rfl rfl rfl rfl (by first | assumption | omega) ?_ | refine Nx.at_dec_f rfl rfl rfl rfl (by first | assumption | omega) ?_ | refine Nx.at_split rfl rfl rfl rfl (fun hc => ?_) (fun hc => ?_) | refine Nx.at_splitb rfl rfl rfl rfl (fun hc => ?_) (fun hc => ?_)))
      | ((with_reducible refine Nx.is_mix ?_); first | refine Nx.m ?_ | ((fail_if_success refine Nx.m_quiet_do rfl rfl rfl rfl rfl rfl rfl ?_ ?_); (fail_if_success refine Nx.m_loud_do rfl rfl rfl rfl rfl ?_); first | refine Nx.m_dec_t rfl rfl rfl rfl (by first | assumption | omega) ?_ | refine Nx.m_dec_f rfl rfl rfl rfl (by first | assumption | omega) ?_ | refine Nx.m_split rfl rfl rfl rfl (fun hc => ?_) (fun hc => ?_) | refine Nx.m_splitb rfl rfl rfl rfl (fun hc => ?_) (fun hc => ?_)))
      | ((fail_if_success (with_reducible refine Nx.is_at ?_)); (fail_if_success (with_reducible refine Nx.is_wp ?_)); (fail_if_success (with_reducible refine Nx.is_mix ?_)); first | refine Nx.ex ?_)
    exact Nx.ret_fn rfl [fracsR none 0 []] ⟨none, 0, rfl, rfl⟩ ((Ent.vec_nil _ _ _).trans (by (exact Ent.auto)))
  rw [if_neg hz] at hE0
  rw [decide_eq_false hz] at hS
  repeat' first
    | ((with_reducible refine Nx.is_wp ?_); first | refine Nx.wo ?_ | refine Nx.p_dec rfl rfl (fun hc => ?_) (fun hc => ?_) | refine Nx.p_bool rfl rfl (fun hc => ?_) (fun hc => ?_))
    | ((first | refine Nx.at_op rfl rfl ?_ | refine Nx.m_loud rfl rfl rfl ?_ | refine Nx.at_do rfl rfl rfl rfl ?_ | refine Nx.m_loud_do rfl rfl rfl rfl rfl ?_); first | refine Nx.opr rfl rfl ?_ | refine Nx.callv rfl rfl rfl (by kernel_rfl) rfl hD ?_ | refine Nx.callv rfl rfl rfl (by kernel_rfl) rfl hS ?_ | refine Nx.so ?_ | refine Nx.sb (fun bx => ?_) | refine Nx.sa (fun A2 c2 => ?_))
    | ((with_reducible refine Nx.is_at ?_); first | refine Nx.a ?_ | ((fail_if_success refine Nx.at_do rfl rfl rfl rfl ?_); first | refine Nx.at_dec_t rfl rfl rfl rfl (by first | assumption | omega) ?_ | refine Nx.at_dec_f rfl rfl rfl rfl (by first | assumption | omega) ?_ | refine Nx.at_split rfl rfl rfl rfl (fun hc => ?_) (fun hc => ?_) | refine Nx.at_splitb rfl rfl rfl rfl (fun hc => ?_) (fun hc => ?_)))
    | ((with_reducible refine Nx.is_mix ?_); first | refine Nx.m ?_ | ((fail_if_success refine Nx.m_quiet_do rfl rfl rfl rfl rfl rfl rfl ?_ ?_); (fail_if_success refine Nx.m_loud_do rfl rfl rfl rfl rfl ?_); first | refine Nx.m_dec_t rfl rfl rfl rfl (by first | assumption | omega) ?_ | refine Nx.m_dec_f rfl rfl rfl rfl (by first | assumption | omega) ?_ | refine Nx.m_split rfl rfl rfl rfl (fun hc => ?_) (fun hc => ?_) | refine Nx.m_splitb rfl rfl rfl rfl (fun hc => ?_) (fun hc => ?_)))
    | ((fail_if_success (with_reducible refine Nx.is_at ?_)); (fail_if_success (with_reducible refine Nx.is_wp ?_)); (fail_if_success (with_reducible refine Nx.is_mix ?_)); first | refine Nx.ex ?_)
  revert bx; intro b9
  refine Nx.ent (R' := [Blk b9 RT (wideL (detM (matL v))), F]) (by (exact Ent.auto)) ?_
  refine Nx.p_loop (σ := Nat × Option Addr × Nat) (fun x => [(0, .slice A v.length c), (1, .slice B b.length cb), (9, .pointer (some ⟨b9, 0, none⟩)), (10, .slice x.2.1 ((List.range x.1).map fun i => (redN (solQ (matL v) b i), redD (solQ (matL v) b i))).length x.2.2), (11, .int .i64 (x.1 : Int))])
    (fun x => [fracsR x.2.1 x.2.2 ((List.range x.1).map fun i => (redN (solQ (matL v) b i), redD (solQ (matL v) b i))), Blk b9 RT (wideL (detM (matL v))), F]) (fun x => x.1 ≤ v.length ∧ ∀ i, i < x.1 → redE (solQ (matL v) b i) = 0) (fun x => v.length - x.1) (0, none, 0) rfl ⟨Nat.zero_le _, fun i hi => absurd hi (Nat.not_lt_zero _)⟩ ⟨rfl, rfl, rfl, rfl, rfl, trivial⟩ ((Ent.vec_nil _ _ _).trans (by (exact Ent.auto))) ?_
  rintro ⟨k, Ao, co⟩ ⟨hk, hzero⟩
  dsimp only at hk hzero ⊢
  generalize hL : (List.range k).map (fun i => (redN (solQ (matL v) b i), redD (solQ (matL v) b i))) = L
  have hLl : L.length = k := by rw [← hL, List.length_map, List.length_range]
  by_cases hlt : k < v.length
  · have hck := hgood k hlt
    have hfk := chk_ok.1 hck
    have hR : FnSpec Tryd.prog 50 [wideV (detM (repL (matL v) k b)), wideV (detM (matL v))] I [] (fun u R' => u = .tuple #[.agg #[.int .i64 (redN (solQ (matL v) b k)), .int .i64 (redD (solQ (matL v) b k))], .int .i64 (redE (solQ (matL v) b k))] ∧ R' = []) := Reduce_spec (detM (repL (matL v) k b)) (detM (matL v)) (det_inw (det_bd hfk)).2 hz (det_inw (det_bd hf)).2 I
    have hrs := put_spec A c v I hm hsq (by omega) k hlt B cb b hb h1
    have hds := fun (A3 : Option Addr) (c3 : Nat) (o3 : List Row) (ho3 : matL o3 = repL (matL v) k b) (I' : PH) (h : Mat I' A3 c3 o3) => rdet_spec A3 c3 o3 I' h (by rw [ho3]; exact hfk.small) (by have := hfk; rw [← ho3] at this; exact this.sq) (by have := hfk.few; rw [← ho3, matL_len] at this; omega)
    by_cases he : redE (solQ (matL v) b k) = 0
    · repeat' first
        | ((with_reducible refine Nx.is_wp ?_); first | refine Nx.wo ?_ | refine Nx.p_poolF (id := 19) rfl [0, 1, 2, 5, 3, 4, 6, 7, 8, 9] [3, 4, 6] [9, 8] [11, 12] [11] [⟨10, 12, 37, _⟩] rfl rfl (by kernel_rfl) (by kernel_rfl) (by decide) (PoolFit.cons ⟨⟨_, _, _, rfl⟩, rfl, rfl⟩ PoolFit.nil) (by repeat first | exact PanicOk.fn | refine PanicOk.then_ ?_ | refine PanicOk.inB ?_) (Ent.refl _) ?_ | refine Nx.p_dec rfl rfl (fun hc => ?_) (fun hc => ?_) | refine Nx.p_bool rfl rfl (fun hc => ?_) (fun hc => ?_))
        | ((first | refine Nx.at_op rfl rfl ?_ | refine Nx.m_loud rfl rfl rfl ?_ | refine Nx.at_do rfl rfl rfl rfl ?_ | refine Nx.m_loud_do rfl rfl rfl rfl rfl ?_ | refine GoodF.loud_ rfl rfl rfl rfl (fun ex X => ?_)); first | refine Nx.opr rfl rfl ?_ | (refine Nx.call (Rpre := []) rfl rfl rfl (by kernel_rfl) rfl hrs (Ent.refl _) ?_; rintro _ _ ⟨A3, c3, o3, rfl, ho3, rfl⟩) | (refine Nx.call_lendR2 1 1 rfl rfl rfl (by kernel_rfl) rfl rfl rfl (fun m1 m2 I' hI hm1 h1 hm2 h2 => hds _ _ _ ho3 I' (mat_given hm1 h1 hm2 h2)) ?_; rintro _ _ ⟨rfl, rfl⟩; rw [ho3]) | refine Nx.callv rfl rfl rfl (by kernel_rfl) rfl hR ?_ | refine Nx.so ?_ | refine Nx.sb (fun bx => ?_) | refine Nx.sa (fun A2 c2 => ?_))
        | ((with_reducible refine Nx.is_at ?_); first | refine Nx.a ?_ | ((fail_if_success refine Nx.at_do rfl rfl rfl rfl ?_); first | refine Nx.at_dec_t rfl rfl rfl rfl (by first | assumption | omega) ?_ | refine Nx.at_dec_f rfl rfl rfl rfl (by first | assumption | omega) ?_ | refine Nx.at_split rfl rfl rfl rfl (fun hc => ?_) (fun hc => ?_) | refine Nx.at_splitb rfl rfl rfl rfl (fun hc => ?_) (fun hc => ?_)))
        | ((with_reducible refine Nx.is_mix ?_); first | refine Nx.m_quiet rfl rfl rfl rfl rfl (by first | exact QRun.opr rfl | exact QRun.loads rfl rfl rfl (Rds.at_ 1 rfl) rfl) ?_ | refine Nx.m_quiet_do rfl rfl rfl rfl rfl rfl rfl (by first | exact QRun.opr rfl | exact QRun.loads rfl rfl rfl (Rds.at_ 1 rfl) rfl) ?_ | refine Nx.m ?_ | ((fail_if_success refine Nx.m_quiet_do rfl rfl rfl rfl rfl rfl rfl ?_ ?_); (fail_if_success refine Nx.m_loud_do rfl rfl rfl rfl rfl ?_); first | refine Nx.m_dec_t rfl rfl rfl rfl (by first | assumption | omega) ?_ | refine Nx.m_dec_f rfl rfl rfl rfl (by first | assumption | omega) ?_ | refine Nx.m_split rfl rfl rfl rfl (fun hc => ?_) (fun hc => ?_) | refine Nx.m_splitb rfl rfl rfl rfl (fun hc => ?_) (fun hc => ?_)))
        | ((with_reducible refine GoodF.is ?_); first | refine GoodF.quiet rfl rfl rfl rfl rfl rfl (by first | exact QRun.opr rfl | exact QRun.loads rfl rfl rfl (Rds.at_ 1 rfl) rfl |  exact QRun.std) ?_ | refine GoodF.done1 rfl (fun bx => ?_) | refine GoodF.done2 rfl (fun bx by_ => ?_) | refine GoodF.done3 rfl (fun bx by_ bz => ?_))
        | ((fail_if_success (with_reducible refine Nx.is_at ?_)); (fail_if_success (with_reducible refine Nx.is_wp ?_)); (fail_if_success (with_reducible refine Nx.is_mix ?_)); first | refine Nx.ex ?_ | refine Nx.pool_nextF 0 rfl (by exact Ent.auto) ?_ | refine Nx.pool_nextF 1 rfl (by exact Ent.auto) ?_ | refine Nx.pool_nextF 2 rfl (by exact Ent.auto) ?_ | refine Nx.pool_nextF 3 rfl (by exact Ent.auto) ?_)
      have hL2 : (List.range (k + 1)).map (fun i => (redN (solQ (matL v) b i), redD (solQ (matL v) b i))) = L ++ [(redN (solQ (matL v) b k), redD (solQ (matL v) b k))] := by rw [List.range_succ, List.map_append, hL]; rfl
      have hL3 : (L ++ [(redN (solQ (matL v) b k), redD (solQ (matL v) b k))]).length = L.length + 1 := by simp
      exact Nx.again (k + 1, A2, c2) ⟨hlt, fun i hi => by
        by_cases hik : i = k
        · rw [hik]; exact he
        · exact hzero i (by omega)⟩ (by dsimp only; omega) ⟨rfl, rfl, rfl, by dsimp only; rw [hL2, hL3]; rfl, rfl, trivial⟩ (by dsimp only; rw [hL2]; unfold fracsR; rw [hL3, List.flatMap_append]; (exact Ent.auto))
    · have hfi := firstE_at (f := fun i => redE (solQ (matL v) b i)) hzero he hlt
      have hE : solE (matL v) b = redE (solQ (matL v) b k) := by rw [hE0, hfi]
      rw [solL_not (by rw [hE]; exact he), hE]
      repeat' first
        | ((with_reducible refine Nx.is_wp ?_); first | refine Nx.wo ?_ | refine Nx.p_poolF (id := 19) rfl [0, 1, 2, 5, 3, 4, 6, 7, 8, 9] [3, 4, 6] [9, 8] [11, 12] [11] [⟨10, 12, 37, _⟩] rfl rfl (by kernel_rfl) (by kernel_rfl) (by decide) (PoolFit.cons ⟨⟨_, _, _, rfl⟩, rfl, rfl⟩ PoolFit.nil) (by repeat first | exact PanicOk.fn | refine PanicOk.then_ ?_ | refine PanicOk.inB ?_) (Ent.refl _) ?_ | refine Nx.p_dec rfl rfl (fun hc => ?_) (fun hc => ?_) | refine Nx.p_bool rfl rfl (fun hc => ?_) (fun hc => ?_))
        | ((first | refine Nx.at_op rfl rfl ?_ | refine Nx.m_loud rfl rfl rfl ?_ | refine Nx.at_do rfl rfl rfl rfl ?_ | refine Nx.m_loud_do rfl rfl rfl rfl rfl ?_ | refine GoodF.loud_ rfl rfl rfl rfl (fun ex X => ?_)); first | refine Nx.opr rfl rfl ?_ | (refine Nx.call (Rpre := []) rfl rfl rfl (by kernel_rfl) rfl hrs (Ent.refl _) ?_; rintro _ _ ⟨A3, c3, o3, rfl, ho3, rfl⟩) | (refine Nx.call_lendR2 1 1 rfl rfl rfl (by kernel_rfl) rfl rfl rfl (fun m1 m2 I' hI hm1 h1 hm2 h2 => hds _ _ _ ho3 I' (mat_given hm1 h1 hm2 h2)) ?_; rintro _ _ ⟨rfl, rfl⟩; rw [ho3]) | refine Nx.callv rfl rfl rfl (by kernel_rfl) rfl hR ?_ | refine Nx.so ?_ | refine Nx.sb (fun bx => ?_) | refine Nx.sa (fun A2 c2 => ?_))
        | ((with_reducible refine Nx.is_at ?_); first | refine Nx.a ?_ | ((fail_if_success refine Nx.at_do rfl rfl rfl rfl ?_); first | refine Nx.at_dec_t rfl rfl rfl rfl (by first | assumption | omega) ?_ | refine Nx.at_dec_f rfl rfl rfl rfl (by first | assumption | omega) ?_ | refine Nx.at_split rfl rfl rfl rfl (fun hc => ?_) (fun hc => ?_) | refine Nx.at_splitb rfl rfl rfl rfl (fun hc => ?_) (fun hc => ?_)))
        | ((with_reducible refine Nx.is_mix ?_); first | refine Nx.m_quiet rfl rfl rfl rfl rfl (by first | exact QRun.opr rfl | exact QRun.loads rfl rfl rfl (Rds.at_ 1 rfl) rfl) ?_ | refine Nx.m_quiet_do rfl rfl rfl rfl rfl rfl rfl (by first | exact QRun.opr rfl | exact QRun.loads rfl rfl rfl (Rds.at_ 1 rfl) rfl) ?_ | refine Nx.m ?_ | ((fail_if_success refine Nx.m_quiet_do rfl rfl rfl rfl rfl rfl rfl ?_ ?_); (fail_if_success refine Nx.m_loud_do rfl rfl rfl rfl rfl ?_); first | refine Nx.m_dec_t rfl rfl rfl rfl (by first | assumption | omega) ?_ | refine Nx.m_dec_f rfl rfl rfl rfl (by first | assumption | omega) ?_ | refine Nx.m_split rfl rfl rfl rfl (fun hc => ?_) (fun hc => ?_) | refine Nx.m_splitb rfl rfl rfl rfl (fun hc => ?_) (fun hc => ?_)))
        | ((with_reducible refine GoodF.is ?_); first | refine GoodF.quiet rfl rfl rfl rfl rfl rfl (by first | exact QRun.opr rfl | exact QRun.loads rfl rfl rfl (Rds.at_ 1 rfl) rfl |  exact QRun.std) ?_ | refine GoodF.done1 rfl (fun bx => ?_) | refine GoodF.done2 rfl (fun bx by_ => ?_) | refine GoodF.done3 rfl (fun bx by_ bz => ?_))
        | ((fail_if_success (with_reducible refine Nx.is_at ?_)); (fail_if_success (with_reducible refine Nx.is_wp ?_)); (fail_if_success (with_reducible refine Nx.is_mix ?_)); first | refine Nx.ex ?_ | refine Nx.pool_nextF 0 rfl (by exact Ent.auto) ?_ | refine Nx.pool_nextF 1 rfl (by exact Ent.auto) ?_ | refine Nx.pool_nextF 2 rfl (by exact Ent.auto) ?_ | refine Nx.pool_nextF 3 rfl (by exact Ent.auto) ?_)
      exact Nx.ret_fn rfl [fracsR none 0 []] ⟨none, 0, rfl, rfl⟩ ((Ent.vec_nil _ _ _).trans (by (exact Ent.auto)))
  · obtain rfl : k = v.length := by omega
    have hEz : solE (matL v) b = 0 := by rw [hE0]; exact firstE_zero.2 hzero
    have hLs : solL (matL v) b = L := by unfold solL; rw [if_pos hEz, hml]; exact hL
    rw [hLs, hEz]
    repeat' first
      | ((with_reducible refine Nx.is_wp ?_); first | refine Nx.wo ?_ | refine Nx.p_dec rfl rfl (fun hc => ?_) (fun hc => ?_) | refine Nx.p_bool rfl rfl (fun hc => ?_) (fun hc => ?_))
      | ((first | refine Nx.at_op rfl rfl ?_ | refine Nx.m_loud rfl rfl rfl ?_ | refine Nx.at_do rfl rfl rfl rfl ?_ | refine Nx.m_loud_do rfl rfl rfl rfl rfl ?_); first | refine Nx.opr rfl rfl ?_ | refine Nx.so ?_ | refine Nx.sb (fun bx => ?_) | refine Nx.sa (fun A2 c2 => ?_))
      | ((with_reducible refine Nx.is_at ?_); first | refine Nx.a ?_ | ((fail_if_success refine Nx.at_do rfl rfl rfl rfl ?_); first | refine Nx.at_dec_t rfl rfl rfl rfl (by first | assumption | omega) ?_ | refine Nx.at_dec_f rfl rfl rfl rfl (by first | assumption | omega) ?_ | refine Nx.at_split rfl rfl rfl rfl (fun hc => ?_) (fun hc => ?_) | refine Nx.at_splitb rfl rfl rfl rfl (fun hc => ?_) (fun hc => ?_)))
      | ((with_reducible refine Nx.is_mix ?_); first | refine Nx.m ?_ | ((fail_if_success refine Nx.m_quiet_do rfl rfl rfl rfl rfl rfl rfl ?_ ?_); (fail_if_success refine Nx.m_loud_do rfl rfl rfl rfl rfl ?_); first | refine Nx.m_dec_t rfl rfl rfl rfl (by first | assumption | omega) ?_ | refine Nx.m_dec_f rfl rfl rfl rfl (by first | assumption | omega) ?_ | refine Nx.m_split rfl rfl rfl rfl (fun hc => ?_) (fun hc => ?_) | refine Nx.m_splitb rfl rfl rfl rfl (fun hc => ?_) (fun hc => ?_)))
      | ((fail_if_success (with_reducible refine Nx.is_at ?_)); (fail_if_success (with_reducible refine Nx.is_wp ?_)); (fail_if_success (with_reducible refine Nx.is_mix ?_)); first | refine Nx.ex ?_)
    exact Nx.ret_fn rfl [fracsR Ao co L] ⟨Ao, co, rfl, rfl⟩ (by (exact Ent.auto))
end Go.Proofs.YtpdgnjoideppjaaDoor
