/- Contracts of functions of the given program, and lemmas about plain lists and numbers: what the laws of this seat lean on. -/
import Derived.Laws.StructEq
import Derived.Test.YtpdgnjoideppjaaDoorRows
import Derived.Test.YtpdgnjoideppjaaDoorChecked
import Derived.WalkKit
import Derived.ProofKit
import Derived.OpenShut
import Derived.LaidHandle
import Derived.LaidLaws
import Derived.Lib.LaidTab
import Derived.Stop.LaidErr
import Derived.Test.YtpdgnjoideppjaaDoorLl7
namespace Go.Proofs.YtpdgnjoideppjaaDoor
open Go.Eng Go.Det
attribute [local irreducible] opK wpList Code.wp Exit.then Exit.inBlock fnPost bodyPost Nx Calls Oper.wp Rd Rds Wr Ent Stars Blk Again Vec FnSpec wpMix QRun Stop Upto wpAt
/-! The reference's Kernel -/
/-- The column k with the other sign, as a list. -/
def negC (m : List (List Int)) (k j n : Nat) : List Int := (List.range n).map fun i => if i < j then -entM m i k else 0
theorem negC_len (m : List (List Int)) (k j n : Nat) : (negC m k j n).length = n := by unfold negC; simp
theorem negC_set {m : List (List Int)} {k j n : Nat} : (negC m k j n).set j (-entM m j k) = negC m k (j + 1) n := by
  unfold negC
  rw [range_set]
  refine List.map_congr_left fun i hi => ?_
  by_cases h : i = j
  · rw [if_pos h, if_pos (by omega), h]
  · rw [if_neg h]
    by_cases h2 : i < j
    · rw [if_pos h2, if_pos (by omega)]
    · rw [if_neg h2, if_neg (show ¬ i < j + 1 by omega)]
theorem negC_zero {m : List (List Int)} {k n : Nat} : negC m k 0 n = List.replicate n 0 := by
  unfold negC
  rw [List.eq_replicate_iff]
  refine ⟨by simp, fun b hb => ?_⟩
  obtain ⟨i, _, rfl⟩ := List.mem_map.1 hb
  exact if_neg (Nat.not_lt_zero _)
theorem negC_at {m : List (List Int)} {k i n : Nat} (h : i < n) : (negC m k n n).getD i 0 = -entM m i k := by
  unfold negC
  rw [List.getD_eq_getElem?_getD, List.getElem?_map, List.getElem?_range h]
  show (if i < n then _ else _) = _
  rw [if_pos h]
theorem ent_rng {m : List (List Int)} (hf : Fit m) {i k : Nat} (hi : i < m.length) (hk : k < m.length) : -2147483648 ≤ entM m i k ∧ entM m i k ≤ 2147483648 := by
  have hmem : m.getD i [] ∈ m := by rw [List.getD_eq_getElem?_getD, List.getElem?_eq_getElem hi]; exact List.getElem_mem _
  have hl := hf.len _ hmem
  refine hf.rng _ hmem _ ?_
  unfold entM
  rw [List.getD_eq_getElem?_getD (l := m.getD i []), List.getElem?_eq_getElem (by omega)]
  exact List.getElem_mem _
theorem rep_row {m : List (List Int)} {j i : Nat} {b : List Int} (hi : i < m.length) : (repL m j b).getD i [] = (m.getD i []).set j (b.getD i 0) := by
  unfold repL
  rw [List.getD_eq_getElem?_getD, List.getElem?_map, List.getElem?_range hi]
  rfl
theorem put_num {m : List (List Int)} (hf : Fit m) {R : List Nat} (hi : Ind m R) {j : Nat} (hj : j < R.length) : minr (entM (repL m j (negC m R.length m.length m.length))) R (List.range R.length) = -numN m R R.length j := by
  have hle := hi.le
  have h1 : minr (entM (repL m j (negC m R.length m.length m.length))) R (List.range R.length) = minr (rep (entM m) j fun r => -1 * (fun r => entM m r R.length) r + 0 * (fun _ => 0) r) R (List.range R.length) := minr_congr R _ fun r hr c hc => by
    have hrb := hi.lt r hr
    have hcb := List.mem_range.1 hc
    have hmem : m.getD r [] ∈ m := by rw [List.getD_eq_getElem?_getD, List.getElem?_eq_getElem hrb]; exact List.getElem_mem _
    have hl := hf.len _ hmem
    show ((repL m j (negC m R.length m.length m.length)).getD r []).getD c 0 = if c = j then _ else (m.getD r []).getD c 0
    rw [rep_row hrb, negC_at hrb]
    by_cases h : c = j
    · rw [if_pos h, h, List.getD_eq_getElem?_getD, List.getElem?_set_self (by omega)]
      show -entM m r R.length = _
      dsimp only
      omega
    · rw [if_neg h, List.getD_eq_getElem?_getD, List.getElem?_set_ne (Ne.symm h), ← List.getD_eq_getElem?_getD]
  rw [h1, rep_lin (entM m) j _ _ (-1) 0 R _ (by rw [List.length_range]) List.nodup_range (List.mem_range.2 hj)]
  unfold numN
  omega
theorem rep_small {m : List (List Int)} (hf : Fit m) {b : List Int} (hb : ∀ x ∈ b, -2147483648 ≤ x ∧ x ≤ 2147483648) (hbl : b.length = m.length) {j : Nat} : Small (repL m j b) := by
  intro row hrow
  obtain ⟨i, hi, rfl⟩ := List.mem_map.1 hrow
  have hi := List.mem_range.1 hi
  have hmem : m.getD i [] ∈ m := by rw [List.getD_eq_getElem?_getD, List.getElem?_eq_getElem hi]; exact List.getElem_mem _
  have hl := hf.len _ hmem
  refine ⟨by rw [List.length_set, hl]; exact hf.few, fun x hx => ?_⟩
  rcases List.mem_or_eq_of_mem_set hx with h | h
  · exact hf.rng _ hmem x h
  · rw [h, List.getD_eq_getElem?_getD, List.getElem?_eq_getElem (by omega)]
    exact hb _ (List.getElem_mem _)
theorem rep_rows {m : List (List Int)} (hf : Fit m) {b : List Int} {j : Nat} {o : List Row} (ho : matL o = repL m j b) : o.length = m.length ∧ ∀ k, k < o.length → (o.getD k default).2.2.length = o.length := by
  have hol : o.length = m.length := by rw [← matL_len, ho]; unfold repL; simp
  refine ⟨hol, fun k hk => ?_⟩
  have hkm : k < m.length := by omega
  have hmem : m.getD k [] ∈ m := by rw [List.getD_eq_getElem?_getD, List.getElem?_eq_getElem hkm]; exact List.getElem_mem _
  rw [← matL_at hk, ho, rep_row hkm, List.length_set, hf.len _ hmem, hol]
theorem apart_full {m : List (List Int)} {R : List Nat} (hi : Ind m R) (h : Apart m (R.length + 1)) : Full m R := fun _ r hr => by
  by_cases hmem : r ∈ R
  · exact Ind.dup hmem
  · refine h _ (nodup_snoc hi.nd hmem) (fun x hx => ?_) (by simp)
    rcases List.mem_append.1 hx with h1 | h1
    · exact hi.lt x h1
    · simp at h1; omega
set_option maxRecDepth 10000 in
set_option maxHeartbeats 16000000 in
theorem rKernel_spec (A : Option Addr) (c : Nat) (v : List Row) (I : PH) (hm : Mat I A c v) : FnSpec Tryd.prog 33 [.slice A v.length c] I [] (kerPost (matL v)) := by
  have hml := matL_len v
  have hZ := rZero_spec A c v I hm
  have hvl := hm.outer.len
  refine FnSpec.enterP Tryd.func33 rfl Tryd.ntmps33 rfl fun w F => ?_
  by_cases hzb : zeroB (matL v) = true
  case neg =>
    rw [Bool.not_eq_true] at hzb
    rw [hzb] at hZ
    repeat' first
      | ((with_reducible refine Nx.is_wp ?_); first | refine Nx.wo ?_ | refine Nx.p_dec rfl rfl (fun hc => ?_) (fun hc => ?_) | refine Nx.p_bool rfl rfl (fun hc => ?_) (fun hc => ?_))
      | ((first | refine Nx.at_op rfl rfl ?_ | refine Nx.m_loud rfl rfl rfl ?_ | refine Nx.at_do rfl rfl rfl rfl ?_ | refine Nx.m_loud_do rfl rfl rfl rfl rfl ?_); first | refine Nx.opr rfl rfl ?_ | refine Nx.callv rfl rfl rfl (by kernel_rfl) rfl hZ ?_ | refine Nx.so ?_ | refine Nx.sb (fun bx => ?_) | refine Nx.sa (fun A2 c2 => ?_))
      | ((with_reducible refine Nx.is_at ?_); first | refine Nx.a ?_ | ((fail_if_success refine Nx.at_do rfl rfl rfl rfl ?_); first | refine Nx.at_dec_t rfl rfl rfl rfl (by first | assumption | omega) ?_ | refine Nx.at_dec_f rfl rfl rfl rfl (by first | assumption | omega) ?_ | refine Nx.at_split rfl rfl rfl rfl (fun hc => ?_) (fun hc => ?_) | refine Nx.at_splitb rfl rfl rfl rfl (fun hc => ?_) (fun hc => ?_)))
      | ((with_reducible refine Nx.is_mix ?_); first | refine Nx.m ?_ | ((fail_if_success refine Nx.m_quiet_do rfl rfl rfl rfl rfl rfl rfl ?_ ?_); (fail_if_success refine Nx.m_loud_do rfl rfl rfl rfl rfl ?_); first | refine Nx.m_dec_t rfl rfl rfl rfl (by first | assumption | omega) ?_ | refine Nx.m_dec_f rfl rfl rfl rfl (by first | assumption | omega) ?_ | refine Nx.m_split rfl rfl rfl rfl (fun hc => ?_) (fun hc => ?_) | refine Nx.m_splitb rfl rfl rfl rfl (fun hc => ?_) (fun hc => ?_)))
      | ((fail_if_success (with_reducible refine Nx.is_at ?_)); (fail_if_success (with_reducible refine Nx.is_wp ?_)); (fail_if_success (with_reducible refine Nx.is_mix ?_)); first | refine Nx.ex ?_)
    exact Nx.ret_fn rfl [fracsR none 0 []] ⟨none, 0, [], rfl, fun _ => rfl, fun h => (by rw [hzb] at h; cases h), rfl⟩ ((Ent.vec_nil _ _ _).trans (by (exact Ent.auto)))
  rw [hzb] at hZ
  have hz9 : chkE (matL v) = 0 ∧ detM (matL v) = 0 := of_decide_eq_true hzb
  have hf := chk_ok.1 hz9.1
  have hfew := hf.few
  rw [hml] at hfew
  have hsq := hf.sq
  repeat' first
    | ((with_reducible refine Nx.is_wp ?_); first | refine Nx.wo ?_ | refine Nx.p_dec rfl rfl (fun hc => ?_) (fun hc => ?_) | refine Nx.p_bool rfl rfl (fun hc => ?_) (fun hc => ?_))
    | ((first | refine Nx.at_op rfl rfl ?_ | refine Nx.m_loud rfl rfl rfl ?_ | refine Nx.at_do rfl rfl rfl rfl ?_ | refine Nx.m_loud_do rfl rfl rfl rfl rfl ?_); first | refine Nx.opr rfl rfl ?_ | refine Nx.callv rfl rfl rfl (by kernel_rfl) rfl hZ ?_ | refine Nx.so ?_ | refine Nx.sb (fun bx => ?_) | refine Nx.sa (fun A2 c2 => ?_))
    | ((with_reducible refine Nx.is_at ?_); first | refine Nx.a ?_ | ((fail_if_success refine Nx.at_do rfl rfl rfl rfl ?_); first | refine Nx.at_dec_t rfl rfl rfl rfl (by first | assumption | omega) ?_ | refine Nx.at_dec_f rfl rfl rfl rfl (by first | assumption | omega) ?_ | refine Nx.at_split rfl rfl rfl rfl (fun hc => ?_) (fun hc => ?_) | refine Nx.at_splitb rfl rfl rfl rfl (fun hc => ?_) (fun hc => ?_)))
    | ((with_reducible refine Nx.is_mix ?_); first | refine Nx.m ?_ | ((fail_if_success refine Nx.m_quiet_do rfl rfl rfl rfl rfl rfl rfl ?_ ?_); (fail_if_success refine Nx.m_loud_do rfl rfl rfl rfl rfl ?_); first | refine Nx.m_dec_t rfl rfl rfl rfl (by first | assumption | omega) ?_ | refine Nx.m_dec_f rfl rfl rfl rfl (by first | assumption | omega) ?_ | refine Nx.m_split rfl rfl rfl rfl (fun hc => ?_) (fun hc => ?_) | refine Nx.m_splitb rfl rfl rfl rfl (fun hc => ?_) (fun hc => ?_)))
    | ((fail_if_success (with_reducible refine Nx.is_at ?_)); (fail_if_success (with_reducible refine Nx.is_wp ?_)); (fail_if_success (with_reducible refine Nx.is_mix ?_)); first | refine Nx.ex ?_)
  refine Nx.blk_vec 0 0 1 rfl rfl (by omega) ?_
  refine Nx.p_loop (σ := Option Addr × Nat × List Nat) (fun x => [(0, .slice A v.length c), (3, .int .i64 ((x.2.2.length + 1 : Nat) : Int)), (4, .slice x.1 x.2.2.length x.2.1)]) (fun x => [natsR x.1 x.2.1 x.2.2, F]) (fun x => Ind (matL v) x.2.2) (fun x => v.length - x.2.2.length) (some ⟨bx, 0, none⟩, 0, []) rfl (Ind.nil _) ⟨rfl, rfl, rfl, trivial⟩ (by (exact Ent.auto)) ?_
  rintro ⟨A1, c1, R⟩ hInd
  have hInd : Ind (matL v) R := hInd
  dsimp only
  have hk := hInd.few hz9.2
  have hA := apart_spec A c v I hm hf (R.length + 1) (by omega)
  repeat' first
    | ((with_reducible refine Nx.is_wp ?_); first | refine Nx.wo ?_ | refine Nx.p_dec rfl rfl (fun hc => ?_) (fun hc => ?_) | refine Nx.p_bool rfl rfl (fun hc => ?_) (fun hc => ?_))
    | ((first | refine Nx.at_op rfl rfl ?_ | refine Nx.m_loud rfl rfl rfl ?_ | refine Nx.at_do rfl rfl rfl rfl ?_ | refine Nx.m_loud_do rfl rfl rfl rfl rfl ?_); first | refine Nx.opr rfl rfl ?_ | (refine Nx.call (Rpre := []) rfl rfl rfl (by kernel_rfl) rfl hA (Ent.refl _) ?_; rintro _ _ (⟨A3, c3, S, rfl, hSl, hSi, rfl⟩ | ⟨rfl, hAp, rfl⟩)) | refine Nx.so ?_ | refine Nx.sb (fun bx => ?_) | refine Nx.sa (fun A2 c2 => ?_))
    | ((with_reducible refine Nx.is_at ?_); first | refine Nx.a ?_ | ((fail_if_success refine Nx.at_do rfl rfl rfl rfl ?_); first | refine Nx.at_dec_t rfl rfl rfl rfl (by first | assumption | omega) ?_ | refine Nx.at_dec_f rfl rfl rfl rfl (by first | assumption | omega) ?_ | refine Nx.at_split rfl rfl rfl rfl (fun hc => ?_) (fun hc => ?_) | refine Nx.at_splitb rfl rfl rfl rfl (fun hc => ?_) (fun hc => ?_)))
    | ((with_reducible refine Nx.is_mix ?_); first | refine Nx.m ?_ | ((fail_if_success refine Nx.m_quiet_do rfl rfl rfl rfl rfl rfl rfl ?_ ?_); (fail_if_success refine Nx.m_loud_do rfl rfl rfl rfl rfl ?_); first | refine Nx.m_dec_t rfl rfl rfl rfl (by first | assumption | omega) ?_ | refine Nx.m_dec_f rfl rfl rfl rfl (by first | assumption | omega) ?_ | refine Nx.m_split rfl rfl rfl rfl (fun hc => ?_) (fun hc => ?_) | refine Nx.m_splitb rfl rfl rfl rfl (fun hc => ?_) (fun hc => ?_)))
    | ((fail_if_success (with_reducible refine Nx.is_at ?_)); (fail_if_success (with_reducible refine Nx.is_wp ?_)); (fail_if_success (with_reducible refine Nx.is_mix ?_)); first | refine Nx.ex ?_)
  · exact Nx.again (A3, c3, S) hSi (by dsimp only; omega) ⟨rfl, by dsimp only; rw [hSl]; rfl, rfl, trivial⟩ (by (exact Ent.auto))
  have hFull := apart_full hInd hAp
  refine Nx.freezeAt 0 rfl fun I1 m1 hI1 hm1 h1 => ?_
  have hN1 : Nats I1 A1 c1 R := Vec.sliceOf (t := 3) hm1 h1
  have hm := hm.mono hI1
  have hlt := hInd.lt
  have hkv : R.length < v.length := by rw [← hml]; exact hk
  have hltv : ∀ r ∈ R, r < v.length := fun r hr => by rw [← hml]; exact hlt r hr
  have hD0 : denD (matL v) R R.length ≠ 0 := hInd.det
  have hDb := det_inw (den_bd hf hInd)
  repeat' first
    | ((with_reducible refine Nx.is_wp ?_); first | refine Nx.wo ?_ | refine Nx.p_dec rfl rfl (fun hc => ?_) (fun hc => ?_) | refine Nx.p_bool rfl rfl (fun hc => ?_) (fun hc => ?_))
    | ((first | refine Nx.at_op rfl rfl ?_ | refine Nx.m_loud rfl rfl rfl ?_ | refine Nx.at_do rfl rfl rfl rfl ?_ | refine Nx.m_loud_do rfl rfl rfl rfl rfl ?_); first | refine Nx.opr rfl rfl ?_ | refine Nx.makeStructs (sz := 2) (by_ := 16) frC (0, 0) rfl rfl rfl rfl rfl rfl rfl rfl rfl rfl (by omega) (by unfold maxLen; omega) (fun bx => ?_) | refine Nx.so ?_ | refine Nx.sb (fun bx => ?_) | refine Nx.sa (fun A2 c2 => ?_))
    | ((with_reducible refine Nx.is_at ?_); first | refine Nx.a ?_ | ((fail_if_success refine Nx.at_do rfl rfl rfl rfl ?_); first | refine Nx.at_dec_t rfl rfl rfl rfl (by first | assumption | omega) ?_ | refine Nx.at_dec_f rfl rfl rfl rfl (by first | assumption | omega) ?_ | refine Nx.at_split rfl rfl rfl rfl (fun hc => ?_) (fun hc => ?_) | refine Nx.at_splitb rfl rfl rfl rfl (fun hc => ?_) (fun hc => ?_)))
    | ((with_reducible refine Nx.is_mix ?_); first | refine Nx.m ?_ | ((fail_if_success refine Nx.m_quiet_do rfl rfl rfl rfl rfl rfl rfl ?_ ?_); (fail_if_success refine Nx.m_loud_do rfl rfl rfl rfl rfl ?_); first | refine Nx.m_dec_t rfl rfl rfl rfl (by first | assumption | omega) ?_ | refine Nx.m_dec_f rfl rfl rfl rfl (by first | assumption | omega) ?_ | refine Nx.m_split rfl rfl rfl rfl (fun hc => ?_) (fun hc => ?_) | refine Nx.m_splitb rfl rfl rfl rfl (fun hc => ?_) (fun hc => ?_)))
    | ((fail_if_success (with_reducible refine Nx.is_at ?_)); (fail_if_success (with_reducible refine Nx.is_wp ?_)); (fail_if_success (with_reducible refine Nx.is_mix ?_)); first | refine Nx.ex ?_)
  revert bx; intro bm
  refine Nx.ent (R' := [frsR bm v.length (onesS 0 v.length), F]) (by rw [onesS_zero]; (exact Ent.auto)) ?_
  refine Nx.p_loop (σ := Nat) (fun j => [(0, .slice A v.length c), (3, .int .i64 ((R.length + 1 : Nat) : Int)), (4, .slice A1 R.length c1), (7, .slice (some ⟨bm, 0, none⟩) v.length v.length), (8, .int .i64 (j : Int))])
    (fun j => [frsR bm v.length (onesS j v.length), F]) (fun j => j ≤ v.length) (fun j => v.length - j) 0 rfl (Nat.zero_le _) ⟨rfl, rfl, rfl, rfl, rfl, trivial⟩ (by (exact Ent.auto)) ?_
  intro j hj
  have hj : j ≤ v.length := hj
  by_cases hjl : j < v.length
  · repeat' first
      | ((with_reducible refine Nx.is_wp ?_); first | refine Nx.wo ?_ | refine Nx.p_dec rfl rfl (fun hc => ?_) (fun hc => ?_) | refine Nx.p_bool rfl rfl (fun hc => ?_) (fun hc => ?_))
      | ((first | refine Nx.at_op rfl rfl ?_ | refine Nx.m_loud rfl rfl rfl ?_ | refine Nx.at_do rfl rfl rfl rfl ?_ | refine Nx.m_loud_do rfl rfl rfl rfl rfl ?_); first | refine Nx.opr rfl rfl ?_ | refine Nx.indexAddr_nat (sz := 2) rfl rfl rfl rfl rfl (by omega) rfl ?_ | refine Nx.store_elt 0 frC (x' := (0, 1)) (sz := 2) rfl rfl rfl rfl rfl (fun _ => rfl) (by decide) (one_cells _) (by rw [onesS_len]; exact hjl) (onesS_len _ _) ?_ | refine Nx.so ?_ | refine Nx.sb (fun bx => ?_) | refine Nx.sa (fun A2 c2 => ?_))
      | ((with_reducible refine Nx.is_at ?_); first | refine Nx.a ?_ | ((fail_if_success refine Nx.at_do rfl rfl rfl rfl ?_); first | refine Nx.at_dec_t rfl rfl rfl rfl (by first | assumption | omega) ?_ | refine Nx.at_dec_f rfl rfl rfl rfl (by first | assumption | omega) ?_ | refine Nx.at_split rfl rfl rfl rfl (fun hc => ?_) (fun hc => ?_) | refine Nx.at_splitb rfl rfl rfl rfl (fun hc => ?_) (fun hc => ?_)))
      | ((with_reducible refine Nx.is_mix ?_); first | refine Nx.m ?_ | ((fail_if_success refine Nx.m_quiet_do rfl rfl rfl rfl rfl rfl rfl ?_ ?_); (fail_if_success refine Nx.m_loud_do rfl rfl rfl rfl rfl ?_); first | refine Nx.m_dec_t rfl rfl rfl rfl (by first | assumption | omega) ?_ | refine Nx.m_dec_f rfl rfl rfl rfl (by first | assumption | omega) ?_ | refine Nx.m_split rfl rfl rfl rfl (fun hc => ?_) (fun hc => ?_) | refine Nx.m_splitb rfl rfl rfl rfl (fun hc => ?_) (fun hc => ?_)))
      | ((fail_if_success (with_reducible refine Nx.is_at ?_)); (fail_if_success (with_reducible refine Nx.is_wp ?_)); (fail_if_success (with_reducible refine Nx.is_mix ?_)); first | refine Nx.ex ?_)
    exact Nx.again (j + 1) hjl (by omega) ⟨rfl, rfl, rfl, rfl, rfl, trivial⟩ (by rw [← onesS_set]; (exact Ent.auto))
  obtain rfl : j = v.length := by omega
  repeat' first
    | ((with_reducible refine Nx.is_wp ?_); first | refine Nx.wo ?_ | refine Nx.p_dec rfl rfl (fun hc => ?_) (fun hc => ?_) | refine Nx.p_bool rfl rfl (fun hc => ?_) (fun hc => ?_))
    | ((first | refine Nx.at_op rfl rfl ?_ | refine Nx.m_loud rfl rfl rfl ?_ | refine Nx.at_do rfl rfl rfl rfl ?_ | refine Nx.m_loud_do rfl rfl rfl rfl rfl ?_); first | refine Nx.opr rfl rfl ?_ | refine Nx.pred (n := R.length) rfl rfl (by omega) rfl ?_ | refine Nx.indexAddr_nat (i := R.length) (sz := 2) rfl rfl rfl rfl rfl (by omega) rfl ?_ | refine Nx.store_fld (A := some ⟨bm, 0, none⟩) (i := R.length) (j := 0) (sz := 2) 0 rfl rfl rfl rfl rfl rfl (by omega) ?_ | refine Nx.makeInts rfl rfl rfl rfl rfl rfl rfl rfl (by omega) (fun bx => ?_) | refine Nx.so ?_ | refine Nx.sb (fun bx => ?_) | refine Nx.sa (fun A2 c2 => ?_))
    | ((with_reducible refine Nx.is_at ?_); first | refine Nx.a ?_ | ((fail_if_success refine Nx.at_do rfl rfl rfl rfl ?_); first | refine Nx.at_dec_t rfl rfl rfl rfl (by first | assumption | omega) ?_ | refine Nx.at_dec_f rfl rfl rfl rfl (by first | assumption | omega) ?_ | refine Nx.at_split rfl rfl rfl rfl (fun hc => ?_) (fun hc => ?_) | refine Nx.at_splitb rfl rfl rfl rfl (fun hc => ?_) (fun hc => ?_)))
    | ((with_reducible refine Nx.is_mix ?_); first | refine Nx.m ?_ | ((fail_if_success refine Nx.m_quiet_do rfl rfl rfl rfl rfl rfl rfl ?_ ?_); (fail_if_success refine Nx.m_loud_do rfl rfl rfl rfl rfl ?_); first | refine Nx.m_dec_t rfl rfl rfl rfl (by first | assumption | omega) ?_ | refine Nx.m_dec_f rfl rfl rfl rfl (by first | assumption | omega) ?_ | refine Nx.m_split rfl rfl rfl rfl (fun hc => ?_) (fun hc => ?_) | refine Nx.m_splitb rfl rfl rfl rfl (fun hc => ?_) (fun hc => ?_)))
    | ((fail_if_success (with_reducible refine Nx.is_at ?_)); (fail_if_success (with_reducible refine Nx.is_wp ?_)); (fail_if_success (with_reducible refine Nx.is_mix ?_)); first | refine Nx.ex ?_)
  revert bx; intro bb
  obtain ⟨x, hx⟩ : ∃ x : Nat → Rat, x = fun j => Rat.divInt (-numN (matL v) R R.length j) (denD (matL v) R R.length) := ⟨_, rfl⟩
  have hKer : Ker (matL v) R.length x := ⟨R, hInd, hFull, rfl, hk, fun j _ => by rw [hx]⟩
  have hpost : ∀ l, l = kerL x R.length v.length → (zeroB (matL v) = false → l = []) ∧ (zeroB (matL v) = true → ∃ k x, Ker (matL v) k x ∧ l = kerL x k (matL v).length) := fun l hl => ⟨fun h => (by rw [hzb] at h; cases h), fun _ => ⟨_, x, hKer, by rw [hml]; exact hl⟩⟩
  have hset : ((onesS v.length v.length).flatMap frC).set (R.length * 2 + 0) (.int .i64 1) = (kerS x R.length 0 v.length).flatMap frC := by
    rw [flat_set (f := frC) (sz := 2) (fun _ => rfl) (x' := (1, 1)) (by rw [onesS_len]; exact hkv) (by decide) (by rw [onesS_at hkv]; rfl), onesS_one]
  refine Nx.ent (R' := [Vec 3 1 (some ⟨bb, 0, none⟩) v.length v.length ((negC (matL v) R.length 0 v.length).map (Value.int .i64)), frsR bm v.length (kerS x R.length 0 v.length), F]) (by rw [hset, negC_zero]; (exact Ent.auto)) ?_
  refine Nx.p_loop (σ := Nat) (fun j => [(0, .slice A v.length c), (3, .int .i64 ((R.length + 1 : Nat) : Int)), (4, .slice A1 R.length c1), (7, .slice (some ⟨bm, 0, none⟩) v.length v.length), (9, .slice (some ⟨bb, 0, none⟩) v.length v.length), (10, .int .i64 (j : Int))])
    (fun j => [Vec 3 1 (some ⟨bb, 0, none⟩) v.length v.length ((negC (matL v) R.length j v.length).map (Value.int .i64)), frsR bm v.length (kerS x R.length 0 v.length), F]) (fun j => j ≤ v.length) (fun j => v.length - j) 0 rfl (Nat.zero_le _) ⟨rfl, rfl, rfl, rfl, rfl, rfl, trivial⟩ (by (exact Ent.auto)) ?_
  intro j hj
  have hj : j ≤ v.length := hj
  by_cases hjl : j < v.length
  · have hll := hsq j hjl
    have hrow := hm.rows _ (row_mem hjl)
    have hent : entM (matL v) j R.length = (v.getD j default).2.2.getD R.length default := by unfold entM; rw [matL_at hjl]; rfl
    have hrng := ent_rng hf (i := j) (k := R.length) (by omega) hk
    generalize hrow' : (v.getD j default) = rw' at hll hrow hent
    obtain ⟨Al, cl, l⟩ := rw'
    dsimp only at hll hrow hent
    have hmr : ∀ (W : World) (R : List Res), Rd W I1 R ((ad A).add (j * 1)) (.slice Al v.length cl) := fun W R => by
      have := hm.outer.rd (W := W) (R := R) (k := j) hjl
      rw [hrow', show rowV (Al, cl, l) = .slice Al v.length cl by rw [← hll]; rfl] at this
      exact this
    have hxr : ∀ (W : World) (R' : List Res), Rd W I1 R' ((ad Al).add (R.length * 1)) (.int .i64 (entM (matL v) j R.length)) := fun W R' => by rw [hent]; exact hrow.rd (by omega)
    generalize hz : entM (matL v) j R.length = z at hrng hxr
    repeat' first
      | ((with_reducible refine Nx.is_wp ?_); first | refine Nx.wo ?_ | refine Nx.p_dec rfl rfl (fun hc => ?_) (fun hc => ?_) | refine Nx.p_bool rfl rfl (fun hc => ?_) (fun hc => ?_))
      | ((first | refine Nx.at_op rfl rfl ?_ | refine Nx.m_loud rfl rfl rfl ?_ | refine Nx.at_do rfl rfl rfl rfl ?_ | refine Nx.m_loud_do rfl rfl rfl rfl rfl ?_); first | refine Nx.opr rfl rfl ?_ | refine Nx.pred (n := R.length) rfl rfl (by omega) rfl ?_ | refine Nx.indexAddr_nat (i := j) (A := A) (sz := 1) rfl rfl rfl rfl rfl (by omega) (hm.outer.isSome (by omega)) ?_ | refine Nx.load rfl rfl rfl (hmr _ _) ?_ | refine Nx.indexAddr_nat (i := R.length) (A := Al) (sz := 1) rfl rfl rfl rfl rfl (by omega) (hrow.isSome (by omega)) ?_ | refine Nx.load rfl rfl rfl (hxr _ _) ?_ | refine Nx.neg rfl (by unfold I64; omega) rfl ?_ | refine Nx.indexAddr_nat (i := j) (A := some ⟨bb, 0, none⟩) (sz := 1) rfl rfl rfl rfl rfl (by omega) rfl ?_ | refine Nx.store_of 0 (Value.int .i64) rfl rfl rfl rfl rfl rfl (by omega) ?_ | refine Nx.so ?_ | refine Nx.sb (fun bx => ?_) | refine Nx.sa (fun A2 c2 => ?_))
      | ((with_reducible refine Nx.is_at ?_); first | refine Nx.a ?_ | ((fail_if_success refine Nx.at_do rfl rfl rfl rfl ?_); first | refine Nx.at_dec_t rfl rfl rfl rfl (by first | assumption | omega) ?_ | refine Nx.at_dec_f rfl rfl rfl rfl (by first | assumption | omega) ?_ | refine Nx.at_split rfl rfl rfl rfl (fun hc => ?_) (fun hc => ?_) | refine Nx.at_splitb rfl rfl rfl rfl (fun hc => ?_) (fun hc => ?_)))
      | ((with_reducible refine Nx.is_mix ?_); first | refine Nx.m ?_ | ((fail_if_success refine Nx.m_quiet_do rfl rfl rfl rfl rfl rfl rfl ?_ ?_); (fail_if_success refine Nx.m_loud_do rfl rfl rfl rfl rfl ?_); first | refine Nx.m_dec_t rfl rfl rfl rfl (by first | assumption | omega) ?_ | refine Nx.m_dec_f rfl rfl rfl rfl (by first | assumption | omega) ?_ | refine Nx.m_split rfl rfl rfl rfl (fun hc => ?_) (fun hc => ?_) | refine Nx.m_splitb rfl rfl rfl rfl (fun hc => ?_) (fun hc => ?_)))
      | ((fail_if_success (with_reducible refine Nx.is_at ?_)); (fail_if_success (with_reducible refine Nx.is_wp ?_)); (fail_if_success (with_reducible refine Nx.is_mix ?_)); first | refine Nx.ex ?_)
    exact Nx.again (j + 1) hjl (by omega) ⟨rfl, rfl, rfl, rfl, rfl, rfl, trivial⟩ (by rw [← negC_set, hz]; (exact Ent.auto))
  obtain rfl : j = v.length := by omega
  refine Nx.freezeAt 0 rfl fun I2 m2 hI2 hm2 h2 => ?_
  have hbl := negC_len (matL v) R.length v.length v.length
  have hB : Ints I2 (some ⟨bb, 0, none⟩) v.length (negC (matL v) R.length v.length v.length) := Vec.sliceOf (t := 3) hm2 (by rw [hbl]; exact h2)
  have hbr : ∀ x ∈ negC (matL v) R.length v.length v.length, -2147483648 ≤ x ∧ x ≤ 2147483648 := fun x hx => by
    obtain ⟨i, hi, rfl⟩ := List.mem_map.1 hx
    have hi := List.mem_range.1 hi
    have := ent_rng hf (i := i) (k := R.length) (by omega) hk
    rw [if_pos hi]
    omega
  have hpn := fun (j : Nat) (hj : j < R.length) => put_num hf hInd hj
  rw [hml] at hpn
  generalize negC (matL v) R.length v.length v.length = b at hbl hB hbr hpn
  have hm2' := hm.mono hI2
  have hN2 := hN1.mono hI2
  have hP := put_spec A c v I2 hm2' hsq (by omega)
  have hNs := numbers_spec R.length (by omega)
  have hcb : ∀ x ∈ List.range R.length, x < v.length := fun x hx => by have := List.mem_range.1 hx; omega
  have hM := fun (A4 : Option Addr) (c4 : Nat) (I' : PH) (hI : PH.le I2 I') (h4 : Nats I' A4 c4 (List.range R.length)) => minor_spec A c v hf.small hsq R I' (hm2'.mono hI) A1 c1 A4 c4 (List.range R.length) (hN2.mono hI) h4 hltv hcb (by rw [List.length_range]; omega)
  have hMo := fun (j : Nat) (A3 : Option Addr) (c3 : Nat) (o3 : List Row) (ho3 : matL o3 = repL (matL v) j b) (A4 : Option Addr) (c4 : Nat) (I' : PH) (hI : PH.le I2 I') (h3 : Mat I' A3 c3 o3) (h4 : Nats I' A4 c4 (List.range R.length)) =>
    minor_spec A3 c3 o3 (by rw [ho3]; exact rep_small hf hbr (by omega)) (rep_rows hf ho3).2 R I' h3 A1 c1 A4 c4 (List.range R.length) (hN2.mono hI) h4 (fun r hr => by rw [(rep_rows hf ho3).1]; exact hlt r hr) (fun x hx => by rw [(rep_rows hf ho3).1, hml]; exact hcb x hx) (by rw [List.length_range]; omega)
  have hDe : minr (entM (matL v)) R (List.range R.length) = denD (matL v) R R.length := rfl
  repeat' first
    | ((with_reducible refine Nx.is_wp ?_); first | refine Nx.wo ?_ | refine Nx.p_dec rfl rfl (fun hc => ?_) (fun hc => ?_) | refine Nx.p_bool rfl rfl (fun hc => ?_) (fun hc => ?_))
    | ((first | refine Nx.at_op rfl rfl ?_ | refine Nx.m_loud rfl rfl rfl ?_ | refine Nx.at_do rfl rfl rfl rfl ?_ | refine Nx.m_loud_do rfl rfl rfl rfl rfl ?_); first | refine Nx.opr rfl rfl ?_ | refine Nx.pred (n := R.length) rfl rfl (by omega) rfl ?_ | (refine Nx.call (Rpre := []) rfl rfl rfl (by kernel_rfl) rfl (hNs I2) (Ent.refl _) ?_; rintro _ _ ⟨A4, c4, rfl, rfl⟩) | (refine Nx.call_lendR 0 rfl rfl rfl (by kernel_rfl) rfl rfl (fun m1 I' hI hm1 h1 => hM A4 c4 I' hI (Vec.sliceOf hm1 h1)) ?_; rintro _ _ ⟨rfl, rfl⟩; rw [hDe]) | refine Nx.so ?_ | refine Nx.sb (fun bx => ?_) | refine Nx.sa (fun A2 c2 => ?_))
    | ((with_reducible refine Nx.is_at ?_); first | refine Nx.a ?_ | ((fail_if_success refine Nx.at_do rfl rfl rfl rfl ?_); first | refine Nx.at_dec_t rfl rfl rfl rfl (by first | assumption | omega) ?_ | refine Nx.at_dec_f rfl rfl rfl rfl (by first | assumption | omega) ?_ | refine Nx.at_split rfl rfl rfl rfl (fun hc => ?_) (fun hc => ?_) | refine Nx.at_splitb rfl rfl rfl rfl (fun hc => ?_) (fun hc => ?_)))
    | ((with_reducible refine Nx.is_mix ?_); first | refine Nx.m ?_ | ((fail_if_success refine Nx.m_quiet_do rfl rfl rfl rfl rfl rfl rfl ?_ ?_); (fail_if_success refine Nx.m_loud_do rfl rfl rfl rfl rfl ?_); first | refine Nx.m_dec_t rfl rfl rfl rfl (by first | assumption | omega) ?_ | refine Nx.m_dec_f rfl rfl rfl rfl (by first | assumption | omega) ?_ | refine Nx.m_split rfl rfl rfl rfl (fun hc => ?_) (fun hc => ?_) | refine Nx.m_splitb rfl rfl rfl rfl (fun hc => ?_) (fun hc => ?_)))
    | ((fail_if_success (with_reducible refine Nx.is_at ?_)); (fail_if_success (with_reducible refine Nx.is_wp ?_)); (fail_if_success (with_reducible refine Nx.is_mix ?_)); first | refine Nx.ex ?_)
  revert bx; intro b11
  refine Nx.ent (R' := [frsR bm v.length (kerS x R.length 0 v.length), Blk b11 RT (wideL (denD (matL v) R R.length)), F]) (by (exact Ent.auto)) ?_
  refine Nx.p_loop (σ := Nat) (fun j => [(0, .slice A v.length c), (3, .int .i64 ((R.length + 1 : Nat) : Int)), (4, .slice A1 R.length c1), (7, .slice (some ⟨bm, 0, none⟩) v.length v.length), (9, .slice (some ⟨bb, 0, none⟩) v.length v.length), (11, .pointer (some ⟨b11, 0, none⟩)), (12, .int .i64 (j : Int))])
    (fun j => [frsR bm v.length (kerS x R.length j v.length), Blk b11 RT (wideL (denD (matL v) R R.length)), F]) (fun j => j ≤ R.length ∧ ∀ i, i < j → redE (x i) = 0) (fun j => R.length - j) 0 rfl ⟨Nat.zero_le _, fun i hi => absurd hi (Nat.not_lt_zero _)⟩ ⟨rfl, rfl, rfl, rfl, rfl, rfl, rfl, trivial⟩ (by (exact Ent.auto)) ?_
  rintro j ⟨hj, hzero⟩
  have hj : j ≤ R.length := hj
  have hzero : ∀ i, i < j → redE (x i) = 0 := hzero
  by_cases hjl : j < R.length
  case neg =>
    obtain rfl : j = R.length := by omega
    have hkl : kerL x R.length v.length = kerS x R.length R.length v.length := by unfold kerL; rw [if_pos (firstE_zero.2 hzero)]
    obtain ⟨h5, h6⟩ := hpost _ hkl.symm
    repeat' first
      | ((with_reducible refine Nx.is_wp ?_); first | refine Nx.wo ?_ | refine Nx.p_dec rfl rfl (fun hc => ?_) (fun hc => ?_) | refine Nx.p_bool rfl rfl (fun hc => ?_) (fun hc => ?_))
      | ((first | refine Nx.at_op rfl rfl ?_ | refine Nx.m_loud rfl rfl rfl ?_ | refine Nx.at_do rfl rfl rfl rfl ?_ | refine Nx.m_loud_do rfl rfl rfl rfl rfl ?_); first | refine Nx.opr rfl rfl ?_ | refine Nx.pred (n := R.length) rfl rfl (by omega) rfl ?_ | refine Nx.so ?_ | refine Nx.sb (fun bx => ?_) | refine Nx.sa (fun A2 c2 => ?_))
      | ((with_reducible refine Nx.is_at ?_); first | refine Nx.a ?_ | ((fail_if_success refine Nx.at_do rfl rfl rfl rfl ?_); first | refine Nx.at_dec_t rfl rfl rfl rfl (by first | assumption | omega) ?_ | refine Nx.at_dec_f rfl rfl rfl rfl (by first | assumption | omega) ?_ | refine Nx.at_split rfl rfl rfl rfl (fun hc => ?_) (fun hc => ?_) | refine Nx.at_splitb rfl rfl rfl rfl (fun hc => ?_) (fun hc => ?_)))
      | ((with_reducible refine Nx.is_mix ?_); first | refine Nx.m ?_ | ((fail_if_success refine Nx.m_quiet_do rfl rfl rfl rfl rfl rfl rfl ?_ ?_); (fail_if_success refine Nx.m_loud_do rfl rfl rfl rfl rfl ?_); first | refine Nx.m_dec_t rfl rfl rfl rfl (by first | assumption | omega) ?_ | refine Nx.m_dec_f rfl rfl rfl rfl (by first | assumption | omega) ?_ | refine Nx.m_split rfl rfl rfl rfl (fun hc => ?_) (fun hc => ?_) | refine Nx.m_splitb rfl rfl rfl rfl (fun hc => ?_) (fun hc => ?_)))
      | ((fail_if_success (with_reducible refine Nx.is_at ?_)); (fail_if_success (with_reducible refine Nx.is_wp ?_)); (fail_if_success (with_reducible refine Nx.is_mix ?_)); first | refine Nx.ex ?_)
    exact Nx.imm_le (hI1.trans hI2) (Nx.ret_fn rfl [fracsR (some ⟨bm, 0, none⟩) v.length (kerS x R.length R.length v.length)] ⟨some ⟨bm, 0, none⟩, v.length, _, by rw [kerS_len], h5, h6, rfl⟩ (by unfold fracsR; rw [kerS_len]; (exact Ent.auto)))
  have hPj := hP j (by omega) (some ⟨bb, 0, none⟩) v.length b hB hbl
  rw [hbl] at hPj
  have hMj := hMo j
  have hpj := hpn j hjl
  have hNb := num_bd hf hInd hk hjl
  have hxj : x j = Rat.divInt (-numN (matL v) R R.length j) (denD (matL v) R R.length) := by rw [hx]
  generalize denD (matL v) R R.length = D at hD0 hDb hxj
  generalize numN (matL v) R R.length j = N at hNb hpj hxj
  have hR : FnSpec Tryd.prog 50 [wideV (-N), wideV D] I2 [] (fun u R' => u = .tuple #[.agg #[.int .i64 (redN (x j)), .int .i64 (redD (x j))], .int .i64 (redE (x j))] ∧ R' = []) := by
    have := Reduce_spec (-N) D (det_inw (by rw [Int.natAbs_neg]; exact hNb)).2 hD0 hDb.2 I2
    rw [← hxj] at this
    exact this
  by_cases he : redE (x j) = 0
  · repeat' first
      | ((with_reducible refine Nx.is_wp ?_); first | refine Nx.wo ?_ | refine Nx.p_poolF (id := 24) rfl [0, 1, 2, 4, 5, 6, 9, 3, 7, 8, 10, 11, 12, 13] [3, 7, 8, 10] [13, 12] [15, 16] [15] [⟨14, 13, 37, _⟩] rfl rfl (by kernel_rfl) (by kernel_rfl) (by decide) (PoolFit.cons ⟨⟨_, _, _, rfl⟩, rfl, rfl⟩ PoolFit.nil) (by repeat first | exact PanicOk.fn | refine PanicOk.then_ ?_ | refine PanicOk.inB ?_) (Ent.refl _) ?_ | refine Nx.p_dec rfl rfl (fun hc => ?_) (fun hc => ?_) | refine Nx.p_bool rfl rfl (fun hc => ?_) (fun hc => ?_))
      | ((first | refine Nx.at_op rfl rfl ?_ | refine Nx.m_loud rfl rfl rfl ?_ | refine Nx.at_do rfl rfl rfl rfl ?_ | refine Nx.m_loud_do rfl rfl rfl rfl rfl ?_ | refine GoodF.loud_ rfl rfl rfl rfl (fun ex X => ?_)); first | refine Nx.opr rfl rfl ?_ | refine Nx.pred (n := R.length) rfl rfl (by omega) rfl ?_ | (refine Nx.call (Rpre := []) rfl rfl rfl (by kernel_rfl) rfl hPj (Ent.refl _) ?_; rintro _ _ ⟨A3, c3, o3, rfl, ho3, rfl⟩) | (refine Nx.call (Rpre := []) rfl rfl rfl (by kernel_rfl) rfl (hNs I2) (Ent.refl _) ?_; rintro _ _ ⟨A4, c4, rfl, rfl⟩) | (refine Nx.call_lendR3 1 1 1 rfl rfl rfl (by kernel_rfl) rfl rfl rfl rfl (fun m1 m2 m3 I' hI hm1 h1 hm2 h2 hm3 h3 => hMj A3 c3 o3 ho3 A4 c4 I' hI (mat_given hm2 h2 hm3 h3) (Vec.sliceOf hm1 h1)) ?_; rintro _ _ ⟨rfl, rfl⟩; rw [ho3, hpj]) | refine Nx.callv rfl rfl rfl (by kernel_rfl) rfl hR ?_ | refine Nx.indexAddr_nat (i := j) (sz := 2) rfl rfl rfl rfl rfl (by omega) rfl ?_ | (refine Nx.ent (R' := [frsR bm v.length (kerS x R.length j v.length), Blk b11 RT (wideL D), F]) (by (exact Ent.auto)) ?_; refine Nx.store_elt 0 frC (x' := fr1 (x j)) (sz := 2) rfl rfl rfl rfl rfl (fun _ => rfl) (by decide) (one_cells _) (by rw [kerS_len]; omega) (kerS_len _ _ _ _) ?_) | refine Nx.so ?_ | refine Nx.sb (fun bx => ?_) | refine Nx.sa (fun A2 c2 => ?_))
      | ((with_reducible refine Nx.is_at ?_); first | refine Nx.a ?_ | ((fail_if_success refine Nx.at_do rfl rfl rfl rfl ?_); first | refine Nx.at_dec_t rfl rfl rfl rfl (by first | assumption | omega) ?_ | refine Nx.at_dec_f rfl rfl rfl rfl (by first | assumption | omega) ?_ | refine Nx.at_split rfl rfl rfl rfl (fun hc => ?_) (fun hc => ?_) | refine Nx.at_splitb rfl rfl rfl rfl (fun hc => ?_) (fun hc => ?_)))
      | ((with_reducible refine Nx.is_mix ?_); first | refine Nx.m_quiet rfl rfl rfl rfl rfl (by first | exact QRun.opr rfl | exact QRun.pred (n := R.length) rfl rfl (by omega) | exact QRun.loads rfl rfl rfl (Rds.at_ 1 rfl) rfl) ?_ | refine Nx.m_quiet_do rfl rfl rfl rfl rfl rfl rfl (by first | exact QRun.opr rfl | exact QRun.pred (n := R.length) rfl rfl (by omega) | exact QRun.loads rfl rfl rfl (Rds.at_ 1 rfl) rfl) ?_ | refine Nx.m ?_ | ((fail_if_success refine Nx.m_quiet_do rfl rfl rfl rfl rfl rfl rfl ?_ ?_); (fail_if_success refine Nx.m_loud_do rfl rfl rfl rfl rfl ?_); first | refine Nx.m_dec_t rfl rfl rfl rfl (by first | assumption | omega) ?_ | refine Nx.m_dec_f rfl rfl rfl rfl (by first | assumption | omega) ?_ | refine Nx.m_split rfl rfl rfl rfl (fun hc => ?_) (fun hc => ?_) | refine Nx.m_splitb rfl rfl rfl rfl (fun hc => ?_) (fun hc => ?_)))
      | ((with_reducible refine GoodF.is ?_); first | refine GoodF.quiet rfl rfl rfl rfl rfl rfl (by first | exact QRun.opr rfl | exact QRun.pred (n := R.length) rfl rfl (by omega) | exact QRun.loads rfl rfl rfl (Rds.at_ 1 rfl) rfl |  exact QRun.std) ?_ | refine GoodF.done1 rfl (fun bx => ?_) | refine GoodF.done2 rfl (fun bx by_ => ?_) | refine GoodF.done3 rfl (fun bx by_ bz => ?_))
      | ((fail_if_success (with_reducible refine Nx.is_at ?_)); (fail_if_success (with_reducible refine Nx.is_wp ?_)); (fail_if_success (with_reducible refine Nx.is_mix ?_)); first | refine Nx.ex ?_ | refine Nx.pool_nextF 0 rfl (by exact Ent.auto) ?_ | refine Nx.pool_nextF 1 rfl (by exact Ent.auto) ?_ | refine Nx.pool_nextF 2 rfl (by exact Ent.auto) ?_ | refine Nx.pool_nextF 3 rfl (by exact Ent.auto) ?_)
    exact Nx.again (j + 1) ⟨hjl, fun i hi => by
      by_cases hij : i = j
      · rw [hij]; exact he
      · exact hzero i (by omega)⟩ (by omega) ⟨rfl, rfl, rfl, rfl, rfl, rfl, rfl, trivial⟩ (by rw [← kerS_set]; (exact Ent.auto))
  · have hkl : kerL x R.length v.length = [] := by unfold kerL; rw [if_neg (by rw [firstE_at hzero he hjl]; exact he)]
    obtain ⟨h5, h6⟩ := hpost _ hkl.symm
    repeat' first
      | ((with_reducible refine Nx.is_wp ?_); first | refine Nx.wo ?_ | refine Nx.p_poolF (id := 24) rfl [0, 1, 2, 4, 5, 6, 9, 3, 7, 8, 10, 11, 12, 13] [3, 7, 8, 10] [13, 12] [15, 16] [15] [⟨14, 13, 37, _⟩] rfl rfl (by kernel_rfl) (by kernel_rfl) (by decide) (PoolFit.cons ⟨⟨_, _, _, rfl⟩, rfl, rfl⟩ PoolFit.nil) (by repeat first | exact PanicOk.fn | refine PanicOk.then_ ?_ | refine PanicOk.inB ?_) (Ent.refl _) ?_ | refine Nx.p_dec rfl rfl (fun hc => ?_) (fun hc => ?_) | refine Nx.p_bool rfl rfl (fun hc => ?_) (fun hc => ?_))
      | ((first | refine Nx.at_op rfl rfl ?_ | refine Nx.m_loud rfl rfl rfl ?_ | refine Nx.at_do rfl rfl rfl rfl ?_ | refine Nx.m_loud_do rfl rfl rfl rfl rfl ?_ | refine GoodF.loud_ rfl rfl rfl rfl (fun ex X => ?_)); first | refine Nx.opr rfl rfl ?_ | refine Nx.pred (n := R.length) rfl rfl (by omega) rfl ?_ | (refine Nx.call (Rpre := []) rfl rfl rfl (by kernel_rfl) rfl hPj (Ent.refl _) ?_; rintro _ _ ⟨A3, c3, o3, rfl, ho3, rfl⟩) | (refine Nx.call (Rpre := []) rfl rfl rfl (by kernel_rfl) rfl (hNs I2) (Ent.refl _) ?_; rintro _ _ ⟨A4, c4, rfl, rfl⟩) | (refine Nx.call_lendR3 1 1 1 rfl rfl rfl (by kernel_rfl) rfl rfl rfl rfl (fun m1 m2 m3 I' hI hm1 h1 hm2 h2 hm3 h3 => hMj A3 c3 o3 ho3 A4 c4 I' hI (mat_given hm2 h2 hm3 h3) (Vec.sliceOf hm1 h1)) ?_; rintro _ _ ⟨rfl, rfl⟩; rw [ho3, hpj]) | refine Nx.callv rfl rfl rfl (by kernel_rfl) rfl hR ?_ | refine Nx.so ?_ | refine Nx.sb (fun bx => ?_) | refine Nx.sa (fun A2 c2 => ?_))
      | ((with_reducible refine Nx.is_at ?_); first | refine Nx.a ?_ | ((fail_if_success refine Nx.at_do rfl rfl rfl rfl ?_); first | refine Nx.at_dec_t rfl rfl rfl rfl (by first | assumption | omega) ?_ | refine Nx.at_dec_f rfl rfl rfl rfl (by first | assumption | omega) ?_ | refine Nx.at_split rfl rfl rfl rfl (fun hc => ?_) (fun hc => ?_) | refine Nx.at_splitb rfl rfl rfl rfl (fun hc => ?_) (fun hc => ?_)))
      | ((with_reducible refine Nx.is_mix ?_); first | refine Nx.m_quiet rfl rfl rfl rfl rfl (by first | exact QRun.opr rfl | exact QRun.pred (n := R.length) rfl rfl (by omega) | exact QRun.loads rfl rfl rfl (Rds.at_ 1 rfl) rfl) ?_ | refine Nx.m_quiet_do rfl rfl rfl rfl rfl rfl rfl (by first | exact QRun.opr rfl | exact QRun.pred (n := R.length) rfl rfl (by omega) | exact QRun.loads rfl rfl rfl (Rds.at_ 1 rfl) rfl) ?_ | refine Nx.m ?_ | ((fail_if_success refine Nx.m_quiet_do rfl rfl rfl rfl rfl rfl rfl ?_ ?_); (fail_if_success refine Nx.m_loud_do rfl rfl rfl rfl rfl ?_); first | refine Nx.m_dec_t rfl rfl rfl rfl (by first | assumption | omega) ?_ | refine Nx.m_dec_f rfl rfl rfl rfl (by first | assumption | omega) ?_ | refine Nx.m_split rfl rfl rfl rfl (fun hc => ?_) (fun hc => ?_) | refine Nx.m_splitb rfl rfl rfl rfl (fun hc => ?_) (fun hc => ?_)))
      | ((with_reducible refine GoodF.is ?_); first | refine GoodF.quiet rfl rfl rfl rfl rfl rfl (by first | exact QRun.opr rfl | exact QRun.pred (n := R.length) rfl rfl (by omega) | exact QRun.loads rfl rfl rfl (Rds.at_ 1 rfl) rfl |  exact QRun.std) ?_ | refine GoodF.done1 rfl (fun bx => ?_) | refine GoodF.done2 rfl (fun bx by_ => ?_) | refine GoodF.done3 rfl (fun bx by_ bz => ?_))
      | ((fail_if_success (with_reducible refine Nx.is_at ?_)); (fail_if_success (with_reducible refine Nx.is_wp ?_)); (fail_if_success (with_reducible refine Nx.is_mix ?_)); first | refine Nx.ex ?_ | refine Nx.pool_nextF 0 rfl (by exact Ent.auto) ?_ | refine Nx.pool_nextF 1 rfl (by exact Ent.auto) ?_ | refine Nx.pool_nextF 2 rfl (by exact Ent.auto) ?_ | refine Nx.pool_nextF 3 rfl (by exact Ent.auto) ?_)
    exact Nx.imm_le (hI1.trans hI2) (Nx.ret_fn rfl [fracsR none 0 []] ⟨none, 0, [], rfl, h5, h6, rfl⟩ ((Ent.vec_nil _ _ _).trans (by (exact Ent.auto))))
end Go.Proofs.YtpdgnjoideppjaaDoor
/- Contracts of functions of the given program, and lemmas about plain lists and numbers: what the laws of this seat lean on. -/
namespace Go.Proofs.YtpdgnjoideppjaaDoor
open Go.Eng
/-! Fractions compared, and program and reference compared -/
theorem part_frac0 (a b : Int) (w : World) : (part 3 #[.int .i64 a, .int .i64 b] 0).run Tryd.prog w = .ok (.int .i64 a) w := run_of_pureRun (by kernel_rfl) w
theorem part_frac1 (a b : Int) (w : World) : (part 3 #[.int .i64 a, .int .i64 b] 1).run Tryd.prog w = .ok (.int .i64 b) w := run_of_pureRun (by kernel_rfl) w
theorem eqFields_frac (a b c d : Int) (w : World) (fs : List Field) (hf : fs.map (fun f => (f.name, f.type, f.offset)) = [("Num", 3, 0), ("Den", 3, 1)]) :
    (Op.eqFields 9999 #[.int .i64 a, .int .i64 b] #[.int .i64 c, .int .i64 d] fs).run Tryd.prog w = .ok (a == c && b == d) w := by
  obtain ⟨f, g, rfl⟩ : ∃ f g, fs = [f, g] := by
    rcases fs with _ | ⟨f, _ | ⟨g, _ | ⟨k, r⟩⟩⟩
    · simp at hf
    · simp at hf
    · exact ⟨f, g, rfl⟩
    · simp at hf
  · simp only [List.map_cons, List.map_nil, List.cons.injEq, Prod.mk.injEq, and_true] at hf
    obtain ⟨⟨h1, h2, h3⟩, h4, h5, h6⟩ := hf
    simp only [Op.eqFields, h1, h2, h3, h4, h5, h6]
    rw [if_pos (by decide), if_pos (by decide), Sem.run_bind, part_frac0, Result.andThen_ok, Sem.run_bind, part_frac0, Result.andThen_ok, Sem.run_bind, run_equalIn_int _ 9998 _ .i64 .i64 a c Tryd.underlying3, Result.andThen_ok]
    cases (a == c)
    · rfl
    · rw [if_neg (by decide), Sem.run_bind, part_frac1, Result.andThen_ok, Sem.run_bind, part_frac1, Result.andThen_ok, Sem.run_bind, run_equalIn_int _ 9998 _ .i64 .i64 b d Tryd.underlying3, Result.andThen_ok]
      cases (b == d) <;> rfl
theorem frac_bool (a b c d : Int) : (a == c && b == d) = decide (a = c ∧ b = d) := by
  rw [Bool.eq_iff_iff]
  simp
theorem eql_frac {x y : Operand} (a b c d : Int) (w : World) :
    (do eqGuard .eql 37 x y (.agg #[.int .i64 a, .int .i64 b]) (.agg #[.int .i64 c, .int .i64 d]); binOp .eql 37 (.agg #[.int .i64 a, .int .i64 b]) (.agg #[.int .i64 c, .int .i64 d])).run Tryd.prog w = .ok (.bool (decide (a = c ∧ b = d))) w := by
  rw [Sem.run_bind, run_eqGuard_agg _ _ _ _ _ _ _ Tryd.eqGuardType37, Result.andThen_ok, run_eql_struct, run_equalIn_struct _ 9999 37 _ _ (by kernel_rfl) Tryd.stoodInHeld37,
    eqFields_frac a b c d w _ (by kernel_rfl), frac_bool]
  rfl
theorem neq_frac {x y : Operand} (a b c d : Int) (w : World) :
    (do eqGuard .neq 37 x y (.agg #[.int .i64 a, .int .i64 b]) (.agg #[.int .i64 c, .int .i64 d]); binOp .neq 37 (.agg #[.int .i64 a, .int .i64 b]) (.agg #[.int .i64 c, .int .i64 d])).run Tryd.prog w = .ok (.bool (decide (¬(a = c ∧ b = d)))) w := by
  rw [Sem.run_bind, run_eqGuard_agg _ _ _ _ _ _ _ Tryd.eqGuardType37, Result.andThen_ok, run_neq_struct, run_equalIn_struct _ 9999 37 _ _ (by kernel_rfl) Tryd.stoodInHeld37,
    eqFields_frac a b c d w _ (by kernel_rfl), frac_bool, show decide (¬(a = c ∧ b = d)) = !decide (a = c ∧ b = d) by simp]
  rfl
theorem eql_same {x y : Operand} (a b : Int) (w : World) :
    (do eqGuard .eql 37 x y (.agg #[.int .i64 a, .int .i64 b]) (.agg #[.int .i64 a, .int .i64 b]); binOp .eql 37 (.agg #[.int .i64 a, .int .i64 b]) (.agg #[.int .i64 a, .int .i64 b])).run Tryd.prog w = .ok (.bool true) w := by
  rw [eql_frac, decide_eq_true ⟨rfl, rfl⟩]
theorem neq_same {x y : Operand} (a b : Int) (w : World) :
    (do eqGuard .neq 37 x y (.agg #[.int .i64 a, .int .i64 b]) (.agg #[.int .i64 a, .int .i64 b]); binOp .neq 37 (.agg #[.int .i64 a, .int .i64 b]) (.agg #[.int .i64 a, .int .i64 b])).run Tryd.prog w = .ok (.bool false) w := by
  rw [neq_frac, decide_eq_false fun h => h ⟨rfl, rfl⟩]
section
open Go.Det
attribute [local irreducible] opK wpList Code.wp Exit.then Exit.inBlock fnPost bodyPost Nx Calls Oper.wp Rd Rds Wr Ent Stars Blk Again Vec FnSpec wpMix QRun Stop Upto wpAt
theorem ratio_form (a b : List (List Int)) : ∃ n d e : Int, ratioV a b = .tuple #[.agg #[.int .i64 n, .int .i64 d], .int .i64 e] := by
  unfold ratioV
  split
  · exact ⟨_, _, _, rfl⟩
  · split
    · exact ⟨_, _, _, rfl⟩
    · split
      · exact ⟨_, _, _, rfl⟩
      · exact ⟨_, _, _, rfl⟩
theorem ker_same {m : List (List Int)} {l l' : List (Int × Int)} (h1 : zeroB m = false → l = []) (h2 : zeroB m = true → ∃ k x, Ker m k x ∧ l = kerL x k m.length) (h3 : zeroB m = false → l' = []) (h4 : zeroB m = true → ∃ k x, Ker m k x ∧ l' = kerL x k m.length) : l' = l := by
  cases h : zeroB m with
  | false => rw [h1 h, h3 h]
  | true =>
    obtain ⟨k, x, hk, rfl⟩ := h2 h
    obtain ⟨k', x', hk', rfl⟩ := h4 h
    exact hk'.list hk
/-- A list of fractions, given up. -/
abbrev Fracs (I : PH) (A : Option Addr) (c : Nat) (l : List (Int × Int)) : Prop := SliceN frC 2 I A c l
set_option maxRecDepth 10000 in
set_option maxHeartbeats 4000000 in
theorem Same_fr (A B : Option Addr) (c d : Nat) (l : List (Int × Int)) (I : PH) (h : Fracs I A c l) (h' : Fracs I B d l) : FnSpec Tryd.prog 27 [.slice A l.length c, .slice B l.length d] I [] (fun v R' => v = .bool true ∧ R' = []) := by
  have hlen := h.len
  refine FnSpec.enterP Tryd.func27 rfl Tryd.ntmps27 rfl fun w F => ?_
  repeat' first
    | ((with_reducible refine Nx.is_wp ?_); first | refine Nx.wo ?_ | refine Nx.p_dec rfl rfl (fun hc => ?_) (fun hc => ?_) | refine Nx.p_bool rfl rfl (fun hc => ?_) (fun hc => ?_))
    | ((first | refine Nx.at_op rfl rfl ?_ | refine Nx.m_loud rfl rfl rfl ?_ | refine Nx.at_do rfl rfl rfl rfl ?_ | refine Nx.m_loud_do rfl rfl rfl rfl rfl ?_); first | refine Nx.opr rfl rfl ?_ | refine Nx.so ?_ | refine Nx.sb (fun bx => ?_) | refine Nx.sa (fun A2 c2 => ?_))
    | ((with_reducible refine Nx.is_at ?_); first | refine Nx.a ?_ | ((fail_if_success refine Nx.at_do rfl rfl rfl rfl ?_); first | refine Nx.at_dec_t rfl rfl rfl rfl (by first | assumption | omega) ?_ | refine Nx.at_dec_f rfl rfl rfl rfl (by first | assumption | omega) ?_ | refine Nx.at_split rfl rfl rfl rfl (fun hc => ?_) (fun hc => ?_) | refine Nx.at_splitb rfl rfl rfl rfl (fun hc => ?_) (fun hc => ?_)))
    | ((with_reducible refine Nx.is_mix ?_); first | refine Nx.m ?_ | ((fail_if_success refine Nx.m_quiet_do rfl rfl rfl rfl rfl rfl rfl ?_ ?_); (fail_if_success refine Nx.m_loud_do rfl rfl rfl rfl rfl ?_); first | refine Nx.m_dec_t rfl rfl rfl rfl (by first | assumption | omega) ?_ | refine Nx.m_dec_f rfl rfl rfl rfl (by first | assumption | omega) ?_ | refine Nx.m_split rfl rfl rfl rfl (fun hc => ?_) (fun hc => ?_) | refine Nx.m_splitb rfl rfl rfl rfl (fun hc => ?_) (fun hc => ?_)))
    | ((fail_if_success (with_reducible refine Nx.is_at ?_)); (fail_if_success (with_reducible refine Nx.is_wp ?_)); (fail_if_success (with_reducible refine Nx.is_mix ?_)); first | refine Nx.ex ?_)
  refine Nx.p_loop (σ := Nat) (fun k => [(0, .slice A l.length c), (1, .slice B l.length d), (5, .int .i64 (k : Int))]) (fun _ => [F]) (fun k => k ≤ l.length) (fun k => l.length - k) 0 rfl (Nat.zero_le _) ⟨rfl, rfl, rfl, trivial⟩ (by (exact Ent.auto)) ?_
  intro k hk
  have hk : k ≤ l.length := hk
  by_cases hkl : k < l.length
  case neg =>
    repeat' first
      | ((with_reducible refine Nx.is_wp ?_); first | refine Nx.wo ?_ | refine Nx.p_dec rfl rfl (fun hc => ?_) (fun hc => ?_) | refine Nx.p_bool rfl rfl (fun hc => ?_) (fun hc => ?_))
      | ((first | refine Nx.at_op rfl rfl ?_ | refine Nx.m_loud rfl rfl rfl ?_ | refine Nx.at_do rfl rfl rfl rfl ?_ | refine Nx.m_loud_do rfl rfl rfl rfl rfl ?_); first | refine Nx.opr rfl rfl ?_ | refine Nx.so ?_ | refine Nx.sb (fun bx => ?_) | refine Nx.sa (fun A2 c2 => ?_))
      | ((with_reducible refine Nx.is_at ?_); first | refine Nx.a ?_ | ((fail_if_success refine Nx.at_do rfl rfl rfl rfl ?_); first | refine Nx.at_dec_t rfl rfl rfl rfl (by first | assumption | omega) ?_ | refine Nx.at_dec_f rfl rfl rfl rfl (by first | assumption | omega) ?_ | refine Nx.at_split rfl rfl rfl rfl (fun hc => ?_) (fun hc => ?_) | refine Nx.at_splitb rfl rfl rfl rfl (fun hc => ?_) (fun hc => ?_)))
      | ((with_reducible refine Nx.is_mix ?_); first | refine Nx.m ?_ | ((fail_if_success refine Nx.m_quiet_do rfl rfl rfl rfl rfl rfl rfl ?_ ?_); (fail_if_success refine Nx.m_loud_do rfl rfl rfl rfl rfl ?_); first | refine Nx.m_dec_t rfl rfl rfl rfl (by first | assumption | omega) ?_ | refine Nx.m_dec_f rfl rfl rfl rfl (by first | assumption | omega) ?_ | refine Nx.m_split rfl rfl rfl rfl (fun hc => ?_) (fun hc => ?_) | refine Nx.m_splitb rfl rfl rfl rfl (fun hc => ?_) (fun hc => ?_)))
      | ((fail_if_success (with_reducible refine Nx.is_at ?_)); (fail_if_success (with_reducible refine Nx.is_wp ?_)); (fail_if_success (with_reducible refine Nx.is_mix ?_)); first | refine Nx.ex ?_)
    exact Nx.ret_fn rfl [] ⟨rfl, rfl⟩ (by (exact Ent.auto))
  have hr1 : ∀ (W : World) (R : List Res), Rds W I R ((ad A).add (k * 2)) (frC (l.getD k default)) := fun W R => h.rds hkl
  have hr2 : ∀ (W : World) (R : List Res), Rds W I R ((ad B).add (k * 2)) (frC (l.getD k default)) := fun W R => h'.rds hkl
  generalize l.getD k default = x at hr1 hr2
  obtain ⟨a, b⟩ := x
  repeat' first
    | ((with_reducible refine Nx.is_wp ?_); first | refine Nx.wo ?_ | refine Nx.p_drawF (id := 6) rfl [0, 1, 2, 3, 4, 5, 6, 7, 8] [] [] _ rfl rfl (by kernel_rfl) (by kernel_rfl) rfl (by repeat first | exact PanicOk.fn | refine PanicOk.then_ ?_ | refine PanicOk.inB ?_) (Ent.refl _) ?_ | refine Nx.p_dec rfl rfl (fun hc => ?_) (fun hc => ?_) | refine Nx.p_bool rfl rfl (fun hc => ?_) (fun hc => ?_))
    | ((first | refine Nx.at_op rfl rfl ?_ | refine Nx.m_loud rfl rfl rfl ?_ | refine Nx.at_do rfl rfl rfl rfl ?_ | refine Nx.m_loud_do rfl rfl rfl rfl rfl ?_); first | refine Nx.opr rfl rfl ?_ | refine Nx.so ?_ | refine Nx.sb (fun bx => ?_) | refine Nx.sa (fun A2 c2 => ?_))
    | ((with_reducible refine Nx.is_at ?_); first | refine Nx.a ?_ | ((fail_if_success refine Nx.at_do rfl rfl rfl rfl ?_); first | refine Nx.at_dec_t rfl rfl rfl rfl (by first | assumption | omega) ?_ | refine Nx.at_dec_f rfl rfl rfl rfl (by first | assumption | omega) ?_ | refine Nx.at_split rfl rfl rfl rfl (fun hc => ?_) (fun hc => ?_) | refine Nx.at_splitb rfl rfl rfl rfl (fun hc => ?_) (fun hc => ?_)))
    | ((with_reducible refine Nx.is_mix ?_); first | refine Nx.m_quiet rfl rfl rfl rfl rfl (by first | exact QRun.opr rfl | exact QRun.idx (A := A) (c := c) (sz := 2) rfl rfl rfl rfl (by omega) (h.isSome (by omega) (by decide)) | exact QRun.idx (A := B) (c := d) (sz := 2) rfl rfl rfl rfl (by omega) (h'.isSome (by omega) (by decide)) | exact QRun.loads rfl rfl rfl (hr1 _ _) rfl | exact QRun.loads rfl rfl rfl (hr2 _ _) rfl | exact QRun.binr rfl rfl (neq_same _ _)) ?_ | refine Nx.m_quiet_do rfl rfl rfl rfl rfl rfl rfl (by first | exact QRun.opr rfl | exact QRun.idx (A := A) (c := c) (sz := 2) rfl rfl rfl rfl (by omega) (h.isSome (by omega) (by decide)) | exact QRun.idx (A := B) (c := d) (sz := 2) rfl rfl rfl rfl (by omega) (h'.isSome (by omega) (by decide)) | exact QRun.loads rfl rfl rfl (hr1 _ _) rfl | exact QRun.loads rfl rfl rfl (hr2 _ _) rfl | exact QRun.binr rfl rfl (neq_same _ _)) ?_ | refine Nx.m ?_ | ((fail_if_success refine Nx.m_quiet_do rfl rfl rfl rfl rfl rfl rfl ?_ ?_); (fail_if_success refine Nx.m_loud_do rfl rfl rfl rfl rfl ?_); first | refine Nx.m_dec_t rfl rfl rfl rfl (by first | assumption | omega) ?_ | refine Nx.m_dec_f rfl rfl rfl rfl (by first | assumption | omega) ?_ | refine Nx.m_split rfl rfl rfl rfl (fun hc => ?_) (fun hc => ?_) | refine Nx.m_splitb rfl rfl rfl rfl (fun hc => ?_) (fun hc => ?_)))
    | ((fail_if_success (with_reducible refine Nx.is_at ?_)); (fail_if_success (with_reducible refine Nx.is_wp ?_)); (fail_if_success (with_reducible refine Nx.is_mix ?_)); first | refine Nx.ex ?_)
  exact Nx.again (k + 1) hkl (by omega) ⟨rfl, rfl, rfl, trivial⟩ (by (exact Ent.auto))
set_option maxRecDepth 10000 in
set_option maxHeartbeats 8000000 in
theorem agree_spec (A : Option Addr) (c : Nat) (v : List Row) (B : Option Addr) (d : Nat) (u : List Row) (L : Option Addr) (cl : Nat) (l : List Int) (I : PH) (hT : TabI I) (hv : Mat I A c v) (hu : Mat I B d u) (hl : Ints I L cl l) :
    FnSpec Tryd.prog 17 [.slice A v.length c, .slice B u.length d, .slice L l.length cl] I [] (fun x R' => x = .bool true ∧ R' = []) := by
  have a1 := Ratio_spec A B c d v u I hT hv hu
  have b1 := rRatio_spec A B c d v u I hv hu
  obtain ⟨n, dd, e, he⟩ := ratio_form (matL v) (matL u)
  rw [he] at a1 b1
  have a2 := Solve_spec A c v I hT hv L cl l hl
  have b2 := rSolve_spec A c v I hv L cl l hl
  generalize solL (matL v) l = s at a2 b2
  generalize solE (matL v) l = g at a2 b2
  have a3 := Check_spec A c v I hv
  have b3 := rCheck_spec A c v I hv
  generalize chkE (matL v) = q at a3 b3
  have a4 := Zero_spec A c v I hv
  have b4 := rZero_spec A c v I hv
  have a5 := Kernel_spec A c v I hv hT
  have b5 := rKernel_spec A c v I hv
  generalize zeroB (matL v) = z at a4 b4
  clear he hT hv hu hl
  refine FnSpec.enterP Tryd.func17 rfl Tryd.ntmps17 rfl fun w F => ?_
  repeat' first
    | ((with_reducible refine Nx.is_wp ?_); first | refine Nx.wo ?_ | refine Nx.p_dec rfl rfl (fun hc => ?_) (fun hc => ?_) | refine Nx.p_bool rfl rfl (fun hc => ?_) (fun hc => ?_))
    | ((first | refine Nx.at_op rfl rfl ?_ | refine Nx.m_loud rfl rfl rfl ?_ | refine Nx.at_do rfl rfl rfl rfl ?_ | refine Nx.m_loud_do rfl rfl rfl rfl rfl ?_); first | refine Nx.opr rfl rfl ?_ | refine Nx.callv rfl rfl rfl (by kernel_rfl) rfl a1 ?_ | refine Nx.callv rfl rfl rfl (by kernel_rfl) rfl b1 ?_ | (refine Nx.call (Rpre := []) rfl rfl rfl (by kernel_rfl) rfl a2 (Ent.refl _) ?_; rintro _ _ ⟨A3, c3, rfl, rfl⟩) | (refine Nx.call (Rpre := []) rfl rfl rfl (by kernel_rfl) rfl b2 (Ent.refl _) ?_; rintro _ _ ⟨A4, c4, rfl, rfl⟩) | refine Nx.callv rfl rfl rfl (by kernel_rfl) rfl a3 ?_ | refine Nx.callv rfl rfl rfl (by kernel_rfl) rfl b3 ?_ | refine Nx.callv rfl rfl rfl (by kernel_rfl) rfl a4 ?_ | refine Nx.callv rfl rfl rfl (by kernel_rfl) rfl b4 ?_ | refine Nx.binr rfl rfl (eql_same _ _) rfl ?_ | refine Nx.binr rfl rfl (eq_true_run (run_booleq Tryd.underlying4 _ _) (beq_self_eq_true _)) rfl ?_ | (refine Nx.call_lendR2 0 0 rfl rfl rfl (by kernel_rfl) rfl rfl rfl (fun m1 m2 I' hI hm1 h1 hm2 h2 => Same_fr A3 A4 c3 c4 s I' (Vec.sliceN hm2 h2 fun _ _ => rfl) (Vec.sliceN hm1 h1 fun _ _ => rfl)) ?_; rintro _ _ ⟨rfl, rfl⟩) | (refine Nx.call (Rpre := []) rfl rfl rfl (by kernel_rfl) rfl a5 (Ent.refl _) ?_; rintro _ _ ⟨A5, c5, l5, rfl, h51, h52, rfl⟩) | (refine Nx.call (Rpre := []) rfl rfl rfl (by kernel_rfl) rfl b5 (Ent.refl _) ?_; rintro _ _ ⟨A6, c6, l6, rfl, h61, h62, rfl⟩; rw [ker_same h51 h52 h61 h62]) | (refine Nx.call_lendR2 0 0 rfl rfl rfl (by kernel_rfl) rfl rfl rfl (fun m1 m2 I' hI hm1 h1 hm2 h2 => Same_fr A5 A6 c5 c6 l5 I' (Vec.sliceN hm2 h2 fun _ _ => rfl) (Vec.sliceN hm1 h1 fun _ _ => rfl)) ?_; rintro _ _ ⟨rfl, rfl⟩) | refine Nx.so ?_ | refine Nx.sb (fun bx => ?_) | refine Nx.sa (fun A2 c2 => ?_))
    | ((with_reducible refine Nx.is_at ?_); first | refine Nx.a ?_ | ((fail_if_success refine Nx.at_do rfl rfl rfl rfl ?_); first | refine Nx.at_dec_t rfl rfl rfl rfl (by first | assumption | omega) ?_ | refine Nx.at_dec_f rfl rfl rfl rfl (by first | assumption | omega) ?_ | refine Nx.at_split rfl rfl rfl rfl (fun hc => ?_) (fun hc => ?_) | refine Nx.at_splitb rfl rfl rfl rfl (fun hc => ?_) (fun hc => ?_)))
    | ((with_reducible refine Nx.is_mix ?_); first | refine Nx.m ?_ | ((fail_if_success refine Nx.m_quiet_do rfl rfl rfl rfl rfl rfl rfl ?_ ?_); (fail_if_success refine Nx.m_loud_do rfl rfl rfl rfl rfl ?_); first | refine Nx.m_dec_t rfl rfl rfl rfl (by first | assumption | omega) ?_ | refine Nx.m_dec_f rfl rfl rfl rfl (by first | assumption | omega) ?_ | refine Nx.m_split rfl rfl rfl rfl (fun hc => ?_) (fun hc => ?_) | refine Nx.m_splitb rfl rfl rfl rfl (fun hc => ?_) (fun hc => ?_)))
    | ((fail_if_success (with_reducible refine Nx.is_at ?_)); (fail_if_success (with_reducible refine Nx.is_wp ?_)); (fail_if_success (with_reducible refine Nx.is_mix ?_)); first | refine Nx.ex ?_)
  · exact Nx.ret_fn rfl [] ⟨rfl, rfl⟩ (by (exact Ent.auto))
  · exact absurd rfl hc
end
end Go.Proofs.YtpdgnjoideppjaaDoor
/- Contracts of functions of the given program, and lemmas about plain lists and numbers: what the laws of this seat lean on. -/
namespace Go.Proofs.YtpdgnjoideppjaaDoor
open Go.Eng Go.Det
attribute [local irreducible] opK wpList Code.wp Exit.then Exit.inBlock fnPost bodyPost Nx Calls Oper.wp Rd Rds Wr Ent Stars Blk Again Vec FnSpec wpMix QRun Stop Upto wpAt
/-! The sanity check -/
theorem row_given {I : PH} {b : Nat} {l : List Int} {m1 : PH} {t : TypeId} (hm : PH.le m1 I) (h : Blk b t (l.map (Value.int .i64)) m1) (h9 : l.length ≤ 1000) : Ints I (some ⟨b, 0, none⟩) l.length l :=
  Blk.sliceOf hm h (by unfold maxLen; omega)
theorem mat_lit {I : PH} {b : Nat} {v : List Row} {m1 : PH} {t : TypeId} (hm : PH.le m1 I) (h : Blk b t (v.map rowV) m1) (hr : ∀ r ∈ v, Ints I r.1 r.2.1 r.2.2) (h9 : v.length ≤ 1000) : Mat I (some ⟨b, 0, none⟩) v.length v :=
  ⟨Blk.sliceOf hm h (by unfold maxLen; omega), hr⟩
theorem two_rows {I : PH} {r s : Row} (h1 : Ints I r.1 r.2.1 r.2.2) (h2 : Ints I s.1 s.2.1 s.2.2) : ∀ x ∈ [r, s], Ints I x.1 x.2.1 x.2.2 := fun x hx => by
  rcases List.mem_cons.1 hx with rfl | hx
  · exact h1
  · rw [List.mem_singleton.1 hx]; exact h2
theorem one_row {I : PH} {r : Row} (h1 : Ints I r.1 r.2.1 r.2.2) : ∀ x ∈ [r], Ints I x.1 x.2.1 x.2.2 := fun x hx => by
  rw [List.mem_singleton.1 hx]; exact h1
theorem aw_sol : solL [[2, 1], [1, -1]] [5, 1] = [(2, 1), (1, 1)] ∧ solE [[2, 1], [1, -1]] [5, 1] = 0 := by decide +kernel
theorem aw_ratio : ratioV [[3]] [[6]] = .tuple #[.agg #[.int .i64 1, .int .i64 2], .int .i64 0] := by
  unfold ratioV
  rw [if_neg (by decide +kernel), if_neg (by decide +kernel), if_neg (by decide +kernel), show detM [[3]] = 3 by decide +kernel, show detM [[6]] = 6 by decide +kernel, redV_pos (by decide +kernel)]
  unfold ratV fracV
  rw [show (Rat.divInt 3 6).num = 1 by decide +kernel, show (Rat.divInt 3 6).den = 2 by decide +kernel]
  rfl
theorem aw_ker : Ker [[1, 2], [2, 4]] 1 (fun _ => Rat.divInt (-2) 1) := by
  refine ⟨[0], ⟨by decide, fun r hr => ?_, by decide +kernel⟩, fun _ r hr => ?_, rfl, by decide, fun j hj => ?_⟩
  · rw [List.mem_singleton.1 hr]; decide
  · have : r = 0 ∨ r = 1 := by
      have : r < 2 := hr
      omega
    rcases this with rfl | rfl <;> decide +kernel
  · obtain rfl : j = 0 := by omega
    rw [show numN [[1, 2], [2, 4]] [0] 1 0 = 2 by decide +kernel, show denD [[1, 2], [2, 4]] [0] 1 = 1 by decide +kernel]
theorem aw_kerL : kerL (fun _ => Rat.divInt (-2) 1) 1 2 = [(-2, 1), (1, 1)] := by decide +kernel
theorem aw_zero : zeroB [[1, 2], [2, 4]] = true ∧ zeroB [[0]] = true := by decide +kernel
theorem aw_post {l : List (Int × Int)} (h : zeroB [[1, 2], [2, 4]] = true → ∃ k x, Ker [[1, 2], [2, 4]] k x ∧ l = kerL x k [[1, 2], [2, 4]].length) : l = [(-2, 1), (1, 1)] := by
  obtain ⟨k, x, hk, rfl⟩ := h aw_zero.1
  rw [← aw_kerL]
  exact hk.list aw_ker
set_option maxRecDepth 10000 in
set_option maxHeartbeats 8000000 in
theorem awake_spec (I : PH) (hT : TabI I) : FnSpec Tryd.prog 14 [] I [] (fun x R' => x = .bool true ∧ R' = []) := by
  refine FnSpec.enterP Tryd.func14 rfl Tryd.ntmps14 rfl fun w F => ?_
  repeat' first
    | ((with_reducible refine Nx.is_wp ?_); first | refine Nx.wo ?_ | refine Nx.p_dec rfl rfl (fun hc => ?_) (fun hc => ?_) | refine Nx.p_bool rfl rfl (fun hc => ?_) (fun hc => ?_))
    | ((first | refine Nx.at_op rfl rfl ?_ | refine Nx.m_loud rfl rfl rfl ?_ | refine Nx.at_do rfl rfl rfl rfl ?_ | refine Nx.m_loud_do rfl rfl rfl rfl rfl ?_); first | refine Nx.opr rfl rfl ?_ | refine Nx.so ?_ | refine Nx.sb (fun bx => ?_) | refine Nx.sa (fun A2 c2 => ?_))
    | ((with_reducible refine Nx.is_at ?_); first | refine Nx.a ?_ | ((fail_if_success refine Nx.at_do rfl rfl rfl rfl ?_); first | refine Nx.at_dec_t rfl rfl rfl rfl (by first | assumption | omega) ?_ | refine Nx.at_dec_f rfl rfl rfl rfl (by first | assumption | omega) ?_ | refine Nx.at_split rfl rfl rfl rfl (fun hc => ?_) (fun hc => ?_) | refine Nx.at_splitb rfl rfl rfl rfl (fun hc => ?_) (fun hc => ?_)))
    | ((with_reducible refine Nx.is_mix ?_); first | refine Nx.m ?_ | ((fail_if_success refine Nx.m_quiet_do rfl rfl rfl rfl rfl rfl rfl ?_ ?_); (fail_if_success refine Nx.m_loud_do rfl rfl rfl rfl rfl ?_); first | refine Nx.m_dec_t rfl rfl rfl rfl (by first | assumption | omega) ?_ | refine Nx.m_dec_f rfl rfl rfl rfl (by first | assumption | omega) ?_ | refine Nx.m_split rfl rfl rfl rfl (fun hc => ?_) (fun hc => ?_) | refine Nx.m_splitb rfl rfl rfl rfl (fun hc => ?_) (fun hc => ?_)))
    | ((fail_if_success (with_reducible refine Nx.is_at ?_)); (fail_if_success (with_reducible refine Nx.is_wp ?_)); (fail_if_success (with_reducible refine Nx.is_mix ?_)); first | refine Nx.ex ?_)
  rename_i b7 b8 b9
  revert bx; intro b10
  refine Nx.freezeAt 0 rfl fun I1 m1 hI1 hm1 h1 => ?_
  refine Nx.freezeAt 0 rfl fun I2 m2 hI2 hm2 h2 => ?_
  refine Nx.freezeAt 0 rfl fun I3 m3 hI3 hm3 h3 => ?_
  refine Nx.freezeAt 0 rfl fun I4 m4 hI4 hm4 h4 => ?_
  have hle4 : PH.le I I4 := ((hI1.trans hI2).trans hI3).trans hI4
  have hB : Ints I4 (some ⟨b10, 0, none⟩) 2 [5, 1] := row_given (l := [5, 1]) (((hm1.trans hI2).trans hI3).trans hI4) h1 (by decide)
  have hM : Mat I4 (some ⟨b9, 0, none⟩) 2 [(some ⟨b7, 0, none⟩, 2, [2, 1]), (some ⟨b8, 0, none⟩, 2, [1, -1])] :=
    mat_lit (v := [(some ⟨b7, 0, none⟩, 2, [2, 1]), (some ⟨b8, 0, none⟩, 2, [1, -1])]) ((hm2.trans hI3).trans hI4) h2 (two_rows (row_given (l := [2, 1]) hm4 h4 (by decide)) (row_given (l := [1, -1]) (hm3.trans hI4) h3 (by decide))) (by show (2 : Nat) ≤ 1000; decide)
  have hT4 := TabI.mono hle4 hT
  have hS : FnSpec Tryd.prog 12 [.slice (some ⟨b9, 0, none⟩) 2 2, .slice (some ⟨b10, 0, none⟩) 2 2] I4 [] (fracPost [(2, 1), (1, 1)] 0) := by
    have := Solve_spec _ 2 _ I4 hT4 hM _ 2 [5, 1] hB
    rw [show matL [((some ⟨b7, 0, none⟩, 2, [2, 1]) : Row), (some ⟨b8, 0, none⟩, 2, [1, -1])] = [[2, 1], [1, -1]] from rfl, aw_sol.1, aw_sol.2] at this
    exact this
  repeat' first
    | ((with_reducible refine Nx.is_wp ?_); first | refine Nx.wo ?_ | refine Nx.p_dec rfl rfl (fun hc => ?_) (fun hc => ?_) | refine Nx.p_bool rfl rfl (fun hc => ?_) (fun hc => ?_))
    | ((first | refine Nx.at_op rfl rfl ?_ | refine Nx.m_loud rfl rfl rfl ?_ | refine Nx.at_do rfl rfl rfl rfl ?_ | refine Nx.m_loud_do rfl rfl rfl rfl rfl ?_); first | refine Nx.opr rfl rfl ?_ | (refine Nx.call (Rpre := []) rfl rfl rfl (by kernel_rfl) rfl hS (Ent.refl _) ?_; rintro _ _ ⟨A1, c1, rfl, rfl⟩) | refine Nx.so ?_ | refine Nx.sb (fun bx => ?_) | refine Nx.sa (fun A2 c2 => ?_))
    | ((with_reducible refine Nx.is_at ?_); first | refine Nx.a ?_ | ((fail_if_success refine Nx.at_do rfl rfl rfl rfl ?_); first | refine Nx.at_dec_t rfl rfl rfl rfl (by first | assumption | omega) ?_ | refine Nx.at_dec_f rfl rfl rfl rfl (by first | assumption | omega) ?_ | refine Nx.at_split rfl rfl rfl rfl (fun hc => ?_) (fun hc => ?_) | refine Nx.at_splitb rfl rfl rfl rfl (fun hc => ?_) (fun hc => ?_)))
    | ((with_reducible refine Nx.is_mix ?_); first | refine Nx.m ?_ | ((fail_if_success refine Nx.m_quiet_do rfl rfl rfl rfl rfl rfl rfl ?_ ?_); (fail_if_success refine Nx.m_loud_do rfl rfl rfl rfl rfl ?_); first | refine Nx.m_dec_t rfl rfl rfl rfl (by first | assumption | omega) ?_ | refine Nx.m_dec_f rfl rfl rfl rfl (by first | assumption | omega) ?_ | refine Nx.m_split rfl rfl rfl rfl (fun hc => ?_) (fun hc => ?_) | refine Nx.m_splitb rfl rfl rfl rfl (fun hc => ?_) (fun hc => ?_)))
    | ((fail_if_success (with_reducible refine Nx.is_at ?_)); (fail_if_success (with_reducible refine Nx.is_wp ?_)); (fail_if_success (with_reducible refine Nx.is_mix ?_)); first | refine Nx.ex ?_)
  rename_i b14 b15
  revert bx; intro b16
  refine Nx.freezeAt 0 rfl fun I5 m5 hI5 hm5 h5 => ?_
  refine Nx.freezeAt 0 rfl fun I6 m6 hI6 hm6 h6 => ?_
  refine Nx.freezeAt 0 rfl fun I7 m7 hI7 hm7 h7 => ?_
  have hle7 : PH.le I I7 := ((hle4.trans hI5).trans hI6).trans hI7
  have hT7 := TabI.mono hle7 hT
  have hM7 : Mat I7 (some ⟨b16, 0, none⟩) 2 [(some ⟨b14, 0, none⟩, 2, [1, 2]), (some ⟨b15, 0, none⟩, 2, [2, 4])] :=
    mat_lit (v := [(some ⟨b14, 0, none⟩, 2, [1, 2]), (some ⟨b15, 0, none⟩, 2, [2, 4])]) ((hm5.trans hI6).trans hI7) h5 (two_rows (row_given (l := [1, 2]) hm7 h7 (by decide)) (row_given (l := [2, 4]) (hm6.trans hI7) h6 (by decide))) (by show (2 : Nat) ≤ 1000; decide)
  have hK : FnSpec Tryd.prog 19 [.slice (some ⟨b16, 0, none⟩) 2 2] I7 [] (fun u R' => ∃ A' c', u = .slice A' 2 c' ∧ R' = [fracsR A' c' [(-2, 1), (1, 1)]]) :=
    (Kernel_spec _ 2 _ I7 hM7 hT7).mono fun u R' ⟨A', c', l, e1, _, e3, e4⟩ => by
      have := aw_post e3
      subst this
      exact ⟨A', c', e1, e4⟩
  repeat' first
    | ((with_reducible refine Nx.is_wp ?_); first | refine Nx.wo ?_ | refine Nx.p_dec rfl rfl (fun hc => ?_) (fun hc => ?_) | refine Nx.p_bool rfl rfl (fun hc => ?_) (fun hc => ?_))
    | ((first | refine Nx.at_op rfl rfl ?_ | refine Nx.m_loud rfl rfl rfl ?_ | refine Nx.at_do rfl rfl rfl rfl ?_ | refine Nx.m_loud_do rfl rfl rfl rfl rfl ?_); first | refine Nx.opr rfl rfl ?_ | (refine Nx.call (Rpre := []) rfl rfl rfl (by kernel_rfl) rfl hK (Ent.refl _) ?_; rintro _ _ ⟨A2, c2, rfl, rfl⟩) | refine Nx.so ?_ | refine Nx.sb (fun bx => ?_) | refine Nx.sa (fun A2 c2 => ?_))
    | ((with_reducible refine Nx.is_at ?_); first | refine Nx.a ?_ | ((fail_if_success refine Nx.at_do rfl rfl rfl rfl ?_); first | refine Nx.at_dec_t rfl rfl rfl rfl (by first | assumption | omega) ?_ | refine Nx.at_dec_f rfl rfl rfl rfl (by first | assumption | omega) ?_ | refine Nx.at_split rfl rfl rfl rfl (fun hc => ?_) (fun hc => ?_) | refine Nx.at_splitb rfl rfl rfl rfl (fun hc => ?_) (fun hc => ?_)))
    | ((with_reducible refine Nx.is_mix ?_); first | refine Nx.m ?_ | ((fail_if_success refine Nx.m_quiet_do rfl rfl rfl rfl rfl rfl rfl ?_ ?_); (fail_if_success refine Nx.m_loud_do rfl rfl rfl rfl rfl ?_); first | refine Nx.m_dec_t rfl rfl rfl rfl (by first | assumption | omega) ?_ | refine Nx.m_dec_f rfl rfl rfl rfl (by first | assumption | omega) ?_ | refine Nx.m_split rfl rfl rfl rfl (fun hc => ?_) (fun hc => ?_) | refine Nx.m_splitb rfl rfl rfl rfl (fun hc => ?_) (fun hc => ?_)))
    | ((fail_if_success (with_reducible refine Nx.is_at ?_)); (fail_if_success (with_reducible refine Nx.is_wp ?_)); (fail_if_success (with_reducible refine Nx.is_mix ?_)); first | refine Nx.ex ?_)
  rename_i b19 b20 b21
  revert bx; intro b22
  refine Nx.freezeAt 0 rfl fun I8 m8 hI8 hm8 h8 => ?_
  refine Nx.freezeAt 0 rfl fun I9 m9 hI9 hm9 h9 => ?_
  refine Nx.freezeAt 0 rfl fun I10 m10 hI10 hm10 h10 => ?_
  refine Nx.freezeAt 0 rfl fun I11 m11 hI11 hm11 h11 => ?_
  have hle11 : PH.le I I11 := (((hle7.trans hI8).trans hI9).trans hI10).trans hI11
  have hT11 := TabI.mono hle11 hT
  have hA : Mat I11 (some ⟨b20, 0, none⟩) 1 [(some ⟨b19, 0, none⟩, 1, [3])] :=
    mat_lit (v := [(some ⟨b19, 0, none⟩, 1, [3])]) (hm10.trans hI11) h10 (one_row (row_given (l := [3]) hm11 h11 (by decide))) (by show (1 : Nat) ≤ 1000; decide)
  have hB2 : Mat I11 (some ⟨b22, 0, none⟩) 1 [(some ⟨b21, 0, none⟩, 1, [6])] :=
    mat_lit (v := [(some ⟨b21, 0, none⟩, 1, [6])]) (((hm8.trans hI9).trans hI10).trans hI11) h8 (one_row (row_given (l := [6]) ((hm9.trans hI10).trans hI11) h9 (by decide))) (by show (1 : Nat) ≤ 1000; decide)
  have hR : FnSpec Tryd.prog 16 [.slice (some ⟨b20, 0, none⟩) 1 1, .slice (some ⟨b22, 0, none⟩) 1 1] I11 [] (fun u R' => u = .tuple #[.agg #[.int .i64 1, .int .i64 2], .int .i64 0] ∧ R' = []) := by
    have := Ratio_spec _ _ 1 1 _ _ I11 hT11 hA hB2
    rw [show matL [((some ⟨b19, 0, none⟩, 1, [3]) : Row)] = [[3]] from rfl, show matL [((some ⟨b21, 0, none⟩, 1, [6]) : Row)] = [[6]] from rfl, aw_ratio] at this
    exact this
  have hZ : ∀ (b b' : Nat) (I' : PH), Mat I' (some ⟨b, 0, none⟩) 1 [(some ⟨b', 0, none⟩, 1, [0])] → FnSpec Tryd.prog 13 [.slice (some ⟨b, 0, none⟩) 1 1] I' [] (fun u R' => u = .bool true ∧ R' = []) := fun b b' I' h => by
    have := Zero_spec _ 1 _ I' h
    rw [show matL [((some ⟨b', 0, none⟩, 1, [0]) : Row)] = [[0]] from rfl, aw_zero.2] at this
    exact this
  repeat' first
    | ((with_reducible refine Nx.is_wp ?_); first | refine Nx.wo ?_ | refine Nx.p_dec rfl rfl (fun hc => ?_) (fun hc => ?_) | refine Nx.p_bool rfl rfl (fun hc => ?_) (fun hc => ?_))
    | ((first | refine Nx.at_op rfl rfl ?_ | refine Nx.m_loud rfl rfl rfl ?_ | refine Nx.at_do rfl rfl rfl rfl ?_ | refine Nx.m_loud_do rfl rfl rfl rfl rfl ?_); first | refine Nx.opr rfl rfl ?_ | refine Nx.callv rfl rfl rfl (by kernel_rfl) rfl hR ?_ | (refine Nx.call_lendR2 0 2 rfl rfl rfl (by kernel_rfl) rfl rfl rfl (fun m1 m2 I' hI hm1 h1 hm2 h2 => Same_fr A1 (some _) c1 2 [(2, 1), (1, 1)] I' (Vec.sliceN hm2 h2 fun _ _ => rfl) (Blk.sliceN (l := [(2, 1), (1, 1)]) hm1 h1 (fun _ _ => rfl) (by show (2 : Nat) ≤ maxLen; decide))) ?_; rintro _ _ ⟨rfl, rfl⟩) | (refine Nx.call_lendR2 0 3 rfl rfl rfl (by kernel_rfl) rfl rfl rfl (fun m1 m2 I' hI hm1 h1 hm2 h2 => Same_fr A2 (some _) c2 2 [(-2, 1), (1, 1)] I' (Vec.sliceN hm2 h2 fun _ _ => rfl) (Blk.sliceN (l := [(-2, 1), (1, 1)]) hm1 h1 (fun _ _ => rfl) (by show (2 : Nat) ≤ maxLen; decide))) ?_; rintro _ _ ⟨rfl, rfl⟩) | refine Nx.binr rfl rfl (eql_same _ _) rfl ?_ | (refine Nx.call_lendR2 0 0 rfl rfl rfl (by kernel_rfl) rfl rfl rfl (fun m1 m2 I' hI hm1 h1 hm2 h2 => hZ _ _ I' (mat_lit (v := [(some _, 1, [0])]) hm1 h1 (one_row (row_given (l := [0]) hm2 h2 (by decide))) (by show (1 : Nat) ≤ 1000; decide))) ?_; rintro _ _ ⟨rfl, rfl⟩) | refine Nx.so ?_ | refine Nx.sb (fun bx => ?_) | refine Nx.sa (fun A2 c2 => ?_))
    | ((with_reducible refine Nx.is_at ?_); first | refine Nx.a ?_ | ((fail_if_success refine Nx.at_do rfl rfl rfl rfl ?_); first | refine Nx.at_dec_t rfl rfl rfl rfl (by first | assumption | omega) ?_ | refine Nx.at_dec_f rfl rfl rfl rfl (by first | assumption | omega) ?_ | refine Nx.at_split rfl rfl rfl rfl (fun hc => ?_) (fun hc => ?_) | refine Nx.at_splitb rfl rfl rfl rfl (fun hc => ?_) (fun hc => ?_)))
    | ((with_reducible refine Nx.is_mix ?_); first | refine Nx.m ?_ | ((fail_if_success refine Nx.m_quiet_do rfl rfl rfl rfl rfl rfl rfl ?_ ?_); (fail_if_success refine Nx.m_loud_do rfl rfl rfl rfl rfl ?_); first | refine Nx.m_dec_t rfl rfl rfl rfl (by first | assumption | omega) ?_ | refine Nx.m_dec_f rfl rfl rfl rfl (by first | assumption | omega) ?_ | refine Nx.m_split rfl rfl rfl rfl (fun hc => ?_) (fun hc => ?_) | refine Nx.m_splitb rfl rfl rfl rfl (fun hc => ?_) (fun hc => ?_)))
    | ((fail_if_success (with_reducible refine Nx.is_at ?_)); (fail_if_success (with_reducible refine Nx.is_wp ?_)); (fail_if_success (with_reducible refine Nx.is_mix ?_)); first | refine Nx.ex ?_)
  exact Nx.imm_le hle11 (Nx.ret_fn rfl [] ⟨rfl, rfl⟩ (by (exact Ent.auto)))
end Go.Proofs.YtpdgnjoideppjaaDoor
/- Contracts of functions of the given program, and lemmas about plain lists and numbers: what the laws of this seat lean on. -/
namespace Go.Proofs.YtpdgnjoideppjaaDoor
open Go.Eng
attribute [local irreducible] opK wpList Code.wp Exit.then Exit.inBlock fnPost bodyPost Nx Calls Oper.wp Rd Rds Wr Ent Stars Blk Again Vec FnSpec wpMix QRun Stop Upto wpAt
/-- Codes: bytes, at most 400 of them, and how many are used up. -/
structure CodesI (I : PH) (A : Option Addr) (c : Nat) (L : List Int) : Prop where
  sl : SliceOf (fun x : Int => Value.int .u8 x) I A c L
  each : ∀ x ∈ L, 0 ≤ x ∧ x < 256
theorem CodesI.mono {I I' : PH} {A : Option Addr} {c : Nat} {L : List Int} (hle : PH.le I I') (h : CodesI I A c L) : CodesI I' A c L := ⟨h.sl.mono hle, h.each⟩
end Go.Proofs.YtpdgnjoideppjaaDoor
/- Contracts of functions of the given program, and lemmas about plain lists and numbers: what the laws of this seat lean on. -/
namespace Go.Proofs.YtpdgnjoideppjaaDoor
open Go.Eng Go.Det
attribute [local irreducible] opK wpList Code.wp Exit.then Exit.inBlock fnPost bodyPost Nx Calls Oper.wp Rd Rds Wr Ent Stars Blk Again Vec FnSpec wpMix QRun Stop Upto wpAt
/-! What is drawn -/
/-- Numbers of a size. -/
def Sized (l : List Int) (b : Int) : Prop := ∀ x ∈ l, -b ≤ x ∧ x ≤ b
theorem Sized.snoc {l : List Int} {b z : Int} (h : Sized l b) (hz : -b ≤ z ∧ z ≤ b) : Sized (l ++ [z]) b := fun x hx => by
  rcases List.mem_append.1 hx with h1 | h1
  · exact h x h1
  · rw [List.mem_singleton.1 h1]; exact hz
/-! A matrix that is built and changed -/
/-- n rows of n numbers, of which something holds. -/
structure MOk (o : List Row) (n : Nat) (P : Nat → Nat → Int → Prop) : Prop where
  len : o.length = n
  row : ∀ i, i < n → (o.getD i default).2.2.length = n
  some : ∀ i, i < n → (o.getD i default).1.isSome = true
  ent : ∀ i j, i < n → j < n → P i j ((o.getD i default).2.2.getD j default)
theorem MOk.weak {o : List Row} {n : Nat} {P Q : Nat → Nat → Int → Prop} (h : MOk o n P) (hPQ : ∀ i j z, P i j z → Q i j z) : MOk o n Q := ⟨h.len, h.row, h.some, fun i j hi hj => hPQ _ _ _ (h.ent i j hi hj)⟩
/-- A number is changed. -/
def setRow (o : List Row) (i j : Nat) (z : Int) : List Row := o.set i ((o.getD i default).1, (o.getD i default).2.1, (o.getD i default).2.2.set j z)
theorem getD_set {α : Type} [Inhabited α] {l : List α} {i k : Nat} {x : α} (hk : k < l.length) : (l.set i x).getD k default = if k = i then x else l.getD k default := by
  rw [List.getD_eq_getElem?_getD, List.getElem?_set]
  by_cases h : i = k
  · rw [if_pos h, if_pos h.symm, if_pos (by omega)]; rfl
  · rw [if_neg h, if_neg (Ne.symm h), ← List.getD_eq_getElem?_getD]
theorem MOk.set {o : List Row} {n : Nat} {P : Nat → Nat → Int → Prop} (h : MOk o n P) {i j : Nat} {z : Int} (hz : P i j z) : MOk (setRow o i j z) n P := by
  have hl := h.len
  refine ⟨by unfold setRow; rw [List.length_set]; exact hl, fun k hk => ?_, fun k hk => ?_, fun k m hk hm => ?_⟩
  · unfold setRow
    rw [getD_set (by omega)]
    split
    · rename_i he; subst he; rw [List.length_set]; exact h.row k hk
    · exact h.row k hk
  · unfold setRow
    rw [getD_set (by omega)]
    split
    · rename_i he; subst he; exact h.some k hk
    · exact h.some k hk
  · unfold setRow
    rw [getD_set (by omega)]
    split
    · rename_i he
      subst he
      rw [getD_set (by rw [h.row k hk]; exact hm)]
      split
      · rename_i he2; subst he2; exact hz
      · exact h.ent k m hk hm
    · exact h.ent k m hk hm
end Go.Proofs.YtpdgnjoideppjaaDoor
/-
  The proof engine, part AI: conversion to a number without sign, in an open statement.
-/
namespace Go.Eng
theorem QRun.conv_u64 {C : Cx} {e : Env} {S : World → Prop} {ty t u : TypeId} {pos : String} {after : Array Edge} {g : Option (Nat × Bool)} {x : Operand} {k : IntKind} {p : Int} {s : TypeDesc} {dst : Option Tmp} (hx : evo e x = some (.int k p)) (hs : C.P.underlying t = some s) (ht : C.P.underlying u = some (.int .u64)) : QRun C e S ⟨dst, .convert t u x, ty, pos, after, g⟩ (.int .u64 (p % B64)) := fun a w ha _ => by
  simp only [execOp, ha.eval hx]
  refine run_v ?_
  unfold convert
  rw [Sem.run_bind, run_underlying hs, Result.andThen_ok, Sem.run_bind, run_underlying ht, Result.andThen_ok]
  show Result.ok (Value.int .u64 (IntKind.u64.wrap p)) w = _
  rw [IntKind.wrap_u64]
end Go.Eng
/- Contracts of functions of the given program, and lemmas about plain lists and numbers: what the laws of this seat lean on. -/
namespace Go.Proofs.YtpdgnjoideppjaaDoor
open Go.Eng Go.Det
attribute [local irreducible] opK wpList Code.wp Exit.then Exit.inBlock fnPost bodyPost Nx Calls Oper.wp Rd Rds Wr Ent Stars Blk Again Vec FnSpec wpMix QRun Stop Upto wpAt
theorem run_shrZ {P : Program} {t : TypeId} {x y : Operand} {p q : Int} {k : IntKind} (n : Nat) (hq : q = (n : Int)) (hn : n ≤ 64) : pureRun P (do eqGuard .shr t x y (.int .i64 p) (.int k q); binOp .shr t (.int .i64 p) (.int k q)) = some (.int .i64 (p / 2 ^ n)) := by
  subst hq; exact run_shrI hn
set_option maxRecDepth 10000 in
set_option maxHeartbeats 8000000 in
theorem LinearLarge_spec (A : Option Addr) (c : Nat) (l : List Int) (z : Int) (I : PH) (hl : SliceOf (fun x : Int => Value.int .i32 x) I A c l) (hx : ∀ x ∈ l, -2147483648 ≤ x ∧ x < 2147483648) (hz : 0 ≤ z ∧ z < 256) (hT : TabI I) :
    FnSpec Tryd.prog 6 [.slice A l.length c, .int .u8 z] I [] (fun v R' => v = .bool true ∧ R' = []) := by
  have hll := hl.len
  obtain ⟨z, rfl⟩ := Int.eq_ofNat_of_zero_le hz.1
  obtain ⟨n, hn⟩ : ∃ n : Nat, n = 1 + z % 5 := ⟨_, rfl⟩
  have hnz : (1 : Int) + (z : Int) % 5 = (n : Int) := by omega
  refine FnSpec.enterP Tryd.func6 rfl Tryd.ntmps6 rfl fun w F => ?_
  repeat' first
    | ((with_reducible refine Nx.is_wp ?_); first | refine Nx.wo ?_ | refine Nx.p_dec rfl rfl (fun hc => ?_) (fun hc => ?_) | refine Nx.p_bool rfl rfl (fun hc => ?_) (fun hc => ?_))
    | ((first | refine Nx.at_op rfl rfl ?_ | refine Nx.m_loud rfl rfl rfl ?_ | refine Nx.at_do rfl rfl rfl rfl ?_ | refine Nx.m_loud_do rfl rfl rfl rfl rfl ?_); first | refine Nx.opr rfl rfl ?_ | refine Nx.so ?_ | refine Nx.sb (fun bx => ?_) | refine Nx.sa (fun A2 c2 => ?_))
    | ((with_reducible refine Nx.is_at ?_); first | refine Nx.a ?_ | ((fail_if_success refine Nx.at_do rfl rfl rfl rfl ?_); first | refine Nx.at_dec_t rfl rfl rfl rfl (by first | assumption | omega) ?_ | refine Nx.at_dec_f rfl rfl rfl rfl (by first | assumption | omega) ?_ | refine Nx.at_split rfl rfl rfl rfl (fun hc => ?_) (fun hc => ?_) | refine Nx.at_splitb rfl rfl rfl rfl (fun hc => ?_) (fun hc => ?_)))
    | ((with_reducible refine Nx.is_mix ?_); first | refine Nx.m ?_ | ((fail_if_success refine Nx.m_quiet_do rfl rfl rfl rfl rfl rfl rfl ?_ ?_); (fail_if_success refine Nx.m_loud_do rfl rfl rfl rfl rfl ?_); first | refine Nx.m_dec_t rfl rfl rfl rfl (by first | assumption | omega) ?_ | refine Nx.m_dec_f rfl rfl rfl rfl (by first | assumption | omega) ?_ | refine Nx.m_split rfl rfl rfl rfl (fun hc => ?_) (fun hc => ?_) | refine Nx.m_splitb rfl rfl rfl rfl (fun hc => ?_) (fun hc => ?_)))
    | ((fail_if_success (with_reducible refine Nx.is_at ?_)); (fail_if_success (with_reducible refine Nx.is_wp ?_)); (fail_if_success (with_reducible refine Nx.is_mix ?_)); first | refine Nx.ex ?_)
  refine Nx.p_loop (σ := Nat × Option Addr × Nat × List Row) (fun x => [(0, .slice A l.length c), (1, .int .u8 (z : Int)), (5, .int .i64 (n : Int)), (6, .slice x.2.1 x.2.2.2.length x.2.2.1), (7, .int .i64 (x.1 : Int))])
    (fun x => [Vec 28 1 x.2.1 x.2.2.2.length x.2.2.1 (x.2.2.2.map rowV), Stars (x.2.2.2.map rowR), F]) (fun x => x.1 ≤ n ∧ x.2.2.2.length = x.1) (fun x => n - x.1) (0, none, 0, []) rfl ⟨Nat.zero_le _, rfl⟩ ⟨rfl, rfl, by rw [← hnz]; rfl, rfl, rfl, trivial⟩ ((Ent.vec_nil _ _ _).trans (Ent.pick 0 rfl ((Ent.stars_nil _).trans (by (exact Ent.auto))))) ?_
  rintro ⟨i, Ao, co, o⟩ ⟨hi, hol⟩
  dsimp only at hi hol ⊢
  by_cases hlt : i < n
  · repeat' first
      | ((with_reducible refine Nx.is_wp ?_); first | refine Nx.wo ?_ | refine Nx.p_dec rfl rfl (fun hc => ?_) (fun hc => ?_) | refine Nx.p_bool rfl rfl (fun hc => ?_) (fun hc => ?_))
      | ((first | refine Nx.at_op rfl rfl ?_ | refine Nx.m_loud rfl rfl rfl ?_ | refine Nx.at_do rfl rfl rfl rfl ?_ | refine Nx.m_loud_do rfl rfl rfl rfl rfl ?_); first | refine Nx.opr rfl rfl ?_ | refine Nx.so ?_ | refine Nx.sb (fun bx => ?_) | refine Nx.sa (fun A2 c2 => ?_))
      | ((with_reducible refine Nx.is_at ?_); first | refine Nx.a ?_ | ((fail_if_success refine Nx.at_do rfl rfl rfl rfl ?_); first | refine Nx.at_dec_t rfl rfl rfl rfl (by first | assumption | omega) ?_ | refine Nx.at_dec_f rfl rfl rfl rfl (by first | assumption | omega) ?_ | refine Nx.at_split rfl rfl rfl rfl (fun hc => ?_) (fun hc => ?_) | refine Nx.at_splitb rfl rfl rfl rfl (fun hc => ?_) (fun hc => ?_)))
      | ((with_reducible refine Nx.is_mix ?_); first | refine Nx.m ?_ | ((fail_if_success refine Nx.m_quiet_do rfl rfl rfl rfl rfl rfl rfl ?_ ?_); (fail_if_success refine Nx.m_loud_do rfl rfl rfl rfl rfl ?_); first | refine Nx.m_dec_t rfl rfl rfl rfl (by first | assumption | omega) ?_ | refine Nx.m_dec_f rfl rfl rfl rfl (by first | assumption | omega) ?_ | refine Nx.m_split rfl rfl rfl rfl (fun hc => ?_) (fun hc => ?_) | refine Nx.m_splitb rfl rfl rfl rfl (fun hc => ?_) (fun hc => ?_)))
      | ((fail_if_success (with_reducible refine Nx.is_at ?_)); (fail_if_success (with_reducible refine Nx.is_wp ?_)); (fail_if_success (with_reducible refine Nx.is_mix ?_)); first | refine Nx.ex ?_)
    refine Nx.p_loop (σ := Nat × Option Addr × Nat × List Int) (fun x => [(0, .slice A l.length c), (1, .int .u8 (z : Int)), (5, .int .i64 (n : Int)), (6, .slice Ao o.length co), (7, .int .i64 (i : Int)), (8, .slice x.2.1 x.2.2.2.length x.2.2.1), (9, .int .i64 (x.1 : Int))])
      (fun x => [intsR x.2.1 x.2.2.1 x.2.2.2, Vec 28 1 Ao o.length co (o.map rowV), Stars (o.map rowR), F]) (fun x => x.1 ≤ n ∧ x.2.2.2.length = x.1) (fun x => n - x.1) (0, none, 0, []) rfl ⟨Nat.zero_le _, rfl⟩ ⟨rfl, rfl, rfl, rfl, rfl, rfl, rfl, trivial⟩ ((Ent.vec_nil _ _ _).trans (by (exact Ent.auto))) ?_
    rintro ⟨j, A1, c1, r⟩ ⟨hj, hrl⟩
    dsimp only at hj hrl ⊢
    have hin : i * n ≤ 25 := Nat.mul_le_mul (show i ≤ 5 by omega) (show n ≤ 5 by omega)
    have hin2 : 0 ≤ (i : Int) * (n : Int) ∧ (i : Int) * (n : Int) ≤ 25 := ⟨by rw [← Int.natCast_mul]; exact Int.natCast_nonneg _, by rw [← Int.natCast_mul]; omega⟩
    by_cases hjl : j < n
    · by_cases hat : i * n + j < l.length
      · have hxx := hx (l.getD (i * n + j) default) (getD_memI hat)
        have hrd : ∀ (W : World) (R : List Res), Rd W I R ((ad A).add ((i * n + j) * 1)) (.int .i32 (l.getD (i * n + j) default)) := fun W R => hl.rd hat
        generalize l.getD (i * n + j) default = y at hxx hrd
        repeat' first
          | ((with_reducible refine Nx.is_wp ?_); first | refine Nx.wo ?_ | refine Nx.p_dec rfl rfl (fun hc => ?_) (fun hc => ?_) | refine Nx.p_bool rfl rfl (fun hc => ?_) (fun hc => ?_))
          | ((first | refine Nx.at_op rfl rfl ?_ | refine Nx.m_loud rfl rfl rfl ?_ | refine Nx.at_do rfl rfl rfl rfl ?_ | refine Nx.m_loud_do rfl rfl rfl rfl rfl ?_); first | refine Nx.opr rfl rfl ?_ | refine Nx.indexAddr_nat (i := i * n + j) (sz := 1) rfl rfl rfl rfl rfl (by omega) (hl.isSome (by omega)) ?_ | refine Nx.load rfl rfl rfl (hrd _ _) ?_ | refine Nx.conv_u64 rfl rfl rfl rfl ?_ | refine Nx.bin rfl rfl (run_shrZ (z / 5 % 24) (by unfold B64; omega) (by omega)) rfl ?_ | refine Nx.so ?_ | refine Nx.sb (fun bx => ?_) | refine Nx.sa (fun A2 c2 => ?_))
          | ((with_reducible refine Nx.is_at ?_); first | refine Nx.a ?_ | ((fail_if_success refine Nx.at_do rfl rfl rfl rfl ?_); first | refine Nx.at_dec_t rfl rfl rfl rfl (by first | assumption | omega) ?_ | refine Nx.at_dec_f rfl rfl rfl rfl (by first | assumption | omega) ?_ | refine Nx.at_split rfl rfl rfl rfl (fun hc => ?_) (fun hc => ?_) | refine Nx.at_splitb rfl rfl rfl rfl (fun hc => ?_) (fun hc => ?_)))
          | ((with_reducible refine Nx.is_mix ?_); first | refine Nx.m ?_ | ((fail_if_success refine Nx.m_quiet_do rfl rfl rfl rfl rfl rfl rfl ?_ ?_); (fail_if_success refine Nx.m_loud_do rfl rfl rfl rfl rfl ?_); first | refine Nx.m_dec_t rfl rfl rfl rfl (by first | assumption | omega) ?_ | refine Nx.m_dec_f rfl rfl rfl rfl (by first | assumption | omega) ?_ | refine Nx.m_split rfl rfl rfl rfl (fun hc => ?_) (fun hc => ?_) | refine Nx.m_splitb rfl rfl rfl rfl (fun hc => ?_) (fun hc => ?_)))
          | ((fail_if_success (with_reducible refine Nx.is_at ?_)); (fail_if_success (with_reducible refine Nx.is_wp ?_)); (fail_if_success (with_reducible refine Nx.is_mix ?_)); first | refine Nx.ex ?_)
        have hl2 : (r ++ [y / 2 ^ (z / 5 % 24)]).length = r.length + 1 := by simp
        exact Nx.again (j + 1, A2, c2, r ++ [y / 2 ^ (z / 5 % 24)]) ⟨hjl, by dsimp only; omega⟩ (by dsimp only; omega) ⟨rfl, rfl, rfl, rfl, rfl, by dsimp only; rw [hl2]; rfl, rfl, trivial⟩ (by dsimp only; unfold intsR; rw [hl2, List.map_append]; (exact Ent.auto))
      · repeat' first
          | ((with_reducible refine Nx.is_wp ?_); first | refine Nx.wo ?_ | refine Nx.p_dec rfl rfl (fun hc => ?_) (fun hc => ?_) | refine Nx.p_bool rfl rfl (fun hc => ?_) (fun hc => ?_))
          | ((first | refine Nx.at_op rfl rfl ?_ | refine Nx.m_loud rfl rfl rfl ?_ | refine Nx.at_do rfl rfl rfl rfl ?_ | refine Nx.m_loud_do rfl rfl rfl rfl rfl ?_); first | refine Nx.opr rfl rfl ?_ | refine Nx.so ?_ | refine Nx.sb (fun bx => ?_) | refine Nx.sa (fun A2 c2 => ?_))
          | ((with_reducible refine Nx.is_at ?_); first | refine Nx.a ?_ | ((fail_if_success refine Nx.at_do rfl rfl rfl rfl ?_); first | refine Nx.at_dec_t rfl rfl rfl rfl (by first | assumption | omega) ?_ | refine Nx.at_dec_f rfl rfl rfl rfl (by first | assumption | omega) ?_ | refine Nx.at_split rfl rfl rfl rfl (fun hc => ?_) (fun hc => ?_) | refine Nx.at_splitb rfl rfl rfl rfl (fun hc => ?_) (fun hc => ?_)))
          | ((with_reducible refine Nx.is_mix ?_); first | refine Nx.m ?_ | ((fail_if_success refine Nx.m_quiet_do rfl rfl rfl rfl rfl rfl rfl ?_ ?_); (fail_if_success refine Nx.m_loud_do rfl rfl rfl rfl rfl ?_); first | refine Nx.m_dec_t rfl rfl rfl rfl (by first | assumption | omega) ?_ | refine Nx.m_dec_f rfl rfl rfl rfl (by first | assumption | omega) ?_ | refine Nx.m_split rfl rfl rfl rfl (fun hc => ?_) (fun hc => ?_) | refine Nx.m_splitb rfl rfl rfl rfl (fun hc => ?_) (fun hc => ?_)))
          | ((fail_if_success (with_reducible refine Nx.is_at ?_)); (fail_if_success (with_reducible refine Nx.is_wp ?_)); (fail_if_success (with_reducible refine Nx.is_mix ?_)); first | refine Nx.ex ?_)
        have hl2 : (r ++ [(i : Int) * 7 + (j : Int)]).length = r.length + 1 := by simp
        exact Nx.again (j + 1, A2, c2, r ++ [(i : Int) * 7 + (j : Int)]) ⟨hjl, by dsimp only; omega⟩ (by dsimp only; omega) ⟨rfl, rfl, rfl, rfl, rfl, by dsimp only; rw [hl2]; rfl, rfl, trivial⟩ (by dsimp only; unfold intsR; rw [hl2, List.map_append]; (exact Ent.auto))
    · obtain rfl : j = n := by omega
      repeat' first
        | ((with_reducible refine Nx.is_wp ?_); first | refine Nx.wo ?_ | refine Nx.p_dec rfl rfl (fun hc => ?_) (fun hc => ?_) | refine Nx.p_bool rfl rfl (fun hc => ?_) (fun hc => ?_))
        | ((first | refine Nx.at_op rfl rfl ?_ | refine Nx.m_loud rfl rfl rfl ?_ | refine Nx.at_do rfl rfl rfl rfl ?_ | refine Nx.m_loud_do rfl rfl rfl rfl rfl ?_); first | refine Nx.opr rfl rfl ?_ | refine Nx.so ?_ | refine Nx.sb (fun bx => ?_) | refine Nx.sa (fun A2 c2 => ?_))
        | ((with_reducible refine Nx.is_at ?_); first | refine Nx.a ?_ | ((fail_if_success refine Nx.at_do rfl rfl rfl rfl ?_); first | refine Nx.at_dec_t rfl rfl rfl rfl (by first | assumption | omega) ?_ | refine Nx.at_dec_f rfl rfl rfl rfl (by first | assumption | omega) ?_ | refine Nx.at_split rfl rfl rfl rfl (fun hc => ?_) (fun hc => ?_) | refine Nx.at_splitb rfl rfl rfl rfl (fun hc => ?_) (fun hc => ?_)))
        | ((with_reducible refine Nx.is_mix ?_); first | refine Nx.m ?_ | ((fail_if_success refine Nx.m_quiet_do rfl rfl rfl rfl rfl rfl rfl ?_ ?_); (fail_if_success refine Nx.m_loud_do rfl rfl rfl rfl rfl ?_); first | refine Nx.m_dec_t rfl rfl rfl rfl (by first | assumption | omega) ?_ | refine Nx.m_dec_f rfl rfl rfl rfl (by first | assumption | omega) ?_ | refine Nx.m_split rfl rfl rfl rfl (fun hc => ?_) (fun hc => ?_) | refine Nx.m_splitb rfl rfl rfl rfl (fun hc => ?_) (fun hc => ?_)))
        | ((fail_if_success (with_reducible refine Nx.is_at ?_)); (fail_if_success (with_reducible refine Nx.is_wp ?_)); (fail_if_success (with_reducible refine Nx.is_mix ?_)); first | refine Nx.ex ?_)
      have hol' : (o ++ [((A1, c1, r) : Row)]).length = o.length + 1 := by simp
      exact Nx.again (i + 1, A2, c2, o ++ [(A1, c1, r)]) ⟨hlt, by dsimp only; omega⟩ (by dsimp only; omega) ⟨rfl, rfl, rfl, by dsimp only; rw [hol']; rfl, rfl, trivial⟩ (by
        dsimp only
        rw [hol', List.map_append, List.map_append]
        exact Ent.trans (R' := rowR (A1, c1, r) :: Stars (o.map rowR) :: Vec 28 1 A2 (o.length + 1) c2 (o.map rowV ++ [.slice A1 r.length c1]) :: [F]) (by unfold rowR intsR; (exact Ent.auto)) (Ent.bundle.trans (by (exact Ent.auto))))
  obtain rfl : i = n := by omega
  repeat' first
    | ((with_reducible refine Nx.is_wp ?_); first | refine Nx.p_stopr 18 rfl ?_ | refine Nx.wo ?_ | refine Nx.p_dec rfl rfl (fun hc => ?_) (fun hc => ?_) | refine Nx.p_bool rfl rfl (fun hc => ?_) (fun hc => ?_))
    | ((first | refine Nx.at_op rfl rfl ?_ | refine Nx.m_loud rfl rfl rfl ?_ | refine Nx.at_do rfl rfl rfl rfl ?_ | refine Nx.m_loud_do rfl rfl rfl rfl rfl ?_); first | refine Nx.opr rfl rfl ?_ | refine Nx.makeInts rfl rfl rfl rfl rfl rfl rfl rfl (by omega) (fun bx => ?_) | refine Nx.indexAddr_nat (i := 0) (sz := 1) rfl rfl rfl rfl rfl (by omega) rfl ?_ | refine Nx.store_of 0 (Value.int .i64) rfl rfl rfl rfl rfl rfl (by omega) ?_ | refine Nx.so ?_ | refine Nx.sb (fun bx => ?_) | refine Nx.sa (fun A2 c2 => ?_))
    | ((with_reducible refine Nx.is_at ?_); first | refine Nx.a ?_ | ((fail_if_success refine Nx.at_do rfl rfl rfl rfl ?_); first | refine Nx.at_dec_t rfl rfl rfl rfl (by first | assumption | omega) ?_ | refine Nx.at_dec_f rfl rfl rfl rfl (by first | assumption | omega) ?_ | refine Nx.at_split rfl rfl rfl rfl (fun hc => ?_) (fun hc => ?_) | refine Nx.at_splitb rfl rfl rfl rfl (fun hc => ?_) (fun hc => ?_)))
    | ((with_reducible refine Nx.is_mix ?_); first | refine Nx.m ?_ | ((fail_if_success refine Nx.m_quiet_do rfl rfl rfl rfl rfl rfl rfl ?_ ?_); (fail_if_success refine Nx.m_loud_do rfl rfl rfl rfl rfl ?_); first | refine Nx.m_dec_t rfl rfl rfl rfl (by first | assumption | omega) ?_ | refine Nx.m_dec_f rfl rfl rfl rfl (by first | assumption | omega) ?_ | refine Nx.m_split rfl rfl rfl rfl (fun hc => ?_) (fun hc => ?_) | refine Nx.m_splitb rfl rfl rfl rfl (fun hc => ?_) (fun hc => ?_)))
    | ((fail_if_success (with_reducible refine Nx.is_at ?_)); (fail_if_success (with_reducible refine Nx.is_wp ?_)); (fail_if_success (with_reducible refine Nx.is_mix ?_)); first | refine Nx.ex ?_)
  revert bx; intro bb
  refine Nx.p_go rfl (Nx.ent (R' := [Vec 28 1 Ao o.length co (o.map rowV), Stars (o.map rowR), Vec 3 1 (some ⟨bb, 0, none⟩) i i (((List.replicate i (0 : Int)).set 0 1).map (Value.int .i64)), F]) (by (exact Ent.auto)) ?_)
  refine Nx.freezeAt 0 rfl fun I1 m1 hI1 hm1 h1' => ?_
  refine Nx.freezeAt 0 rfl fun I2 m2 hI2 hm2 h2' => ?_
  refine Nx.freezeAt 0 rfl fun I3 m3 hI3 hm3 h3' => ?_
  have hle : PH.le I I3 := (hI1.trans hI2).trans hI3
  have hMa : Mat I3 Ao co o := mat_given ((hm1.trans hI2).trans hI3) h1' (hm2.trans hI3) h2'
  have hBl : ((List.replicate i (0 : Int)).set 0 1).length = i := by simp
  have hB : Ints I3 (some ⟨bb, 0, none⟩) i ((List.replicate i (0 : Int)).set 0 1) := Vec.sliceOf (t := 3) hm3 (by rw [hBl]; exact h3')
  generalize (List.replicate i (0 : Int)).set 0 1 = bl at hBl hB
  have hT3 := TabI.mono hle hT
  have hA1 : ∀ (b b' : Nat) (I' : PH), PH.le I3 I' → Mat I' (some ⟨b, 0, none⟩) 1 [(some ⟨b', 0, none⟩, 1, [1])] → FnSpec Tryd.prog 17 [.slice Ao o.length co, .slice (some ⟨b, 0, none⟩) 1 1, .slice (some ⟨bb, 0, none⟩) i i] I' [] (fun x R' => x = .bool true ∧ R' = []) := fun b b' I' hI h => by
    have := agree_spec Ao co o _ 1 _ _ i bl I' (TabI.mono hI hT3) (hMa.mono hI) h (hB.mono hI)
    rw [hBl] at this
    exact this
  have hA2 : ∀ (b b1 b2 b3 : Nat) (I' : PH), PH.le I3 I' → Mat I' (some ⟨b, 0, none⟩) 2 [(some ⟨b1, 0, none⟩, 2, [2, 1]), (some ⟨b2, 0, none⟩, 2, [1, 3])] → Ints I' (some ⟨b3, 0, none⟩) 2 [1, 1] → FnSpec Tryd.prog 17 [.slice (some ⟨b, 0, none⟩) 2 2, .slice Ao o.length co, .slice (some ⟨b3, 0, none⟩) 2 2] I' [] (fun x R' => x = .bool true ∧ R' = []) := fun b b1 b2 b3 I' hI h h3 =>
    agree_spec _ 2 _ Ao co o _ 2 [1, 1] I' (TabI.mono hI hT3) h (hMa.mono hI) h3
  repeat' first
    | ((with_reducible refine Nx.is_wp ?_); first | refine Nx.wo ?_ | refine Nx.p_dec rfl rfl (fun hc => ?_) (fun hc => ?_) | refine Nx.p_bool rfl rfl (fun hc => ?_) (fun hc => ?_))
    | ((first | refine Nx.at_op rfl rfl ?_ | refine Nx.m_loud rfl rfl rfl ?_ | refine Nx.at_do rfl rfl rfl rfl ?_ | refine Nx.m_loud_do rfl rfl rfl rfl rfl ?_); first | refine Nx.opr rfl rfl ?_ | (refine Nx.call_lendR2 0 0 rfl rfl rfl (by kernel_rfl) rfl rfl rfl (fun m1 m2 I' hI hm1 h1 hm2 h2 => hA1 _ _ I' hI (mat_lit (v := [(some _, 1, [1])]) hm1 h1 (one_row (row_given (l := [1]) hm2 h2 (by decide))) (by show (1 : Nat) ≤ 1000; decide))) ?_; rintro _ _ ⟨rfl, rfl⟩) | refine Nx.so ?_ | refine Nx.sb (fun bx => ?_) | refine Nx.sa (fun A2 c2 => ?_))
    | ((with_reducible refine Nx.is_at ?_); first | refine Nx.a ?_ | ((fail_if_success refine Nx.at_do rfl rfl rfl rfl ?_); first | refine Nx.at_dec_t rfl rfl rfl rfl (by first | assumption | omega) ?_ | refine Nx.at_dec_f rfl rfl rfl rfl (by first | assumption | omega) ?_ | refine Nx.at_split rfl rfl rfl rfl (fun hc => ?_) (fun hc => ?_) | refine Nx.at_splitb rfl rfl rfl rfl (fun hc => ?_) (fun hc => ?_)))
    | ((with_reducible refine Nx.is_mix ?_); first | refine Nx.m ?_ | ((fail_if_success refine Nx.m_quiet_do rfl rfl rfl rfl rfl rfl rfl ?_ ?_); (fail_if_success refine Nx.m_loud_do rfl rfl rfl rfl rfl ?_); first | refine Nx.m_dec_t rfl rfl rfl rfl (by first | assumption | omega) ?_ | refine Nx.m_dec_f rfl rfl rfl rfl (by first | assumption | omega) ?_ | refine Nx.m_split rfl rfl rfl rfl (fun hc => ?_) (fun hc => ?_) | refine Nx.m_splitb rfl rfl rfl rfl (fun hc => ?_) (fun hc => ?_)))
    | ((fail_if_success (with_reducible refine Nx.is_at ?_)); (fail_if_success (with_reducible refine Nx.is_wp ?_)); (fail_if_success (with_reducible refine Nx.is_mix ?_)); first | refine Nx.ex ?_)
  refine Nx.freezeAt 0 rfl fun I4 m4 hI4 hm4 h4 => ?_
  refine Nx.freezeAt 0 rfl fun I5 m5 hI5 hm5 h5 => ?_
  refine Nx.freezeAt 0 rfl fun I6 m6 hI6 hm6 h6 => ?_
  refine Nx.freezeAt 0 rfl fun I7 m7 hI7 hm7 h7 => ?_
  have hle7 : PH.le I3 I7 := ((hI4.trans hI5).trans hI6).trans hI7
  have hC := hA2 _ _ _ _ I7 hle7 (mat_lit (v := [(some _, 2, [2, 1]), (some _, 2, [1, 3])]) ((hm5.trans hI6).trans hI7) h5 (two_rows (row_given (l := [2, 1]) hm7 h7 (by decide)) (row_given (l := [1, 3]) (hm6.trans hI7) h6 (by decide))) (by show (2 : Nat) ≤ 1000; decide)) (row_given (l := [1, 1]) (((hm4.trans hI5).trans hI6).trans hI7) h4 (by decide))
  have hAw := awake_spec I7 (TabI.mono hle7 hT3)
  repeat' first
    | ((with_reducible refine Nx.is_wp ?_); first | refine Nx.wo ?_ | refine Nx.p_dec rfl rfl (fun hc => ?_) (fun hc => ?_) | refine Nx.p_bool rfl rfl (fun hc => ?_) (fun hc => ?_))
    | ((first | refine Nx.at_op rfl rfl ?_ | refine Nx.m_loud rfl rfl rfl ?_ | refine Nx.at_do rfl rfl rfl rfl ?_ | refine Nx.m_loud_do rfl rfl rfl rfl rfl ?_); first | refine Nx.opr rfl rfl ?_ | refine Nx.callv rfl rfl rfl (by kernel_rfl) rfl hC ?_ | refine Nx.callv rfl rfl rfl (by kernel_rfl) rfl hAw ?_ | refine Nx.so ?_ | refine Nx.sb (fun bx => ?_) | refine Nx.sa (fun A2 c2 => ?_))
    | ((with_reducible refine Nx.is_at ?_); first | refine Nx.a ?_ | ((fail_if_success refine Nx.at_do rfl rfl rfl rfl ?_); first | refine Nx.at_dec_t rfl rfl rfl rfl (by first | assumption | omega) ?_ | refine Nx.at_dec_f rfl rfl rfl rfl (by first | assumption | omega) ?_ | refine Nx.at_split rfl rfl rfl rfl (fun hc => ?_) (fun hc => ?_) | refine Nx.at_splitb rfl rfl rfl rfl (fun hc => ?_) (fun hc => ?_)))
    | ((with_reducible refine Nx.is_mix ?_); first | refine Nx.m ?_ | ((fail_if_success refine Nx.m_quiet_do rfl rfl rfl rfl rfl rfl rfl ?_ ?_); (fail_if_success refine Nx.m_loud_do rfl rfl rfl rfl rfl ?_); first | refine Nx.m_dec_t rfl rfl rfl rfl (by first | assumption | omega) ?_ | refine Nx.m_dec_f rfl rfl rfl rfl (by first | assumption | omega) ?_ | refine Nx.m_split rfl rfl rfl rfl (fun hc => ?_) (fun hc => ?_) | refine Nx.m_splitb rfl rfl rfl rfl (fun hc => ?_) (fun hc => ?_)))
    | ((fail_if_success (with_reducible refine Nx.is_at ?_)); (fail_if_success (with_reducible refine Nx.is_wp ?_)); (fail_if_success (with_reducible refine Nx.is_mix ?_)); first | refine Nx.ex ?_)
  exact Nx.imm_le (hle.trans hle7) (Nx.ret_fn rfl [] ⟨rfl, rfl⟩ (by (exact Ent.auto)))
end Go.Proofs.YtpdgnjoideppjaaDoor
/- Contracts of functions of the given program, and lemmas about plain lists and numbers: what the laws of this seat lean on. -/
namespace Go.Proofs.YtpdgnjoideppjaaDoor
open Go.Eng
/-! The table that the program reads, and a matrix that comes in -/
theorem g64 : Tryd.prog.globalNamed  "math/bits.deBruijn64tab" = some 0 := by kernel_rfl
theorem g64T : (Tryd.prog.globals[0]?).map (·.type) = some 100 := by kernel_rfl
theorem c5 : Tryd.prog.cellsOf 5 = 1 := by kernel_rfl
theorem c79 : Tryd.prog.cellsOf 100 = 64 := by kernel_rfl
abbrev laid1 : List (String × DataW Unit) := [("math/bits.deBruijn64tab", Rows.laid_math_bits_deBruijn64tab)]
def setBlk (cs : List Value) : Obj → Obj
  | .cells _ t frozen => .cells cs.toArray t frozen
  | o => o
/-- The settled world, the table holding what its initialiser lays: the witness. -/
noncomputable def laidWorld (os : Os) : World :=
  { World.holding Tryd.prog os ⟨#[], #[], []⟩ with heap := (World.holding Tryd.prog os ⟨#[], #[], []⟩).heap.modify 0 (setBlk (Lib.deBruijn64tab.map fun z : Nat => Value.int .u8 z)) }
theorem laidWorld_met (os : Os) (args : Array Value) : laidMetH Tryd.prog laid1 ((laidWorld os).forCall (fun _ _ => 0) ⟨#[], args, []⟩).memory :=
  laidMetH_of_parts (laidMet_of_run' 8 (by kernel_rfl) (by kernel_rfl)) (by kernel_rfl)
theorem heap_keep {W w0 w : World} {R : List Res} (h : St w0 (fun i => W.heap[i]?) R w) {i : Nat} {o : Obj} (ho : W.heap[i]? = some o) : w.heap[i]? = some o := by
  obtain ⟨m, _, hs⟩ := h.mem
  exact hs.imm i o ho
theorem var_keep {W w0 w : World} {R : List Res} (h : St w0 (fun i => W.heap[i]?) R w) {P : Program} {name : String} {k : IntKind} {zs : List Int} (ht : Lib.TabIs P W name k zs) : Lib.TabIs P w name k zs := by
  unfold Lib.TabIs World.var? at *
  cases hg : P.globalNamed name with
  | none => simp [hg] at ht
  | some g =>
    simp only [hg, Option.bind_some] at ht ⊢
    cases ho : W.heap[g]? with
    | none => rw [ho] at ht; simp at ht
    | some o => rw [heap_keep h ho]; rw [ho] at ht; exact ht
theorem tab_of {W : World} (h : laidMetH Tryd.prog laid1 W) : TabI (fun i => W.heap[i]?) := fun _ _ _ hst j hj => by
  have h1 : Lib.TabIs Tryd.prog W  "math/bits.deBruijn64tab" .u8 (Lib.deBruijn64tab.map fun z : Nat => (z : Int)) := Lib.tabIs_of_head g64 g64T Tryd.underlying100 Tryd.underlying5 c5 c79 (h : laidMet Tryd.prog laid1 W)
  have h2 := (var_keep hst h1).cell g64 j (by rw [List.length_map]; exact hj)
  rw [show (Lib.deBruijn64tab.map fun z : Nat => (z : Int)).getD j 0 = ((Lib.deBruijn64tab.getD j 0 : Nat) : Int) by
    rw [List.getD_eq_getElem?_getD, List.getD_eq_getElem?_getD, List.getElem?_map]
    cases Lib.deBruijn64tab[j]? <;> rfl] at h2
  exact h2
end Go.Proofs.YtpdgnjoideppjaaDoor
