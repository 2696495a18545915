/- Contracts of functions of the given program, and lemmas about plain lists and numbers: what the laws of this seat lean on. -/
import Derived.Test.YtaoeapmdhpkidaaS14
namespace Go.Proofs.Ytaoeapmdhpkidaa
open Go.Eng
def l0 : List Shift := [([97, 110, 110], 0, 10), ([98, 111, 98], 5, 15)]
theorem l0_ok : checkE l0 = 0 := by decide
theorem l0_sh : ∀ x ∈ l0, shOk x := by
  intro x hx
  simp only [l0, List.mem_cons, List.not_mem_nil, or_false] at hx
  rcases hx with rfl | rfl <;> exact ⟨by decide, by unfold I64; decide, by unfold I64; decide⟩
theorem cntP_eq (l : List Shift) (who : List UInt8) (t : Int) : cntP l who t = ((onP l t).filter fun s => !(s == who)).length := ((List.mergeSort_perm _ _).filter _).length_eq
theorem l0_pairs : pairsP l0 0 20 = [0, 1, 5, 2, 10, 1, 15, 0] := by
  have h : ∀ t, (onT l0 t).length = (onP l0 t).length := fun t => srtT_len _
  have e : pairTs l0 0 = [0, 5, 10, 15] := by
    unfold pairTs
    rw [srtL_eq (ys := [0, 0, 5, 10, 15]) (by decide) (by decide)]
    rfl
  unfold pairsP
  rw [e]
  simp only [List.foldl_cons, List.foldl_nil, pairStep, h]
  decide
theorem l0_next (who : List UInt8) (r : Option Int) (h : ([0, 0, 5].find? fun t : Int => decide (0 ≤ t) && decide (2 ≤ ((onP l0 t).filter fun s => !(s == who)).length)) = r) : nextP l0 who 0 = r := by
  unfold nextP
  rw [srtL_eq (ys := [0, 0, 5]) (by decide) (by decide), ← h]
  simp only [cntP_eq]
section
attribute [local irreducible] opK wpList Code.wp Exit.then Exit.inBlock fnPost bodyPost Nx Calls Oper.wp Rd Rds Wr Ent Stars Blk Again Vec FnSpec wpMix QRun Stop Upto wpAt
set_option maxHeartbeats 2000000 in
set_option maxRecDepth 10000 in
theorem awake_spec (I : PH) : FnSpec Try.prog 16 [] I [] (fun v R' => v = .bool true ∧ R' = []) := by
  refine FnSpec.enterP Try.func16 rfl Try.ntmps16 rfl fun w F => ?_
  repeat' first
    | ((with_reducible refine Nx.is_wp ?_); first | refine Nx.wo ?_ | refine Nx.p_dec rfl rfl (fun hc => ?_) (fun hc => ?_) | refine Nx.p_bool rfl rfl (fun hc => ?_) (fun hc => ?_))
    | ((first | refine Nx.at_op rfl rfl ?_ | refine Nx.m_loud rfl rfl rfl ?_ | refine Nx.at_do rfl rfl rfl rfl ?_ | refine Nx.m_loud_do rfl rfl rfl rfl rfl ?_); first | refine Nx.opr rfl rfl ?_ | refine Nx.so ?_ | refine Nx.sb (fun bx => ?_) | refine Nx.sa (fun A2 c2 => ?_))
    | ((with_reducible refine Nx.is_at ?_); first | refine Nx.a ?_ | ((fail_if_success refine Nx.at_do rfl rfl rfl rfl ?_); first | refine Nx.at_dec_t rfl rfl rfl rfl (by first | assumption | omega) ?_ | refine Nx.at_dec_f rfl rfl rfl rfl (by first | assumption | omega) ?_ | refine Nx.at_split rfl rfl rfl rfl (fun hc => ?_) (fun hc => ?_) | refine Nx.at_splitb rfl rfl rfl rfl (fun hc => ?_) (fun hc => ?_)))
    | ((with_reducible refine Nx.is_mix ?_); first | refine Nx.m ?_ | ((fail_if_success refine Nx.m_quiet_do rfl rfl rfl rfl rfl rfl rfl ?_ ?_); (fail_if_success refine Nx.m_loud_do rfl rfl rfl rfl rfl ?_); first | refine Nx.m_dec_t rfl rfl rfl rfl (by first | assumption | omega) ?_ | refine Nx.m_dec_f rfl rfl rfl rfl (by first | assumption | omega) ?_ | refine Nx.m_split rfl rfl rfl rfl (fun hc => ?_) (fun hc => ?_) | refine Nx.m_splitb rfl rfl rfl rfl (fun hc => ?_) (fun hc => ?_)))
    | ((fail_if_success (with_reducible refine Nx.is_at ?_)); (fail_if_success (with_reducible refine Nx.is_wp ?_)); (fail_if_success (with_reducible refine Nx.is_mix ?_)); first | refine Nx.ex ?_)
  revert bx; intro b1
  refine Nx.freezeAt 0 rfl fun I1 m1 hI1 hm1 h1 => ?_
  have hl : Shifts I1 (some ⟨b1, 0, none⟩) l0.length l0 := Blk.sliceN (f := shC) (l := l0) hm1 h1 (fun _ _ => rfl) (by decide)
  refine Nx.at_op rfl rfl ?_
  refine Nx.call rfl rfl rfl (by kernel_rfl) rfl (Pairs_spec2 (some ⟨b1, 0, none⟩) 2 l0 0 20 I1 hl l0_sh l0_ok (by decide)) (by (first | done | (repeat first | exact Ent.refl _ | exact Ent.nil _ | refine Ent.pick 0 rfl ?_ | refine Ent.pick 1 rfl ?_ | refine Ent.pick 2 rfl ?_ | refine Ent.pick 3 rfl ?_ | refine Ent.pick 4 rfl ?_ | refine Ent.pick 5 rfl ?_ | refine Ent.pick 6 rfl ?_ | refine Ent.pick 7 rfl ?_ | refine Ent.pick 8 rfl ?_ | refine Ent.pick 9 rfl ?_ | refine Ent.pick 10 rfl ?_ | refine Ent.pick 11 rfl ?_ | refine Ent.pick 12 rfl ?_ | refine Ent.pick 13 rfl ?_ | refine Ent.pick 14 rfl ?_))) ?_
  rintro _ R' ⟨A2, c2, rfl, rfl⟩
  rw [l0_pairs]
  refine Nx.freezeAt 0 rfl fun I2 m2 hI2 hm2 h2 => ?_
  have hP : Ints I2 A2 c2 [0, 1, 5, 2, 10, 1, 15, 0] := Vec.sliceOf (t := 3) hm2 h2
  have n1 := Next_spec2 (some ⟨b1, 0, none⟩) 2 l0 [99, 121, 100] 0 I2 (hl.mono hI2) l0_sh l0_ok (by decide)
  have n2 := Next_spec2 (some ⟨b1, 0, none⟩) 2 l0 [98, 111, 98] 0 I2 (hl.mono hI2) l0_sh l0_ok (by decide)
  have v1 : nextV l0 [99, 121, 100] 0 = .tuple #[.int .i64 5, .bool true, .int .i64 0] := by unfold nextV; rw [l0_next _ (some 5) (by decide)]
  have v2 : nextV l0 [98, 111, 98] 0 = .tuple #[.int .i64 0, .bool false, .int .i64 0] := by unfold nextV; rw [l0_next _ none (by decide)]
  rw [v1] at n1
  rw [v2] at n2
  repeat' first
    | ((with_reducible refine Nx.is_wp ?_); first | refine Nx.wo ?_ | refine Nx.p_dec rfl rfl (fun hc => ?_) (fun hc => ?_) | refine Nx.p_bool rfl rfl (fun hc => ?_) (fun hc => ?_))
    | ((first | refine Nx.at_op rfl rfl ?_ | refine Nx.m_loud rfl rfl rfl ?_ | refine Nx.at_do rfl rfl rfl rfl ?_ | refine Nx.m_loud_do rfl rfl rfl rfl rfl ?_); first | refine Nx.opr rfl rfl ?_ | refine Nx.callv rfl rfl rfl (by kernel_rfl) rfl n1 ?_ | refine Nx.callv rfl rfl rfl (by kernel_rfl) rfl n2 ?_ | (refine Nx.call_lendR 0 rfl rfl rfl (by kernel_rfl) rfl rfl (fun m I' hI hm h => ints_spec A2 _ c2 8 [0, 1, 5, 2, 10, 1, 15, 0] [0, 1, 5, 2, 10, 1, 15, 0] I' (hP.mono hI) (Blk.sliceOf (f := fun x : Int => Value.int .i64 x) (l := [0, 1, 5, 2, 10, 1, 15, 0]) hm h (by decide))) ?_; rintro _ R' ⟨rfl, rfl⟩) | refine Nx.so ?_ | refine Nx.sb (fun bx => ?_) | refine Nx.sa (fun A2 c2 => ?_))
    | ((with_reducible refine Nx.is_at ?_); first | refine Nx.a ?_ | ((fail_if_success refine Nx.at_do rfl rfl rfl rfl ?_); first | refine Nx.at_dec_t rfl rfl rfl rfl (by first | assumption | omega) ?_ | refine Nx.at_dec_f rfl rfl rfl rfl (by first | assumption | omega) ?_ | refine Nx.at_split rfl rfl rfl rfl (fun hc => ?_) (fun hc => ?_) | refine Nx.at_splitb rfl rfl rfl rfl (fun hc => ?_) (fun hc => ?_)))
    | ((with_reducible refine Nx.is_mix ?_); first | refine Nx.m ?_ | ((fail_if_success refine Nx.m_quiet_do rfl rfl rfl rfl rfl rfl rfl ?_ ?_); (fail_if_success refine Nx.m_loud_do rfl rfl rfl rfl rfl ?_); first | refine Nx.m_dec_t rfl rfl rfl rfl (by first | assumption | omega) ?_ | refine Nx.m_dec_f rfl rfl rfl rfl (by first | assumption | omega) ?_ | refine Nx.m_split rfl rfl rfl rfl (fun hc => ?_) (fun hc => ?_) | refine Nx.m_splitb rfl rfl rfl rfl (fun hc => ?_) (fun hc => ?_)))
    | ((fail_if_success (with_reducible refine Nx.is_at ?_)); (fail_if_success (with_reducible refine Nx.is_wp ?_)); (fail_if_success (with_reducible refine Nx.is_mix ?_)); first | refine Nx.ex ?_)
  exact Nx.imm_le (hI1.trans hI2) (Nx.ret_fn rfl [] ⟨by first | rfl | simp, rfl⟩ (by (first | done | (repeat first | exact Ent.refl _ | exact Ent.nil _ | refine Ent.pick 0 rfl ?_ | refine Ent.pick 1 rfl ?_ | refine Ent.pick 2 rfl ?_ | refine Ent.pick 3 rfl ?_ | refine Ent.pick 4 rfl ?_ | refine Ent.pick 5 rfl ?_ | refine Ent.pick 6 rfl ?_ | refine Ent.pick 7 rfl ?_ | refine Ent.pick 8 rfl ?_ | refine Ent.pick 9 rfl ?_ | refine Ent.pick 10 rfl ?_ | refine Ent.pick 11 rfl ?_ | refine Ent.pick 12 rfl ?_ | refine Ent.pick 13 rfl ?_ | refine Ent.pick 14 rfl ?_))))
end
end Go.Proofs.Ytaoeapmdhpkidaa
