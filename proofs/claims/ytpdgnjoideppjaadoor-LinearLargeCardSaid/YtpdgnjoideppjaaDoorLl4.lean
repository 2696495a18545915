/- Contracts of functions of the given program, and lemmas about plain lists and numbers: what the laws of this seat lean on. -/
import Derived.Sort.Grow
import Derived.Lib.AppendIntMem
import Derived.Lib.ItoaLen
import Derived.Laws.Concat
import Derived.Laws.Strings
import Derived.Laws.StructEq
import Derived.Laws.Small
import Derived.MapKept
import Derived.Lib.AppendStr
import Derived.Laws.IdiomStrings
import Derived.Laws.Strings2
import Derived.Laws.Cover1
import Derived.Test.YtpdgnjoideppjaaDoorLl3
namespace Go.Proofs.YtpdgnjoideppjaaDoor
open Go.Eng
attribute [local irreducible] opK wpList Code.wp Exit.then Exit.inBlock fnPost bodyPost Nx Calls Oper.wp Rd Rds Wr Ent Stars Blk Again Vec FnSpec wpMix QRun Stop Upto wpAt
theorem opp2 (z : Int) (I : PH) : FnSpec Tryd.prog 36 [wideV (-z)] I [] (fun v R' => v = wideV z ∧ R' = []) := by
  have := opposite_spec (-z) I
  rw [Int.neg_neg] at this
  exact this
theorem redV_ok {z : Int} {D : Nat} (hD : 0 < D) (h1 : z.natAbs / Nat.gcd D z.natAbs ≤ 1152921504606846976) (h2 : D / Nat.gcd D z.natAbs ≤ 1152921504606846976) :
    redV (Rat.divInt z D) = .tuple #[.agg #[.int .i64 (((z.natAbs / Nat.gcd D z.natAbs : Nat) : Int) * z.sign), .int .i64 ((D / Nat.gcd D z.natAbs : Nat) : Int)], .int .i64 0] := by
  obtain ⟨e1, e2, e3⟩ := div_parts z hD
  rw [redV_pos (by unfold RB; rw [e1, e2]; exact ⟨h1, h2⟩)]
  unfold ratV fracV
  rw [e1, e3]
theorem redV_no {z : Int} {D : Nat} (hD : 0 < D) (h : ¬ (z.natAbs / Nat.gcd D z.natAbs ≤ 1152921504606846976 ∧ D / Nat.gcd D z.natAbs ≤ 1152921504606846976)) :
    redV (Rat.divInt z D) = .tuple #[.agg #[.int .i64 0, .int .i64 0], .int .i64 14] := by
  obtain ⟨e1, e2, e3⟩ := div_parts z hD
  rw [redV_neg (by unfold RB; rw [e1, e2]; exact h)]
  rfl
attribute [local irreducible] wH wL
set_option maxRecDepth 10000 in
set_option maxHeartbeats 2000000 in
theorem Reduced_spec (n d : Int) (hn : n.natAbs < H127) (hd0 : d ≠ 0) (hd : d.natAbs < H127) (I : PH) (hT : TabI I) : FnSpec Tryd.prog 26 [wideV n, wideV d] I [] (fun v R' => v = redV (Rat.divInt n d) ∧ R' = []) := by
  have hn' : n.natAbs < 170141183460469231731687303715884105728 := hn
  have hd' : d.natAbs < 170141183460469231731687303715884105728 := hd
  by_cases hneg : d < 0
  · obtain ⟨D, rfl⟩ : ∃ D : Nat, d = -(D : Int) := ⟨d.natAbs, by omega⟩
    obtain ⟨z, rfl⟩ : ∃ z : Int, n = -z := ⟨-n, by omega⟩
    rw [Rat.neg_divInt_neg]
    have hD : 0 < D := by omega
    have hs : (-(D : Int)).sign < 0 := Int.sign_neg_iff.2 hneg
    have hg0 : 0 < Nat.gcd D z.natAbs := Nat.gcd_pos_of_pos_left _ hD
    have hgD : Nat.gcd D z.natAbs ≤ D := Nat.gcd_le_left _ hD
    refine FnSpec.enterP Tryd.func26 rfl Tryd.ntmps26 rfl fun w F => ?_
    repeat' first
      | ((with_reducible refine Nx.is_wp ?_); first | refine Nx.wo ?_ | refine Nx.p_drawF (id := 2) rfl [0, 2, 1] [1] [3, 4, 5] _ rfl rfl (by kernel_rfl) (by kernel_rfl) rfl (by repeat first | exact PanicOk.fn | refine PanicOk.then_ ?_ | refine PanicOk.inB ?_) (Ent.refl _) ?_ | refine Nx.p_poolF (id := 3) rfl [0, 1, 2, 3] [2, 3] [] [5] [5] [⟨4, 6, 58, _⟩] rfl rfl (by kernel_rfl) (by kernel_rfl) (by decide) (PoolFit.cons ⟨⟨_, _, _, rfl⟩, rfl, rfl⟩ PoolFit.nil) (by repeat first | exact PanicOk.fn | refine PanicOk.then_ ?_ | refine PanicOk.inB ?_) (Ent.refl _) ?_ | refine Nx.p_drawF (id := 4) rfl [0, 2, 1, 3, 4, 5, 6, 7, 8] [1, 3] [] _ rfl rfl (by kernel_rfl) (by kernel_rfl) rfl (by repeat first | exact PanicOk.fn | refine PanicOk.then_ ?_ | refine PanicOk.inB ?_) (Ent.refl _) ?_ | refine Nx.p_dec rfl rfl (fun hc => ?_) (fun hc => ?_) | refine Nx.p_bool rfl rfl (fun hc => ?_) (fun hc => ?_))
      | ((first | refine Nx.at_op rfl rfl ?_ | refine Nx.m_loud rfl rfl rfl ?_ | refine Nx.at_do rfl rfl rfl rfl ?_ | refine Nx.m_loud_do rfl rfl rfl rfl rfl ?_ | refine GoodF.loud_ rfl rfl rfl rfl (fun ex X => ?_)); first | refine Nx.opr rfl rfl ?_ | refine Nx.callv rfl rfl rfl (by kernel_rfl) rfl (sign_spec (-(D : Int)) (by unfold InW; omega) I) ?_ | refine Nx.callv rfl rfl rfl (by kernel_rfl) rfl (opp2 _ I) ?_ | refine Nx.callv rfl rfl rfl (by kernel_rfl) rfl (size_spec z (by unfold InW; omega) I) ?_ | refine Nx.callv rfl rfl rfl (by kernel_rfl) rfl (common_spec D z.natAbs hD (by unfold H127; omega) (by unfold H127; omega) I hT) ?_ | refine Nx.call (Rpre := []) rfl rfl rfl (by kernel_rfl) rfl (over_spec z.natAbs _ (by unfold H127; omega) hg0 (by unfold H127; omega) I) (Ent.refl _) ?_; rintro _ _ ⟨q1, rfl, rfl, hq1, hb1, hb2⟩ | refine Nx.call (Rpre := []) rfl rfl rfl (by kernel_rfl) rfl (over_spec D _ (by unfold H127; omega) hg0 (by unfold H127; omega) I) (Ent.refl _) ?_; rintro _ _ ⟨q2, rfl, rfl, hq2, hb3, hb4⟩ | refine Nx.callv rfl rfl rfl (by kernel_rfl) rfl (sign_spec z (by unfold InW; omega) I) ?_ | refine Nx.mul rfl rfl (by rcases Int.sign_trichotomy z with h | h | h <;> rw [h] <;> unfold I64 <;> omega) rfl ?_ | refine Nx.so ?_ | refine Nx.sb (fun bx => ?_) | refine Nx.sa (fun A2 c2 => ?_))
      | ((with_reducible refine Nx.is_at ?_); first | refine Nx.a ?_ | ((fail_if_success refine Nx.at_do rfl rfl rfl rfl ?_); first | refine Nx.at_dec_t rfl rfl rfl rfl (by first | assumption | omega) ?_ | refine Nx.at_dec_f rfl rfl rfl rfl (by first | assumption | omega) ?_ | refine Nx.at_split rfl rfl rfl rfl (fun hc => ?_) (fun hc => ?_) | refine Nx.at_splitb rfl rfl rfl rfl (fun hc => ?_) (fun hc => ?_)))
      | ((with_reducible refine Nx.is_mix ?_); first | refine Nx.m ?_ | ((fail_if_success refine Nx.m_quiet_do rfl rfl rfl rfl rfl rfl rfl ?_ ?_); (fail_if_success refine Nx.m_loud_do rfl rfl rfl rfl rfl ?_); first | refine Nx.m_dec_t rfl rfl rfl rfl (by first | assumption | omega) ?_ | refine Nx.m_dec_f rfl rfl rfl rfl (by first | assumption | omega) ?_ | refine Nx.m_split rfl rfl rfl rfl (fun hc => ?_) (fun hc => ?_) | refine Nx.m_splitb rfl rfl rfl rfl (fun hc => ?_) (fun hc => ?_)))
      | ((with_reducible refine GoodF.is ?_); first | refine GoodF.quiet rfl rfl rfl rfl rfl rfl (by first | exact QRun.opr rfl |  exact QRun.std) ?_ | refine GoodF.done1 rfl (fun bx => ?_) | refine GoodF.done2 rfl (fun bx by_ => ?_) | refine GoodF.done3 rfl (fun bx by_ bz => ?_))
      | ((fail_if_success (with_reducible refine Nx.is_at ?_)); (fail_if_success (with_reducible refine Nx.is_wp ?_)); (fail_if_success (with_reducible refine Nx.is_mix ?_)); first | refine Nx.ex ?_ | refine Nx.pool_nextF 0 rfl (by exact Ent.auto) ?_ | refine Nx.pool_nextF 1 rfl (by exact Ent.auto) ?_ | refine Nx.pool_nextF 2 rfl (by exact Ent.auto) ?_ | refine Nx.pool_nextF 3 rfl (by exact Ent.auto) ?_)
    · have hc : ¬ z.natAbs / Nat.gcd D z.natAbs ≤ 1152921504606846976 := by simpa using hc
      refine Nx.ret2 rfl (ROne.cell 0 rfl rfl rfl rfl rfl) (ROne.tmp rfl) [] ⟨?_, rfl⟩ (by (exact Ent.auto))
      rw [redV_no hD (fun h => hc h.1)]
    · have hc : ¬ D / Nat.gcd D z.natAbs ≤ 1152921504606846976 := by simpa using hc
      refine Nx.ret2 rfl (ROne.cell 0 rfl rfl rfl rfl rfl) (ROne.tmp rfl) [] ⟨?_, rfl⟩ (by (exact Ent.auto))
      rw [redV_no hD (fun h => hc h.2)]
    · rename_i hc0
      have hc0 : z.natAbs / Nat.gcd D z.natAbs ≤ 1152921504606846976 := by simpa using hc0
      have hc : D / Nat.gcd D z.natAbs ≤ 1152921504606846976 := by simpa using hc
      refine Nx.ret2 rfl (ROne.cell 0 rfl rfl rfl rfl rfl) (ROne.tmp rfl) [] ⟨?_, rfl⟩ (by (exact Ent.auto))
      rw [redV_ok hD hc0 hc, hq1 hc0, hq2 hc]
  · obtain ⟨D, rfl⟩ : ∃ D : Nat, d = (D : Int) := ⟨d.natAbs, by omega⟩
    obtain ⟨z, rfl⟩ : ∃ z : Int, z = n := ⟨n, rfl⟩
    have hD : 0 < D := by omega
    have hs : ¬ (D : Int).sign < 0 := fun h => hneg (Int.sign_neg_iff.1 h)
    have hg0 : 0 < Nat.gcd D z.natAbs := Nat.gcd_pos_of_pos_left _ hD
    have hgD : Nat.gcd D z.natAbs ≤ D := Nat.gcd_le_left _ hD
    refine FnSpec.enterP Tryd.func26 rfl Tryd.ntmps26 rfl fun w F => ?_
    repeat' first
      | ((with_reducible refine Nx.is_wp ?_); first | refine Nx.wo ?_ | refine Nx.p_drawF (id := 2) rfl [0, 2, 1] [1] [3, 4, 5] _ rfl rfl (by kernel_rfl) (by kernel_rfl) rfl (by repeat first | exact PanicOk.fn | refine PanicOk.then_ ?_ | refine PanicOk.inB ?_) (Ent.refl _) ?_ | refine Nx.p_poolF (id := 3) rfl [0, 1, 2, 3] [2, 3] [] [5] [5] [⟨4, 6, 58, _⟩] rfl rfl (by kernel_rfl) (by kernel_rfl) (by decide) (PoolFit.cons ⟨⟨_, _, _, rfl⟩, rfl, rfl⟩ PoolFit.nil) (by repeat first | exact PanicOk.fn | refine PanicOk.then_ ?_ | refine PanicOk.inB ?_) (Ent.refl _) ?_ | refine Nx.p_drawF (id := 4) rfl [0, 2, 1, 3, 4, 5, 6, 7, 8] [1, 3] [] _ rfl rfl (by kernel_rfl) (by kernel_rfl) rfl (by repeat first | exact PanicOk.fn | refine PanicOk.then_ ?_ | refine PanicOk.inB ?_) (Ent.refl _) ?_ | refine Nx.p_dec rfl rfl (fun hc => ?_) (fun hc => ?_) | refine Nx.p_bool rfl rfl (fun hc => ?_) (fun hc => ?_))
      | ((first | refine Nx.at_op rfl rfl ?_ | refine Nx.m_loud rfl rfl rfl ?_ | refine Nx.at_do rfl rfl rfl rfl ?_ | refine Nx.m_loud_do rfl rfl rfl rfl rfl ?_ | refine GoodF.loud_ rfl rfl rfl rfl (fun ex X => ?_)); first | refine Nx.opr rfl rfl ?_ | refine Nx.callv rfl rfl rfl (by kernel_rfl) rfl (sign_spec (D : Int) (by unfold InW; omega) I) ?_ | refine Nx.callv rfl rfl rfl (by kernel_rfl) rfl (size_spec z (by unfold InW; omega) I) ?_ | refine Nx.callv rfl rfl rfl (by kernel_rfl) rfl (common_spec D z.natAbs hD (by unfold H127; omega) (by unfold H127; omega) I hT) ?_ | refine Nx.call (Rpre := []) rfl rfl rfl (by kernel_rfl) rfl (over_spec z.natAbs _ (by unfold H127; omega) hg0 (by unfold H127; omega) I) (Ent.refl _) ?_; rintro _ _ ⟨q1, rfl, rfl, hq1, hb1, hb2⟩ | refine Nx.call (Rpre := []) rfl rfl rfl (by kernel_rfl) rfl (over_spec D _ (by unfold H127; omega) hg0 (by unfold H127; omega) I) (Ent.refl _) ?_; rintro _ _ ⟨q2, rfl, rfl, hq2, hb3, hb4⟩ | refine Nx.callv rfl rfl rfl (by kernel_rfl) rfl (sign_spec z (by unfold InW; omega) I) ?_ | refine Nx.mul rfl rfl (by rcases Int.sign_trichotomy z with h | h | h <;> rw [h] <;> unfold I64 <;> omega) rfl ?_ | refine Nx.so ?_ | refine Nx.sb (fun bx => ?_) | refine Nx.sa (fun A2 c2 => ?_))
      | ((with_reducible refine Nx.is_at ?_); first | refine Nx.a ?_ | ((fail_if_success refine Nx.at_do rfl rfl rfl rfl ?_); first | refine Nx.at_dec_t rfl rfl rfl rfl (by first | assumption | omega) ?_ | refine Nx.at_dec_f rfl rfl rfl rfl (by first | assumption | omega) ?_ | refine Nx.at_split rfl rfl rfl rfl (fun hc => ?_) (fun hc => ?_) | refine Nx.at_splitb rfl rfl rfl rfl (fun hc => ?_) (fun hc => ?_)))
      | ((with_reducible refine Nx.is_mix ?_); first | refine Nx.m ?_ | ((fail_if_success refine Nx.m_quiet_do rfl rfl rfl rfl rfl rfl rfl ?_ ?_); (fail_if_success refine Nx.m_loud_do rfl rfl rfl rfl rfl ?_); first | refine Nx.m_dec_t rfl rfl rfl rfl (by first | assumption | omega) ?_ | refine Nx.m_dec_f rfl rfl rfl rfl (by first | assumption | omega) ?_ | refine Nx.m_split rfl rfl rfl rfl (fun hc => ?_) (fun hc => ?_) | refine Nx.m_splitb rfl rfl rfl rfl (fun hc => ?_) (fun hc => ?_)))
      | ((with_reducible refine GoodF.is ?_); first | refine GoodF.quiet rfl rfl rfl rfl rfl rfl (by first | exact QRun.opr rfl |  exact QRun.std) ?_ | refine GoodF.done1 rfl (fun bx => ?_) | refine GoodF.done2 rfl (fun bx by_ => ?_) | refine GoodF.done3 rfl (fun bx by_ bz => ?_))
      | ((fail_if_success (with_reducible refine Nx.is_at ?_)); (fail_if_success (with_reducible refine Nx.is_wp ?_)); (fail_if_success (with_reducible refine Nx.is_mix ?_)); first | refine Nx.ex ?_ | refine Nx.pool_nextF 0 rfl (by exact Ent.auto) ?_ | refine Nx.pool_nextF 1 rfl (by exact Ent.auto) ?_ | refine Nx.pool_nextF 2 rfl (by exact Ent.auto) ?_ | refine Nx.pool_nextF 3 rfl (by exact Ent.auto) ?_)
    · have hc : ¬ z.natAbs / Nat.gcd D z.natAbs ≤ 1152921504606846976 := by simpa using hc
      refine Nx.ret2 rfl (ROne.cell 0 rfl rfl rfl rfl rfl) (ROne.tmp rfl) [] ⟨?_, rfl⟩ (by (exact Ent.auto))
      rw [redV_no hD (fun h => hc h.1)]
    · have hc : ¬ D / Nat.gcd D z.natAbs ≤ 1152921504606846976 := by simpa using hc
      refine Nx.ret2 rfl (ROne.cell 0 rfl rfl rfl rfl rfl) (ROne.tmp rfl) [] ⟨?_, rfl⟩ (by (exact Ent.auto))
      rw [redV_no hD (fun h => hc h.2)]
    · rename_i hc0
      have hc0 : z.natAbs / Nat.gcd D z.natAbs ≤ 1152921504606846976 := by simpa using hc0
      have hc : D / Nat.gcd D z.natAbs ≤ 1152921504606846976 := by simpa using hc
      refine Nx.ret2 rfl (ROne.cell 0 rfl rfl rfl rfl rfl) (ROne.tmp rfl) [] ⟨?_, rfl⟩ (by (exact Ent.auto))
      rw [redV_ok hD hc0 hc, hq1 hc0, hq2 hc]
theorem rminus0 (z : Int) (I : PH) : FnSpec Tryd.prog 66 [wideV 0, wideV (-z)] I [] (fun v R' => v = wideV z ∧ R' = []) := by
  have := rminus_spec 0 (-z) I
  rw [show (0 : Int) - -z = z by omega] at this
  exact this
end Go.Proofs.YtpdgnjoideppjaaDoor
/- Contracts of functions of the given program, and lemmas about plain lists and numbers: what the laws of this seat lean on. -/
namespace Go.Proofs.YtpdgnjoideppjaaDoor
open Go.Eng
attribute [local irreducible] opK wpList Code.wp Exit.then Exit.inBlock fnPost bodyPost Nx Calls Oper.wp Rd Rds Wr Ent Stars Blk Again Vec FnSpec wpMix QRun Stop Upto wpAt
theorem wide0 : wideV 0 = .agg #[.int .u64 0, .int .u64 0] := by unfold wideV wideL; rw [show wH 0 = 0 by decide, show wL 0 = 0 by decide]; rfl
theorem wideM : wideV ((1152921504606846976 : Nat) : Int) = .agg #[.int .u64 0, .int .u64 1152921504606846976] := by unfold wideV wideL; rw [show wH ((1152921504606846976 : Nat) : Int) = 0 by decide, show wL ((1152921504606846976 : Nat) : Int) = 1152921504606846976 by decide]; rfl
theorem wL_small {N : Nat} (h : N ≤ 1152921504606846976) : (wL (N : Int) : Int) = N := by rw [wL_nat]; omega
theorem I64_wL {N : Nat} (h : N ≤ 1152921504606846976) : I64 (wL (N : Int)) := by rw [wL_small h]; unfold I64; omega
theorem I64_nwL {N : Nat} (h : N ≤ 1152921504606846976) : I64 (-(wL (N : Int) : Int)) := by rw [wL_small h]; unfold I64; omega
attribute [local irreducible] wH wL
set_option maxRecDepth 10000 in
set_option maxHeartbeats 4000000 in
theorem Reduce_spec (n d : Int) (hn : n.natAbs < H127) (hd0 : d ≠ 0) (hd : d.natAbs < H127) (I : PH) : FnSpec Tryd.prog 50 [wideV n, wideV d] I [] (fun v R' => v = redV (Rat.divInt n d) ∧ R' = []) := by
  have hn' : n.natAbs < 170141183460469231731687303715884105728 := hn
  have hd' : d.natAbs < 170141183460469231731687303715884105728 := hd
  by_cases hneg : d < 0
  · obtain ⟨D, rfl⟩ : ∃ D : Nat, d = -(D : Int) := ⟨d.natAbs, by omega⟩
    obtain ⟨z, rfl⟩ : ∃ z : Int, n = -z := ⟨-n, by omega⟩
    rw [Rat.neg_divInt_neg]
    have hD : 0 < D := by omega
    have hg0 : 0 < Nat.gcd D z.natAbs := Nat.gcd_pos_of_pos_left _ hD
    have hgD : Nat.gcd D z.natAbs ≤ D := Nat.gcd_le_left _ hD
    have hN : z.natAbs / Nat.gcd D z.natAbs ≤ z.natAbs := Nat.div_le_self _ _
    have hE : D / Nat.gcd D z.natAbs ≤ D := Nat.div_le_self _ _
    refine FnSpec.enterP Tryd.func50 rfl Tryd.ntmps50 rfl fun w F => ?_
    repeat' first
      | ((with_reducible refine Nx.is_wp ?_); first | refine Nx.wo ?_ | refine Nx.p_drawF (id := 2) rfl [0, 1, 3, 4, 2] [2] [5, 6, 7] _ rfl rfl (by kernel_rfl) (by kernel_rfl) rfl (by repeat first | exact PanicOk.fn | refine PanicOk.then_ ?_ | refine PanicOk.inB ?_) (Ent.refl _) ?_ | refine Nx.p_dec rfl rfl (fun hc => ?_) (fun hc => ?_) | refine Nx.p_bool rfl rfl (fun hc => ?_) (fun hc => ?_))
      | ((first | refine Nx.at_op rfl rfl ?_ | refine Nx.m_loud rfl rfl rfl ?_ | refine Nx.at_do rfl rfl rfl rfl ?_ | refine Nx.m_loud_do rfl rfl rfl rfl rfl ?_); first | refine Nx.opr rfl rfl ?_ | refine Nx.callv rfl rfl rfl (by kernel_rfl) rfl (negative_spec (-(D : Int)) (by unfold InW; omega) I) ?_ | refine Nx.callv rfl rfl rfl (by kernel_rfl) rfl (negative_spec z (by unfold InW; omega) I) ?_ | refine Nx.call (al := [wideV 0, wideV (-z)]) (Rpre := []) rfl rfl (by rw [wide0]; rfl) (by kernel_rfl) rfl (rminus0 z I) (Ent.refl _) ?_; rintro _ _ ⟨rfl, rfl⟩ | refine Nx.call (al := [wideV 0, wideV (-(D : Int))]) (Rpre := []) rfl rfl (by rw [wide0]; rfl) (by kernel_rfl) rfl (rminus0 D I) (Ent.refl _) ?_; rintro _ _ ⟨rfl, rfl⟩ | refine Nx.callv rfl rfl rfl (by kernel_rfl) rfl (rsize_spec z (by unfold InW; omega) I) ?_ | refine Nx.callv rfl rfl rfl (by kernel_rfl) rfl (rcommon_spec D z.natAbs (by unfold H127; omega) (by unfold H127; omega) I) ?_ | refine Nx.callv rfl rfl rfl (by kernel_rfl) rfl (Over_spec z.natAbs _ (by unfold H127; omega) hg0 (by unfold H127; omega) I) ?_ | refine Nx.callv rfl rfl rfl (by kernel_rfl) rfl (Over_spec D _ (by unfold H127; omega) hg0 (by unfold H127; omega) I) ?_ | refine Nx.call (al := [wideV ((1152921504606846976 : Nat) : Int), wideV ((z.natAbs / Nat.gcd D z.natAbs : Nat) : Int)]) (Rpre := []) rfl rfl (by rw [wideM]; rfl) (by kernel_rfl) rfl (belowN _ _ (by unfold W128; omega) (by unfold W128; omega) I) (Ent.refl _) ?_; rintro _ _ ⟨rfl, rfl⟩ | refine Nx.call (al := [wideV ((1152921504606846976 : Nat) : Int), wideV ((D / Nat.gcd D z.natAbs : Nat) : Int)]) (Rpre := []) rfl rfl (by rw [wideM]; rfl) (by kernel_rfl) rfl (belowN _ _ (by unfold W128; omega) (by unfold W128; omega) I) (Ent.refl _) ?_; rintro _ _ ⟨rfl, rfl⟩ | refine Nx.conv_i64 rfl rfl rfl (I64_wL (by omega)) rfl ?_ | refine Nx.neg rfl (I64_nwL (by omega)) rfl ?_ | refine Nx.so ?_ | refine Nx.sb (fun bx => ?_) | refine Nx.sa (fun A2 c2 => ?_))
      | ((with_reducible refine Nx.is_at ?_); first | refine Nx.a ?_ | ((fail_if_success refine Nx.at_do rfl rfl rfl rfl ?_); first | refine Nx.at_dec_t rfl rfl rfl rfl (by first | assumption | omega) ?_ | refine Nx.at_dec_f rfl rfl rfl rfl (by first | assumption | omega) ?_ | refine Nx.at_split rfl rfl rfl rfl (fun hc => ?_) (fun hc => ?_) | refine Nx.at_splitb rfl rfl rfl rfl (fun hc => ?_) (fun hc => ?_)))
      | ((with_reducible refine Nx.is_mix ?_); first | refine Nx.m ?_ | ((fail_if_success refine Nx.m_quiet_do rfl rfl rfl rfl rfl rfl rfl ?_ ?_); (fail_if_success refine Nx.m_loud_do rfl rfl rfl rfl rfl ?_); first | refine Nx.m_dec_t rfl rfl rfl rfl (by first | assumption | omega) ?_ | refine Nx.m_dec_f rfl rfl rfl rfl (by first | assumption | omega) ?_ | refine Nx.m_split rfl rfl rfl rfl (fun hc => ?_) (fun hc => ?_) | refine Nx.m_splitb rfl rfl rfl rfl (fun hc => ?_) (fun hc => ?_)))
      | ((fail_if_success (with_reducible refine Nx.is_at ?_)); (fail_if_success (with_reducible refine Nx.is_wp ?_)); (fail_if_success (with_reducible refine Nx.is_mix ?_)); first | refine Nx.ex ?_)
    · refine Nx.ret2 rfl (ROne.cell 0 rfl rfl rfl rfl rfl) (ROne.tmp rfl) [] ⟨?_, rfl⟩ (by (exact Ent.auto))
      rw [redV_no hD (fun h => by have := h.1; omega)]
    · refine Nx.ret2 rfl (ROne.cell 0 rfl rfl rfl rfl rfl) (ROne.tmp rfl) [] ⟨?_, rfl⟩ (by (exact Ent.auto))
      rw [redV_no hD (fun h => by have := h.2; omega)]
    · rename_i h1 h2
      refine Nx.ret2 rfl (ROne.cell 0 rfl rfl rfl rfl rfl) (ROne.tmp rfl) [] ⟨?_, rfl⟩ (by (exact Ent.auto))
      rw [redV_ok hD (by omega) (by omega), wL_small (by omega), wL_small (by omega), Int.sign_eq_neg_one_of_neg hc, Int.mul_neg_one]
    · rename_i h1 h2
      refine Nx.ret2 rfl (ROne.cell 0 rfl rfl rfl rfl rfl) (ROne.tmp rfl) [] ⟨?_, rfl⟩ (by (exact Ent.auto))
      rw [redV_ok hD (by omega) (by omega), wL_small (by omega), wL_small (by omega)]
      by_cases h0 : z = 0
      · subst h0; simp
      · rw [Int.sign_eq_one_of_pos (by omega), Int.mul_one]
  · obtain ⟨D, rfl⟩ : ∃ D : Nat, d = (D : Int) := ⟨d.natAbs, by omega⟩
    obtain ⟨z, rfl⟩ : ∃ z : Int, z = n := ⟨n, rfl⟩
    have hD : 0 < D := by omega
    have hg0 : 0 < Nat.gcd D z.natAbs := Nat.gcd_pos_of_pos_left _ hD
    have hgD : Nat.gcd D z.natAbs ≤ D := Nat.gcd_le_left _ hD
    have hN : z.natAbs / Nat.gcd D z.natAbs ≤ z.natAbs := Nat.div_le_self _ _
    have hE : D / Nat.gcd D z.natAbs ≤ D := Nat.div_le_self _ _
    refine FnSpec.enterP Tryd.func50 rfl Tryd.ntmps50 rfl fun w F => ?_
    repeat' first
      | ((with_reducible refine Nx.is_wp ?_); first | refine Nx.wo ?_ | refine Nx.p_drawF (id := 2) rfl [0, 1, 3, 4, 2] [2] [5, 6, 7] _ rfl rfl (by kernel_rfl) (by kernel_rfl) rfl (by repeat first | exact PanicOk.fn | refine PanicOk.then_ ?_ | refine PanicOk.inB ?_) (Ent.refl _) ?_ | refine Nx.p_dec rfl rfl (fun hc => ?_) (fun hc => ?_) | refine Nx.p_bool rfl rfl (fun hc => ?_) (fun hc => ?_))
      | ((first | refine Nx.at_op rfl rfl ?_ | refine Nx.m_loud rfl rfl rfl ?_ | refine Nx.at_do rfl rfl rfl rfl ?_ | refine Nx.m_loud_do rfl rfl rfl rfl rfl ?_); first | refine Nx.opr rfl rfl ?_ | refine Nx.callv rfl rfl rfl (by kernel_rfl) rfl (negative_spec (D : Int) (by unfold InW; omega) I) ?_ | refine Nx.callv rfl rfl rfl (by kernel_rfl) rfl (negative_spec z (by unfold InW; omega) I) ?_ | refine Nx.callv rfl rfl rfl (by kernel_rfl) rfl (rsize_spec z (by unfold InW; omega) I) ?_ | refine Nx.callv rfl rfl rfl (by kernel_rfl) rfl (rcommon_spec D z.natAbs (by unfold H127; omega) (by unfold H127; omega) I) ?_ | refine Nx.callv rfl rfl rfl (by kernel_rfl) rfl (Over_spec z.natAbs _ (by unfold H127; omega) hg0 (by unfold H127; omega) I) ?_ | refine Nx.callv rfl rfl rfl (by kernel_rfl) rfl (Over_spec D _ (by unfold H127; omega) hg0 (by unfold H127; omega) I) ?_ | refine Nx.call (al := [wideV ((1152921504606846976 : Nat) : Int), wideV ((z.natAbs / Nat.gcd D z.natAbs : Nat) : Int)]) (Rpre := []) rfl rfl (by rw [wideM]; rfl) (by kernel_rfl) rfl (belowN _ _ (by unfold W128; omega) (by unfold W128; omega) I) (Ent.refl _) ?_; rintro _ _ ⟨rfl, rfl⟩ | refine Nx.call (al := [wideV ((1152921504606846976 : Nat) : Int), wideV ((D / Nat.gcd D z.natAbs : Nat) : Int)]) (Rpre := []) rfl rfl (by rw [wideM]; rfl) (by kernel_rfl) rfl (belowN _ _ (by unfold W128; omega) (by unfold W128; omega) I) (Ent.refl _) ?_; rintro _ _ ⟨rfl, rfl⟩ | refine Nx.conv_i64 rfl rfl rfl (I64_wL (by omega)) rfl ?_ | refine Nx.neg rfl (I64_nwL (by omega)) rfl ?_ | refine Nx.so ?_ | refine Nx.sb (fun bx => ?_) | refine Nx.sa (fun A2 c2 => ?_))
      | ((with_reducible refine Nx.is_at ?_); first | refine Nx.a ?_ | ((fail_if_success refine Nx.at_do rfl rfl rfl rfl ?_); first | refine Nx.at_dec_t rfl rfl rfl rfl (by first | assumption | omega) ?_ | refine Nx.at_dec_f rfl rfl rfl rfl (by first | assumption | omega) ?_ | refine Nx.at_split rfl rfl rfl rfl (fun hc => ?_) (fun hc => ?_) | refine Nx.at_splitb rfl rfl rfl rfl (fun hc => ?_) (fun hc => ?_)))
      | ((with_reducible refine Nx.is_mix ?_); first | refine Nx.m ?_ | ((fail_if_success refine Nx.m_quiet_do rfl rfl rfl rfl rfl rfl rfl ?_ ?_); (fail_if_success refine Nx.m_loud_do rfl rfl rfl rfl rfl ?_); first | refine Nx.m_dec_t rfl rfl rfl rfl (by first | assumption | omega) ?_ | refine Nx.m_dec_f rfl rfl rfl rfl (by first | assumption | omega) ?_ | refine Nx.m_split rfl rfl rfl rfl (fun hc => ?_) (fun hc => ?_) | refine Nx.m_splitb rfl rfl rfl rfl (fun hc => ?_) (fun hc => ?_)))
      | ((fail_if_success (with_reducible refine Nx.is_at ?_)); (fail_if_success (with_reducible refine Nx.is_wp ?_)); (fail_if_success (with_reducible refine Nx.is_mix ?_)); first | refine Nx.ex ?_)
    · refine Nx.ret2 rfl (ROne.cell 0 rfl rfl rfl rfl rfl) (ROne.tmp rfl) [] ⟨?_, rfl⟩ (by (exact Ent.auto))
      rw [redV_no hD (fun h => by have := h.1; omega)]
    · refine Nx.ret2 rfl (ROne.cell 0 rfl rfl rfl rfl rfl) (ROne.tmp rfl) [] ⟨?_, rfl⟩ (by (exact Ent.auto))
      rw [redV_no hD (fun h => by have := h.2; omega)]
    · rename_i h1 h2
      refine Nx.ret2 rfl (ROne.cell 0 rfl rfl rfl rfl rfl) (ROne.tmp rfl) [] ⟨?_, rfl⟩ (by (exact Ent.auto))
      rw [redV_ok hD (by omega) (by omega), wL_small (by omega), wL_small (by omega), Int.sign_eq_neg_one_of_neg hc, Int.mul_neg_one]
    · rename_i h1 h2
      refine Nx.ret2 rfl (ROne.cell 0 rfl rfl rfl rfl rfl) (ROne.tmp rfl) [] ⟨?_, rfl⟩ (by (exact Ent.auto))
      rw [redV_ok hD (by omega) (by omega), wL_small (by omega), wL_small (by omega)]
      by_cases h0 : z = 0
      · subst h0; simp
      · rw [Int.sign_eq_one_of_pos (by omega), Int.mul_one]
end Go.Proofs.YtpdgnjoideppjaaDoor
/- Determinants by expansion along the first row, over lists of row and column numbers: plain facts, no program in sight. -/
namespace Go.Det
def sg (k : Nat) : Int := if k % 2 = 0 then 1 else -1
theorem sg_zero : sg 0 = 1 := rfl
theorem sg_succ (k : Nat) : sg (k + 1) = -sg k := by unfold sg; split <;> split <;> omega
theorem sg_sq (k : Nat) : sg k * sg k = 1 := by unfold sg; split <;> rfl
theorem sg_add (a b : Nat) : sg (a + b) = sg a * sg b := by
  induction b with
  | zero => simp [sg_zero]
  | succ b ih => rw [Nat.add_succ, sg_succ, sg_succ, ih]; grind
theorem sg_or (k : Nat) : sg k = 1 ∨ sg k = -1 := by unfold sg; split <;> simp
/-- The sum over all ways to split a list at one of its elements; 'pre' stands ahead. -/
def spl (g : List Nat → Nat → List Nat → Int) : List Nat → List Nat → Int
  | _, [] => 0
  | pre, c :: post => g pre c post + spl g (pre ++ [c]) post
theorem spl_congr {g h : List Nat → Nat → List Nat → Int} : ∀ (cs pre : List Nat), (∀ p c q, p ++ c :: q = pre ++ cs → pre.length ≤ p.length → g p c q = h p c q) → spl g pre cs = spl h pre cs
  | [], _, _ => rfl
  | c :: post, pre, H => by
    unfold spl
    rw [H pre c post rfl (Nat.le_refl _), spl_congr post (pre ++ [c]) fun p d q e hl => H p d q (by simpa using e) (by simp at hl; omega)]
theorem spl_add {g h : List Nat → Nat → List Nat → Int} : ∀ (cs pre : List Nat), spl (fun p c q => g p c q + h p c q) pre cs = spl g pre cs + spl h pre cs
  | [], _ => by simp [spl]
  | c :: post, pre => by simp only [spl]; rw [spl_add post]; omega
theorem spl_mul (x : Int) {g : List Nat → Nat → List Nat → Int} : ∀ (cs pre : List Nat), spl (fun p c q => x * g p c q) pre cs = x * spl g pre cs
  | [], _ => by simp [spl]
  | c :: post, pre => by simp only [spl]; rw [spl_mul x post, Int.mul_add]
theorem spl_neg {g : List Nat → Nat → List Nat → Int} (cs pre : List Nat) : spl (fun p c q => -g p c q) pre cs = -spl g pre cs := by
  have := spl_mul (-1) (g := g) cs pre
  simpa [Int.neg_mul] using this
theorem spl_zero : ∀ (cs pre : List Nat), spl (fun _ _ _ => 0) pre cs = 0
  | [], _ => rfl
  | c :: post, pre => by simp only [spl]; rw [spl_zero post]; rfl
theorem spl_app {g : List Nat → Nat → List Nat → Int} (ys : List Nat) : ∀ (xs pre : List Nat), spl g pre (xs ++ ys) = spl (fun p c q => g p c (q ++ ys)) pre xs + spl g (pre ++ xs) ys
  | [], pre => by simp [spl]
  | c :: xs, pre => by simp only [List.cons_append, spl]; rw [spl_app ys xs]; simp; omega
theorem spl_pre {g : List Nat → Nat → List Nat → Int} (u : List Nat) : ∀ (cs pre : List Nat), spl g (u ++ pre) cs = spl (fun p c q => g (u ++ p) c q) pre cs
  | [], _ => rfl
  | c :: post, pre => by simp only [spl]; rw [← spl_pre u post]; simp
/-- Two elements chosen one after the other, the second one ahead of the first one: the order of choice is turned. -/
theorem spl_turn {G : List Nat → Nat → List Nat → Nat → List Nat → Int} : ∀ (cs pre : List Nat),
    spl (fun p c q => spl (fun p2 d m => G p2 d m c q) [] p) pre cs = spl (fun p2 d m0 => spl (fun m c q => G p2 d m c q) m0 cs) [] pre + spl (fun p2 d post => spl (fun m c q => G p2 d m c q) [] post) pre cs
  | [], pre => by simp [spl, spl_zero]
  | c :: cs, pre => by
    simp only [spl]
    rw [spl_turn cs, spl_add, spl_app (g := fun p2 d m0 => spl (fun m c q => G p2 d m c q) m0 cs) [c] pre []]
    simp only [spl, List.nil_append]
    omega
/-- The determinant of some rows and columns of a matrix. -/
def minr (A : Nat → Nat → Int) : List Nat → List Nat → Int
  | [], _ => 1
  | r :: rs, cs => spl (fun p c q => sg p.length * (A r c * minr A rs (p ++ q))) [] cs
theorem minr_cons (A : Nat → Nat → Int) (r : Nat) (rs cs : List Nat) : minr A (r :: rs) cs = spl (fun p c q => sg p.length * (A r c * minr A rs (p ++ q))) [] cs := rfl
theorem minr_congr {A B : Nat → Nat → Int} : ∀ (rs cs : List Nat), (∀ r ∈ rs, ∀ c ∈ cs, A r c = B r c) → minr A rs cs = minr B rs cs
  | [], _, _ => rfl
  | r :: rs, cs, h => by
    rw [minr_cons, minr_cons]
    refine spl_congr cs [] fun p c q e _ => ?_
    have e : p ++ c :: q = cs := e
    rw [h r (by simp) c (by rw [← e]; simp), minr_congr rs (p ++ q) fun s hs d hd => h s (by simp [hs]) d (by rw [← e]; simp at hd ⊢; rcases hd with h | h <;> simp [h])]
/-- Neighbouring columns exchanged. -/
theorem minr_cols (A : Nat → Nat → Int) : ∀ (rs p : List Nat) (a b : Nat) (q : List Nat), rs.length = p.length + q.length + 2 → minr A rs (p ++ b :: a :: q) = -minr A rs (p ++ a :: b :: q)
  | [], p, a, b, q, h => by simp at h
  | [r], p, a, b, q, h => by simp at h
  | r :: s :: rs, p, a, b, q, h => by
    have hl : (s :: rs).length = p.length + q.length + 1 := by simp at h ⊢; omega
    generalize s :: rs = rs at hl
    rw [minr_cons, minr_cons, spl_app, spl_app]
    simp only [spl, List.nil_append]
    rw [show spl (fun p c q => sg p.length * (A r c * minr A rs (p ++ q))) (p ++ [b] ++ [a]) q = -spl (fun p c q => sg p.length * (A r c * minr A rs (p ++ q))) (p ++ [a] ++ [b]) q by
      rw [show p ++ [b] ++ [a] = (p ++ [b, a]) ++ [] by simp, show p ++ [a] ++ [b] = (p ++ [a, b]) ++ [] by simp, spl_pre, spl_pre, ← spl_neg]
      refine spl_congr q [] fun u c v e _ => ?_
      have e : u ++ c :: v = q := e
      have := minr_cols A rs p a b (u ++ v) (by rw [hl, ← e]; simp; omega)
      simp only [List.append_assoc, List.cons_append, List.nil_append, List.length_append, List.length_cons] at this ⊢
      rw [this]
      grind]
    rw [show spl (fun p' c q' => sg p'.length * (A r c * minr A rs (p' ++ (q' ++ b :: a :: q)))) [] p = -spl (fun p' c q' => sg p'.length * (A r c * minr A rs (p' ++ (q' ++ a :: b :: q)))) [] p by
      rw [← spl_neg]
      refine spl_congr p [] fun u c v e _ => ?_
      have e : u ++ c :: v = p := e
      have := minr_cols A rs (u ++ v) a b q (by rw [hl, ← e]; simp; omega)
      simp only [List.append_assoc] at this
      rw [this]
      grind]
    simp only [List.length_append, List.length_cons, List.length_nil, sg_succ, List.append_assoc, List.cons_append, List.nil_append]
    grind
/-- A column moved to the right. -/
theorem minr_move (A : Nat → Nat → Int) (rs : List Nat) (c : Nat) : ∀ (m p q : List Nat), rs.length = p.length + m.length + q.length + 1 → minr A rs (p ++ c :: (m ++ q)) = sg m.length * minr A rs (p ++ (m ++ c :: q))
  | [], p, q, _ => by simp [sg_zero]
  | d :: m, p, q, h => by
    have h1 := minr_cols A rs p d c (m ++ q) (by rw [h]; simp; omega)
    have h2 := minr_move A rs c m (p ++ [d]) q (by rw [h]; simp; omega)
    simp only [List.append_assoc, List.cons_append, List.nil_append] at h1 h2 ⊢
    rw [h1, h2, List.length_cons, sg_succ, Int.neg_mul]
/-- Two equal columns. -/
theorem minr_twice (A : Nat → Nat → Int) (rs : List Nat) (a : Nat) (p m q : List Nat) (h : rs.length = p.length + m.length + q.length + 2) : minr A rs (p ++ a :: (m ++ a :: q)) = 0 := by
  have h1 := minr_move A rs a m p (a :: q) (by rw [h]; simp; omega)
  have h2 := minr_cols A rs (p ++ m) a a q (by rw [h]; simp)
  simp only [List.append_assoc] at h1 h2
  have h3 : minr A rs (p ++ (m ++ a :: a :: q)) = 0 := by omega
  rw [h1, h3, Int.mul_zero]
/-- Expansion along the first two rows. -/
theorem minr_two (A : Nat → Nat → Int) (r s : Nat) (rs cs : List Nat) : minr A (r :: s :: rs) cs = spl (fun p x post => spl (fun m y q => sg m.length * ((A r x * A s y - A r y * A s x) * minr A rs (p ++ (m ++ q)))) [] post) [] cs := by
  have h1 : ∀ (p : List Nat) (c : Nat) (q : List Nat), sg p.length * (A r c * minr A (s :: rs) (p ++ q)) =
      spl (fun p2 d m => sg (p2.length + m.length + 1) * sg p2.length * (A r c * A s d * minr A rs (p2 ++ (m ++ q)))) [] p + spl (fun m d q2 => sg m.length * (A r c * A s d * minr A rs (p ++ (m ++ q2)))) [] q := by
    intro p c q
    rw [minr_cons, spl_app, Int.mul_add, Int.mul_add, ← Int.mul_assoc, ← Int.mul_assoc, ← spl_mul, ← spl_mul]
    congr 1
    · refine spl_congr p [] fun p2 d m e _ => ?_
      have e : p2 ++ d :: m = p := e
      rw [← e, List.length_append, List.length_cons, ← Nat.add_assoc]
      grind
    · rw [show ([] : List Nat) ++ p = p ++ [] by simp, spl_pre]
      refine spl_congr q [] fun m d q2 _ _ => ?_
      have := sg_add p.length m.length
      have h2 := sg_sq p.length
      rw [List.append_assoc, List.length_append, this]
      grind
  rw [minr_cons, show (fun p c q => sg p.length * (A r c * minr A (s :: rs) (p ++ q))) = _ from funext fun p => funext fun c => funext fun q => h1 p c q, spl_add,
    spl_turn (G := fun p2 d m c q => sg (p2.length + m.length + 1) * sg p2.length * (A r c * A s d * minr A rs (p2 ++ (m ++ q)))) cs []]
  simp only [spl, Int.zero_add]
  rw [← spl_add]
  refine spl_congr cs [] fun p x post _ _ => ?_
  rw [← spl_add]
  refine spl_congr post [] fun m y q _ _ => ?_
  have h2 := sg_sq p.length
  rw [sg_succ, sg_add]
  grind
/-- Neighbouring rows exchanged. -/
theorem minr_rows (A : Nat → Nat → Int) (r s : Nat) (rs : List Nat) : ∀ (p cs : List Nat), minr A (p ++ s :: r :: rs) cs = -minr A (p ++ r :: s :: rs) cs
  | [], cs => by
    rw [List.nil_append, List.nil_append, minr_two, minr_two, ← spl_neg]
    refine spl_congr cs [] fun p x post _ _ => ?_
    rw [← spl_neg]
    refine spl_congr post [] fun m y q _ _ => ?_
    grind
  | t :: p, cs => by
    rw [List.cons_append, List.cons_append, minr_cons, minr_cons, ← spl_neg]
    refine spl_congr cs [] fun u c v _ _ => ?_
    rw [minr_rows A r s rs p (u ++ v)]
    grind
/-- A row moved down. -/
theorem minr_down (A : Nat → Nat → Int) (r : Nat) (cs : List Nat) : ∀ (m p q : List Nat), minr A (p ++ r :: (m ++ q)) cs = sg m.length * minr A (p ++ (m ++ r :: q)) cs
  | [], p, q => by simp [sg_zero]
  | d :: m, p, q => by
    have h1 := minr_rows A d r (m ++ q) p cs
    have h2 := minr_down A r cs m (p ++ [d]) q
    simp only [List.append_assoc, List.cons_append, List.nil_append] at h1 h2 ⊢
    rw [h1, h2, List.length_cons, sg_succ, Int.neg_mul]
/-- Two equal rows. -/
theorem minr_same (A : Nat → Nat → Int) (r : Nat) (cs p m q : List Nat) : minr A (p ++ r :: (m ++ r :: q)) cs = 0 := by
  have h1 := minr_down A r cs m p (r :: q)
  have h2 := minr_rows A r r q (p ++ m) cs
  simp only [List.append_assoc] at h1 h2
  have h3 : minr A (p ++ (m ++ r :: r :: q)) cs = 0 := by omega
  rw [h1, h3, Int.mul_zero]
/-- Expansion along the last row. -/
theorem minr_last (A : Nat → Nat → Int) (r : Nat) (R cs : List Nat) : minr A (R ++ [r]) cs = sg R.length * spl (fun p c q => sg p.length * (A r c * minr A R (p ++ q))) [] cs := by
  have h := minr_down A r cs R [] []
  simp only [List.nil_append, List.append_nil] at h
  have h2 := sg_sq R.length
  rw [← minr_cons, h, ← Int.mul_assoc, h2, Int.one_mul]
/-- Rows in another order. -/
theorem minr_perm (A : Nat → Nat → Int) {R S : List Nat} (h : R.Perm S) : ∃ s : Int, (s = 1 ∨ s = -1) ∧ ∀ cs, minr A S cs = s * minr A R cs := by
  induction h with
  | nil => exact ⟨1, .inl rfl, fun cs => by simp⟩
  | cons x _ ih =>
    obtain ⟨s, hs, h⟩ := ih
    refine ⟨s, hs, fun cs => ?_⟩
    rw [minr_cons, minr_cons, ← spl_mul]
    refine spl_congr cs [] fun p c q _ _ => ?_
    rw [h]; grind
  | swap x y l => exact ⟨-1, .inr rfl, fun cs => by have := minr_rows A y x l [] cs; simp only [List.nil_append] at this; rw [this]; grind⟩
  | trans _ _ ih1 ih2 =>
    obtain ⟨s, hs, h⟩ := ih1
    obtain ⟨t, ht, k⟩ := ih2
    refine ⟨t * s, by rcases hs with rfl | rfl <;> rcases ht with rfl | rfl <;> simp, fun cs => ?_⟩
    rw [k, h, Int.mul_assoc]
/-- A column replaced. -/
def rep (A : Nat → Nat → Int) (j : Nat) (b : Nat → Int) : Nat → Nat → Int := fun r c => if c = j then b r else A r c
theorem rep_at (A : Nat → Nat → Int) (j : Nat) (b : Nat → Int) (r : Nat) : rep A j b r j = b r := if_pos rfl
theorem rep_ne (A : Nat → Nat → Int) {j c : Nat} (b : Nat → Int) (r : Nat) (h : c ≠ j) : rep A j b r c = A r c := if_neg h
theorem rep_out (A : Nat → Nat → Int) {j : Nat} (b : Nat → Int) {rs cs : List Nat} (h : j ∉ cs) : minr (rep A j b) rs cs = minr A rs cs :=
  minr_congr rs cs fun r _ c hc => rep_ne A b r fun (e : c = j) => h (e ▸ hc)
theorem nd_mid {p q : List Nat} {d : Nat} (h : (p ++ d :: q).Nodup) : d ∉ p ++ q ∧ (p ++ q).Nodup :=
  List.nodup_cons.1 ((List.Perm.nodup_iff List.perm_middle).1 h)
/-- Linear in a column. -/
theorem rep_lin (A : Nat → Nat → Int) (j : Nat) (b c : Nat → Int) (x y : Int) : ∀ (rs cs : List Nat), rs.length = cs.length → cs.Nodup → j ∈ cs → minr (rep A j fun r => x * b r + y * c r) rs cs = x * minr (rep A j b) rs cs + y * minr (rep A j c) rs cs
  | [], cs, hl, _, hj => by
    have : cs = [] := List.eq_nil_of_length_eq_zero (by simpa using hl.symm)
    rw [this] at hj; simp at hj
  | r :: rs, cs, hl, hn, hj => by
    rw [minr_cons, minr_cons, minr_cons, ← spl_mul, ← spl_mul, ← spl_add]
    refine spl_congr cs [] fun p d q e _ => ?_
    have e : p ++ d :: q = cs := e
    subst e
    obtain ⟨hout, hnd⟩ := nd_mid hn
    by_cases hd : d = j
    · subst hd
      rw [rep_at, rep_at, rep_at, rep_out A _ hout, rep_out A _ hout, rep_out A _ hout]
      grind
    · rw [rep_ne A _ r hd, rep_ne A _ r hd, rep_ne A _ r hd, rep_lin A j b c x y rs (p ++ q) (by simp at hl ⊢; omega) hnd (by simp at hj ⊢; rcases hj with h | h | h; exact .inl h; exact absurd h.symm hd; exact .inr h)]
      grind
theorem rep_zero (A : Nat → Nat → Int) (j : Nat) (rs cs : List Nat) (hl : rs.length = cs.length) (hn : cs.Nodup) (hj : j ∈ cs) : minr (rep A j fun _ => 0) rs cs = 0 := by
  have := rep_lin A j (fun _ => 0) (fun _ => 0) 0 0 rs cs hl hn hj
  simpa using this
theorem spl_map {g : List Nat → Nat → List Nat → Int} (σ : Nat → Nat) : ∀ (cs pre : List Nat), spl g (pre.map σ) (cs.map σ) = spl (fun p c q => g (p.map σ) (σ c) (q.map σ)) pre cs
  | [], _ => rfl
  | c :: cs, pre => by
    have := spl_map (g := g) σ cs (pre ++ [c])
    simp only [List.map_append, List.map_cons, List.map_nil] at this
    simp only [List.map_cons, spl]
    rw [this]
theorem minr_map (A : Nat → Nat → Int) (σ : Nat → Nat) : ∀ (rs cs : List Nat), minr (fun r c => A r (σ c)) rs cs = minr A rs (cs.map σ)
  | [], _ => rfl
  | r :: rs, cs => by
    rw [minr_cons, minr_cons]
    have := spl_map (g := fun p c q => sg p.length * (A r c * minr A rs (p ++ q))) σ cs []
    simp only [List.map_nil] at this
    rw [this]
    refine spl_congr cs [] fun p c q _ _ => ?_
    rw [minr_map A σ rs (p ++ q), List.map_append, List.length_map]
theorem minr_rowmap (A : Nat → Nat → Int) (f : Nat → Nat) : ∀ (rs cs : List Nat), minr (fun r c => A (f r) c) rs cs = minr A (rs.map f) cs
  | [], _ => rfl
  | r :: rs, cs => by
    rw [List.map_cons, minr_cons, minr_cons]
    refine spl_congr cs [] fun p c q _ _ => ?_
    rw [minr_rowmap A f rs (p ++ q)]
theorem range_map_getD {R : List Nat} : (List.range R.length).map (fun i => R.getD i default) = R := by
  refine List.ext_getElem (by simp) fun i h1 h2 => ?_
  rw [List.getElem_map, List.getElem_range, List.getD_eq_getElem?_getD, List.getElem?_eq_getElem h2]
  rfl
/-- A column replaced by column i: the list of columns has i in the place of j. -/
theorem rep_col (A : Nat → Nat → Int) (i j : Nat) (rs p q : List Nat) (hn : (p ++ j :: q).Nodup) : minr (rep A j fun r => A r i) rs (p ++ j :: q) = minr A rs (p ++ i :: q) := by
  have h1 : minr (rep A j fun r => A r i) rs (p ++ j :: q) = minr (fun r c => A r (if c = j then i else c)) rs (p ++ j :: q) := minr_congr _ _ fun r _ c _ => by
    unfold rep
    split <;> rfl
  rw [h1, minr_map]
  obtain ⟨hout, _⟩ := nd_mid hn
  have hm : ∀ l : List Nat, j ∉ l → (l.map fun c => if c = j then i else c) = l := fun l hl => by
    have : l.map (fun c => if c = j then i else c) = l.map id := List.map_congr_left fun c hc => if_neg fun (e : c = j) => hl (e ▸ hc)
    rw [this, List.map_id]
  rw [List.map_append, List.map_cons, hm p fun h => hout (by simp [h]), hm q fun h => hout (by simp [h]), if_pos rfl]
/-- A column replaced by another one of the chosen ones. -/
theorem rep_other (A : Nat → Nat → Int) {i j : Nat} (hij : i ≠ j) (rs cs : List Nat) (hl : rs.length = cs.length) (hn : cs.Nodup) (hi : i ∈ cs) (hj : j ∈ cs) : minr (rep A j fun r => A r i) rs cs = 0 := by
  obtain ⟨p, q, rfl⟩ := List.append_of_mem hj
  rw [rep_col A i j rs p q hn]
  have hi : i ∈ p ∨ i ∈ q := by
    simp at hi
    rcases hi with h | h | h
    · exact .inl h
    · exact absurd h hij
    · exact .inr h
  rcases hi with h | h
  · obtain ⟨a, b, rfl⟩ := List.append_of_mem h
    have := minr_twice A rs i a b q (by rw [hl]; simp; omega)
    simpa using this
  · obtain ⟨a, b, rfl⟩ := List.append_of_mem h
    exact minr_twice A rs i p a b (by rw [hl]; simp; omega)
theorem rep_self (A : Nat → Nat → Int) (j : Nat) (rs cs : List Nat) : minr (rep A j fun r => A r j) rs cs = minr A rs cs :=
  minr_congr rs cs fun r _ c _ => by unfold rep; split <;> simp_all
/-- A sum of columns. -/
def comb (A : Nat → Nat → Int) (N : Nat → Int) : List Nat → Nat → Int
  | [], _ => 0
  | i :: L, r => N i * A r i + comb A N L r
theorem rep_comb (A : Nat → Nat → Int) (N : Nat → Int) (j : Nat) (rs cs : List Nat) (hl : rs.length = cs.length) (hn : cs.Nodup) (hj : j ∈ cs) : ∀ L : List Nat, (∀ i ∈ L, i ∈ cs) → L.Nodup →
    minr (rep A j (comb A N L)) rs cs = if j ∈ L then N j * minr A rs cs else 0
  | [], _, _ => by
    have : comb A N [] = fun _ => 0 := rfl
    rw [this, rep_zero A j rs cs hl hn hj]; rfl
  | i :: L, hL, hnd => by
    have e : comb A N (i :: L) = fun r => N i * (fun r => A r i) r + 1 * comb A N L r := funext fun r => by show N i * A r i + comb A N L r = N i * A r i + 1 * comb A N L r; omega
    rw [e, rep_lin A j _ _ (N i) 1 rs cs hl hn hj, rep_comb A N j rs cs hl hn hj L (fun x hx => hL x (by simp [hx])) (List.nodup_cons.1 hnd).2]
    by_cases hij : i = j
    · subst hij
      rw [rep_self, if_neg (List.nodup_cons.1 hnd).1, if_pos (by simp)]; omega
    · rw [rep_other A hij rs cs hl hn (hL i (by simp)) hj, Int.mul_zero, Int.zero_add, Int.one_mul]
      by_cases hjL : j ∈ L
      · rw [if_pos hjL, if_pos (by simp [hjL])]
      · rw [if_neg hjL, if_neg (by simp [hjL, Ne.symm hij])]
/-- Cramer's rule. -/
theorem cramer (A : Nat → Nat → Int) (N : Nat → Int) (b : Nat → Int) (j : Nat) (rs cs : List Nat) (hl : rs.length = cs.length) (hn : cs.Nodup) (hj : j ∈ cs) (hb : ∀ r ∈ rs, b r = comb A N cs r) : minr (rep A j b) rs cs = N j * minr A rs cs := by
  rw [← show minr (rep A j (comb A N cs)) rs cs = N j * minr A rs cs by rw [rep_comb A N j rs cs hl hn hj cs (fun _ h => h) hn, if_pos hj]]
  refine minr_congr rs cs fun r hr c _ => ?_
  unfold rep
  rw [hb r hr]
/-- A column that depends on others makes the determinant 0. -/
theorem depends (A : Nat → Nat → Int) (N : Nat → Int) (D : Int) (hD : D ≠ 0) (k : Nat) (rs cs : List Nat) (hl : rs.length = cs.length + 1) (hn : (cs ++ [k]).Nodup) (h : ∀ r ∈ rs, D * A r k = comb A N cs r) : minr A rs (cs ++ [k]) = 0 := by
  have hl2 : rs.length = (cs ++ [k]).length := by rw [hl]; simp
  have hk : k ∉ cs := fun hk => by have := (nd_mid (p := cs) (q := []) (d := k) hn).1; simp [hk] at this
  have hk2 : k ∈ cs ++ [k] := by simp
  have h1 := rep_lin A k (fun r => A r k) (fun _ => 0) D 0 rs _ hl2 hn hk2
  have h2 := rep_comb A N k rs _ hl2 hn hk2 cs (fun i hi => by simp [hi]) (by have := (nd_mid (p := cs) (q := []) (d := k) hn).2; simpa using this)
  rw [if_neg hk] at h2
  rw [rep_self] at h1
  have h3 : minr (rep A k fun r => D * (fun r => A r k) r + 0 * (fun _ => 0) r) rs (cs ++ [k]) = minr (rep A k (comb A N cs)) rs (cs ++ [k]) := minr_congr rs _ fun r hr c _ => by
    unfold rep
    dsimp only
    rw [h r hr]; simp
  rw [h3, h2] at h1
  have : D * minr A rs (cs ++ [k]) = 0 := by omega
  rcases Int.mul_eq_zero.1 this with h | h
  · exact absurd h hD
  · exact h
/-! Sizes -/
def rsum (A : Nat → Nat → Int) (r : Nat) : List Nat → Nat
  | [] => 0
  | c :: cs => (A r c).natAbs + rsum A r cs
theorem rsum_app (A : Nat → Nat → Int) (r : Nat) : ∀ p q : List Nat, rsum A r (p ++ q) = rsum A r p + rsum A r q
  | [], q => by simp [rsum]
  | c :: p, q => by simp only [List.cons_append, rsum]; rw [rsum_app A r p q]; omega
def rprod (A : Nat → Nat → Int) (cs : List Nat) : List Nat → Nat
  | [] => 1
  | r :: rs => rsum A r cs * rprod A cs rs
theorem rprod_mono (A : Nat → Nat → Int) {p c q : List Nat} : ∀ rs : List Nat, rprod A (p ++ q) rs ≤ rprod A (p ++ (c ++ q)) rs
  | [] => Nat.le_refl _
  | r :: rs => Nat.mul_le_mul (by rw [rsum_app, rsum_app, rsum_app]; omega) (rprod_mono A rs)
theorem spl_le {g : List Nat → Nat → List Nat → Int} (A : Nat → Nat → Int) (r K : Nat) : ∀ (cs pre : List Nat), (∀ p c q, p ++ c :: q = pre ++ cs → (g p c q).natAbs ≤ (A r c).natAbs * K) → (spl g pre cs).natAbs ≤ rsum A r cs * K
  | [], _, _ => by simp [spl, rsum]
  | c :: cs, pre, h => by
    have h1 := h pre c cs rfl
    have h2 := spl_le A r K cs (pre ++ [c]) fun p d q e => h p d q (by simpa using e)
    simp only [spl, rsum]
    rw [Nat.add_mul]
    omega
theorem minr_le (A : Nat → Nat → Int) : ∀ (rs cs : List Nat), (minr A rs cs).natAbs ≤ rprod A cs rs
  | [], _ => by simp [minr, rprod]
  | r :: rs, cs => by
    rw [minr_cons]
    refine spl_le A r _ cs [] fun p c q e => ?_
    have e : p ++ c :: q = cs := e
    rw [Int.natAbs_mul, Int.natAbs_mul]
    have h1 : (sg p.length).natAbs = 1 := by rcases sg_or p.length with h | h <;> rw [h] <;> rfl
    rw [h1, Nat.one_mul]
    refine Nat.mul_le_mul (Nat.le_refl _) (Nat.le_trans (minr_le A rs (p ++ q)) ?_)
    have := rprod_mono A (p := p) (c := [c]) (q := q) rs
    simp only [List.cons_append, List.nil_append] at this
    rw [e] at this
    exact this
/-! The first columns -/
/-- The sum over a range. -/
def sumR (f : Nat → Int) : Nat → Int
  | 0 => 0
  | n + 1 => sumR f n + f n
theorem sumR_congr {f g : Nat → Int} : ∀ {n : Nat}, (∀ i, i < n → f i = g i) → sumR f n = sumR g n
  | 0, _ => rfl
  | n + 1, h => by unfold sumR; rw [sumR_congr fun i hi => h i (by omega), h n (by omega)]
theorem sumR_mul (x : Int) (f : Nat → Int) : ∀ n : Nat, sumR (fun i => x * f i) n = x * sumR f n
  | 0 => by simp [sumR]
  | n + 1 => by unfold sumR; rw [sumR_mul x f n, Int.mul_add]
theorem sumR_first (f : Nat → Int) : ∀ n : Nat, sumR f (n + 1) = f 0 + sumR (fun i => f (i + 1)) n
  | 0 => by simp [sumR]
  | n + 1 => by rw [sumR, sumR_first f n, sumR]; omega
theorem comb_range (A : Nat → Nat → Int) (N : Nat → Int) (r : Nat) : ∀ n : Nat, comb A N (List.range n) r = sumR (fun i => N i * A r i) n
  | 0 => rfl
  | n + 1 => by
    have app : ∀ p q : List Nat, comb A N (p ++ q) r = comb A N p r + comb A N q r := fun p q => by
      induction p with
      | nil => simp [comb]
      | cons c p ih => simp only [List.cons_append, comb]; rw [ih]; omega
    rw [List.range_succ, app, comb_range A N r n]
    simp [comb, sumR]
theorem spl_range {g : List Nat → Nat → List Nat → Int} : ∀ (n a : Nat), spl g (List.range a) (List.range' a n) = sumR (fun i => g (List.range (a + i)) (a + i) (List.range' (a + i + 1) (n - i - 1))) n
  | 0, _ => rfl
  | n + 1, a => by
    rw [List.range'_succ, spl, ← List.range_succ, spl_range n (a + 1), sumR_first]
    simp only [Nat.add_zero, Nat.sub_zero, Nat.add_sub_cancel]
    congr 1
    refine sumR_congr fun i hi => ?_
    rw [show a + 1 + i = a + (i + 1) by omega, show n + 1 - (i + 1) - 1 = n - i - 1 by omega]
theorem range_at {j k : Nat} (h : j < k) : List.range k = List.range j ++ j :: List.range' (j + 1) (k - j - 1) := by
  rw [List.range_eq_range', List.range_eq_range', ← List.range'_succ, show k - j - 1 + 1 = k - j by omega]
  have := List.range'_append (s := 0) (m := j) (n := k - j) (step := 1)
  simp only [Nat.one_mul, Nat.zero_add] at this
  rw [this, show j + (k - j) = k by omega]
/-- Column j of the first k ones replaced by column k. -/
theorem rep_last (A : Nat → Nat → Int) {j k : Nat} (hj : j < k) (R : List Nat) (hl : R.length = k) : minr (rep A j fun r => A r k) R (List.range k) = sg (k - 1 - j) * minr A R (List.range j ++ List.range' (j + 1) (k - j)) := by
  have hn : (List.range j ++ j :: List.range' (j + 1) (k - j - 1)).Nodup := by rw [← range_at hj]; exact List.nodup_range
  rw [range_at hj, rep_col A k j R _ _ hn]
  have := minr_move A R k (List.range' (j + 1) (k - j - 1)) (List.range j) [] (by rw [hl]; simp; omega)
  simp only [List.append_nil, List.length_range'] at this
  rw [this, show k - j - 1 = k - 1 - j by omega]
  congr 2
  congr 1
  have h2 := List.range'_append (s := j + 1) (m := k - 1 - j) (n := 1) (step := 1)
  simp only [Nat.one_mul] at h2
  rw [show k - j = k - 1 - j + 1 by omega, ← h2, show j + 1 + (k - 1 - j) = k by omega]
  rfl
/-- Where one more row adds nothing, the column k is a sum of those before. -/
theorem kernel (A : Nat → Nat → Int) (k r : Nat) (R : List Nat) (hl : R.length = k) (h : minr A (R ++ [r]) (List.range (k + 1)) = 0) :
    minr A R (List.range k) * A r k = comb A (fun j => minr (rep A j fun r => A r k) R (List.range k)) (List.range k) r := by
  rw [minr_last, hl] at h
  have hs := sg_sq k
  have h0 : spl (fun p c q => sg p.length * (A r c * minr A R (p ++ q))) [] (List.range (k + 1)) = 0 := by
    rcases Int.mul_eq_zero.1 h with h | h
    · rw [h] at hs; simp at hs
    · exact h
  have h1 := spl_range (g := fun p c q => sg p.length * (A r c * minr A R (p ++ q))) (k + 1) 0
  rw [← List.range_eq_range'] at h1
  have h1 := h1.symm.trans h0
  simp only [Nat.zero_add, List.length_range] at h1
  rw [comb_range]
  rw [sumR] at h1
  have h2 : sumR (fun i => sg i * (A r i * minr A R (List.range i ++ List.range' (i + 1) (k + 1 - i - 1)))) k = sumR (fun i => -sg k * ((minr (rep A i fun r => A r k) R (List.range k)) * A r i)) k := sumR_congr fun i hi => by
    rw [rep_last A hi R hl, show k + 1 - i - 1 = k - i by omega]
    have e1 : sg k = -(sg i * sg (k - 1 - i)) := by rw [← sg_add, ← sg_succ]; congr 1; omega
    have e2 := sg_sq (k - 1 - i)
    rw [e1]; grind
  rw [h2, sumR_mul, show k + 1 - k - 1 = 0 by omega] at h1
  simp only [List.range'_zero, List.append_nil] at h1
  have h3 : sg k * (A r k * minr A R (List.range k) - sumR (fun i => minr (rep A i fun r => A r k) R (List.range k) * A r i) k) = 0 := by grind
  rcases Int.mul_eq_zero.1 h3 with h | h
  · rw [h] at hs; simp at hs
  · grind
end Go.Det
/- Contracts of functions of the given program, and lemmas about plain lists and numbers: what the laws of this seat lean on. -/
namespace Go.Proofs.YtpdgnjoideppjaaDoor
open Go.Eng
attribute [local irreducible] opK wpList Code.wp Exit.then Exit.inBlock fnPost bodyPost Nx Calls Oper.wp Rd Rds Wr Ent Stars Blk Again Vec FnSpec wpMix QRun Stop Upto wpAt
/-! Matrices; their sizes -/
abbrev Row := Option Addr × Nat × List Int
def rowV (r : Row) : Value := .slice r.1 r.2.2.length r.2.1
/-- A matrix that nobody writes any more. -/
structure Mat (I : PH) (A : Option Addr) (c : Nat) (v : List Row) : Prop where
  outer : SliceOf rowV I A c v
  rows : ∀ r ∈ v, Ints I r.1 r.2.1 r.2.2
theorem Mat.mono {I I' : PH} {A : Option Addr} {c : Nat} {v : List Row} (hle : PH.le I I') (h : Mat I A c v) : Mat I' A c v := ⟨h.outer.mono hle, fun r hr => (h.rows r hr).mono hle⟩
def matL (v : List Row) : List (List Int) := v.map (·.2.2)
theorem matL_len (v : List Row) : (matL v).length = v.length := List.length_map _
theorem row_mem {v : List Row} {k : Nat} (h : k < v.length) : v.getD k default ∈ v := by rw [List.getD_eq_getElem?_getD, List.getElem?_eq_getElem h]; exact List.getElem_mem _
theorem matL_at {v : List Row} {k : Nat} (h : k < v.length) : (matL v).getD k [] = (v.getD k default).2.2 := by
  unfold matL
  rw [List.getD_eq_getElem?_getD, List.getElem?_map, List.getD_eq_getElem?_getD, List.getElem?_eq_getElem h]; rfl
/-- The sum of the absolute values. -/
def absS : List Int → Nat
  | [] => 0
  | x :: l => x.natAbs + absS l
theorem absS_app : ∀ p q : List Int, absS (p ++ q) = absS p + absS q
  | [], q => by simp [absS]
  | x :: p, q => by simp only [List.cons_append, absS]; rw [absS_app p q]; omega
theorem absS_step {l : List Int} {k : Nat} (h : k < l.length) : absS (l.take (k + 1)) = absS (l.take k) + (l.getD k 0).natAbs := by
  rw [List.take_succ_eq_append_getElem h, absS_app, List.getD_eq_getElem?_getD, List.getElem?_eq_getElem h]; simp [absS]
theorem absS_le {l : List Int} (h : ∀ x ∈ l, -2147483648 ≤ x ∧ x ≤ 2147483648) : absS l ≤ l.length * 2147483648 := by
  induction l with
  | nil => simp [absS]
  | cons x l ih =>
    have h1 := h x (by simp)
    have h2 := ih fun y hy => h y (by simp [hy])
    simp only [absS, List.length_cons]; omega
theorem absS_take (l : List Int) (k : Nat) : absS (l.take k) ≤ absS l := by
  have := absS_app (l.take k) (l.drop k)
  rw [List.take_append_drop] at this
  omega
/-- The product of the sums of the rows; a sum that is 0 counts 1. -/
def prodM : List (List Int) → Nat
  | [] => 1
  | r :: m => max 1 (absS r) * prodM m
theorem prodM_app : ∀ p q : List (List Int), prodM (p ++ q) = prodM p * prodM q
  | [], q => by simp [prodM]
  | x :: p, q => by simp only [List.cons_append, prodM]; rw [prodM_app p q, Nat.mul_assoc]
theorem prodM_pos : ∀ m : List (List Int), 1 ≤ prodM m
  | [] => Nat.le_refl _
  | r :: m => Nat.mul_le_mul (Nat.le_max_left 1 (absS r)) (prodM_pos m)
theorem prodM_step {m : List (List Int)} {k : Nat} (h : k < m.length) : prodM (m.take (k + 1)) = prodM (m.take k) * max 1 (absS (m.getD k [])) := by
  rw [List.take_succ_eq_append_getElem h, prodM_app, List.getD_eq_getElem?_getD, List.getElem?_eq_getElem h]; simp [prodM]
theorem prodM_take (m : List (List Int)) (k : Nat) : prodM (m.take k) ≤ prodM m := by
  have := prodM_app (m.take k) (m.drop k)
  rw [List.take_append_drop] at this
  rw [this]
  exact Nat.le_mul_of_pos_right _ (prodM_pos _)
abbrev T120 : Nat := 1329227995784915872903807060280344576
/-- The rows are short, the numbers of moderate size. -/
def Small (m : List (List Int)) : Prop := ∀ r ∈ m, r.length ≤ 5 ∧ ∀ x ∈ r, -2147483648 ≤ x ∧ x ≤ 2147483648
theorem Small.row {v : List Row} (h : Small (matL v)) {k : Nat} (hk : k < v.length) : (v.getD k default).2.2.length ≤ 5 ∧ (∀ x ∈ (v.getD k default).2.2, -2147483648 ≤ x ∧ x ≤ 2147483648) ∧ absS (v.getD k default).2.2 ≤ 10737418240 := by
  have := h (v.getD k default).2.2 (List.mem_map.2 ⟨_, row_mem hk, rfl⟩)
  exact ⟨this.1, this.2, by have h2 := absS_le this.2; have := this.1; omega⟩
theorem max_abs (x : Int) : max x (-x) = (x.natAbs : Int) := by omega
/-- One step of the product: the carries tell whether it is too great. -/
theorem large_step (S n : Nat) :
    ((T120 < S * n) ↔ (0 < (S / 18446744073709551616 * n) / 18446744073709551616 + ((S / 18446744073709551616 * n) % 18446744073709551616 + (S % 18446744073709551616 * n) / 18446744073709551616 + 0) / 18446744073709551616 ∨
      72057594037927936 < ((S / 18446744073709551616 * n) % 18446744073709551616 + (S % 18446744073709551616 * n) / 18446744073709551616 + 0) % 18446744073709551616 ∨
      (((S / 18446744073709551616 * n) % 18446744073709551616 + (S % 18446744073709551616 * n) / 18446744073709551616 + 0) % 18446744073709551616 = 72057594037927936 ∧ 0 < (S % 18446744073709551616 * n) % 18446744073709551616))) ∧
    (S * n ≤ T120 → ((S / 18446744073709551616 * n) % 18446744073709551616 + (S % 18446744073709551616 * n) / 18446744073709551616 + 0) % 18446744073709551616 = (S * n) / 18446744073709551616 ∧ (S % 18446744073709551616 * n) % 18446744073709551616 = (S * n) % 18446744073709551616) := by
  have e : S * n = (S / 18446744073709551616 * n) * 18446744073709551616 + S % 18446744073709551616 * n := by
    have := Nat.div_add_mod S 18446744073709551616
    calc S * n = (18446744073709551616 * (S / 18446744073709551616) + S % 18446744073709551616) * n := by rw [this]
      _ = _ := by rw [Nat.add_mul, Nat.mul_assoc, Nat.mul_comm 18446744073709551616]
  rw [e]
  generalize S / 18446744073709551616 * n = a
  generalize S % 18446744073709551616 * n = b
  unfold T120
  omega
end Go.Proofs.YtpdgnjoideppjaaDoor
/- Contracts of functions of the given program, and lemmas about plain lists and numbers: what the laws of this seat lean on. -/
namespace Go.Proofs.YtpdgnjoideppjaaDoor
open Go.Eng
attribute [local irreducible] opK wpList Code.wp Exit.then Exit.inBlock fnPost bodyPost Nx Calls Oper.wp Rd Rds Wr Ent Stars Blk Again Vec FnSpec wpMix QRun Stop Upto wpAt
set_option maxRecDepth 10000 in
set_option maxHeartbeats 4000000 in
theorem large_spec (A : Option Addr) (c : Nat) (v : List Row) (I : PH) (hm : Mat I A c v) (hs : Small (matL v)) :
    FnSpec Tryd.prog 28 [.slice A v.length c] I [] (fun u R' => u = .bool (decide (T120 < prodM (matL v))) ∧ R' = []) := by
  have hlen := hm.outer.len
  refine FnSpec.enterP Tryd.func28 rfl Tryd.ntmps28 rfl fun w F => ?_
  repeat' first
    | ((with_reducible refine Nx.is_wp ?_); first | refine Nx.wo ?_ | refine Nx.p_dec rfl rfl (fun hc => ?_) (fun hc => ?_) | refine Nx.p_bool rfl rfl (fun hc => ?_) (fun hc => ?_))
    | ((first | refine Nx.at_op rfl rfl ?_ | refine Nx.m_loud rfl rfl rfl ?_ | refine Nx.at_do rfl rfl rfl rfl ?_ | refine Nx.m_loud_do rfl rfl rfl rfl rfl ?_); first | refine Nx.opr rfl rfl ?_ | refine Nx.callv rfl rfl rfl (by kernel_rfl) rfl (whole_spec 1 (by unfold I64; decide) I) ?_ | refine Nx.so ?_ | refine Nx.sb (fun bx => ?_) | refine Nx.sa (fun A2 c2 => ?_))
    | ((with_reducible refine Nx.is_at ?_); first | refine Nx.a ?_ | ((fail_if_success refine Nx.at_do rfl rfl rfl rfl ?_); first | refine Nx.at_dec_t rfl rfl rfl rfl (by first | assumption | omega) ?_ | refine Nx.at_dec_f rfl rfl rfl rfl (by first | assumption | omega) ?_ | refine Nx.at_split rfl rfl rfl rfl (fun hc => ?_) (fun hc => ?_) | refine Nx.at_splitb rfl rfl rfl rfl (fun hc => ?_) (fun hc => ?_)))
    | ((with_reducible refine Nx.is_mix ?_); first | refine Nx.m ?_ | ((fail_if_success refine Nx.m_quiet_do rfl rfl rfl rfl rfl rfl rfl ?_ ?_); (fail_if_success refine Nx.m_loud_do rfl rfl rfl rfl rfl ?_); first | refine Nx.m_dec_t rfl rfl rfl rfl (by first | assumption | omega) ?_ | refine Nx.m_dec_f rfl rfl rfl rfl (by first | assumption | omega) ?_ | refine Nx.m_split rfl rfl rfl rfl (fun hc => ?_) (fun hc => ?_) | refine Nx.m_splitb rfl rfl rfl rfl (fun hc => ?_) (fun hc => ?_)))
    | ((fail_if_success (with_reducible refine Nx.is_at ?_)); (fail_if_success (with_reducible refine Nx.is_wp ?_)); (fail_if_success (with_reducible refine Nx.is_mix ?_)); first | refine Nx.ex ?_)
  revert bx; intro b3
  refine Nx.p_loop (σ := Nat) (fun k => [(3, .pointer (some ⟨b3, 0, none⟩)), (16, .slice A v.length c), (17, .int .i64 v.length), (18, .int .i64 (k : Int))])
    (fun k => [Blk b3 58 [.int .u64 ((prodM ((matL v).take k) / 18446744073709551616 : Nat) : Int), .int .u64 ((prodM ((matL v).take k) % 18446744073709551616 : Nat) : Int)], F]) (fun k => k ≤ v.length ∧ prodM ((matL v).take k) ≤ T120) (fun k => v.length - k) 0 rfl ⟨Nat.zero_le _, by rw [List.take_zero]; decide⟩ ⟨rfl, rfl, rfl, rfl, trivial⟩ (by (exact Ent.auto)) ?_
  rintro k ⟨hk, hS⟩
  by_cases hlt : k < v.length
  · obtain ⟨r5, rb, ra⟩ := hs.row hlt
    have hr := hm.rows _ (row_mem hlt)
    have hrl := hr.len
    have hstep := prodM_step (m := matL v) (k := k) (by rw [matL_len]; exact hlt)
    rw [matL_at hlt] at hstep
    generalize hrow : (v.getD k default) = row at r5 rb ra hr hstep hrl
    obtain ⟨Ar, cr, l⟩ := row
    dsimp only at r5 rb ra hr hstep hrl
    have hrv : rowV (v.getD k default) = .slice Ar l.length cr := by rw [hrow]; rfl
    repeat' first
      | ((with_reducible refine Nx.is_wp ?_); first | refine Nx.wo ?_ | refine Nx.p_dec rfl rfl (fun hc => ?_) (fun hc => ?_) | refine Nx.p_bool rfl rfl (fun hc => ?_) (fun hc => ?_))
      | ((first | refine Nx.at_op rfl rfl ?_ | refine Nx.m_loud rfl rfl rfl ?_ | refine Nx.at_do rfl rfl rfl rfl ?_ | refine Nx.m_loud_do rfl rfl rfl rfl rfl ?_); first | refine Nx.opr rfl rfl ?_ | refine Nx.indexAddr_nat rfl rfl rfl rfl rfl (by omega) (hm.outer.isSome (by omega)) ?_ | (refine Nx.load rfl rfl rfl (hm.outer.rd (k := k) (by omega)) ?_; rw [hrv]) | refine Nx.so ?_ | refine Nx.sb (fun bx => ?_) | refine Nx.sa (fun A2 c2 => ?_))
      | ((with_reducible refine Nx.is_at ?_); first | refine Nx.a ?_ | ((fail_if_success refine Nx.at_do rfl rfl rfl rfl ?_); first | refine Nx.at_dec_t rfl rfl rfl rfl (by first | assumption | omega) ?_ | refine Nx.at_dec_f rfl rfl rfl rfl (by first | assumption | omega) ?_ | refine Nx.at_split rfl rfl rfl rfl (fun hc => ?_) (fun hc => ?_) | refine Nx.at_splitb rfl rfl rfl rfl (fun hc => ?_) (fun hc => ?_)))
      | ((with_reducible refine Nx.is_mix ?_); first | refine Nx.m ?_ | ((fail_if_success refine Nx.m_quiet_do rfl rfl rfl rfl rfl rfl rfl ?_ ?_); (fail_if_success refine Nx.m_loud_do rfl rfl rfl rfl rfl ?_); first | refine Nx.m_dec_t rfl rfl rfl rfl (by first | assumption | omega) ?_ | refine Nx.m_dec_f rfl rfl rfl rfl (by first | assumption | omega) ?_ | refine Nx.m_split rfl rfl rfl rfl (fun hc => ?_) (fun hc => ?_) | refine Nx.m_splitb rfl rfl rfl rfl (fun hc => ?_) (fun hc => ?_)))
      | ((fail_if_success (with_reducible refine Nx.is_at ?_)); (fail_if_success (with_reducible refine Nx.is_wp ?_)); (fail_if_success (with_reducible refine Nx.is_mix ?_)); first | refine Nx.ex ?_)
    refine Nx.p_loop (σ := Nat) (fun j => [(3, .pointer (some ⟨b3, 0, none⟩)), (16, .slice A v.length c), (17, .int .i64 v.length), (18, .int .i64 (k : Int)), (6, .int .i64 ((absS (l.take j) : Nat) : Int)), (22, .slice Ar l.length cr), (23, .int .i64 l.length), (24, .int .i64 (j : Int))])
      (fun _ => [Blk b3 58 [.int .u64 ((prodM ((matL v).take k) / 18446744073709551616 : Nat) : Int), .int .u64 ((prodM ((matL v).take k) % 18446744073709551616 : Nat) : Int)], F]) (fun j => j ≤ l.length) (fun j => l.length - j) 0 rfl (Nat.zero_le _) ⟨rfl, rfl, rfl, rfl, rfl, rfl, rfl, rfl, trivial⟩ (by (exact Ent.auto)) ?_
    intro j hj
    by_cases hjl : j < l.length
    · have hxb := rb (l.getD j default) (by rw [List.getD_eq_getElem?_getD, List.getElem?_eq_getElem hjl]; exact List.getElem_mem _)
      have h1 := absS_step hjl
      have h2 := absS_take l (j + 1)
      rw [show l.getD j 0 = l.getD j default from rfl] at h1
      generalize hx9 : l.getD j default = x at hxb h1
      have hmx := max_abs x
      repeat' first
        | ((with_reducible refine Nx.is_wp ?_); first | refine Nx.wo ?_ | refine Nx.p_dec rfl rfl (fun hc => ?_) (fun hc => ?_) | refine Nx.p_bool rfl rfl (fun hc => ?_) (fun hc => ?_))
        | ((first | refine Nx.at_op rfl rfl ?_ | refine Nx.m_loud rfl rfl rfl ?_ | refine Nx.at_do rfl rfl rfl rfl ?_ | refine Nx.m_loud_do rfl rfl rfl rfl rfl ?_); first | refine Nx.opr rfl rfl ?_ | refine Nx.indexAddr_nat rfl rfl rfl rfl rfl (by omega) (hr.isSome (by omega)) ?_ | (refine Nx.load rfl rfl rfl (hr.rd (k := j) (by omega)) ?_; rw [hx9]) | refine Nx.so ?_ | refine Nx.sb (fun bx => ?_) | refine Nx.sa (fun A2 c2 => ?_))
        | ((with_reducible refine Nx.is_at ?_); first | refine Nx.a ?_ | ((fail_if_success refine Nx.at_do rfl rfl rfl rfl ?_); first | refine Nx.at_dec_t rfl rfl rfl rfl (by first | assumption | omega) ?_ | refine Nx.at_dec_f rfl rfl rfl rfl (by first | assumption | omega) ?_ | refine Nx.at_split rfl rfl rfl rfl (fun hc => ?_) (fun hc => ?_) | refine Nx.at_splitb rfl rfl rfl rfl (fun hc => ?_) (fun hc => ?_)))
        | ((with_reducible refine Nx.is_mix ?_); first | refine Nx.m ?_ | ((fail_if_success refine Nx.m_quiet_do rfl rfl rfl rfl rfl rfl rfl ?_ ?_); (fail_if_success refine Nx.m_loud_do rfl rfl rfl rfl rfl ?_); first | refine Nx.m_dec_t rfl rfl rfl rfl (by first | assumption | omega) ?_ | refine Nx.m_dec_f rfl rfl rfl rfl (by first | assumption | omega) ?_ | refine Nx.m_split rfl rfl rfl rfl (fun hc => ?_) (fun hc => ?_) | refine Nx.m_splitb rfl rfl rfl rfl (fun hc => ?_) (fun hc => ?_)))
        | ((fail_if_success (with_reducible refine Nx.is_at ?_)); (fail_if_success (with_reducible refine Nx.is_wp ?_)); (fail_if_success (with_reducible refine Nx.is_mix ?_)); first | refine Nx.ex ?_)
      exact Nx.again (j + 1) hjl (by omega) ⟨rfl, rfl, rfl, rfl, by rw [h1, hmx, Int.natCast_add]; rfl, rfl, rfl, rfl, trivial⟩ (by (exact Ent.auto))
    obtain rfl : j = l.length := by omega
    rw [List.take_length]
    obtain ⟨hL1, hL2⟩ := large_step (prodM ((matL v).take k)) (max 1 (absS l))
    rw [← hstep] at hL1 hL2
    have htk := prodM_take (matL v) (k + 1)
    have hconv : max ((absS l : Nat) : Int) 1 % B64 = ((max 1 (absS l) : Nat) : Int) := by unfold B64; omega
    generalize hN : max 1 (absS l) = n at hL1 hL2 hconv
    have hn9 : n ≤ 10737418240 := by omega
    generalize hSS : prodM ((matL v).take k) = S at hS hL1 hL2
    have hS : S ≤ T120 := hS
    unfold T120 at hS
    have ha : S / 18446744073709551616 * n ≤ 72057594037927936 * 10737418240 := Nat.mul_le_mul (by omega) hn9
    have hb : S % 18446744073709551616 * n ≤ 18446744073709551615 * 10737418240 := Nat.mul_le_mul (by omega) hn9
    have hB : (((S / 18446744073709551616 * n / 18446744073709551616 : Nat) : Int) + (((S / 18446744073709551616 * n % 18446744073709551616 + S % 18446744073709551616 * n / 18446744073709551616 + 0) / 18446744073709551616 : Nat) : Int)) % B64 = ((S / 18446744073709551616 * n / 18446744073709551616 + (S / 18446744073709551616 * n % 18446744073709551616 + S % 18446744073709551616 * n / 18446744073709551616 + 0) / 18446744073709551616 : Nat) : Int) := by unfold B64; omega
    by_cases hbig : T120 < prodM ((matL v).take (k + 1))
    · rw [decide_eq_true (Nat.lt_of_lt_of_le hbig htk)]
      have h3 := hL1.1 hbig
      clear hL1 hL2
      repeat' first
        | ((with_reducible refine Nx.is_wp ?_); first | refine Nx.wo ?_ | refine Nx.p_dec rfl rfl (fun hc => ?_) (fun hc => ?_) | refine Nx.p_bool rfl rfl (fun hc => ?_) (fun hc => ?_))
        | ((first | refine Nx.at_op rfl rfl ?_ | refine Nx.m_loud rfl rfl rfl ?_ | refine Nx.at_do rfl rfl rfl rfl ?_ | refine Nx.m_loud_do rfl rfl rfl rfl rfl ?_); first | refine Nx.opr rfl rfl ?_ | (refine Nx.conv_u64 rfl rfl rfl rfl ?_; rw [hconv]) | (refine Nx.call (Rpre := []) rfl rfl rfl (by kernel_rfl) rfl (mul64_spec _ _ (by omega) (by omega) I) (Ent.refl _) ?_; rintro _ _ ⟨rfl, rfl⟩) | refine Nx.call_run rfl rfl rfl rfl (add64_run _ _ 0 (by omega)) ?_ | (refine Nx.bin rfl rfl run_addU rfl ?_; rw [hB]) | refine Nx.so ?_ | refine Nx.sb (fun bx => ?_) | refine Nx.sa (fun A2 c2 => ?_))
        | ((with_reducible refine Nx.is_at ?_); first | refine Nx.a ?_ | ((fail_if_success refine Nx.at_do rfl rfl rfl rfl ?_); first | refine Nx.at_dec_t rfl rfl rfl rfl (by first | assumption | omega) ?_ | refine Nx.at_dec_f rfl rfl rfl rfl (by first | assumption | omega) ?_ | refine Nx.at_split rfl rfl rfl rfl (fun hc => ?_) (fun hc => ?_) | refine Nx.at_splitb rfl rfl rfl rfl (fun hc => ?_) (fun hc => ?_)))
        | ((with_reducible refine Nx.is_mix ?_); first | refine Nx.m ?_ | ((fail_if_success refine Nx.m_quiet_do rfl rfl rfl rfl rfl rfl rfl ?_ ?_); (fail_if_success refine Nx.m_loud_do rfl rfl rfl rfl rfl ?_); first | refine Nx.m_dec_t rfl rfl rfl rfl (by first | assumption | omega) ?_ | refine Nx.m_dec_f rfl rfl rfl rfl (by first | assumption | omega) ?_ | refine Nx.m_split rfl rfl rfl rfl (fun hc => ?_) (fun hc => ?_) | refine Nx.m_splitb rfl rfl rfl rfl (fun hc => ?_) (fun hc => ?_)))
        | ((fail_if_success (with_reducible refine Nx.is_at ?_)); (fail_if_success (with_reducible refine Nx.is_wp ?_)); (fail_if_success (with_reducible refine Nx.is_mix ?_)); first | refine Nx.ex ?_)
      all_goals first
        | exact Nx.ret_fn rfl [] ⟨rfl, rfl⟩ (by (exact Ent.auto))
        | (exfalso; omega)
    · have h3 : ¬ _ := fun h => hbig (hL1.2 h)
      have h4 := hL2 (by omega)
      clear hL1 hL2
      repeat' first
        | ((with_reducible refine Nx.is_wp ?_); first | refine Nx.wo ?_ | refine Nx.p_dec rfl rfl (fun hc => ?_) (fun hc => ?_) | refine Nx.p_bool rfl rfl (fun hc => ?_) (fun hc => ?_))
        | ((first | refine Nx.at_op rfl rfl ?_ | refine Nx.m_loud rfl rfl rfl ?_ | refine Nx.at_do rfl rfl rfl rfl ?_ | refine Nx.m_loud_do rfl rfl rfl rfl rfl ?_); first | refine Nx.opr rfl rfl ?_ | (refine Nx.conv_u64 rfl rfl rfl rfl ?_; rw [hconv]) | (refine Nx.call (Rpre := []) rfl rfl rfl (by kernel_rfl) rfl (mul64_spec _ _ (by omega) (by omega) I) (Ent.refl _) ?_; rintro _ _ ⟨rfl, rfl⟩) | refine Nx.call_run rfl rfl rfl rfl (add64_run _ _ 0 (by omega)) ?_ | (refine Nx.bin rfl rfl run_addU rfl ?_; rw [hB]) | refine Nx.so ?_ | refine Nx.sb (fun bx => ?_) | refine Nx.sa (fun A2 c2 => ?_))
        | ((with_reducible refine Nx.is_at ?_); first | refine Nx.a ?_ | ((fail_if_success refine Nx.at_do rfl rfl rfl rfl ?_); first | refine Nx.at_dec_t rfl rfl rfl rfl (by first | assumption | omega) ?_ | refine Nx.at_dec_f rfl rfl rfl rfl (by first | assumption | omega) ?_ | refine Nx.at_split rfl rfl rfl rfl (fun hc => ?_) (fun hc => ?_) | refine Nx.at_splitb rfl rfl rfl rfl (fun hc => ?_) (fun hc => ?_)))
        | ((with_reducible refine Nx.is_mix ?_); first | refine Nx.m ?_ | ((fail_if_success refine Nx.m_quiet_do rfl rfl rfl rfl rfl rfl rfl ?_ ?_); (fail_if_success refine Nx.m_loud_do rfl rfl rfl rfl rfl ?_); first | refine Nx.m_dec_t rfl rfl rfl rfl (by first | assumption | omega) ?_ | refine Nx.m_dec_f rfl rfl rfl rfl (by first | assumption | omega) ?_ | refine Nx.m_split rfl rfl rfl rfl (fun hc => ?_) (fun hc => ?_) | refine Nx.m_splitb rfl rfl rfl rfl (fun hc => ?_) (fun hc => ?_)))
        | ((fail_if_success (with_reducible refine Nx.is_at ?_)); (fail_if_success (with_reducible refine Nx.is_wp ?_)); (fail_if_success (with_reducible refine Nx.is_mix ?_)); first | refine Nx.ex ?_)
      all_goals first
        | (exfalso; omega)
        | exact Nx.again (k + 1) ⟨hlt, by omega⟩ (by omega) ⟨rfl, rfl, rfl, rfl, trivial⟩ (by rw [← h4.1, ← h4.2]; (exact Ent.auto))
  · obtain rfl : k = v.length := by omega
    have hno : ¬ T120 < prodM (matL v) := by
      have : (matL v).take v.length = matL v := by rw [← matL_len v, List.take_length]
      rw [this] at hS; omega
    rw [decide_eq_false hno]
    repeat' first
      | ((with_reducible refine Nx.is_wp ?_); first | refine Nx.wo ?_ | refine Nx.p_dec rfl rfl (fun hc => ?_) (fun hc => ?_) | refine Nx.p_bool rfl rfl (fun hc => ?_) (fun hc => ?_))
      | ((first | refine Nx.at_op rfl rfl ?_ | refine Nx.m_loud rfl rfl rfl ?_ | refine Nx.at_do rfl rfl rfl rfl ?_ | refine Nx.m_loud_do rfl rfl rfl rfl rfl ?_); first | refine Nx.opr rfl rfl ?_ | refine Nx.so ?_ | refine Nx.sb (fun bx => ?_) | refine Nx.sa (fun A2 c2 => ?_))
      | ((with_reducible refine Nx.is_at ?_); first | refine Nx.a ?_ | ((fail_if_success refine Nx.at_do rfl rfl rfl rfl ?_); first | refine Nx.at_dec_t rfl rfl rfl rfl (by first | assumption | omega) ?_ | refine Nx.at_dec_f rfl rfl rfl rfl (by first | assumption | omega) ?_ | refine Nx.at_split rfl rfl rfl rfl (fun hc => ?_) (fun hc => ?_) | refine Nx.at_splitb rfl rfl rfl rfl (fun hc => ?_) (fun hc => ?_)))
      | ((with_reducible refine Nx.is_mix ?_); first | refine Nx.m ?_ | ((fail_if_success refine Nx.m_quiet_do rfl rfl rfl rfl rfl rfl rfl ?_ ?_); (fail_if_success refine Nx.m_loud_do rfl rfl rfl rfl rfl ?_); first | refine Nx.m_dec_t rfl rfl rfl rfl (by first | assumption | omega) ?_ | refine Nx.m_dec_f rfl rfl rfl rfl (by first | assumption | omega) ?_ | refine Nx.m_split rfl rfl rfl rfl (fun hc => ?_) (fun hc => ?_) | refine Nx.m_splitb rfl rfl rfl rfl (fun hc => ?_) (fun hc => ?_)))
      | ((fail_if_success (with_reducible refine Nx.is_at ?_)); (fail_if_success (with_reducible refine Nx.is_wp ?_)); (fail_if_success (with_reducible refine Nx.is_mix ?_)); first | refine Nx.ex ?_)
    exact Nx.ret_fn rfl [] ⟨rfl, rfl⟩ (by (exact Ent.auto))
end Go.Proofs.YtpdgnjoideppjaaDoor
/- Contracts of functions of the given program, and lemmas about plain lists and numbers: what the laws of this seat lean on. -/
namespace Go.Proofs.YtpdgnjoideppjaaDoor
open Go.Eng
attribute [local irreducible] opK wpList Code.wp Exit.then Exit.inBlock fnPost bodyPost Nx Calls Oper.wp Rd Rds Wr Ent Stars Blk Again Vec FnSpec wpMix QRun Stop Upto wpAt
/-! The first error of a matrix -/
def lenB (m : List (List Int)) : Bool := m.all fun r => decide (r.length = m.length)
def rngB (m : List (List Int)) : Bool := m.all fun r => r.all fun x => decide (-2147483648 ≤ x ∧ x ≤ 2147483648)
def chkE (m : List (List Int)) : Int := if m.length = 0 then 18 else if 5 < m.length then 1 else if lenB m = false then 17 else if rngB m = false then 2 else if T120 < prodM m then 14 else 0
theorem lenB_t {v : List Row} (h : ∀ k, k < v.length → (v.getD k default).2.2.length = v.length) : lenB (matL v) = true := by
  refine List.all_eq_true.2 fun r hr => ?_
  obtain ⟨x, hx, rfl⟩ := List.mem_map.1 hr
  obtain ⟨k, hk, rfl⟩ := List.mem_iff_getElem.1 hx
  have := h k hk
  rw [List.getD_eq_getElem?_getD, List.getElem?_eq_getElem hk] at this
  rw [matL_len]
  exact decide_eq_true this
theorem lenB_f {v : List Row} {k : Nat} (hk : k < v.length) (h : (v.getD k default).2.2.length ≠ v.length) : lenB (matL v) = false := by
  cases hb : lenB (matL v) with
  | false => rfl
  | true =>
    have := of_decide_eq_true (List.all_eq_true.1 hb (v.getD k default).2.2 (List.mem_map.2 ⟨_, row_mem hk, rfl⟩))
    rw [matL_len] at this
    exact absurd this h
theorem rngB_t {v : List Row} (h : ∀ k, k < v.length → ∀ x ∈ (v.getD k default).2.2, -2147483648 ≤ x ∧ x ≤ 2147483648) : rngB (matL v) = true := by
  refine List.all_eq_true.2 fun r hr => List.all_eq_true.2 fun y hy => ?_
  obtain ⟨x, hx, rfl⟩ := List.mem_map.1 hr
  obtain ⟨k, hk, rfl⟩ := List.mem_iff_getElem.1 hx
  refine decide_eq_true (h k hk y ?_)
  rw [List.getD_eq_getElem?_getD, List.getElem?_eq_getElem hk]
  exact hy
theorem rngB_f {v : List Row} {k : Nat} {x : Int} (hk : k < v.length) (hx : x ∈ (v.getD k default).2.2) (h : ¬ (-2147483648 ≤ x ∧ x ≤ 2147483648)) : rngB (matL v) = false := by
  cases hb : rngB (matL v) with
  | false => rfl
  | true => exact absurd (of_decide_eq_true (List.all_eq_true.1 (List.all_eq_true.1 hb (v.getD k default).2.2 (List.mem_map.2 ⟨_, row_mem hk, rfl⟩)) x hx)) h
/-- What a right matrix is. -/
structure Fit (m : List (List Int)) : Prop where
  pos : 0 < m.length
  few : m.length ≤ 5
  len : ∀ r ∈ m, r.length = m.length
  rng : ∀ r ∈ m, ∀ x ∈ r, -2147483648 ≤ x ∧ x ≤ 2147483648
  prod : prodM m ≤ T120
theorem chk_ok {m : List (List Int)} : chkE m = 0 ↔ Fit m := by
  unfold chkE
  constructor
  · intro h
    split at h
    · omega
    · split at h
      · omega
      · split at h
        · omega
        · split at h
          · omega
          · split at h
            · omega
            · rename_i h1 h2 h3 h4 h5
              have e1 : lenB m = true := by cases hb : lenB m with | true => rfl | false => exact absurd hb h3
              have e2 : rngB m = true := by cases hb : rngB m with | true => rfl | false => exact absurd hb h4
              exact ⟨by omega, by omega, fun r hr => of_decide_eq_true (List.all_eq_true.1 e1 r hr), fun r hr x hx => of_decide_eq_true (List.all_eq_true.1 (List.all_eq_true.1 e2 r hr) x hx), by omega⟩
  · rintro ⟨h1, h2, h3, h4, h5⟩
    have e1 : lenB m = true := List.all_eq_true.2 fun r hr => decide_eq_true (h3 r hr)
    have e2 : rngB m = true := List.all_eq_true.2 fun r hr => List.all_eq_true.2 fun x hx => decide_eq_true (h4 r hr x hx)
    rw [if_neg (by omega), if_neg (by omega), if_neg (by rw [e1]; decide), if_neg (by rw [e2]; decide), if_neg (by omega)]
theorem Fit.small {m : List (List Int)} (h : Fit m) : Small m := fun r hr => ⟨by rw [h.len r hr]; exact h.few, h.rng r hr⟩
theorem take_all {α : Type} [Inhabited α] {l : List α} {p : α → Prop} {j : Nat} (h : ∀ x ∈ l.take j, p x) (hj : j < l.length) (hp : p (l.getD j default)) : ∀ x ∈ l.take (j + 1), p x := fun x hx => by
  rw [List.take_succ_eq_append_getElem hj] at hx
  rcases List.mem_append.1 hx with h1 | h1
  · exact h x h1
  · obtain rfl := List.mem_singleton.1 h1
    rw [List.getD_eq_getElem?_getD, List.getElem?_eq_getElem hj] at hp
    exact hp
set_option maxRecDepth 10000 in
set_option maxHeartbeats 4000000 in
theorem Check_spec (A : Option Addr) (c : Nat) (v : List Row) (I : PH) (hm : Mat I A c v) :
    FnSpec Tryd.prog 15 [.slice A v.length c] I [] (fun u R' => u = .int .i64 (chkE (matL v)) ∧ R' = []) := by
  have hlen := hm.outer.len
  have hml := matL_len v
  refine FnSpec.enterP Tryd.func15 rfl Tryd.ntmps15 rfl fun w F => ?_
  by_cases c1 : v.length = 0
  · have hE : chkE (matL v) = 18 := if_pos (by omega)
    rw [hE]
    repeat' first
      | ((with_reducible refine Nx.is_wp ?_); first | refine Nx.wo ?_ | refine Nx.p_dec rfl rfl (fun hc => ?_) (fun hc => ?_) | refine Nx.p_bool rfl rfl (fun hc => ?_) (fun hc => ?_))
      | ((first | refine Nx.at_op rfl rfl ?_ | refine Nx.m_loud rfl rfl rfl ?_ | refine Nx.at_do rfl rfl rfl rfl ?_ | refine Nx.m_loud_do rfl rfl rfl rfl rfl ?_); first | refine Nx.opr rfl rfl ?_ | refine Nx.so ?_ | refine Nx.sb (fun bx => ?_) | refine Nx.sa (fun A2 c2 => ?_))
      | ((with_reducible refine Nx.is_at ?_); first | refine Nx.a ?_ | ((fail_if_success refine Nx.at_do rfl rfl rfl rfl ?_); first | refine Nx.at_dec_t rfl rfl rfl rfl (by first | assumption | omega) ?_ | refine Nx.at_dec_f rfl rfl rfl rfl (by first | assumption | omega) ?_ | refine Nx.at_split rfl rfl rfl rfl (fun hc => ?_) (fun hc => ?_) | refine Nx.at_splitb rfl rfl rfl rfl (fun hc => ?_) (fun hc => ?_)))
      | ((with_reducible refine Nx.is_mix ?_); first | refine Nx.m ?_ | ((fail_if_success refine Nx.m_quiet_do rfl rfl rfl rfl rfl rfl rfl ?_ ?_); (fail_if_success refine Nx.m_loud_do rfl rfl rfl rfl rfl ?_); first | refine Nx.m_dec_t rfl rfl rfl rfl (by first | assumption | omega) ?_ | refine Nx.m_dec_f rfl rfl rfl rfl (by first | assumption | omega) ?_ | refine Nx.m_split rfl rfl rfl rfl (fun hc => ?_) (fun hc => ?_) | refine Nx.m_splitb rfl rfl rfl rfl (fun hc => ?_) (fun hc => ?_)))
      | ((fail_if_success (with_reducible refine Nx.is_at ?_)); (fail_if_success (with_reducible refine Nx.is_wp ?_)); (fail_if_success (with_reducible refine Nx.is_mix ?_)); first | refine Nx.ex ?_)
    exact Nx.ret_fn rfl [] ⟨rfl, rfl⟩ (by (exact Ent.auto))
  by_cases c2 : 5 < v.length
  · have hE : chkE (matL v) = 1 := by unfold chkE; rw [if_neg (by omega), if_pos (by omega)]
    rw [hE]
    repeat' first
      | ((with_reducible refine Nx.is_wp ?_); first | refine Nx.wo ?_ | refine Nx.p_dec rfl rfl (fun hc => ?_) (fun hc => ?_) | refine Nx.p_bool rfl rfl (fun hc => ?_) (fun hc => ?_))
      | ((first | refine Nx.at_op rfl rfl ?_ | refine Nx.m_loud rfl rfl rfl ?_ | refine Nx.at_do rfl rfl rfl rfl ?_ | refine Nx.m_loud_do rfl rfl rfl rfl rfl ?_); first | refine Nx.opr rfl rfl ?_ | refine Nx.so ?_ | refine Nx.sb (fun bx => ?_) | refine Nx.sa (fun A2 c2 => ?_))
      | ((with_reducible refine Nx.is_at ?_); first | refine Nx.a ?_ | ((fail_if_success refine Nx.at_do rfl rfl rfl rfl ?_); first | refine Nx.at_dec_t rfl rfl rfl rfl (by first | assumption | omega) ?_ | refine Nx.at_dec_f rfl rfl rfl rfl (by first | assumption | omega) ?_ | refine Nx.at_split rfl rfl rfl rfl (fun hc => ?_) (fun hc => ?_) | refine Nx.at_splitb rfl rfl rfl rfl (fun hc => ?_) (fun hc => ?_)))
      | ((with_reducible refine Nx.is_mix ?_); first | refine Nx.m ?_ | ((fail_if_success refine Nx.m_quiet_do rfl rfl rfl rfl rfl rfl rfl ?_ ?_); (fail_if_success refine Nx.m_loud_do rfl rfl rfl rfl rfl ?_); first | refine Nx.m_dec_t rfl rfl rfl rfl (by first | assumption | omega) ?_ | refine Nx.m_dec_f rfl rfl rfl rfl (by first | assumption | omega) ?_ | refine Nx.m_split rfl rfl rfl rfl (fun hc => ?_) (fun hc => ?_) | refine Nx.m_splitb rfl rfl rfl rfl (fun hc => ?_) (fun hc => ?_)))
      | ((fail_if_success (with_reducible refine Nx.is_at ?_)); (fail_if_success (with_reducible refine Nx.is_wp ?_)); (fail_if_success (with_reducible refine Nx.is_mix ?_)); first | refine Nx.ex ?_)
    exact Nx.ret_fn rfl [] ⟨rfl, rfl⟩ (by (exact Ent.auto))
  have hE0 : chkE (matL v) = if lenB (matL v) = false then 17 else if rngB (matL v) = false then 2 else if T120 < prodM (matL v) then 14 else 0 := by unfold chkE; rw [if_neg (by omega), if_neg (by omega)]
  repeat' first
    | ((with_reducible refine Nx.is_wp ?_); first | refine Nx.wo ?_ | refine Nx.p_dec rfl rfl (fun hc => ?_) (fun hc => ?_) | refine Nx.p_bool rfl rfl (fun hc => ?_) (fun hc => ?_))
    | ((first | refine Nx.at_op rfl rfl ?_ | refine Nx.m_loud rfl rfl rfl ?_ | refine Nx.at_do rfl rfl rfl rfl ?_ | refine Nx.m_loud_do rfl rfl rfl rfl rfl ?_); first | refine Nx.opr rfl rfl ?_ | refine Nx.so ?_ | refine Nx.sb (fun bx => ?_) | refine Nx.sa (fun A2 c2 => ?_))
    | ((with_reducible refine Nx.is_at ?_); first | refine Nx.a ?_ | ((fail_if_success refine Nx.at_do rfl rfl rfl rfl ?_); first | refine Nx.at_dec_t rfl rfl rfl rfl (by first | assumption | omega) ?_ | refine Nx.at_dec_f rfl rfl rfl rfl (by first | assumption | omega) ?_ | refine Nx.at_split rfl rfl rfl rfl (fun hc => ?_) (fun hc => ?_) | refine Nx.at_splitb rfl rfl rfl rfl (fun hc => ?_) (fun hc => ?_)))
    | ((with_reducible refine Nx.is_mix ?_); first | refine Nx.m ?_ | ((fail_if_success refine Nx.m_quiet_do rfl rfl rfl rfl rfl rfl rfl ?_ ?_); (fail_if_success refine Nx.m_loud_do rfl rfl rfl rfl rfl ?_); first | refine Nx.m_dec_t rfl rfl rfl rfl (by first | assumption | omega) ?_ | refine Nx.m_dec_f rfl rfl rfl rfl (by first | assumption | omega) ?_ | refine Nx.m_split rfl rfl rfl rfl (fun hc => ?_) (fun hc => ?_) | refine Nx.m_splitb rfl rfl rfl rfl (fun hc => ?_) (fun hc => ?_)))
    | ((fail_if_success (with_reducible refine Nx.is_at ?_)); (fail_if_success (with_reducible refine Nx.is_wp ?_)); (fail_if_success (with_reducible refine Nx.is_mix ?_)); first | refine Nx.ex ?_)
  refine Nx.p_loop (σ := Nat) (fun k => [(0, .slice A v.length c), (17, .slice A v.length c), (18, .int .i64 v.length), (19, .int .i64 (k : Int))])
    (fun _ => [F]) (fun k => k ≤ v.length ∧ ∀ i, i < k → (v.getD i default).2.2.length = v.length) (fun k => v.length - k) 0 rfl ⟨Nat.zero_le _, fun i hi => absurd hi (Nat.not_lt_zero _)⟩ ⟨rfl, rfl, rfl, rfl, trivial⟩ (by (exact Ent.auto)) ?_
  rintro k ⟨hk, hall⟩
  by_cases hlt : k < v.length
  · have hrv : rowV (v.getD k default) = .slice (v.getD k default).1 (v.getD k default).2.2.length (v.getD k default).2.1 := rfl
    by_cases hr : (v.getD k default).2.2.length = v.length
    · repeat' first
        | ((with_reducible refine Nx.is_wp ?_); first | refine Nx.wo ?_ | refine Nx.p_dec rfl rfl (fun hc => ?_) (fun hc => ?_) | refine Nx.p_bool rfl rfl (fun hc => ?_) (fun hc => ?_))
        | ((first | refine Nx.at_op rfl rfl ?_ | refine Nx.m_loud rfl rfl rfl ?_ | refine Nx.at_do rfl rfl rfl rfl ?_ | refine Nx.m_loud_do rfl rfl rfl rfl rfl ?_); first | refine Nx.opr rfl rfl ?_ | refine Nx.indexAddr_nat rfl rfl rfl rfl rfl (by omega) (hm.outer.isSome (by omega)) ?_ | (refine Nx.load rfl rfl rfl (hm.outer.rd (k := k) (by omega)) ?_; rw [hrv]) | refine Nx.so ?_ | refine Nx.sb (fun bx => ?_) | refine Nx.sa (fun A2 c2 => ?_))
        | ((with_reducible refine Nx.is_at ?_); first | refine Nx.a ?_ | ((fail_if_success refine Nx.at_do rfl rfl rfl rfl ?_); first | refine Nx.at_dec_t rfl rfl rfl rfl (by first | assumption | omega) ?_ | refine Nx.at_dec_f rfl rfl rfl rfl (by first | assumption | omega) ?_ | refine Nx.at_split rfl rfl rfl rfl (fun hc => ?_) (fun hc => ?_) | refine Nx.at_splitb rfl rfl rfl rfl (fun hc => ?_) (fun hc => ?_)))
        | ((with_reducible refine Nx.is_mix ?_); first | refine Nx.m ?_ | ((fail_if_success refine Nx.m_quiet_do rfl rfl rfl rfl rfl rfl rfl ?_ ?_); (fail_if_success refine Nx.m_loud_do rfl rfl rfl rfl rfl ?_); first | refine Nx.m_dec_t rfl rfl rfl rfl (by first | assumption | omega) ?_ | refine Nx.m_dec_f rfl rfl rfl rfl (by first | assumption | omega) ?_ | refine Nx.m_split rfl rfl rfl rfl (fun hc => ?_) (fun hc => ?_) | refine Nx.m_splitb rfl rfl rfl rfl (fun hc => ?_) (fun hc => ?_)))
        | ((fail_if_success (with_reducible refine Nx.is_at ?_)); (fail_if_success (with_reducible refine Nx.is_wp ?_)); (fail_if_success (with_reducible refine Nx.is_mix ?_)); first | refine Nx.ex ?_)
      exact Nx.again (k + 1) ⟨hlt, fun i hi => by
        by_cases hik : i = k
        · rw [hik]; exact hr
        · exact hall i (by omega)⟩ (by omega) ⟨rfl, rfl, rfl, rfl, trivial⟩ (by (exact Ent.auto))
    · have hE : chkE (matL v) = 17 := by rw [hE0, if_pos (lenB_f hlt hr)]
      rw [hE]
      repeat' first
        | ((with_reducible refine Nx.is_wp ?_); first | refine Nx.wo ?_ | refine Nx.p_dec rfl rfl (fun hc => ?_) (fun hc => ?_) | refine Nx.p_bool rfl rfl (fun hc => ?_) (fun hc => ?_))
        | ((first | refine Nx.at_op rfl rfl ?_ | refine Nx.m_loud rfl rfl rfl ?_ | refine Nx.at_do rfl rfl rfl rfl ?_ | refine Nx.m_loud_do rfl rfl rfl rfl rfl ?_); first | refine Nx.opr rfl rfl ?_ | refine Nx.indexAddr_nat rfl rfl rfl rfl rfl (by omega) (hm.outer.isSome (by omega)) ?_ | (refine Nx.load rfl rfl rfl (hm.outer.rd (k := k) (by omega)) ?_; rw [hrv]) | refine Nx.so ?_ | refine Nx.sb (fun bx => ?_) | refine Nx.sa (fun A2 c2 => ?_))
        | ((with_reducible refine Nx.is_at ?_); first | refine Nx.a ?_ | ((fail_if_success refine Nx.at_do rfl rfl rfl rfl ?_); first | refine Nx.at_dec_t rfl rfl rfl rfl (by first | assumption | omega) ?_ | refine Nx.at_dec_f rfl rfl rfl rfl (by first | assumption | omega) ?_ | refine Nx.at_split rfl rfl rfl rfl (fun hc => ?_) (fun hc => ?_) | refine Nx.at_splitb rfl rfl rfl rfl (fun hc => ?_) (fun hc => ?_)))
        | ((with_reducible refine Nx.is_mix ?_); first | refine Nx.m ?_ | ((fail_if_success refine Nx.m_quiet_do rfl rfl rfl rfl rfl rfl rfl ?_ ?_); (fail_if_success refine Nx.m_loud_do rfl rfl rfl rfl rfl ?_); first | refine Nx.m_dec_t rfl rfl rfl rfl (by first | assumption | omega) ?_ | refine Nx.m_dec_f rfl rfl rfl rfl (by first | assumption | omega) ?_ | refine Nx.m_split rfl rfl rfl rfl (fun hc => ?_) (fun hc => ?_) | refine Nx.m_splitb rfl rfl rfl rfl (fun hc => ?_) (fun hc => ?_)))
        | ((fail_if_success (with_reducible refine Nx.is_at ?_)); (fail_if_success (with_reducible refine Nx.is_wp ?_)); (fail_if_success (with_reducible refine Nx.is_mix ?_)); first | refine Nx.ex ?_)
      exact Nx.ret_fn rfl [] ⟨rfl, rfl⟩ (by (exact Ent.auto))
  obtain rfl : k = v.length := by omega
  rw [if_neg (by rw [lenB_t hall]; decide)] at hE0
  repeat' first
    | ((with_reducible refine Nx.is_wp ?_); first | refine Nx.wo ?_ | refine Nx.p_dec rfl rfl (fun hc => ?_) (fun hc => ?_) | refine Nx.p_bool rfl rfl (fun hc => ?_) (fun hc => ?_))
    | ((first | refine Nx.at_op rfl rfl ?_ | refine Nx.m_loud rfl rfl rfl ?_ | refine Nx.at_do rfl rfl rfl rfl ?_ | refine Nx.m_loud_do rfl rfl rfl rfl rfl ?_); first | refine Nx.opr rfl rfl ?_ | refine Nx.so ?_ | refine Nx.sb (fun bx => ?_) | refine Nx.sa (fun A2 c2 => ?_))
    | ((with_reducible refine Nx.is_at ?_); first | refine Nx.a ?_ | ((fail_if_success refine Nx.at_do rfl rfl rfl rfl ?_); first | refine Nx.at_dec_t rfl rfl rfl rfl (by first | assumption | omega) ?_ | refine Nx.at_dec_f rfl rfl rfl rfl (by first | assumption | omega) ?_ | refine Nx.at_split rfl rfl rfl rfl (fun hc => ?_) (fun hc => ?_) | refine Nx.at_splitb rfl rfl rfl rfl (fun hc => ?_) (fun hc => ?_)))
    | ((with_reducible refine Nx.is_mix ?_); first | refine Nx.m ?_ | ((fail_if_success refine Nx.m_quiet_do rfl rfl rfl rfl rfl rfl rfl ?_ ?_); (fail_if_success refine Nx.m_loud_do rfl rfl rfl rfl rfl ?_); first | refine Nx.m_dec_t rfl rfl rfl rfl (by first | assumption | omega) ?_ | refine Nx.m_dec_f rfl rfl rfl rfl (by first | assumption | omega) ?_ | refine Nx.m_split rfl rfl rfl rfl (fun hc => ?_) (fun hc => ?_) | refine Nx.m_splitb rfl rfl rfl rfl (fun hc => ?_) (fun hc => ?_)))
    | ((fail_if_success (with_reducible refine Nx.is_at ?_)); (fail_if_success (with_reducible refine Nx.is_wp ?_)); (fail_if_success (with_reducible refine Nx.is_mix ?_)); first | refine Nx.ex ?_)
  refine Nx.p_loop (σ := Nat) (fun k => [(0, .slice A v.length c), (29, .slice A v.length c), (30, .int .i64 v.length), (31, .int .i64 (k : Int))])
    (fun _ => [F]) (fun k => k ≤ v.length ∧ ∀ i, i < k → ∀ x ∈ (v.getD i default).2.2, -2147483648 ≤ x ∧ x ≤ 2147483648) (fun k => v.length - k) 0 rfl ⟨Nat.zero_le _, fun i hi => absurd hi (Nat.not_lt_zero _)⟩ ⟨rfl, rfl, rfl, rfl, trivial⟩ (by (exact Ent.auto)) ?_
  rintro k ⟨hk, hgood⟩
  by_cases hlt : k < v.length
  · have hrk := hall k hlt
    have hr := hm.rows _ (row_mem hlt)
    have hbad := fun x h1 h2 => rngB_f (v := v) (k := k) (x := x) hlt h1 h2
    generalize hrow : (v.getD k default) = row at hrk hr hbad
    obtain ⟨Ar, cr, l⟩ := row
    dsimp only at hrk hr hbad
    have hrl := hr.len
    have hrv : rowV (v.getD k default) = .slice Ar l.length cr := by rw [hrow]; rfl
    repeat' first
      | ((with_reducible refine Nx.is_wp ?_); first | refine Nx.wo ?_ | refine Nx.p_dec rfl rfl (fun hc => ?_) (fun hc => ?_) | refine Nx.p_bool rfl rfl (fun hc => ?_) (fun hc => ?_))
      | ((first | refine Nx.at_op rfl rfl ?_ | refine Nx.m_loud rfl rfl rfl ?_ | refine Nx.at_do rfl rfl rfl rfl ?_ | refine Nx.m_loud_do rfl rfl rfl rfl rfl ?_); first | refine Nx.opr rfl rfl ?_ | refine Nx.indexAddr_nat rfl rfl rfl rfl rfl (by omega) (hm.outer.isSome (by omega)) ?_ | (refine Nx.load rfl rfl rfl (hm.outer.rd (k := k) (by omega)) ?_; rw [hrv]) | refine Nx.so ?_ | refine Nx.sb (fun bx => ?_) | refine Nx.sa (fun A2 c2 => ?_))
      | ((with_reducible refine Nx.is_at ?_); first | refine Nx.a ?_ | ((fail_if_success refine Nx.at_do rfl rfl rfl rfl ?_); first | refine Nx.at_dec_t rfl rfl rfl rfl (by first | assumption | omega) ?_ | refine Nx.at_dec_f rfl rfl rfl rfl (by first | assumption | omega) ?_ | refine Nx.at_split rfl rfl rfl rfl (fun hc => ?_) (fun hc => ?_) | refine Nx.at_splitb rfl rfl rfl rfl (fun hc => ?_) (fun hc => ?_)))
      | ((with_reducible refine Nx.is_mix ?_); first | refine Nx.m ?_ | ((fail_if_success refine Nx.m_quiet_do rfl rfl rfl rfl rfl rfl rfl ?_ ?_); (fail_if_success refine Nx.m_loud_do rfl rfl rfl rfl rfl ?_); first | refine Nx.m_dec_t rfl rfl rfl rfl (by first | assumption | omega) ?_ | refine Nx.m_dec_f rfl rfl rfl rfl (by first | assumption | omega) ?_ | refine Nx.m_split rfl rfl rfl rfl (fun hc => ?_) (fun hc => ?_) | refine Nx.m_splitb rfl rfl rfl rfl (fun hc => ?_) (fun hc => ?_)))
      | ((fail_if_success (with_reducible refine Nx.is_at ?_)); (fail_if_success (with_reducible refine Nx.is_wp ?_)); (fail_if_success (with_reducible refine Nx.is_mix ?_)); first | refine Nx.ex ?_)
    refine Nx.p_loop (σ := Nat) (fun j => [(0, .slice A v.length c), (29, .slice A v.length c), (30, .int .i64 v.length), (31, .int .i64 (k : Int)), (35, .slice Ar l.length cr), (36, .int .i64 l.length), (37, .int .i64 (j : Int))])
      (fun _ => [F]) (fun j => j ≤ l.length ∧ ∀ x ∈ l.take j, -2147483648 ≤ x ∧ x ≤ 2147483648) (fun j => l.length - j) 0 rfl ⟨Nat.zero_le _, by simp⟩ ⟨rfl, rfl, rfl, rfl, rfl, rfl, rfl, trivial⟩ (by (exact Ent.auto)) ?_
    rintro j ⟨hj, hin⟩
    by_cases hjl : j < l.length
    · have hmem : l.getD j default ∈ l := by rw [List.getD_eq_getElem?_getD, List.getElem?_eq_getElem hjl]; exact List.getElem_mem _
      have hb := hbad _ hmem
      have hnext := fun h => take_all (p := fun x => -2147483648 ≤ x ∧ x ≤ 2147483648) hin hjl h
      generalize hx9 : l.getD j default = x at hb hnext
      by_cases g1 : x < -2147483648
      · have hE : chkE (matL v) = 2 := by rw [hE0, if_pos (hb (by omega))]
        rw [hE]
        repeat' first
          | ((with_reducible refine Nx.is_wp ?_); first | refine Nx.wo ?_ | refine Nx.p_dec rfl rfl (fun hc => ?_) (fun hc => ?_) | refine Nx.p_bool rfl rfl (fun hc => ?_) (fun hc => ?_))
          | ((first | refine Nx.at_op rfl rfl ?_ | refine Nx.m_loud rfl rfl rfl ?_ | refine Nx.at_do rfl rfl rfl rfl ?_ | refine Nx.m_loud_do rfl rfl rfl rfl rfl ?_); first | refine Nx.opr rfl rfl ?_ | refine Nx.indexAddr_nat rfl rfl rfl rfl rfl (by omega) (hr.isSome (by omega)) ?_ | (refine Nx.load rfl rfl rfl (hr.rd (k := j) (by omega)) ?_; rw [hx9]) | refine Nx.so ?_ | refine Nx.sb (fun bx => ?_) | refine Nx.sa (fun A2 c2 => ?_))
          | ((with_reducible refine Nx.is_at ?_); first | refine Nx.a ?_ | ((fail_if_success refine Nx.at_do rfl rfl rfl rfl ?_); first | refine Nx.at_dec_t rfl rfl rfl rfl (by first | assumption | omega) ?_ | refine Nx.at_dec_f rfl rfl rfl rfl (by first | assumption | omega) ?_ | refine Nx.at_split rfl rfl rfl rfl (fun hc => ?_) (fun hc => ?_) | refine Nx.at_splitb rfl rfl rfl rfl (fun hc => ?_) (fun hc => ?_)))
          | ((with_reducible refine Nx.is_mix ?_); first | refine Nx.m ?_ | ((fail_if_success refine Nx.m_quiet_do rfl rfl rfl rfl rfl rfl rfl ?_ ?_); (fail_if_success refine Nx.m_loud_do rfl rfl rfl rfl rfl ?_); first | refine Nx.m_dec_t rfl rfl rfl rfl (by first | assumption | omega) ?_ | refine Nx.m_dec_f rfl rfl rfl rfl (by first | assumption | omega) ?_ | refine Nx.m_split rfl rfl rfl rfl (fun hc => ?_) (fun hc => ?_) | refine Nx.m_splitb rfl rfl rfl rfl (fun hc => ?_) (fun hc => ?_)))
          | ((fail_if_success (with_reducible refine Nx.is_at ?_)); (fail_if_success (with_reducible refine Nx.is_wp ?_)); (fail_if_success (with_reducible refine Nx.is_mix ?_)); first | refine Nx.ex ?_)
        exact Nx.ret_fn rfl [] ⟨rfl, rfl⟩ (by (exact Ent.auto))
      by_cases g2 : 2147483648 < x
      · have hE : chkE (matL v) = 2 := by rw [hE0, if_pos (hb (by omega))]
        rw [hE]
        repeat' first
          | ((with_reducible refine Nx.is_wp ?_); first | refine Nx.wo ?_ | refine Nx.p_dec rfl rfl (fun hc => ?_) (fun hc => ?_) | refine Nx.p_bool rfl rfl (fun hc => ?_) (fun hc => ?_))
          | ((first | refine Nx.at_op rfl rfl ?_ | refine Nx.m_loud rfl rfl rfl ?_ | refine Nx.at_do rfl rfl rfl rfl ?_ | refine Nx.m_loud_do rfl rfl rfl rfl rfl ?_); first | refine Nx.opr rfl rfl ?_ | refine Nx.indexAddr_nat rfl rfl rfl rfl rfl (by omega) (hr.isSome (by omega)) ?_ | (refine Nx.load rfl rfl rfl (hr.rd (k := j) (by omega)) ?_; rw [hx9]) | refine Nx.so ?_ | refine Nx.sb (fun bx => ?_) | refine Nx.sa (fun A2 c2 => ?_))
          | ((with_reducible refine Nx.is_at ?_); first | refine Nx.a ?_ | ((fail_if_success refine Nx.at_do rfl rfl rfl rfl ?_); first | refine Nx.at_dec_t rfl rfl rfl rfl (by first | assumption | omega) ?_ | refine Nx.at_dec_f rfl rfl rfl rfl (by first | assumption | omega) ?_ | refine Nx.at_split rfl rfl rfl rfl (fun hc => ?_) (fun hc => ?_) | refine Nx.at_splitb rfl rfl rfl rfl (fun hc => ?_) (fun hc => ?_)))
          | ((with_reducible refine Nx.is_mix ?_); first | refine Nx.m ?_ | ((fail_if_success refine Nx.m_quiet_do rfl rfl rfl rfl rfl rfl rfl ?_ ?_); (fail_if_success refine Nx.m_loud_do rfl rfl rfl rfl rfl ?_); first | refine Nx.m_dec_t rfl rfl rfl rfl (by first | assumption | omega) ?_ | refine Nx.m_dec_f rfl rfl rfl rfl (by first | assumption | omega) ?_ | refine Nx.m_split rfl rfl rfl rfl (fun hc => ?_) (fun hc => ?_) | refine Nx.m_splitb rfl rfl rfl rfl (fun hc => ?_) (fun hc => ?_)))
          | ((fail_if_success (with_reducible refine Nx.is_at ?_)); (fail_if_success (with_reducible refine Nx.is_wp ?_)); (fail_if_success (with_reducible refine Nx.is_mix ?_)); first | refine Nx.ex ?_)
        exact Nx.ret_fn rfl [] ⟨rfl, rfl⟩ (by (exact Ent.auto))
      · repeat' first
          | ((with_reducible refine Nx.is_wp ?_); first | refine Nx.wo ?_ | refine Nx.p_dec rfl rfl (fun hc => ?_) (fun hc => ?_) | refine Nx.p_bool rfl rfl (fun hc => ?_) (fun hc => ?_))
          | ((first | refine Nx.at_op rfl rfl ?_ | refine Nx.m_loud rfl rfl rfl ?_ | refine Nx.at_do rfl rfl rfl rfl ?_ | refine Nx.m_loud_do rfl rfl rfl rfl rfl ?_); first | refine Nx.opr rfl rfl ?_ | refine Nx.indexAddr_nat rfl rfl rfl rfl rfl (by omega) (hr.isSome (by omega)) ?_ | (refine Nx.load rfl rfl rfl (hr.rd (k := j) (by omega)) ?_; rw [hx9]) | refine Nx.so ?_ | refine Nx.sb (fun bx => ?_) | refine Nx.sa (fun A2 c2 => ?_))
          | ((with_reducible refine Nx.is_at ?_); first | refine Nx.a ?_ | ((fail_if_success refine Nx.at_do rfl rfl rfl rfl ?_); first | refine Nx.at_dec_t rfl rfl rfl rfl (by first | assumption | omega) ?_ | refine Nx.at_dec_f rfl rfl rfl rfl (by first | assumption | omega) ?_ | refine Nx.at_split rfl rfl rfl rfl (fun hc => ?_) (fun hc => ?_) | refine Nx.at_splitb rfl rfl rfl rfl (fun hc => ?_) (fun hc => ?_)))
          | ((with_reducible refine Nx.is_mix ?_); first | refine Nx.m ?_ | ((fail_if_success refine Nx.m_quiet_do rfl rfl rfl rfl rfl rfl rfl ?_ ?_); (fail_if_success refine Nx.m_loud_do rfl rfl rfl rfl rfl ?_); first | refine Nx.m_dec_t rfl rfl rfl rfl (by first | assumption | omega) ?_ | refine Nx.m_dec_f rfl rfl rfl rfl (by first | assumption | omega) ?_ | refine Nx.m_split rfl rfl rfl rfl (fun hc => ?_) (fun hc => ?_) | refine Nx.m_splitb rfl rfl rfl rfl (fun hc => ?_) (fun hc => ?_)))
          | ((fail_if_success (with_reducible refine Nx.is_at ?_)); (fail_if_success (with_reducible refine Nx.is_wp ?_)); (fail_if_success (with_reducible refine Nx.is_mix ?_)); first | refine Nx.ex ?_)
        exact Nx.again (j + 1) ⟨hjl, hnext ⟨by omega, by omega⟩⟩ (by omega) ⟨rfl, rfl, rfl, rfl, rfl, rfl, rfl, trivial⟩ (by (exact Ent.auto))
    obtain rfl : j = l.length := by omega
    rw [List.take_length] at hin
    repeat' first
      | ((with_reducible refine Nx.is_wp ?_); first | refine Nx.wo ?_ | refine Nx.p_dec rfl rfl (fun hc => ?_) (fun hc => ?_) | refine Nx.p_bool rfl rfl (fun hc => ?_) (fun hc => ?_))
      | ((first | refine Nx.at_op rfl rfl ?_ | refine Nx.m_loud rfl rfl rfl ?_ | refine Nx.at_do rfl rfl rfl rfl ?_ | refine Nx.m_loud_do rfl rfl rfl rfl rfl ?_); first | refine Nx.opr rfl rfl ?_ | refine Nx.so ?_ | refine Nx.sb (fun bx => ?_) | refine Nx.sa (fun A2 c2 => ?_))
      | ((with_reducible refine Nx.is_at ?_); first | refine Nx.a ?_ | ((fail_if_success refine Nx.at_do rfl rfl rfl rfl ?_); first | refine Nx.at_dec_t rfl rfl rfl rfl (by first | assumption | omega) ?_ | refine Nx.at_dec_f rfl rfl rfl rfl (by first | assumption | omega) ?_ | refine Nx.at_split rfl rfl rfl rfl (fun hc => ?_) (fun hc => ?_) | refine Nx.at_splitb rfl rfl rfl rfl (fun hc => ?_) (fun hc => ?_)))
      | ((with_reducible refine Nx.is_mix ?_); first | refine Nx.m ?_ | ((fail_if_success refine Nx.m_quiet_do rfl rfl rfl rfl rfl rfl rfl ?_ ?_); (fail_if_success refine Nx.m_loud_do rfl rfl rfl rfl rfl ?_); first | refine Nx.m_dec_t rfl rfl rfl rfl (by first | assumption | omega) ?_ | refine Nx.m_dec_f rfl rfl rfl rfl (by first | assumption | omega) ?_ | refine Nx.m_split rfl rfl rfl rfl (fun hc => ?_) (fun hc => ?_) | refine Nx.m_splitb rfl rfl rfl rfl (fun hc => ?_) (fun hc => ?_)))
      | ((fail_if_success (with_reducible refine Nx.is_at ?_)); (fail_if_success (with_reducible refine Nx.is_wp ?_)); (fail_if_success (with_reducible refine Nx.is_mix ?_)); first | refine Nx.ex ?_)
    exact Nx.again (k + 1) ⟨hlt, fun i hi => by
      by_cases hik : i = k
      · rw [hik, hrow]; exact hin
      · exact hgood i (by omega)⟩ (by omega) ⟨rfl, rfl, rfl, rfl, trivial⟩ (by (exact Ent.auto))
  obtain rfl : k = v.length := by omega
  rw [if_neg (by rw [rngB_t hgood]; decide)] at hE0
  have hsm : Small (matL v) := fun r hr => by
    obtain ⟨x, hx, rfl⟩ := List.mem_map.1 hr
    obtain ⟨i, hi, rfl⟩ := List.mem_iff_getElem.1 hx
    have h1 := hall i hi
    have h2 := hgood i hi
    rw [List.getD_eq_getElem?_getD, List.getElem?_eq_getElem hi] at h1 h2
    exact ⟨by have h1 : v[i].2.2.length = v.length := h1; omega, h2⟩
  have hLg := large_spec A c v I hm hsm
  by_cases hp : T120 < prodM (matL v)
  · rw [if_pos hp] at hE0
    rw [decide_eq_true hp] at hLg
    rw [hE0]
    repeat' first
      | ((with_reducible refine Nx.is_wp ?_); first | refine Nx.wo ?_ | refine Nx.p_dec rfl rfl (fun hc => ?_) (fun hc => ?_) | refine Nx.p_bool rfl rfl (fun hc => ?_) (fun hc => ?_))
      | ((first | refine Nx.at_op rfl rfl ?_ | refine Nx.m_loud rfl rfl rfl ?_ | refine Nx.at_do rfl rfl rfl rfl ?_ | refine Nx.m_loud_do rfl rfl rfl rfl rfl ?_); first | refine Nx.opr rfl rfl ?_ | refine Nx.callv rfl rfl rfl (by kernel_rfl) rfl hLg ?_ | refine Nx.so ?_ | refine Nx.sb (fun bx => ?_) | refine Nx.sa (fun A2 c2 => ?_))
      | ((with_reducible refine Nx.is_at ?_); first | refine Nx.a ?_ | ((fail_if_success refine Nx.at_do rfl rfl rfl rfl ?_); first | refine Nx.at_dec_t rfl rfl rfl rfl (by first | assumption | omega) ?_ | refine Nx.at_dec_f rfl rfl rfl rfl (by first | assumption | omega) ?_ | refine Nx.at_split rfl rfl rfl rfl (fun hc => ?_) (fun hc => ?_) | refine Nx.at_splitb rfl rfl rfl rfl (fun hc => ?_) (fun hc => ?_)))
      | ((with_reducible refine Nx.is_mix ?_); first | refine Nx.m ?_ | ((fail_if_success refine Nx.m_quiet_do rfl rfl rfl rfl rfl rfl rfl ?_ ?_); (fail_if_success refine Nx.m_loud_do rfl rfl rfl rfl rfl ?_); first | refine Nx.m_dec_t rfl rfl rfl rfl (by first | assumption | omega) ?_ | refine Nx.m_dec_f rfl rfl rfl rfl (by first | assumption | omega) ?_ | refine Nx.m_split rfl rfl rfl rfl (fun hc => ?_) (fun hc => ?_) | refine Nx.m_splitb rfl rfl rfl rfl (fun hc => ?_) (fun hc => ?_)))
      | ((fail_if_success (with_reducible refine Nx.is_at ?_)); (fail_if_success (with_reducible refine Nx.is_wp ?_)); (fail_if_success (with_reducible refine Nx.is_mix ?_)); first | refine Nx.ex ?_)
    exact Nx.ret_fn rfl [] ⟨rfl, rfl⟩ (by (exact Ent.auto))
  · rw [if_neg hp] at hE0
    rw [decide_eq_false hp] at hLg
    rw [hE0]
    repeat' first
      | ((with_reducible refine Nx.is_wp ?_); first | refine Nx.wo ?_ | refine Nx.p_dec rfl rfl (fun hc => ?_) (fun hc => ?_) | refine Nx.p_bool rfl rfl (fun hc => ?_) (fun hc => ?_))
      | ((first | refine Nx.at_op rfl rfl ?_ | refine Nx.m_loud rfl rfl rfl ?_ | refine Nx.at_do rfl rfl rfl rfl ?_ | refine Nx.m_loud_do rfl rfl rfl rfl rfl ?_); first | refine Nx.opr rfl rfl ?_ | refine Nx.callv rfl rfl rfl (by kernel_rfl) rfl hLg ?_ | refine Nx.so ?_ | refine Nx.sb (fun bx => ?_) | refine Nx.sa (fun A2 c2 => ?_))
      | ((with_reducible refine Nx.is_at ?_); first | refine Nx.a ?_ | ((fail_if_success refine Nx.at_do rfl rfl rfl rfl ?_); first | refine Nx.at_dec_t rfl rfl rfl rfl (by first | assumption | omega) ?_ | refine Nx.at_dec_f rfl rfl rfl rfl (by first | assumption | omega) ?_ | refine Nx.at_split rfl rfl rfl rfl (fun hc => ?_) (fun hc => ?_) | refine Nx.at_splitb rfl rfl rfl rfl (fun hc => ?_) (fun hc => ?_)))
      | ((with_reducible refine Nx.is_mix ?_); first | refine Nx.m ?_ | ((fail_if_success refine Nx.m_quiet_do rfl rfl rfl rfl rfl rfl rfl ?_ ?_); (fail_if_success refine Nx.m_loud_do rfl rfl rfl rfl rfl ?_); first | refine Nx.m_dec_t rfl rfl rfl rfl (by first | assumption | omega) ?_ | refine Nx.m_dec_f rfl rfl rfl rfl (by first | assumption | omega) ?_ | refine Nx.m_split rfl rfl rfl rfl (fun hc => ?_) (fun hc => ?_) | refine Nx.m_splitb rfl rfl rfl rfl (fun hc => ?_) (fun hc => ?_)))
      | ((fail_if_success (with_reducible refine Nx.is_at ?_)); (fail_if_success (with_reducible refine Nx.is_wp ?_)); (fail_if_success (with_reducible refine Nx.is_mix ?_)); first | refine Nx.ex ?_)
    exact Nx.ret_fn rfl [] ⟨rfl, rfl⟩ (by (exact Ent.auto))
end Go.Proofs.YtpdgnjoideppjaaDoor
/-
  The proof engine, part AB: what only reads, in its place; array literals; a store into an element of an owned list of structs.
-/
namespace Go.Eng
section
variable {C : Cx} {e : Env} {I : PH} {R : List Res} {K : Act → World → Prop} {Q : Exit → Act → World → Prop} {W : World} {d n c : Nat} {v : Value} {o : Oper} {P : Program} {t ty el : TypeId} {pos : String} {after : Array Edge} {g : Option (Nat × Bool)} {x y : Operand} {A : Option Addr}
/-- An operation that only reads, in its place. -/
theorem Nx.quietly (hd : o.dst = some d) (hlt : Nat.blt d C.n = true) (h : QRun C e (St C.W I R) o v) (k : Nx C ((d, v) :: e) I R K) : Nx C e I R (opK C.P o K Q) := Nx.op_run hd hlt (fun a w ha hw => by unfold QRun at h; exact h a w ha hw) k
/-- A store into a cell of an owned list. -/
theorem Wr.vecN {sz i : Nat} {xs : List Value} (hi : i < n * sz) (h1 : v.oneCell' = true) : Wr P W I (Vec t sz A n c xs :: R) ((ad A).add i) [v] (Vec t sz A n c (xs.set i v) :: R) := by
  intro w hw
  obtain ⟨⟨m, ⟨m1, m2, hd, rfl, hv, h2⟩, hsat⟩, hst⟩ := id hw
  rcases hv.2 with ⟨_, h0, _⟩ | ⟨b, cur, rfl, hb, hnc, hcm, hsz, htake⟩
  · rw [h0, Nat.zero_mul] at hi; omega
  have hb0 : w.heap[b]? = some (.cells cur t (0, 0)) := hsat.own _ _ (PH.le_or_left _ _ _ _ hb)
  have hle : n * sz ≤ c * sz := Nat.mul_le_mul_right _ hnc
  have hrun := run_store1 (P := P) hb0 (i := i) (by omega) h1
  refine ⟨w.setCell ⟨b, i, none⟩ v, ?_, hw.upd (o := .cells (cur.setIfInBounds i v) t (0, 0)) (b := b) (fun mm hm => ?_) ?_ (fun k hne o' ho => (heap_setCell_other w ⟨b, i, none⟩ k v hne).trans ho) ⟨rfl, rfl, rfl, by simp, Nat.le_refl _⟩⟩
  · rw [ad_some, Addr.add_lit, Nat.zero_add]
    unfold storeCells
    rw [Sem.run_bind, Addr.add_zero', hrun]
    rfl
  · rcases hm.2 with ⟨he, _, _⟩ | ⟨b', cur', he, hb', h1', h2', h3', h4'⟩
    · cases he
    · cases he
      refine ⟨by rw [hb']; rfl, by simpa using hm.1, .inr ⟨b, cur.setIfInBounds i v, rfl, by simp, h1', h2', by simpa using hsz, ?_⟩⟩
      rw [← htake]
      simp only [Array.toList_setIfInBounds]
      rw [List.take_set]
  · exact heap_setCell_same w b i cur t v hb0
/-- A field of an element of an owned list of structs is stored, resource number k. -/
theorem Nx.store_fld (k : Nat) {sz i j : Nat} {xs : List Value} (hx : evo e x = some (.pointer (some (((ad A).add (i * sz)).add j)))) (hy : evo e y = some v) (hc : cellsL v = [v]) (h1 : v.oneCell' = true) (hn : cellsIn C.P t = some 1) (hk : nthL R k = some (Vec el sz A n c xs)) (hi : i * sz + j < n * sz)
    (h : Nx C e I (Vec el sz A n c (xs.set (i * sz + j) v) :: R.eraseIdx k) K) : Nx C e I R (opK C.P ⟨none, .store t x y, ty, pos, after, g⟩ K Q) := by
  rw [Addr.add_add] at hx
  exact Nx.ent (Ent.pull k R _ (nthL_eq.symm.trans hk)) (Nx.store hx hy ((cellsL_eq _).trans hc) hn rfl (Wr.vecN hi h1) h)
end
end Go.Eng
/-
  The proof engine, part T: a library function that makes new memory and draws; strings.
-/
namespace Go.Eng
open Go.Sort (grow)
theorem St.grown {W w : World} {I : PH} {R : List Res} (h : St W I R w) (k : Nat) (os : Array Obj) : St W I R (grow (w.drewN k) os) := by
  obtain ⟨⟨m, hm, hs⟩, hst⟩ := h
  have hold : ∀ (i : Nat) (o : Obj), w.heap[i]? = some o → (grow (w.drewN k) os).heap[i]? = some o := fun i o hi => by
    have hlt := (Array.getElem?_eq_some_iff.1 hi).1
    show (w.heap ++ os)[i]? = some o
    rw [Array.getElem?_append_left hlt]
    exact hi
  refine ⟨⟨m, hm, ⟨fun i o hi => hold i o (hs.imm i o hi), fun i o hi => hold i o (hs.own i o hi), hs.dis⟩⟩, ⟨hst.os, hst.tape, hst.output, Nat.le_trans hst.size (Lib.size_grow w k os), Nat.le_trans hst.drawn (Nat.le_add_right _ _)⟩⟩
/-- A text, by its bytes. -/
def strV (l : List UInt8) : Value := .string ⟨l.toArray⟩
section
variable {P : Program} {t : TypeId} {x y : Operand} {a b : List UInt8}
theorem run_booleq {t : TypeId} {x y : Operand} (ht : P.underlying t = some .bool) (b c : Bool) (w : World) : (do eqGuard .eql t x y (.bool b) (.bool c); binOp .eql t (.bool b) (.bool c)).run P w = .ok (.bool (b == c)) w := by
  rw [eqGuard_at_bool]
  show (do pure (Value.bool (← Op.equal t (.bool b) (.bool c))) : Sem Value).run P w = _
  rw [Sem.run_bind, run_equal_bool w t b c ht]; rfl
theorem eq_true_run {s : Sem Value} {b : Bool} (h : ∀ w, s.run P w = .ok (.bool b) w) (hb : b = true) (w : World) : s.run P w = .ok (.bool true) w := by rw [h w, hb]
end
end Go.Eng
/-
  The proof engine, part M: maps that are owned, as lists of keys and values.
-/
namespace Go.Eng
open Go.Instr
/-- How keys of one kind lie in a map. -/
structure KeyEnc (P : Program) (kt : TypeId) {κ : Type} [DecidableEq κ] (g : κ → Value) : Prop where
  same : ∃ kind, P.underlying kt = some kind ∧ ∀ a b, sameNow kind (g a) (g b) = some (decide (a = b))
  check : ∀ (em : Bool) (a : κ) (w : World), (checkKey em 10000 kt (g a)).run P w = .ok () w
  bits : ∀ a, sameBits 10000 (g a) (g a) = true
theorem KeyEnc.int {P : Program} {kt : TypeId} {k : IntKind} (h : P.underlying kt = some (.int k)) : KeyEnc P kt (fun x : Int => Value.int k x) := by
  refine ⟨⟨_, h, fun a b => ?_⟩, fun em a w => ?_, fun a => by simp [sameBits]⟩
  · simp only [sameNow, if_pos]
    by_cases hab : a = b <;> simp [hab]
  · unfold checkKey
    rw [Sem.run_bind, run_underlying h, Result.andThen_ok]
    rfl
section
variable {κ α : Type} [DecidableEq κ] {g : κ → Value} {f : α → Value}
end
section
variable {C : Cx} {e e' : Env} {I : PH} {R R' R0 : List Res} {K K' : Act → World → Prop} {Q : Exit → Act → World → Prop} {W : World}
variable {d : Nat} {ty t : TypeId} {pos : String} {after : Array Edge} {gd : Option (Nat × Bool)} {x y z : Operand} {dst : Option Tmp}
variable {κ α : Type}
variable [DecidableEq κ]
end
end Go.Eng
/-
  The proof engine, part X: strings: their bytes, their parts, their order; bytes made into strings and back; a string appended to bytes.
-/
namespace Go.Eng
open Go.Lib (strCells)
open Go.Instr
variable {C : Cx} {e e' : Env} {I : PH} {R R' : List Res} {K K' : Act → World → Prop} {Q : Exit → Act → World → Prop}
variable {d : Nat} {ty t u el : TypeId} {pos : String} {after : Array Edge} {g : Option (Nat × Bool)} {x y z : Operand} {v vx vy vz : Value} {A : Option Addr} {n c : Nat}
theorem Sat.drew {w : World} {I m : PH} (h : Sat w I m) : Sat w.drew I m := ⟨h.imm, h.own, h.dis⟩
/-- A row that bears the run-time's mark: it is only read. -/
def BlkZ (b : Nat) (t : TypeId) (cs : List Value) : Res := fun m => ∃ fz rest, m b = some (.cells (cs ++ rest).toArray t fz)
theorem BlkZ.sliceOf {α : Type} {f : α → Value} {b : Nat} {m I' : PH} {l : List α} {cap : Nat} (hm : PH.le m I') (h : BlkZ b t (l.map f) m) (hc : l.length ≤ cap) (hl : cap ≤ maxLen) : SliceOf f I' (some ⟨b, 0, none⟩) cap l := by
  obtain ⟨fz, rest, hb⟩ := h
  refine ⟨fun j u hj => ⟨rfl, ?_⟩, hc, hl⟩
  have hlt := (List.getElem?_eq_some_iff.1 hj).1
  rw [ad_some, Addr.add_lit, Nat.zero_add]
  simp only [cellH, hm _ _ hb, Option.isSome_none, Bool.false_eq_true, if_false]
  rw [List.getElem?_toArray, List.getElem?_append_left hlt]
  exact hj
/-! ### Tests whose outcome is known -/
section
variable {cd : Code}
end
/-! ### Strings as keys -/
theorem strV_eq {a b : List UInt8} : (ByteArray.mk a.toArray == ByteArray.mk b.toArray) = decide (a = b) := by
  rw [Bool.eq_iff_iff, MapKept.bytes_beq, decide_eq_true_eq]
  exact ⟨fun he => by have := congrArg (fun x : ByteArray => x.data.toList) he; simpa using this, fun h => by rw [h]⟩
theorem KeyEnc.str {P : Program} {kt : TypeId} (h : P.underlying kt = some .string) : KeyEnc P kt strV := by
  refine ⟨⟨_, h, fun a b => ?_⟩, fun em a w => ?_, fun a => by show (ByteArray.mk a.toArray == ByteArray.mk a.toArray) = true; rw [strV_eq]; simp⟩
  · show some (ByteArray.mk a.toArray == ByteArray.mk b.toArray) = _
    rw [strV_eq]
  · unfold Instr.checkKey
    rw [Sem.run_bind, run_underlying h, Result.andThen_ok]
    rfl
/-! ### The order of strings -/
section
variable {P : Program} {a b : List UInt8}
end
end Go.Eng
/-
  The proof engine, part AC: bundles: one of their resources taken out and put back; lists of structs, one field set.
-/
namespace Go.Eng
theorem Ent.unstars {B R : List Res} : Ent (Stars B :: R) (B ++ R) := by
  rintro m ⟨m1, m2, hd, rfl, h1, h2⟩
  obtain ⟨k, hk, hkS⟩ := Stars.join hd h1 h2
  exact ⟨k, hk, hkS⟩
theorem Ent.stars {B R : List Res} : Ent (B ++ R) (Stars B :: R) := by
  intro m hm
  obtain ⟨m1, m2, hd, rfl, h1, h2⟩ := Stars.append hm
  exact ⟨_, PH.le_refl _, m1, m2, hd, rfl, h1, h2⟩
theorem Ent.push : ∀ (k : Nat) (R : List Res) (r : Res), R[k]? = some r → Ent (r :: R.eraseIdx k) R
  | 0, r' :: R, r, h => by simp at h; subst h; exact Ent.refl _
  | k + 1, r' :: R, r, h => (Ent.swap _ _ _).trans (Ent.pick 0 rfl (Ent.push k R r (by simpa using h)))
  | k, [], r, h => by simp at h
/-- Number k of a bundle is taken out. -/
theorem Ent.takeOut (k : Nat) {B R : List Res} {r : Res} (h : B[k]? = some r) : Ent (Stars B :: R) (r :: Stars (B.eraseIdx k) :: R) := by
  have hk := (List.getElem?_eq_some_iff.1 h).1
  refine Ent.unstars.trans ((Ent.pull k (B ++ R) r (by rw [List.getElem?_append_left hk]; exact h)).trans ?_)
  rw [List.eraseIdx_append_of_lt_length hk]
  exact Ent.pick 0 rfl Ent.stars
/-- .. and another one is put in its place. -/
theorem Ent.putIn (k : Nat) {B R : List Res} {r : Res} (hk : k < B.length) : Ent (r :: Stars (B.eraseIdx k) :: R) (Stars (B.set k r) :: R) := by
  have e : (B.set k r).eraseIdx k = B.eraseIdx k := List.eraseIdx_set_eq
  have hk2 : k < (B.set k r).length := by rw [List.length_set]; exact hk
  have h1 : Ent (r :: Stars (B.eraseIdx k) :: R) (r :: (B.eraseIdx k ++ R)) := Ent.pick 0 rfl Ent.unstars
  refine h1.trans (Ent.trans ?_ Ent.stars)
  rw [← e, ← List.eraseIdx_append_of_lt_length hk2]
  exact Ent.push k _ r (by rw [List.getElem?_append_left hk2, List.getElem?_set_self hk])
section
variable {C : Cx} {e : Env} {I : PH} {R : List Res} {K : Act → World → Prop} {Q : Exit → Act → World → Prop} {S : World → Prop} {d : Nat} {dst : Option Tmp} {ty t u : TypeId} {pos : String} {after : Array Edge} {g : Option (Nat × Bool)} {x y : Operand} {a b : List UInt8}
end
theorem flat_len {α : Type} {f : α → List Value} {sz : Nat} (hf : ∀ x, (f x).length = sz) (l : List α) : (l.flatMap f).length = l.length * sz := by
  induction l with
  | nil => simp
  | cons x l ih => rw [List.flatMap_cons, List.length_append, ih, hf, List.length_cons, Nat.succ_mul]; omega
section
variable {α : Type} [Inhabited α] {f : α → List Value} {sz : Nat}
theorem flat_set (hf : ∀ x, (f x).length = sz) : ∀ {l : List α} {k j : Nat} {v : Value} {x' : α}, k < l.length → j < sz → f x' = (f (l.getD k default)).set j v → (l.flatMap f).set (k * sz + j) v = (l.set k x').flatMap f
  | [], k, j, v, x', h, _, _ => by simp at h
  | x :: l, 0, j, v, x', h, hj, he => by
    rw [List.flatMap_cons, List.set_cons_zero, List.flatMap_cons, Nat.zero_mul, Nat.zero_add, List.set_append_left _ _ (by rw [hf]; exact hj), he]
    rfl
  | x :: l, k + 1, j, v, x', h, hj, he => by
    rw [List.getD_cons_succ] at he
    have e : (k + 1) * sz + j - sz = k * sz + j := by rw [Nat.succ_mul]; omega
    rw [List.flatMap_cons, List.set_cons_succ, List.flatMap_cons, List.set_append_right _ _ (by rw [hf, Nat.succ_mul]; omega), hf, e, flat_set hf (by simpa using h) hj he]
/-- An element of an owned list of structs is read. -/
theorem Rds.vecN {W : World} {I : PH} {R : List Res} {t : TypeId} {A : Option Addr} {n c : Nat} {l : List α} (k : Nat) {i : Nat} (hf : ∀ x, (f x).length = sz) (hk : nthL R k = some (Vec t sz A n c (l.flatMap f))) (hi : i < l.length) : Rds W I R ((ad A).add (i * sz)) (f (l.getD i default)) := by
  intro j u hj
  have hfl := flatMap_at (f := f) (sz := sz) (fun x _ => hf x) hi
  have hjl : j < sz := by have := (List.getElem?_eq_some_iff.1 hj).1; rw [hf] at this; exact this
  rw [← hfl, List.getElem?_take, if_pos hjl, List.getElem?_drop] at hj
  rw [Addr.add_add]
  exact Rd.vecAt k hk (by rw [nthL_eq]; exact hj)
end
end Go.Eng
/-
  The proof engine, part AE: operations with one operand, in an open statement.
-/
namespace Go.Eng
section
variable {C : Cx} {e : Env} {S : World → Prop} {ty t u : TypeId} {pos : String} {after : Array Edge} {g : Option (Nat × Bool)} {x : Operand} {dst : Option Tmp}
theorem QRun.un {op : UnOp} {vx v : Value} (hx : evo e x = some vx) (hv : pureRun C.P (Op.unary op vx) = some v) : QRun C e S ⟨dst, .unOp op t x, ty, pos, after, g⟩ v :=
  fun a w ha _ => by simp only [execOp, ha.eval hx]; exact run_v (run_of_pureRun hv w)
theorem QRun.neg {p : Int} (hx : evo e x = some (.int .i64 p)) (hr : I64 (-p)) : QRun C e S ⟨dst, .unOp .neg t x, ty, pos, after, g⟩ (.int .i64 (-p)) :=
  QRun.un hx (by rw [← wrap_i64 hr, ← Int.zero_sub]; rfl)
theorem Nx.unstop {I : PH} {R : List Res} {K : Act → World → Prop} (h : Nx C e I R K) : Nx C e I R (Stop K) := h
end
end Go.Eng
