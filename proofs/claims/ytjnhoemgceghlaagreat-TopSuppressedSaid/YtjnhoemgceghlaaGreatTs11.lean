/- Contracts of functions of the given program, and lemmas about plain lists and numbers: what the laws of this seat lean on. -/
import Derived.Test.YtjnhoemgceghlaaGreatProg
import Derived.Shelf.SortM.Plain
import Derived.Shelf.SortM.SortNone
import Derived.Test.YtjnhoemgceghlaaGreatTs10
namespace Go.Proofs.YtjnhoemgceghlaaGreat
open Go.Eng
attribute [local irreducible] opK wpList Code.wp Exit.then Exit.inBlock fnPost bodyPost Nx Calls Oper.wp Rd Rds Wr Ent Stars Blk Again Vec FnSpec wpMix QRun Stop Upto wpAt
/-- The first error of a rota from number k on. -/
def checkAt (l : List Shift) (k : Nat) : Int :=
  if singleE (l.getD k default) ≠ 0 then singleE (l.getD k default)
  else if 0 < k ∧ beforeB (l.getD (k - 1) default) (l.getD k default) = false then 11
  else if meetsB (l.take k) (l.getD k default) = true then 46 else 0
def checkN (l : List Shift) : Nat → Int
  | 0 => 0
  | k + 1 => if checkN l k ≠ 0 then checkN l k else checkAt l k
def checkE (l : List Shift) : Int := if 60 < l.length then 1 else checkN l l.length
theorem checkN_stop {l : List Shift} {k : Nat} (h0 : checkN l k = 0) (h : checkAt l k ≠ 0) : ∀ n, k < n → checkN l n = checkAt l k
  | 0, hn => by omega
  | n + 1, hn => by
    unfold checkN
    by_cases hk : k = n
    · subst hk
      rw [if_neg (by omega)]
    · rw [checkN_stop h0 h n (by omega), if_pos h]
theorem cmpSh_before (a b : Shift) : decide (0 ≤ cmpSh a b) = !(beforeB a b) := by
  unfold cmpSh beforeB rtcmpI cmpS
  by_cases h1 : a.2.1 < b.2.1
  · simp [h1]
  · by_cases h2 : b.2.1 < a.2.1
    · have h3 : ¬ a.2.1 = b.2.1 := by omega
      simp [h1, h2, h3]
    · have h3 : a.2.1 = b.2.1 := by omega
      simp [h3]
      cases strLt a.1 b.1 <;> simp
      by_cases h4 : a.1 = b.1 <;> simp [h4]
theorem sh_mem {l : List Shift} {k : Nat} (h : k < l.length) : l.getD k default ∈ l := by
  rw [List.getD_eq_getElem?_getD, List.getElem?_eq_getElem h]; exact List.getElem_mem _
theorem shifts_take {α : Type} {f : α → List Value} {sz : Nat} {I : PH} {A : Option Addr} {c : Nat} {l : List α} (h : SliceN f sz I A c l) (k : Nat) : SliceN f sz I A c (l.take k) := by
  refine ⟨fun j u hj => ?_, by have := h.cap; rw [List.length_take]; omega, h.max, fun x hx => h.cells x (List.mem_of_mem_take hx)⟩
  refine h.arr j u ?_
  have e : l.flatMap f = (l.take k).flatMap f ++ (l.drop k).flatMap f := by rw [← List.flatMap_append, List.take_append_drop]
  rw [e, List.getElem?_append_left (List.getElem?_eq_some_iff.1 hj).1]
  exact hj
set_option maxHeartbeats 2000000 in
set_option maxRecDepth 10000 in
theorem rtCheck_spec (A : Option Addr) (c : Nat) (l : List Shift) (I : PH) (hl : Shifts I A c l) (ho : ∀ x ∈ l, shOk x) :
    FnSpec Tryz.prog 56 [.slice A l.length c] I [] (fun v R' => v = .int .i64 (checkE l) ∧ R' = []) := by
  have hlen := hl.len
  have hcap := hl.cap
  by_cases h60 : 60 < l.length
  · have e : checkE l = 1 := by unfold checkE; rw [if_pos h60]
    rw [e]
    refine FnSpec.enterP Tryz.func56 rfl Tryz.ntmps56 rfl fun w F => ?_
    repeat' first
      | ((with_reducible refine Nx.is_wp ?_); first | refine Nx.wo ?_ | refine Nx.zp (fun hc => ?_) (fun hc => ?_))
      | (refine Nx.zo ?_; first | refine Nx.opr rfl rfl ?_ | refine Nx.so ?_ | refine Nx.sb (fun bx => ?_) | refine Nx.sa (fun A2 c2 => ?_))
      | ((with_reducible refine Nx.is_at ?_); first | refine Nx.a ?_ | refine Nx.zd ?_ | refine Nx.zs (fun hc => ?_) (fun hc => ?_))
      | ((with_reducible refine Nx.is_mix ?_); first | refine Nx.m ?_ | refine Nx.zm ?_ | refine Nx.zt (fun hc => ?_) (fun hc => ?_))
      | refine Nx.zx ?_ | fail
    exact Nx.ret_fn rfl [] ⟨rfl, rfl⟩ (by (exact Ent.auto))
  · have e : checkE l = checkN l l.length := by unfold checkE; rw [if_neg h60]
    rw [e]
    refine FnSpec.enterP Tryz.func56 rfl Tryz.ntmps56 rfl fun w F => ?_
    repeat' first
      | ((with_reducible refine Nx.is_wp ?_); first | refine Nx.wo ?_ | refine Nx.zp (fun hc => ?_) (fun hc => ?_))
      | (refine Nx.zo ?_; first | refine Nx.opr rfl rfl ?_ | refine Nx.so ?_ | refine Nx.sb (fun bx => ?_) | refine Nx.sa (fun A2 c2 => ?_))
      | ((with_reducible refine Nx.is_at ?_); first | refine Nx.a ?_ | refine Nx.zd ?_ | refine Nx.zs (fun hc => ?_) (fun hc => ?_))
      | ((with_reducible refine Nx.is_mix ?_); first | refine Nx.m ?_ | refine Nx.zm ?_ | refine Nx.zt (fun hc => ?_) (fun hc => ?_))
      | refine Nx.zx ?_ | fail
    refine Nx.p_loop (σ := Nat) (fun k => [(0, .slice A l.length c), (9, .slice A l.length c), (10, .int .i64 l.length), (11, .int .i64 (k : Int))])
      (fun _ => [F]) (fun k => k ≤ l.length ∧ checkN l k = 0) (fun k => l.length - k) 0 rfl ⟨Nat.zero_le _, rfl⟩ ⟨rfl, rfl, rfl, rfl, trivial⟩ (by (exact Ent.auto)) ?_
    rintro k ⟨hk, h0⟩
    by_cases hlt : k < l.length
    · have hstop := fun h => checkN_stop h0 h l.length hlt
      have hgo : checkAt l k = 0 → checkN l (k + 1) = 0 := fun h => by
        show (if _ then _ else _) = _
        rw [h0, if_neg (by omega), h]
      have hx := ho _ (sh_mem hlt)
      have hxp := fun h : 0 < k => ho _ (sh_mem (l := l) (k := k - 1) (by omega))
      have htl : (l.take k).length = k := by rw [List.length_take]; omega
      have htk := shifts_take hl k
      repeat' first
        | ((with_reducible refine Nx.is_wp ?_); first | refine Nx.wo ?_ | refine Nx.zp (fun hc => ?_) (fun hc => ?_))
        | (refine Nx.zo ?_; first | refine Nx.opr rfl rfl ?_ | refine Nx.indexAddr_nat rfl rfl rfl rfl rfl (by omega) (hl.isSome (by omega) (by omega)) ?_ | refine Nx.loads rfl rfl rfl rfl (hl.rds (by omega)) rfl ?_ | refine Nx.callv rfl rfl rfl (by kernel_rfl) rfl (single_spec _ hx I) ?_ | refine Nx.so ?_ | refine Nx.sb (fun bx => ?_) | refine Nx.sa (fun A2 c2 => ?_))
        | ((with_reducible refine Nx.is_at ?_); first | refine Nx.a ?_ | refine Nx.zd ?_ | refine Nx.zs (fun hc => ?_) (fun hc => ?_))
        | ((with_reducible refine Nx.is_mix ?_); first | refine Nx.m ?_ | refine Nx.zm ?_ | refine Nx.zt (fun hc => ?_) (fun hc => ?_))
        | refine Nx.zx ?_ | fail
      · have hc' : singleE (l.getD k default) ≠ 0 := hc
        have hca : checkAt l k = singleE (l.getD k default) := by unfold checkAt; rw [if_pos hc']
        exact Nx.ret_fn rfl [] ⟨by rw [hstop (by rw [hca]; exact hc'), hca], rfl⟩ (by (exact Ent.auto))
      · have hs0 : singleE (l.getD k default) = 0 := by simpa using hc
        have hkn : 0 < k → ((k : Int) - 1).toNat = k - 1 := fun h => by omega
        have hov := overlaps_spec A c (l.take k) (l.getD k default) I htk
        rw [htl] at hov
        by_cases hbf : 0 < k ∧ beforeB (l.getD (k - 1) default) (l.getD k default) = false
        · have hca : checkAt l k = 11 := by unfold checkAt; rw [if_neg (by omega), if_pos hbf]
          have hcm : 0 ≤ cmpSh (l.getD ((k : Int) - 1).toNat default) (l.getD k default) := by
            rw [hkn hbf.1]
            have := cmpSh_before (l.getD (k - 1) default) (l.getD k default)
            rw [hbf.2] at this
            simpa using this
          have hk0 := hbf.1
          repeat' first
            | ((with_reducible refine Nx.is_wp ?_); first | refine Nx.wo ?_ | refine Nx.p_draw (id := 9) rfl [0, 1, 2, 3, 4, 5, 6, 7, 8, 9, 10, 11] [9] _ rfl rfl (by kernel_rfl) (by kernel_rfl) rfl (by repeat first | exact PanicOk.fn | refine PanicOk.then_ ?_ | refine PanicOk.inB ?_) (Ent.refl _) ?_ | refine Nx.p_draw (id := 11) rfl [0, 1, 2, 3, 4] [4] _ rfl rfl (by kernel_rfl) (by kernel_rfl) rfl (by repeat first | exact PanicOk.fn | refine PanicOk.then_ ?_ | refine PanicOk.inB ?_) (Ent.refl _) ?_ | refine Nx.zp (fun hc => ?_) (fun hc => ?_))
            | (refine Nx.zo ?_; first | refine Nx.opr rfl rfl ?_ | refine Nx.callv rfl rfl rfl (by kernel_rfl) rfl (compare_spec (l.getD ((k : Int) - 1).toNat default) (l.getD k default) I) ?_ | refine Nx.so ?_ | refine Nx.sb (fun bx => ?_) | refine Nx.sa (fun A2 c2 => ?_))
            | ((with_reducible refine Nx.is_at ?_); first | refine Nx.a ?_ | refine Nx.zd ?_ | refine Nx.zs (fun hc => ?_) (fun hc => ?_))
            | ((with_reducible refine Nx.is_mix ?_); first | refine Nx.m_quiet rfl rfl rfl rfl rfl (by first | exact QRun.opr rfl | exact QRun.idxi rfl rfl rfl rfl (by omega) (by omega) (hl.isSome (by omega) (by omega)) | exact QRun.loads rfl rfl rfl (hl.rds (k := ((k : Int) - 1).toNat) (by omega)) rfl | exact QRun.loads rfl rfl rfl (Rds.at_ 0 rfl) rfl) ?_ | refine Nx.m_quiet_do rfl rfl rfl rfl rfl rfl rfl (by first | exact QRun.opr rfl | exact QRun.idxi rfl rfl rfl rfl (by omega) (by omega) (hl.isSome (by omega) (by omega)) | exact QRun.loads rfl rfl rfl (hl.rds (k := ((k : Int) - 1).toNat) (by omega)) rfl | exact QRun.loads rfl rfl rfl (Rds.at_ 0 rfl) rfl) ?_ | refine Nx.m ?_ | refine Nx.zm ?_ | refine Nx.zt (fun hc => ?_) (fun hc => ?_))
            | refine Nx.zx ?_ | fail
          exact Nx.ret_fn rfl [] ⟨by rw [hstop (by rw [hca]; decide), hca], rfl⟩ (by (exact Ent.auto))
        · have hcm : 0 < k → cmpSh (l.getD ((k : Int) - 1).toNat default) (l.getD k default) < 0 := fun h => by
            rw [hkn h]
            have := cmpSh_before (l.getD (k - 1) default) (l.getD k default)
            have hb : beforeB (l.getD (k - 1) default) (l.getD k default) = true := by
              cases hb : beforeB (l.getD (k - 1) default) (l.getD k default) with
              | true => rfl
              | false => exact absurd ⟨h, hb⟩ hbf
            rw [hb] at this
            simpa using this
          by_cases hm : meetsB (l.take k) (l.getD k default) = true
          · have hca : checkAt l k = 46 := by unfold checkAt; rw [if_neg (by omega), if_neg hbf, if_pos hm]
            rw [hm] at hov
            by_cases hk0 : 0 < k
            · have hcm := hcm hk0
              repeat' first
                | ((with_reducible refine Nx.is_wp ?_); first | refine Nx.wo ?_ | refine Nx.p_draw (id := 9) rfl [0, 1, 2, 3, 4, 5, 6, 7, 8, 9, 10, 11] [9] _ rfl rfl (by kernel_rfl) (by kernel_rfl) rfl (by repeat first | exact PanicOk.fn | refine PanicOk.then_ ?_ | refine PanicOk.inB ?_) (Ent.refl _) ?_ | refine Nx.p_draw (id := 11) rfl [0, 1, 2, 3, 4] [4] _ rfl rfl (by kernel_rfl) (by kernel_rfl) rfl (by repeat first | exact PanicOk.fn | refine PanicOk.then_ ?_ | refine PanicOk.inB ?_) (Ent.refl _) ?_ | refine Nx.zp (fun hc => ?_) (fun hc => ?_))
                | (refine Nx.zo ?_; first | refine Nx.opr rfl rfl ?_ | refine Nx.callv rfl rfl rfl (by kernel_rfl) rfl (compare_spec (l.getD ((k : Int) - 1).toNat default) (l.getD k default) I) ?_ | refine Nx.callv rfl rfl rfl (by kernel_rfl) rfl hov ?_ | refine Nx.so ?_ | refine Nx.sb (fun bx => ?_) | refine Nx.sa (fun A2 c2 => ?_))
                | ((with_reducible refine Nx.is_at ?_); first | refine Nx.a ?_ | refine Nx.zd ?_ | refine Nx.zs (fun hc => ?_) (fun hc => ?_))
                | ((with_reducible refine Nx.is_mix ?_); first | refine Nx.m_quiet rfl rfl rfl rfl rfl (by first | exact QRun.opr rfl | exact QRun.idxi rfl rfl rfl rfl (by omega) (by omega) (hl.isSome (by omega) (by omega)) | exact QRun.loads rfl rfl rfl (hl.rds (k := ((k : Int) - 1).toNat) (by omega)) rfl | exact QRun.loads rfl rfl rfl (Rds.at_ 0 rfl) rfl | exact QRun.slice_hi rfl rfl rfl rfl (by omega)) ?_ | refine Nx.m_quiet_do rfl rfl rfl rfl rfl rfl rfl (by first | exact QRun.opr rfl | exact QRun.idxi rfl rfl rfl rfl (by omega) (by omega) (hl.isSome (by omega) (by omega)) | exact QRun.loads rfl rfl rfl (hl.rds (k := ((k : Int) - 1).toNat) (by omega)) rfl | exact QRun.loads rfl rfl rfl (Rds.at_ 0 rfl) rfl | exact QRun.slice_hi rfl rfl rfl rfl (by omega)) ?_ | refine Nx.m ?_ | refine Nx.zm ?_ | refine Nx.zt (fun hc => ?_) (fun hc => ?_))
                | refine Nx.zx ?_ | fail
              exact Nx.ret_fn rfl [] ⟨by rw [hstop (by rw [hca]; decide), hca], rfl⟩ (by (exact Ent.auto))
            · repeat' first
                | ((with_reducible refine Nx.is_wp ?_); first | refine Nx.wo ?_ | refine Nx.p_draw (id := 9) rfl [0, 1, 2, 3, 4, 5, 6, 7, 8, 9, 10, 11] [9] _ rfl rfl (by kernel_rfl) (by kernel_rfl) rfl (by repeat first | exact PanicOk.fn | refine PanicOk.then_ ?_ | refine PanicOk.inB ?_) (Ent.refl _) ?_ | refine Nx.p_draw (id := 11) rfl [0, 1, 2, 3, 4] [4] _ rfl rfl (by kernel_rfl) (by kernel_rfl) rfl (by repeat first | exact PanicOk.fn | refine PanicOk.then_ ?_ | refine PanicOk.inB ?_) (Ent.refl _) ?_ | refine Nx.zp (fun hc => ?_) (fun hc => ?_))
                | (refine Nx.zo ?_; first | refine Nx.opr rfl rfl ?_ | refine Nx.callv rfl rfl rfl (by kernel_rfl) rfl hov ?_ | refine Nx.so ?_ | refine Nx.sb (fun bx => ?_) | refine Nx.sa (fun A2 c2 => ?_))
                | ((with_reducible refine Nx.is_at ?_); first | refine Nx.a ?_ | refine Nx.zd ?_ | refine Nx.zs (fun hc => ?_) (fun hc => ?_))
                | ((with_reducible refine Nx.is_mix ?_); first | refine Nx.m_quiet rfl rfl rfl rfl rfl (by first | exact QRun.opr rfl | exact QRun.loads rfl rfl rfl (Rds.at_ 0 rfl) rfl | exact QRun.slice_hi rfl rfl rfl rfl (by omega)) ?_ | refine Nx.m_quiet_do rfl rfl rfl rfl rfl rfl rfl (by first | exact QRun.opr rfl | exact QRun.loads rfl rfl rfl (Rds.at_ 0 rfl) rfl | exact QRun.slice_hi rfl rfl rfl rfl (by omega)) ?_ | refine Nx.m ?_ | refine Nx.zm ?_ | refine Nx.zt (fun hc => ?_) (fun hc => ?_))
                | refine Nx.zx ?_ | fail
              exact Nx.ret_fn rfl [] ⟨by rw [hstop (by rw [hca]; decide), hca], rfl⟩ (by (exact Ent.auto))
          · have hm0 : meetsB (l.take k) (l.getD k default) = false := by simpa using hm
            have hca : checkAt l k = 0 := by unfold checkAt; rw [if_neg (by omega), if_neg hbf, if_neg hm]
            rw [hm0] at hov
            by_cases hk0 : 0 < k
            · have hcm := hcm hk0
              repeat' first
                | ((with_reducible refine Nx.is_wp ?_); first | refine Nx.wo ?_ | refine Nx.p_draw (id := 9) rfl [0, 1, 2, 3, 4, 5, 6, 7, 8, 9, 10, 11] [9] _ rfl rfl (by kernel_rfl) (by kernel_rfl) rfl (by repeat first | exact PanicOk.fn | refine PanicOk.then_ ?_ | refine PanicOk.inB ?_) (Ent.refl _) ?_ | refine Nx.p_draw (id := 11) rfl [0, 1, 2, 3, 4] [4] _ rfl rfl (by kernel_rfl) (by kernel_rfl) rfl (by repeat first | exact PanicOk.fn | refine PanicOk.then_ ?_ | refine PanicOk.inB ?_) (Ent.refl _) ?_ | refine Nx.zp (fun hc => ?_) (fun hc => ?_))
                | (refine Nx.zo ?_; first | refine Nx.opr rfl rfl ?_ | refine Nx.callv rfl rfl rfl (by kernel_rfl) rfl (compare_spec (l.getD ((k : Int) - 1).toNat default) (l.getD k default) I) ?_ | refine Nx.callv rfl rfl rfl (by kernel_rfl) rfl hov ?_ | refine Nx.so ?_ | refine Nx.sb (fun bx => ?_) | refine Nx.sa (fun A2 c2 => ?_))
                | ((with_reducible refine Nx.is_at ?_); first | refine Nx.a ?_ | refine Nx.zd ?_ | refine Nx.zs (fun hc => ?_) (fun hc => ?_))
                | ((with_reducible refine Nx.is_mix ?_); first | refine Nx.m_quiet rfl rfl rfl rfl rfl (by first | exact QRun.opr rfl | exact QRun.idxi rfl rfl rfl rfl (by omega) (by omega) (hl.isSome (by omega) (by omega)) | exact QRun.loads rfl rfl rfl (hl.rds (k := ((k : Int) - 1).toNat) (by omega)) rfl | exact QRun.loads rfl rfl rfl (Rds.at_ 0 rfl) rfl | exact QRun.slice_hi rfl rfl rfl rfl (by omega)) ?_ | refine Nx.m_quiet_do rfl rfl rfl rfl rfl rfl rfl (by first | exact QRun.opr rfl | exact QRun.idxi rfl rfl rfl rfl (by omega) (by omega) (hl.isSome (by omega) (by omega)) | exact QRun.loads rfl rfl rfl (hl.rds (k := ((k : Int) - 1).toNat) (by omega)) rfl | exact QRun.loads rfl rfl rfl (Rds.at_ 0 rfl) rfl | exact QRun.slice_hi rfl rfl rfl rfl (by omega)) ?_ | refine Nx.m ?_ | refine Nx.zm ?_ | refine Nx.zt (fun hc => ?_) (fun hc => ?_))
                | refine Nx.zx ?_ | fail
              exact Nx.again (k + 1) ⟨hlt, hgo hca⟩ (by omega) ⟨rfl, rfl, rfl, rfl, trivial⟩ (by (exact Ent.auto))
            · repeat' first
                | ((with_reducible refine Nx.is_wp ?_); first | refine Nx.wo ?_ | refine Nx.p_draw (id := 9) rfl [0, 1, 2, 3, 4, 5, 6, 7, 8, 9, 10, 11] [9] _ rfl rfl (by kernel_rfl) (by kernel_rfl) rfl (by repeat first | exact PanicOk.fn | refine PanicOk.then_ ?_ | refine PanicOk.inB ?_) (Ent.refl _) ?_ | refine Nx.p_draw (id := 11) rfl [0, 1, 2, 3, 4] [4] _ rfl rfl (by kernel_rfl) (by kernel_rfl) rfl (by repeat first | exact PanicOk.fn | refine PanicOk.then_ ?_ | refine PanicOk.inB ?_) (Ent.refl _) ?_ | refine Nx.zp (fun hc => ?_) (fun hc => ?_))
                | (refine Nx.zo ?_; first | refine Nx.opr rfl rfl ?_ | refine Nx.callv rfl rfl rfl (by kernel_rfl) rfl hov ?_ | refine Nx.so ?_ | refine Nx.sb (fun bx => ?_) | refine Nx.sa (fun A2 c2 => ?_))
                | ((with_reducible refine Nx.is_at ?_); first | refine Nx.a ?_ | refine Nx.zd ?_ | refine Nx.zs (fun hc => ?_) (fun hc => ?_))
                | ((with_reducible refine Nx.is_mix ?_); first | refine Nx.m_quiet rfl rfl rfl rfl rfl (by first | exact QRun.opr rfl | exact QRun.loads rfl rfl rfl (Rds.at_ 0 rfl) rfl | exact QRun.slice_hi rfl rfl rfl rfl (by omega)) ?_ | refine Nx.m_quiet_do rfl rfl rfl rfl rfl rfl rfl (by first | exact QRun.opr rfl | exact QRun.loads rfl rfl rfl (Rds.at_ 0 rfl) rfl | exact QRun.slice_hi rfl rfl rfl rfl (by omega)) ?_ | refine Nx.m ?_ | refine Nx.zm ?_ | refine Nx.zt (fun hc => ?_) (fun hc => ?_))
                | refine Nx.zx ?_ | fail
              exact Nx.again (k + 1) ⟨hlt, hgo hca⟩ (by omega) ⟨rfl, rfl, rfl, rfl, trivial⟩ (by (exact Ent.auto))
    · obtain rfl : k = l.length := by omega
      repeat' first
        | ((with_reducible refine Nx.is_wp ?_); first | refine Nx.wo ?_ | refine Nx.zp (fun hc => ?_) (fun hc => ?_))
        | (refine Nx.zo ?_; first | refine Nx.opr rfl rfl ?_ | refine Nx.so ?_ | refine Nx.sb (fun bx => ?_) | refine Nx.sa (fun A2 c2 => ?_))
        | ((with_reducible refine Nx.is_at ?_); first | refine Nx.a ?_ | refine Nx.zd ?_ | refine Nx.zs (fun hc => ?_) (fun hc => ?_))
        | ((with_reducible refine Nx.is_mix ?_); first | refine Nx.m ?_ | refine Nx.zm ?_ | refine Nx.zt (fun hc => ?_) (fun hc => ?_))
        | refine Nx.zx ?_ | fail
      exact Nx.ret_fn rfl [] ⟨by rw [h0], rfl⟩ (by (exact Ent.auto))
end Go.Proofs.YtjnhoemgceghlaaGreat
/- Contracts of functions of the given program, and lemmas about plain lists and numbers: what the laws of this seat lean on. -/
namespace Go.Proofs.YtjnhoemgceghlaaGreat
open Go.Eng
attribute [local irreducible] opK wpList Code.wp Exit.then Exit.inBlock fnPost bodyPost Nx Calls Oper.wp Rd Rds Wr Ent Stars Blk Again Vec FnSpec wpMix QRun Stop Upto wpAt
/-! Codes, made names -/
abbrev rtBytes := SliceOf (fun x : Int => Value.int .u8 x)
structure rtCodesOk (I : PH) (A : Option Addr) (c : Nat) (L : List Int) : Prop where
  sl : rtBytes I A c L
  each : ∀ x ∈ L, 0 ≤ x ∧ x < 256
theorem rtCodesOk.mono {I I' : PH} {A : Option Addr} {c : Nat} {L : List Int} (hle : PH.le I I') (h : rtCodesOk I A c L) : rtCodesOk I' A c L := ⟨h.sl.mono hle, h.each⟩
/-! Putting a shift into its place -/
def insAt (l : List Shift) (x : Shift) : Nat := l.findIdx fun y => !(beforeB y x)
def insL (l : List Shift) (x : Shift) : List Shift := l.take (insAt l x) ++ [x] ++ l.drop (insAt l x)
def addE (l : List Shift) (x : Shift) : Int :=
  if checkE l ≠ 0 then checkE l else if nameB x.1 = false then 3 else if properB x = false then 43 else if meetsB l x = true then 46 else if l.length = 60 then 1 else 0
def addL (l : List Shift) (x : Shift) : List Shift := if addE l x = 0 then insL l x else l
theorem insAt_le (l : List Shift) (x : Shift) : insAt l x ≤ l.length := List.findIdx_le_length
theorem insL_len (l : List Shift) (x : Shift) : (insL l x).length = l.length + 1 := by
  have := insAt_le l x
  unfold insL
  simp only [List.length_append, List.length_take, List.length_drop, List.length_singleton]
  omega
abbrev shiftsR (A : Option Addr) (c : Nat) (l : List Shift) : Res := Vec 96 3 A l.length c (l.flatMap shC)
end Go.Proofs.YtjnhoemgceghlaaGreat
/- Contracts of functions of the given program, and lemmas about plain lists and numbers: what the laws of this seat lean on. -/
namespace Go.Proofs.YtjnhoemgceghlaaGreat
open Go.Eng
attribute [local irreducible] opK wpList Code.wp Exit.then Exit.inBlock fnPost bodyPost Nx Calls Oper.wp Rd Rds Wr Ent Stars Blk Again Vec FnSpec wpMix QRun Stop Upto wpAt
attribute [local irreducible] wpFork
theorem unstop {C : Cx} {e : Env} {I : PH} {R : List Res} {K : Act → World → Prop} (h : Nx C e I R K) : Nx C e I R (Stop K) := by unfold Stop; exact h
end Go.Proofs.YtjnhoemgceghlaaGreat
/- Contracts of functions of the given program, and lemmas about plain lists and numbers: what the laws of this seat lean on. -/
namespace Go.Proofs.YtjnhoemgceghlaaGreat
open Go.Eng
/-! Rotas: plain facts -/
theorem bless : ∀ (x y : List UInt8), Op.bytesLess x y = decide (x < y)
  | [], [] => by simp [Op.bytesLess]
  | [], b :: y => by simp [Op.bytesLess]
  | a :: x, [] => by simp [Op.bytesLess]
  | a :: x, b :: y => by
    simp only [Op.bytesLess, bless x y, List.cons_lt_cons_iff]
    rw [Bool.eq_iff_iff]
    simp
theorem strLt_eq (a b : List UInt8) : strLt a b = decide (a < b) := bless a b
theorem str_tri (a b : List UInt8) : a < b ∨ a = b ∨ b < a := by
  by_cases h : a < b
  · exact .inl h
  · by_cases h2 : b < a
    · exact .inr (.inr h2)
    · exact .inr (.inl (List.le_antisymm (List.not_lt.1 h2) (List.not_lt.1 h)))
theorem before_iff (a b : Shift) : beforeB a b = true ↔ (a.2.1 < b.2.1 ∨ (a.2.1 = b.2.1 ∧ a.1 < b.1)) := by
  unfold beforeB
  rw [strLt_eq]
  simp
theorem before_trans {a b c : Shift} (h1 : beforeB a b = true) (h2 : beforeB b c = true) : beforeB a c = true := by
  rw [before_iff] at *
  rcases h1 with h1 | ⟨h1, h3⟩ <;> rcases h2 with h2 | ⟨h2, h4⟩
  · exact .inl (by omega)
  · exact .inl (by omega)
  · exact .inl (by omega)
  · exact .inr ⟨by omega, List.lt_trans h3 h4⟩
theorem before_tri (a b : Shift) : beforeB a b = true ∨ (a.2.1 = b.2.1 ∧ a.1 = b.1) ∨ beforeB b a = true := by
  rw [before_iff, before_iff]
  by_cases h1 : a.2.1 < b.2.1
  · exact .inl (.inl h1)
  · by_cases h2 : b.2.1 < a.2.1
    · exact .inr (.inr (.inl h2))
    · have he : a.2.1 = b.2.1 := by omega
      rcases str_tri a.1 b.1 with h | h | h
      · exact .inl (.inr ⟨he, h⟩)
      · exact .inr (.inl ⟨he, h⟩)
      · exact .inr (.inr (.inr ⟨he.symm, h⟩))
theorem meet_symm (a b : Shift) : meetB a b = meetB b a := by
  unfold meetB
  rw [show (a.1 == b.1) = (b.1 == a.1) by rw [Bool.eq_iff_iff, beq_iff_eq, beq_iff_eq]; exact eq_comm]
  congr 1
  rw [decide_eq_decide]
  exact ⟨fun h => ⟨h.2, h.1⟩, fun h => ⟨h.2, h.1⟩⟩
/-- A valid rota, in plain words. -/
structure Rota (l : List Shift) : Prop where
  few : l.length ≤ 60
  each : ∀ x ∈ l, singleE x = 0
  asc : l.Pairwise fun a b => beforeB a b = true
  apart : l.Pairwise fun a b => meetB a b = false
theorem sh_at {l : List Shift} {j : Nat} (h : j < l.length) : l.getD j default = l[j] := by rw [List.getD_eq_getElem?_getD, List.getElem?_eq_getElem h]; rfl
theorem checkN_zero {l : List Shift} : ∀ {n : Nat}, checkN l n = 0 ↔ ∀ k, k < n → checkAt l k = 0
  | 0 => ⟨fun _ k hk => absurd hk (Nat.not_lt_zero _), fun _ => rfl⟩
  | n + 1 => by
    unfold checkN
    constructor
    · intro h k hk
      by_cases h0 : checkN l n = 0
      · rw [if_neg (by omega)] at h
        by_cases hkn : k = n
        · rw [hkn]; exact h
        · exact (checkN_zero.1 h0) k (by omega)
      · rw [if_pos h0] at h; exact absurd h h0
    · intro h
      have h0 : checkN l n = 0 := checkN_zero.2 fun k hk => h k (by omega)
      rw [if_neg (by omega)]
      exact h n (by omega)
theorem checkAt_zero {l : List Shift} {k : Nat} : checkAt l k = 0 ↔ singleE (l.getD k default) = 0 ∧ (0 < k → beforeB (l.getD (k - 1) default) (l.getD k default) = true) ∧ meetsB (l.take k) (l.getD k default) = false := by
  unfold checkAt
  by_cases h1 : singleE (l.getD k default) = 0
  · rw [if_neg (by omega)]
    by_cases h2 : 0 < k ∧ beforeB (l.getD (k - 1) default) (l.getD k default) = false
    · rw [if_pos h2]
      exact ⟨fun h => by omega, fun h => by have := h.2.1 h2.1; rw [h2.2] at this; cases this⟩
    · rw [if_neg h2]
      have h3 : 0 < k → beforeB (l.getD (k - 1) default) (l.getD k default) = true := fun h => by
        cases hb : beforeB (l.getD (k - 1) default) (l.getD k default) with
        | true => rfl
        | false => exact absurd ⟨h, hb⟩ h2
      cases hm : meetsB (l.take k) (l.getD k default) with
      | true => simp
      | false => exact ⟨fun _ => ⟨h1, h3, rfl⟩, fun _ => by simp⟩
  · rw [if_pos h1]
    exact ⟨fun h => absurd h h1, fun h => absurd h.1 h1⟩
theorem asc_of {l : List Shift} (h : ∀ k, 0 < k → k < l.length → beforeB (l.getD (k - 1) default) (l.getD k default) = true) : l.Pairwise fun a b => beforeB a b = true := by
  rw [List.pairwise_iff_getElem]
  have key : ∀ d i, (h1 : i + d + 1 < l.length) → beforeB (l.getD i default) (l.getD (i + d + 1) default) = true := by
    intro d
    induction d with
    | zero => intro i h1; have := h (i + 1) (by omega) h1; rw [Nat.add_sub_cancel] at this; exact this
    | succ d ih =>
      intro i h1
      have h2 := ih i (by omega)
      have h3 := h (i + d + 1 + 1) (by omega) (by omega)
      rw [Nat.add_sub_cancel] at h3
      exact before_trans h2 (by rw [show i + (d + 1) + 1 = i + d + 1 + 1 by omega]; exact h3)
  intro i j hi hj hij
  have := key (j - i - 1) i (by omega)
  rw [show i + (j - i - 1) + 1 = j by omega, sh_at hi, sh_at hj] at this
  exact this
theorem rota_iff {l : List Shift} : checkE l = 0 ↔ Rota l := by
  unfold checkE
  constructor
  · intro h
    by_cases h60 : 60 < l.length
    · rw [if_pos h60] at h; omega
    · rw [if_neg h60] at h
      have hk := checkN_zero.1 h
      refine ⟨by omega, fun x hx => ?_, asc_of fun k h0 hk' => (checkAt_zero.1 (hk k hk')).2.1 h0, ?_⟩
      · obtain ⟨k, hk', rfl⟩ := List.mem_iff_getElem.1 hx
        have := (checkAt_zero.1 (hk k hk')).1
        rw [sh_at hk'] at this
        exact this
      · rw [List.pairwise_iff_getElem]
        intro i j hi hj hij
        have := (checkAt_zero.1 (hk j hj)).2.2
        unfold meetsB at this
        rw [List.any_eq_false] at this
        have := this l[i] (by rw [List.mem_take_iff_getElem]; exact ⟨i, by omega, rfl⟩)
        rw [sh_at hj] at this
        simpa using this
  · rintro ⟨h1, h2, h3, h4⟩
    rw [if_neg (by omega), checkN_zero]
    rw [List.pairwise_iff_getElem] at h3 h4
    intro k hk
    rw [checkAt_zero, sh_at hk]
    refine ⟨h2 _ (List.getElem_mem _), fun h0 => ?_, ?_⟩
    · rw [sh_at (by omega)]; exact h3 _ _ _ _ (by omega)
    · unfold meetsB
      rw [List.any_eq_false]
      intro y hy
      rw [List.mem_take_iff_getElem] at hy
      obtain ⟨i, hi, rfl⟩ := hy
      rw [h4 i k (by omega) hk (by omega)]
      decide
theorem insAt_spec (l : List Shift) (x : Shift) : (∀ j, j < insAt l x → beforeB (l.getD j default) x = true) ∧ (insAt l x < l.length → beforeB (l.getD (insAt l x) default) x = false) := by
  refine ⟨fun j hj => ?_, fun h => ?_⟩
  · have hjl : j < l.length := by have := insAt_le l x; omega
    have := List.not_of_lt_findIdx hj
    rw [sh_at hjl]
    simpa using this
  · have := List.findIdx_getElem (w := h)
    rw [sh_at h]
    have h2 : (!(beforeB l[insAt l x] x)) = true := this
    simpa using h2
theorem single_proper {x : Shift} (h : singleE x = 0) : nameB x.1 = true ∧ properB x = true := by
  unfold singleE at h
  split at h
  · rename_i h1
    split at h
    · rename_i h2; exact ⟨h1, h2⟩
    · omega
  · omega
theorem meets_false {l : List Shift} {x : Shift} (h : meetsB l x = false) : ∀ y ∈ l, meetB y x = false := fun y hy => by
  unfold meetsB at h
  rw [List.any_eq_false] at h
  simpa using h y hy
theorem Rota.ins {l : List Shift} {x : Shift} (h : Rota l) (hx : singleE x = 0) (hm : meetsB l x = false) (hl : l.length < 60) : Rota (insL l x) := by
  have hle := insAt_le l x
  obtain ⟨s1, s2⟩ := insAt_spec l x
  have hap := meets_false hm
  have hpx := of_decide_eq_true (single_proper hx).2
  have hb : ∀ y ∈ l, beforeB y x = false → beforeB x y = true := fun y hy hf => by
    rcases before_tri x y with h1 | ⟨h1, h2⟩ | h1
    · exact h1
    · have hpy := of_decide_eq_true (single_proper (h.each y hy)).2
      have hmy := hap y hy
      unfold meetB at hmy
      rw [h2, beq_self_eq_true, Bool.true_and, decide_eq_false_iff_not] at hmy
      omega
    · rw [hf] at h1; cases h1
  have hlow : ∀ y ∈ l.take (insAt l x), beforeB y x = true := fun y hy => by
    rw [List.mem_take_iff_getElem] at hy
    obtain ⟨i, hi, rfl⟩ := hy
    have := s1 i (by omega)
    rw [sh_at (by omega)] at this
    exact this
  have hhigh : ∀ y ∈ l.drop (insAt l x), beforeB x y = true := fun y hy => by
    have hyl := List.mem_of_mem_drop hy
    obtain ⟨i, hi, rfl⟩ := List.mem_iff_getElem.1 hy
    rw [List.length_drop] at hi
    have hlt : insAt l x < l.length := by omega
    have h0 := hb _ (List.getElem_mem hlt) (by have := s2 hlt; rw [sh_at hlt] at this; exact this)
    by_cases hi0 : i = 0
    · subst hi0
      rw [List.getElem_drop]
      simpa using h0
    · have := (List.pairwise_iff_getElem.1 h.asc) (insAt l x) (insAt l x + i) hlt (by omega) (by omega)
      rw [List.getElem_drop]
      exact before_trans h0 this
  have hsp : l = l.take (insAt l x) ++ l.drop (insAt l x) := (List.take_append_drop _ _).symm
  refine ⟨by rw [insL_len]; omega, fun y hy => ?_, ?_, ?_⟩
  · unfold insL at hy
    simp only [List.mem_append, List.mem_singleton] at hy
    rcases hy with (hy | rfl) | hy
    · exact h.each y (List.mem_of_mem_take hy)
    · exact hx
    · exact h.each y (List.mem_of_mem_drop hy)
  · have ha := h.asc
    rw [hsp, List.pairwise_append] at ha
    unfold insL
    rw [List.append_assoc, List.pairwise_append]
    refine ⟨ha.1, List.pairwise_cons.2 ⟨hhigh, ha.2.1⟩, fun a ha' b hb' => ?_⟩
    rcases List.mem_cons.1 hb' with rfl | hb'
    · exact hlow a ha'
    · exact ha.2.2 a ha' b hb'
  · have ha := h.apart
    rw [hsp, List.pairwise_append] at ha
    unfold insL
    rw [List.append_assoc, List.pairwise_append]
    refine ⟨ha.1, List.pairwise_cons.2 ⟨fun y hy => by rw [meet_symm]; exact hap y (List.mem_of_mem_drop hy), ha.2.1⟩, fun a ha' b hb' => ?_⟩
    rcases List.mem_cons.1 hb' with rfl | hb'
    · exact hap a (List.mem_of_mem_take ha')
    · exact ha.2.2 a ha' b hb'
theorem Rota.add {l : List Shift} {x : Shift} (h : Rota l) : Rota (addL l x) := by
  unfold addL
  split
  · rename_i he
    unfold addE at he
    rw [if_neg (by rw [rota_iff.2 h]; decide)] at he
    split at he
    · omega
    rename_i h1
    split at he
    · omega
    rename_i h2
    split at he
    · omega
    rename_i h3
    split at he
    · omega
    rename_i h4
    refine h.ins ?_ (by simpa using h3) (by have := h.few; omega)
    unfold singleE
    simp at h1 h2
    rw [if_pos h1, if_pos h2]
  · exact h
end Go.Proofs.YtjnhoemgceghlaaGreat
/- Contracts of functions of the given program, and lemmas about plain lists and numbers: what the laws of this seat lean on. -/
namespace Go.Proofs.YtjnhoemgceghlaaGreat
def srtS_ren : Go.Shelf.Ren := ⟨fun | 6 => 81 | 8 => 86 | 9 => 105 | 19 => 116 | 20 => 117 | 21 => 128 | 22 => 129 | 23 => 130 | 24 => 131 | 25 => 132 | 26 => 133 | 27 => 134 | 28 => 135 | 29 => 136 | 36 => 164 | 31 => 140 | 32 => 141 | 37 => 165 | 38 => 166 | 39 => 126 | 41 => 174 | n => n, fun | 27 => 69 | 29 => 9 | 3 => 3 | 32 => 104 | 26 => 69 | 0 => 0 | 44 => 129 | 46 => 131 | 4 => 4 | 36 => 154 | 35 => 153 | 41 => 158 | 5 => 5 | 9 => 9 | 53 => 178 | 57 => 182 | 63 => 204 | 64 => 191 | n => n, fun | n => n⟩
theorem srtS : Go.Proofs.SlLaysM.n6 Tryz.prog srtS_ren where
  mixed := by kernel_rfl
  f6 := ⟨ "slices.Sort[[]string,string]", by decide, Tryz.func81.trans (congrArg some (by kernel_rfl))⟩
  f8 := Tryz.func86.trans (congrArg some (by kernel_rfl))
  f9 := ⟨ "slices.pdqsortOrdered[string]", by decide, Tryz.func105.trans (congrArg some (by kernel_rfl))⟩
  f19 := Tryz.func116.trans (congrArg some (by kernel_rfl))
  f20 := Tryz.func117.trans (congrArg some (by kernel_rfl))
  f21 := ⟨ "slices.insertionSortOrdered[string]", by decide, Tryz.func128.trans (congrArg some (by kernel_rfl))⟩
  f22 := ⟨ "slices.heapSortOrdered[string]", by decide, Tryz.func129.trans (congrArg some (by kernel_rfl))⟩
  f23 := ⟨ "slices.breakPatternsOrdered[string]", by decide, Tryz.func130.trans (congrArg some (by kernel_rfl))⟩
  f24 := ⟨ "slices.choosePivotOrdered[string]", by decide, Tryz.func131.trans (congrArg some (by kernel_rfl))⟩
  f25 := ⟨ "slices.reverseRangeOrdered[string]", by decide, Tryz.func132.trans (congrArg some (by kernel_rfl))⟩
  f26 := ⟨ "slices.partialInsertionSortOrdered[string]", by decide, Tryz.func133.trans (congrArg some (by kernel_rfl))⟩
  f27 := ⟨ "cmp.Less[string]", by decide, Tryz.func134.trans (congrArg some (by kernel_rfl))⟩
  f28 := ⟨ "slices.partitionEqualOrdered[string]", by decide, Tryz.func135.trans (congrArg some (by kernel_rfl))⟩
  f29 := ⟨ "slices.partitionOrdered[string]", by decide, Tryz.func136.trans (congrArg some (by kernel_rfl))⟩
  f31 := Tryz.func140.trans (congrArg some (by kernel_rfl))
  f32 := Tryz.func141.trans (congrArg some (by kernel_rfl))
  f36 := ⟨ "slices.siftDownOrdered[string]", by decide, Tryz.func164.trans (congrArg some (by kernel_rfl))⟩
  f37 := ⟨ "slices.medianAdjacentOrdered[string]", by decide, Tryz.func165.trans (congrArg some (by kernel_rfl))⟩
  f38 := ⟨ "slices.medianOrdered[string]", by decide, Tryz.func166.trans (congrArg some (by kernel_rfl))⟩
  f39 := ⟨ "cmp.isNaN[string]", by decide, Tryz.func126.trans (congrArg some (by kernel_rfl))⟩
  f41 := ⟨ "slices.order2Ordered[string]", by decide, Tryz.func174.trans (congrArg some (by kernel_rfl))⟩
  t0 := Tryz.underlying0
  a0 := Tryz.isAgg0
  z0 := Tryz.sizeOf0
  v0 := Tryz.zeroValue0
  t3 := Tryz.underlying3
  a3 := Tryz.isAgg3
  z3 := Tryz.sizeOf3
  v3 := Tryz.zeroValue3
  t4 := Tryz.underlying4
  a4 := Tryz.isAgg4
  z4 := Tryz.sizeOf4
  v4 := Tryz.zeroValue4
  t5 := Tryz.underlying5
  a5 := Tryz.isAgg5
  z5 := Tryz.sizeOf5
  v5 := Tryz.zeroValue5
  t9 := Tryz.underlying9
  a9 := Tryz.isAgg9
  z9 := Tryz.sizeOf9
  v9 := Tryz.zeroValue9
  t26 := Tryz.underlying69
  a26 := Tryz.isAgg69
  z26 := Tryz.sizeOf69
  v26 := Tryz.zeroValue69
  t27 := Tryz.underlying69
  a27 := Tryz.isAgg69
  z27 := Tryz.sizeOf69
  v27 := Tryz.zeroValue69
  t29 := Tryz.underlying9
  a29 := Tryz.isAgg9
  z29 := Tryz.sizeOf9
  v29 := Tryz.zeroValue9
  t32 := Tryz.underlying104
  a32 := Tryz.isAgg104
  z32 := Tryz.sizeOf104
  v32 := Tryz.zeroValue104
  t35 := Tryz.underlying153
  a35 := Tryz.isAgg153
  z35 := Tryz.sizeOf153
  v35 := Tryz.zeroValue153
  t36 := Tryz.underlying154
  a36 := Tryz.isAgg154
  z36 := Tryz.sizeOf154
  v36 := Tryz.zeroValue154
  t41 := Tryz.underlying158
  a41 := Tryz.isAgg158
  z41 := Tryz.sizeOf158
  v41 := Tryz.zeroValue158
  t44 := Tryz.underlying129
  a44 := Tryz.isAgg129
  z44 := Tryz.sizeOf129
  v44 := Tryz.zeroValue129
  t46 := Tryz.underlying131
  a46 := Tryz.isAgg131
  z46 := Tryz.sizeOf131
  v46 := Tryz.zeroValue131
  t53 := Tryz.underlying178
  a53 := Tryz.isAgg178
  z53 := Tryz.sizeOf178
  v53 := Tryz.zeroValue178
  t57 := Tryz.underlying182
  a57 := Tryz.isAgg182
  z57 := Tryz.sizeOf182
  v57 := Tryz.zeroValue182
  t63 := Tryz.underlying204
  a63 := Tryz.isAgg204
  z63 := Tryz.sizeOf204
  v63 := Tryz.zeroValue204
  t64 := Tryz.underlying191
  a64 := Tryz.isAgg191
  z64 := Tryz.sizeOf191
  v64 := Tryz.zeroValue191
end Go.Proofs.YtjnhoemgceghlaaGreat
namespace Go.Proofs.YtjnhoemgceghlaaGreat
open Go.Eng
def srtT (l : List (List UInt8)) : List (List UInt8) := l.mergeSort fun x y => decide (x ≤ y)
theorem srtT_len (l : List (List UInt8)) : (srtT l).length = l.length := List.length_mergeSort _
theorem vecT_cases {I : PH} {R : List Res} {W w : World} {t : TypeId} {A : Option Addr} {c : Nat} {l : List (List UInt8)} (h : St W I (Vec t 1 A l.length c (l.map strV) :: R) w) : (A = none ∧ l = [] ∧ c = 0) ∨ ∃ b, A = some ⟨b, 0, none⟩ ∧ l.length ≤ c := by
  obtain ⟨⟨m, ⟨m1, m2, hd, rfl, hv, h2⟩, hs⟩, hst⟩ := h
  rcases hv.2 with ⟨rfl, h1, rfl⟩ | ⟨b, cur, rfl, _, h1, _⟩
  · exact .inl ⟨rfl, List.eq_nil_of_length_eq_zero h1, rfl⟩
  · exact .inr ⟨b, rfl, h1⟩
abbrev textsR (A : Option Addr) (c : Nat) (l : List (List UInt8)) : Res := Vec 9 1 A l.length c (l.map strV)
set_option maxHeartbeats 8000000 in
theorem SortT_spec (A : Option Addr) (c : Nat) (l : List (List UInt8)) (I : PH) (hl : l.length < 4611686018427387904) :
    FnSpec Tryz.prog 81 [.slice A l.length c] I [textsR A c l] (fun v R' => v = .tuple #[] ∧ R' = [textsR A c (srtT l)]) := by
  intro w F hw
  rcases vecT_cases hw with ⟨rfl, rfl, rfl⟩ | ⟨b, rfl, hle⟩
  · refine (AnyM.slices_Sort_string_none srtS none 0 w).mono fun e w' => ?_
    rintro ⟨rfl, rfl⟩
    refine ⟨_, _, rfl, ⟨rfl, rfl⟩, ?_⟩
    have : srtT [] = [] := List.eq_nil_of_length_eq_zero (srtT_len [])
    rw [this]
    exact hw
  · obtain ⟨h1, h2⟩ := Vec.holds hw
    refine (AnyM.slices_Sort_string srtS b 0 c l w h1 h2 hl).mono fun e w' => ?_
    rintro ⟨rfl, n, os, rfl⟩
    exact ⟨_, _, rfl, ⟨rfl, rfl⟩, hw.putRow (srtT_len l) n os⟩
/-- Who is on duty, in the rota's order. -/
def onB (t : Int) (x : Shift) : Bool := decide (x.2.1 ≤ t ∧ t < x.2.2)
def onP (l : List Shift) (t : Int) : List (List UInt8) := (l.filter (onB t)).map (·.1)
def onT (l : List Shift) (t : Int) : List (List UInt8) := srtT (onP l t)
theorem onP_len (l : List Shift) (t : Int) : (onP l t).length ≤ l.length := by unfold onP; rw [List.length_map]; exact List.length_filter_le _ _
theorem onP_succ {l : List Shift} {t : Int} {k : Nat} (hk : k < l.length) : onP (l.take (k + 1)) t = if onB t (l.getD k default) = true then onP (l.take k) t ++ [(l.getD k default).1] else onP (l.take k) t := by
  unfold onP
  rw [List.take_succ_eq_append_getElem hk, List.filter_append, sh_at hk]
  by_cases h : onB t l[k] = true
  · rw [if_pos h]; simp [h]
  · rw [if_neg h]; simp [h]
section
attribute [local irreducible] opK wpList Code.wp Exit.then Exit.inBlock fnPost bodyPost Nx Calls Oper.wp Rd Rds Wr Ent Stars Blk Again Vec FnSpec wpMix QRun Stop Upto wpAt
set_option maxHeartbeats 8000000 in
set_option maxRecDepth 10000 in
theorem on_spec (A : Option Addr) (c : Nat) (l : List Shift) (t : Int) (I : PH) (hl : Shifts I A c l) (h9 : l.length ≤ 1000) :
    FnSpec Tryz.prog 57 [.slice A l.length c, .int .i64 t] I [] (fun v R' => ∃ A' c', v = .slice A' (onT l t).length c' ∧ R' = [textsR A' c' (onT l t)]) := by
  have hlen := hl.len
  refine FnSpec.enterP Tryz.func57 rfl Tryz.ntmps57 rfl fun w F => ?_
  repeat' first
    | ((with_reducible refine Nx.is_wp ?_); first | refine Nx.wo ?_ | refine Nx.zp (fun hc => ?_) (fun hc => ?_))
    | (refine Nx.zo ?_; first | refine Nx.opr rfl rfl ?_ | refine Nx.so ?_ | refine Nx.sb (fun bx => ?_) | refine Nx.sa (fun A2 c2 => ?_))
    | ((with_reducible refine Nx.is_at ?_); first | refine Nx.a ?_ | refine Nx.zd ?_ | refine Nx.zs (fun hc => ?_) (fun hc => ?_))
    | ((with_reducible refine Nx.is_mix ?_); first | refine Nx.m ?_ | refine Nx.zm ?_ | refine Nx.zt (fun hc => ?_) (fun hc => ?_))
    | refine Nx.zx ?_ | fail
  refine Nx.p_loop (σ := Nat × Option Addr × Nat) (fun s => [(1, .int .i64 t), (5, .slice s.2.1 (onP (l.take s.1) t).length s.2.2), (8, .slice A l.length c), (9, .int .i64 l.length), (10, .int .i64 (s.1 : Int))])
    (fun s => [textsR s.2.1 s.2.2 (onP (l.take s.1) t), F]) (fun s => s.1 ≤ l.length) (fun s => l.length - s.1) (0, none, 0) rfl (Nat.zero_le _) ⟨rfl, rfl, rfl, rfl, rfl, trivial⟩ ((Ent.vec_nil _ _ _).trans (by (exact Ent.auto))) ?_
  rintro ⟨k, A1, c1⟩ hk
  dsimp only at hk ⊢
  have hpl := onP_len (l.take k) t
  rw [List.length_take] at hpl
  by_cases hlt : k < l.length
  · have hs := onP_succ (t := t) hlt
    by_cases hon : onB t (l.getD k default) = true
    · rw [if_pos hon] at hs
      have hon' := of_decide_eq_true hon
      repeat' first
        | ((with_reducible refine Nx.is_wp ?_); first | refine Nx.wo ?_ | refine Nx.zp (fun hc => ?_) (fun hc => ?_))
        | (refine Nx.zo ?_; first | refine Nx.opr rfl rfl ?_ | refine Nx.indexAddr_nat rfl rfl rfl rfl rfl (by omega) (hl.isSome (by omega) (by omega)) ?_ | refine Nx.loads rfl rfl rfl rfl (hl.rds (by omega)) rfl ?_ | refine Nx.so ?_ | refine Nx.sb (fun bx => ?_) | refine Nx.sa (fun A2 c2 => ?_))
        | ((with_reducible refine Nx.is_at ?_); first | refine Nx.a ?_ | refine Nx.zd ?_ | refine Nx.zs (fun hc => ?_) (fun hc => ?_))
        | ((with_reducible refine Nx.is_mix ?_); first | refine Nx.m ?_ | refine Nx.zm ?_ | refine Nx.zt (fun hc => ?_) (fun hc => ?_))
        | refine Nx.zx ?_ | fail
      refine Nx.again (k + 1, A2, c2) hlt (by dsimp only; omega) ⟨rfl, by dsimp only; rw [hs, List.length_append]; rfl, rfl, rfl, rfl, trivial⟩ ?_
      dsimp only
      rw [hs]
      refine Ent.pickE 0 rfl ?_ (by (exact Ent.auto))
      unfold textsR
      rw [List.length_append, List.map_append]
      rfl
    · rw [if_neg hon] at hs
      have hon' := of_decide_eq_false (show onB t (l.getD k default) = false by simpa using hon)
      repeat' first
        | ((with_reducible refine Nx.is_wp ?_); first | refine Nx.wo ?_ | refine Nx.zp (fun hc => ?_) (fun hc => ?_))
        | (refine Nx.zo ?_; first | refine Nx.opr rfl rfl ?_ | refine Nx.indexAddr_nat rfl rfl rfl rfl rfl (by omega) (hl.isSome (by omega) (by omega)) ?_ | refine Nx.loads rfl rfl rfl rfl (hl.rds (by omega)) rfl ?_ | refine Nx.so ?_ | refine Nx.sb (fun bx => ?_) | refine Nx.sa (fun A2 c2 => ?_))
        | ((with_reducible refine Nx.is_at ?_); first | refine Nx.a ?_ | refine Nx.zd ?_ | refine Nx.zs (fun hc => ?_) (fun hc => ?_))
        | ((with_reducible refine Nx.is_mix ?_); first | refine Nx.m ?_ | refine Nx.zm ?_ | refine Nx.zt (fun hc => ?_) (fun hc => ?_))
        | refine Nx.zx ?_ | fail
      all_goals first
        | exact Nx.again (k + 1, A1, c1) hlt (by dsimp only; omega) ⟨rfl, by dsimp only; rw [hs]; rfl, rfl, rfl, rfl, trivial⟩ (by dsimp only; rw [hs]; (exact Ent.auto))
        | (exfalso; omega)
  · obtain rfl : k = l.length := by omega
    rw [List.take_length] at hpl ⊢
    repeat' first
      | ((with_reducible refine Nx.is_wp ?_); first | refine Nx.wo ?_ | refine Nx.zp (fun hc => ?_) (fun hc => ?_))
      | (refine Nx.zo ?_; first | refine Nx.opr rfl rfl ?_ | refine Nx.so ?_ | refine Nx.sb (fun bx => ?_) | refine Nx.sa (fun A2 c2 => ?_))
      | ((with_reducible refine Nx.is_at ?_); first | refine Nx.a ?_ | refine Nx.zd ?_ | refine Nx.zs (fun hc => ?_) (fun hc => ?_))
      | ((with_reducible refine Nx.is_mix ?_); first | refine Nx.m ?_ | refine Nx.zm ?_ | refine Nx.zt (fun hc => ?_) (fun hc => ?_))
      | refine Nx.zx ?_ | fail
    refine Nx.at_op rfl rfl ?_
    refine Nx.call rfl rfl rfl (by kernel_rfl) rfl (SortT_spec A1 c1 (onP l t) I (by omega)) (by (exact Ent.auto)) ?_
    rintro _ R' ⟨rfl, rfl⟩
    repeat' first
      | ((with_reducible refine Nx.is_wp ?_); first | refine Nx.wo ?_ | refine Nx.zp (fun hc => ?_) (fun hc => ?_))
      | (refine Nx.zo ?_; first | refine Nx.opr rfl rfl ?_ | refine Nx.so ?_ | refine Nx.sb (fun bx => ?_) | refine Nx.sa (fun A2 c2 => ?_))
      | ((with_reducible refine Nx.is_at ?_); first | refine Nx.a ?_ | refine Nx.zd ?_ | refine Nx.zs (fun hc => ?_) (fun hc => ?_))
      | ((with_reducible refine Nx.is_mix ?_); first | refine Nx.m ?_ | refine Nx.zm ?_ | refine Nx.zt (fun hc => ?_) (fun hc => ?_))
      | refine Nx.zx ?_ | fail
    exact Nx.ret_fn rfl [textsR A1 c1 (onT l t)] ⟨A1, c1, by rw [show (onT l t).length = (onP l t).length from srtT_len _], rfl⟩ (by unfold onT; (exact Ent.auto))
end
end Go.Proofs.YtjnhoemgceghlaaGreat
/- Contracts of functions of the given program, and lemmas about plain lists and numbers: what the laws of this seat lean on. -/
namespace Go.Proofs.YtjnhoemgceghlaaGreat
open Go.Eng
theorem tx_at {l : List (List UInt8)} {k : Nat} (h : k < l.length) : l.getD k default = l[k] := by rw [List.getD_eq_getElem?_getD, List.getElem?_eq_getElem h]; rfl
section
attribute [local irreducible] opK wpList Code.wp Exit.then Exit.inBlock fnPost bodyPost Nx Calls Oper.wp Rd Rds Wr Ent Stars Blk Again Vec FnSpec wpMix QRun Stop Upto wpAt
/-- A list while some are taken out of it. -/
structure DelS (p : List UInt8 → Bool) (l : List (List UInt8)) (s : Nat × List (List UInt8)) : Prop where
  le : s.1 ≤ l.length
  len : s.2.length = l.length
  head : s.2.take ((l.take s.1).filter fun x => !(p x)).length = (l.take s.1).filter fun x => !(p x)
  tail : ∀ j, s.1 ≤ j → s.2.getD j default = l.getD j default
  lt : ((l.take s.1).filter fun x => !(p x)).length < s.1
theorem take_snoc {l : List (List UInt8)} {p : List UInt8 → Bool} {k : Nat} (h : k < l.length) : (l.take (k + 1)).filter (fun x => !(p x)) = (l.take k).filter (fun x => !(p x)) ++ (if p (l.getD k default) = true then [] else [l.getD k default]) := by
  rw [List.take_succ_eq_append_getElem h, List.filter_append, tx_at h]
  congr 1
  cases hp : p l[k] <;> simp [hp]
theorem DelS.keep {p : List UInt8 → Bool} {l xs : List (List UInt8)} {k : Nat} (h : DelS p l (k, xs)) (hk : k < l.length) (hp : p (l.getD k default) = false) : DelS p l (k + 1, xs.set ((l.take k).filter fun x => !(p x)).length (l.getD k default)) := by
  have e := take_snoc (p := p) hk
  rw [if_neg (by rw [hp]; decide)] at e
  have hlt := h.lt
  have hlen := h.len
  have hh := h.head
  dsimp only at hlt hlen hh
  refine ⟨hk, by dsimp only; rw [List.length_set]; exact hlen, ?_, fun j hj => ?_, by dsimp only; rw [e]; simp only [List.length_append, List.length_singleton]; omega⟩
  · dsimp only
    rw [e, List.length_append, List.length_singleton, List.take_succ_eq_append_getElem (by rw [List.length_set]; omega), List.take_set_of_le (Nat.le_refl _), hh]
    simp
  · dsimp only at hj ⊢
    rw [List.getD_eq_getElem?_getD, List.getElem?_set_ne (by omega), ← List.getD_eq_getElem?_getD]
    exact h.tail j (by dsimp only; omega)
end
end Go.Proofs.YtjnhoemgceghlaaGreat
/- Contracts of functions of the given program, and lemmas about plain lists and numbers: what the laws of this seat lean on. -/
namespace Go.Proofs.YtjnhoemgceghlaaGreat
open Go.Eng
attribute [local irreducible] opK wpList Code.wp Exit.then Exit.inBlock fnPost bodyPost Nx Calls Oper.wp Rd Rds Wr Ent Stars Blk Again Vec FnSpec wpMix QRun Stop Upto wpAt
set_option maxHeartbeats 8000000 in
set_option maxRecDepth 10000 in
theorem On_spec2 (A : Option Addr) (c : Nat) (l : List Shift) (t : Int) (I : PH) (hl : Shifts I A c l) (ho : ∀ x ∈ l, shOk x) (hE : checkE l = 0) :
    FnSpec Tryz.prog 32 [.slice A l.length c, .int .i64 t] I [] (fun v R' => ∃ A' c', v = .slice A' (onT l t).length c' ∧ R' = [textsR A' c' (onT l t)]) := by
  have h60 := (rota_iff.1 hE).few
  have hCk := rtCheck_spec A c l I hl ho
  rw [hE] at hCk
  refine FnSpec.enterP Tryz.func32 rfl Tryz.ntmps32 rfl fun w F => ?_
  repeat' first
    | ((with_reducible refine Nx.is_wp ?_); first | refine Nx.wo ?_ | refine Nx.zp (fun hc => ?_) (fun hc => ?_))
    | (refine Nx.zo ?_; first | refine Nx.opr rfl rfl ?_ | refine Nx.callv rfl rfl rfl (by kernel_rfl) rfl hCk ?_ | refine Nx.so ?_ | refine Nx.sb (fun bx => ?_) | refine Nx.sa (fun A2 c2 => ?_))
    | ((with_reducible refine Nx.is_at ?_); first | refine Nx.a ?_ | refine Nx.zd ?_ | refine Nx.zs (fun hc => ?_) (fun hc => ?_))
    | ((with_reducible refine Nx.is_mix ?_); first | refine Nx.m ?_ | refine Nx.zm ?_ | refine Nx.zt (fun hc => ?_) (fun hc => ?_))
    | refine Nx.zx ?_ | fail
  refine Nx.at_op rfl rfl ?_
  refine Nx.call rfl rfl rfl (by kernel_rfl) rfl (on_spec A c l t I hl (by omega)) (by (exact Ent.auto)) ?_
  rintro _ R' ⟨A3, c3, rfl, rfl⟩
  repeat' first
    | ((with_reducible refine Nx.is_wp ?_); first | refine Nx.wo ?_ | refine Nx.zp (fun hc => ?_) (fun hc => ?_))
    | (refine Nx.zo ?_; first | refine Nx.opr rfl rfl ?_ | refine Nx.so ?_ | refine Nx.sb (fun bx => ?_) | refine Nx.sa (fun A2 c2 => ?_))
    | ((with_reducible refine Nx.is_at ?_); first | refine Nx.a ?_ | refine Nx.zd ?_ | refine Nx.zs (fun hc => ?_) (fun hc => ?_))
    | ((with_reducible refine Nx.is_mix ?_); first | refine Nx.m ?_ | refine Nx.zm ?_ | refine Nx.zt (fun hc => ?_) (fun hc => ?_))
    | refine Nx.zx ?_ | fail
  exact Nx.ret_fn rfl [_] ⟨A3, c3, rfl, rfl⟩ (by (exact Ent.auto))
end Go.Proofs.YtjnhoemgceghlaaGreat
/- Contracts of functions of the given program, and lemmas about plain lists and numbers: what the laws of this seat lean on. -/
namespace Go.Proofs.YtjnhoemgceghlaaGreat
open Go.Eng
attribute [local irreducible] opK wpList Code.wp Exit.then Exit.inBlock fnPost bodyPost Nx Calls Oper.wp Rd Rds Wr Ent Stars Blk Again Vec FnSpec wpMix QRun Stop Upto wpAt
def full3 : List Shift := [([97, 110, 110], 0, 1000), ([98, 111, 98], 0, 1000), ([99, 121, 100], 10, 500)]
theorem full3_ok : checkE full3 = 0 := by decide
theorem full3_sh : ∀ x ∈ full3, shOk x := by
  intro x hx
  simp only [full3, List.mem_cons, List.not_mem_nil, or_false] at hx
  rcases hx with rfl | rfl | rfl <;> exact ⟨by decide, by unfold I64; decide, by unfold I64; decide⟩
set_option maxHeartbeats 8000000 in
set_option maxRecDepth 10000 in
theorem Full_spec (I : PH) : FnSpec Tryz.prog 33 [] I [] (fun v R' => ∃ A' c', v = .slice A' full3.length c' ∧ R' = [shiftsR A' c' full3]) := by
  refine FnSpec.enterP Tryz.func33 rfl Tryz.ntmps33 rfl fun w F => ?_
  repeat' first
    | ((with_reducible refine Nx.is_wp ?_); first | refine Nx.wo ?_ | refine Nx.zp (fun hc => ?_) (fun hc => ?_))
    | (refine Nx.zo ?_; first | refine Nx.opr rfl rfl ?_ | refine Nx.so ?_ | refine Nx.sb (fun bx => ?_) | refine Nx.sa (fun A2 c2 => ?_))
    | ((with_reducible refine Nx.is_at ?_); first | refine Nx.a ?_ | refine Nx.zd ?_ | refine Nx.zs (fun hc => ?_) (fun hc => ?_))
    | ((with_reducible refine Nx.is_mix ?_); first | refine Nx.m ?_ | refine Nx.zm ?_ | refine Nx.zt (fun hc => ?_) (fun hc => ?_))
    | refine Nx.zx ?_ | fail
  refine Nx.blk_vec 0 3 3 rfl rfl (by omega) ?_
  exact Nx.ret_fn rfl [shiftsR (some ⟨bx, 0, none⟩) 3 full3] ⟨_, _, rfl, rfl⟩ (by (exact Ent.auto))
end Go.Proofs.YtjnhoemgceghlaaGreat
/- Contracts of functions of the given program, and lemmas about plain lists and numbers: what the laws of this seat lean on. -/
namespace Go.Proofs.YtjnhoemgceghlaaGreat
open Go.Eng Go.Sol
attribute [local irreducible] opK wpList Code.wp Exit.then Exit.inBlock fnPost bodyPost Nx Calls Oper.wp Rd Rds Wr Ent Stars Blk Again Vec FnSpec wpMix QRun Stop Upto wpAt
/-! The example of the tops: a table with a protected cell, and two persons on duty -/
def exTw (g : Nat) : List Row := [(some ⟨g, 0, none⟩, 3, [0, 1, 2])]
def exTr (v g : Nat) (A : Option Addr) : Rel := ⟨0, some ⟨v, 0, none⟩, 1, exTw g, (A, 3, [1, 5, 4])⟩
theorem exPu (g : Nat) : sums (pubOf [3] (exTw g)) [1, 5, 4] (prod (szs (exTw g))).toNat 3 = [1, 5, 4] := by kernel_rfl
theorem exPr (g : Nat) : (prod (szs (exTw g))).toNat = 3 := by kernel_rfl
theorem exL0 (v g : Nat) (A : Option Addr) : pbF [3] [] (exTr v g A) 3 [0] 1 0 = false := by kernel_rfl
theorem exL1 (v g : Nat) (A : Option Addr) : pbF [3] [] (exTr v g A) 3 [0] 1 1 = true := by kernel_rfl
theorem exLE (v g : Nat) (A : Option Addr) : lstE [3] [] (exTr v g A) [1, 1, 1] [0] 1 = 0 := by kernel_rfl
theorem exLeast2 {v g : Nat} {A : Option Addr} {res : Option Nat} (h : IsLeast [1, 1, 1] (pbF [3] [] (exTr v g A) 3 [0] 1) res) : res = some 1 := by
  cases res with
  | none =>
    have := h 1 (by decide)
    rw [exL1] at this; cases this
  | some s =>
    obtain ⟨h1, h2, h3⟩ := h
    have h3 := h3 1 (by decide) (exL1 _ _ _)
    have h1 : s < 8 := h1
    have h4 : s = 0 ∨ s = 1 ∨ s = 2 ∨ s = 3 ∨ s = 4 ∨ s = 5 ∨ s = 6 ∨ s = 7 := by omega
    rcases h4 with rfl | rfl | rfl | rfl | rfl | rfl | rfl | rfl
    · rw [exL0] at h2; cases h2
    · rfl
    · exact absurd h3 (by decide)
    · exact absurd h3 (by decide)
    · exact absurd h3 (by decide)
    · exact absurd h3 (by decide)
    · exact absurd h3 (by decide)
    · exact absurd h3 (by decide)
theorem exOn : (onT full3 0).length = 2 := by
  unfold onT
  rw [srtT_len]
  rfl
theorem exS33 : Sizes [3] := ⟨by decide, by decide, by decide⟩
set_option maxHeartbeats 16000000 in
set_option maxRecDepth 10000 in
theorem awakeT_spec (I : PH) : FnSpec Tryz.prog 11 [] I [] (fun v R' => v = .bool true ∧ R' = []) := by
  refine FnSpec.enterP Tryz.func11 rfl Tryz.ntmps11 rfl fun w F => ?_
  repeat' first
    | ((with_reducible refine Nx.is_wp ?_); first | refine Nx.p_stopr 3 rfl ?_ | refine Nx.wo ?_ | refine Nx.zp (fun hc => ?_) (fun hc => ?_))
    | (refine Nx.zo ?_; first | refine Nx.opr rfl rfl ?_ | refine Nx.so ?_ | refine Nx.sb (fun bx => ?_) | refine Nx.sa (fun A2 c2 => ?_))
    | ((with_reducible refine Nx.is_at ?_); first | refine Nx.a ?_ | refine Nx.zd ?_ | refine Nx.zs (fun hc => ?_) (fun hc => ?_))
    | ((with_reducible refine Nx.is_mix ?_); first | refine Nx.m ?_ | refine Nx.zm ?_ | refine Nx.zt (fun hc => ?_) (fun hc => ?_))
    | refine Nx.zx ?_ | fail
  refine Nx.unstop ?_
  rename_i bsz b1 g1 v1
  revert bx; intro b2
  refine Nx.ent (R' := Stars [Blk v1 25 [.slice (some ⟨g1, 0, none⟩) 3 3], Blk g1 3 [.int .i64 0, .int .i64 1, .int .i64 2], Blk bsz 3 [.int .i64 3]] :: [Blk b2 35 [.slice (some ⟨v1, 0, none⟩) 1 1], Blk b1 27 [.slice (some ⟨bsz, 0, none⟩) 1 1], F]) (Ent.trans (R' := [Blk v1 25 [.slice (some ⟨g1, 0, none⟩) 3 3], Blk g1 3 [.int .i64 0, .int .i64 1, .int .i64 2], Blk bsz 3 [.int .i64 3]] ++ [Blk b2 35 [.slice (some ⟨v1, 0, none⟩) 1 1], Blk b1 27 [.slice (some ⟨bsz, 0, none⟩) 1 1], F]) (by (exact Ent.auto)) Ent.stars) ?_
  refine Nx.freezeAt 0 rfl fun I1 m1 hI1 hm1 h1 => ?_
  obtain ⟨k0, l0, c0⟩ := Stars.get 0 h1 rfl
  obtain ⟨k1, l1, c1⟩ := Stars.get 1 h1 rfl
  obtain ⟨k2, l2, c2⟩ := Stars.get 2 h1 rfl
  have hsz : Ints I1 (some ⟨bsz, 0, none⟩) 1 [3] := Blk.sliceOf (t := 3) (l := [3]) (l2.trans hm1) c2 (by decide)
  have hG1 : Ints I1 (some ⟨g1, 0, none⟩) 3 [0, 1, 2] := Blk.sliceOf (t := 3) (l := [0, 1, 2]) (l1.trans hm1) c1 (by decide)
  have hR1 : RowsOf I1 (some ⟨v1, 0, none⟩) 1 (exTw g1) := ⟨Blk.sliceOf (t := 25) (l := exTw g1) (l0.trans hm1) c0 (by unfold maxLen; simp [exTw]), fun r hr => by rw [List.mem_singleton.1 hr]; exact hG1⟩
  have hw1 : Viewed [3] (exTw g1) := ⟨rfl, fun k hk => by
    obtain rfl : k = 0 := by simpa [exTw] using hk
    exact ⟨rfl, rfl⟩⟩
  have hPu := fun (bt : Nat) (m I' : PH) (hle : PH.le I1 I') (hm : PH.le m I') (hv : Stars [Blk bt 3 [.int .i64 1, .int .i64 5, .int .i64 4]] m) => (by
    obtain ⟨q1, z1, y1⟩ := Stars.get 0 hv rfl
    have h := Publish_spec (some ⟨bsz, 0, none⟩) (some ⟨v1, 0, none⟩) (some ⟨bt, 0, none⟩) 1 1 3 [3] [1, 5, 4] (exTw g1) I' (hsz.mono hle) exS33 (hR1.mono hle) hw1 (Blk.sliceOf (t := 3) (l := [1, 5, 4]) (z1.trans hm) y1 (by decide)) ⟨rfl, fun j hj => by
      have : j = 0 ∨ j = 1 ∨ j = 2 := by have : j < 3 := hj; omega
      rcases this with rfl | rfl | rfl <;> decide⟩
    rw [show ([1, 5, 4] : List Int).length = 3 from rfl, exPu, exPr] at h
    exact h :
    FnSpec Tryz.prog 10 [.agg #[.slice (some ⟨bsz, 0, none⟩) 1 1], .agg #[.slice (some ⟨v1, 0, none⟩) 1 1], .slice (some ⟨bt, 0, none⟩) 3 3] I' [] (fun u R' => ∃ A', u = .tuple #[.slice A' 3 3, .int .i64 0] ∧ R' = [Vec 3 1 A' 3 3 (([1, 5, 4] : List Int).map (Value.int .i64))]))
  repeat' first
    | ((with_reducible refine Nx.is_wp ?_); first | refine Nx.p_stopr 4 rfl ?_ | refine Nx.wo ?_ | refine Nx.zp (fun hc => ?_) (fun hc => ?_))
    | (refine Nx.zo ?_; first | refine Nx.opr rfl rfl ?_ | (refine Nx.call rfl rfl rfl (by kernel_rfl) rfl (FnSpec.keep [Blk _ 3 [.int .i64 1, .int .i64 5, .int .i64 4]] fun m I' hle hm' hv => hPu _ m I' hle hm' hv) (by (exact Ent.auto)) ?_; rintro _ _ ⟨_, ⟨Ap, rfl, rfl⟩, rfl⟩) | refine Nx.so ?_ | refine Nx.sb (fun bx => ?_) | refine Nx.sa (fun A2 c2 => ?_))
    | ((with_reducible refine Nx.is_at ?_); first | refine Nx.a ?_ | refine Nx.zd ?_ | refine Nx.zs (fun hc => ?_) (fun hc => ?_))
    | ((with_reducible refine Nx.is_mix ?_); first | refine Nx.m ?_ | refine Nx.zm ?_ | refine Nx.zt (fun hc => ?_) (fun hc => ?_))
    | refine Nx.zx ?_ | fail
  refine Nx.unstop ?_
  refine Nx.ent (R' := [Vec 3 1 Ap 3 3 (([1, 5, 4] : List Int).map (Value.int .i64)), Blk b2 35 [.slice (some ⟨v1, 0, none⟩) 1 1], Blk b1 27 [.slice (some ⟨bsz, 0, none⟩) 1 1], F]) (by (exact Ent.auto)) ?_
  refine Nx.freezeAt 0 rfl fun I2 m2 hI2 hm2 h2 => ?_
  have hX : Ints I2 Ap 3 [1, 5, 4] := Vec.sliceOf (l := [1, 5, 4]) hm2 h2
  have hnil : Rels I2 none 0 [] := ⟨Vec.sliceN (t := 43) (A := none) (l := ([] : List Rel)) (f := relC) (sz := 3) hm2 Vec.nil (fun _ _ => rfl), fun r hr => (by cases hr), fun r hr => (by cases hr)⟩
  have hLe := fun (bw bp : Nat) (m I' : PH) (hle : PH.le I2 I') (hm : PH.le m I') (hv : Stars [Blk bw 3 [.int .i64 1, .int .i64 1, .int .i64 1], Blk bp 3 [.int .i64 0]] m) => (by
    obtain ⟨q1, z1, y1⟩ := Stars.get 0 hv rfl
    obtain ⟨q2, z2, y2⟩ := Stars.get 1 hv rfl
    have h := LeastP_spec (some ⟨bsz, 0, none⟩) none (some ⟨bw, 0, none⟩) (some ⟨bp, 0, none⟩) 1 0 3 1 [3] [] (exTr v1 g1 Ap) [1, 1, 1] [0] 1 I' (hsz.mono (hI2.trans hle)) exS33 (hnil.mono hle) (fun r hr => (by cases hr)) (Nat.zero_le _) (hR1.mono (hI2.trans hle)) (hX.mono hle) hw1 (show 3 ≤ 6 by decide) (Blk.sliceOf (t := 3) (l := [1, 1, 1]) (z1.trans hm) y1 (by decide)) (Blk.sliceOf (t := 3) (l := [0]) (z2.trans hm) y2 (by decide)) (by decide)
    refine FnSpec.mono h fun u R' hu => ?_
    obtain ⟨res, A', c', hil, rfl, rfl⟩ := hu
    have hres := exLeast2 (hil (exLE _ _ _))
    rw [exLE, hres]
    exact ⟨A', c', rfl, rfl⟩ :
    FnSpec Tryz.prog 13 [.agg #[.slice (some ⟨bsz, 0, none⟩) 1 1], .slice none 0 0, .agg #[.int .i64 0, .slice (some ⟨v1, 0, none⟩) 1 1, .slice Ap 3 3], .slice (some ⟨bw, 0, none⟩) 3 3, .slice (some ⟨bp, 0, none⟩) 1 1, .int .i64 1] I' [] (fun u R' => ∃ (A' : Option Addr) (c' : Nat), u = .tuple #[.slice A' 1 c', .int .i64 1, .int .i64 0] ∧ R' = [iR A' c' [0]]))
  repeat' first
    | ((with_reducible refine Nx.is_wp ?_); first | refine Nx.p_stopr 5 rfl ?_ | refine Nx.wo ?_ | refine Nx.zp (fun hc => ?_) (fun hc => ?_))
    | (refine Nx.zo ?_; first | refine Nx.opr rfl rfl ?_ | (refine Nx.call rfl rfl rfl (by kernel_rfl) rfl (FnSpec.keep [Blk _ 3 [.int .i64 1, .int .i64 1, .int .i64 1], Blk _ 3 [.int .i64 0]] fun m I' hle hm' hv => hLe _ _ m I' hle hm' hv) (by (exact Ent.auto)) ?_; rintro _ _ ⟨_, ⟨A5, c5, rfl, rfl⟩, rfl⟩) | refine Nx.so ?_ | refine Nx.sb (fun bx => ?_) | refine Nx.sa (fun A2 c2 => ?_))
    | ((with_reducible refine Nx.is_at ?_); first | refine Nx.a ?_ | refine Nx.zd ?_ | refine Nx.zs (fun hc => ?_) (fun hc => ?_))
    | ((with_reducible refine Nx.is_mix ?_); first | refine Nx.m ?_ | refine Nx.zm ?_ | refine Nx.zt (fun hc => ?_) (fun hc => ?_))
    | refine Nx.zx ?_ | fail
  refine Nx.unstop ?_
  refine Nx.ent (R' := [iR A5 c5 [0], F]) (by (exact Ent.auto)) ?_
  refine Nx.freezeAt 0 rfl fun I3 m3 hI3 hm3 h3 => ?_
  have h5 : Ints I3 A5 c5 [0] := Vec.sliceOf hm3 h3
  have hOn := fun (A' : Option Addr) (c' : Nat) (m I' : PH) (hle : PH.le I3 I') (hm : PH.le m I') (hv : Stars [shiftsR A' c' full3] m) => (by
    obtain ⟨q1, z1, y1⟩ := Stars.get 0 hv rfl
    have h := On_spec2 A' c' full3 0 I' (Vec.sliceN (z1.trans hm) y1 (fun _ _ => rfl)) full3_sh full3_ok
    rw [exOn] at h
    exact h :
    FnSpec Tryz.prog 32 [.slice A' 3 c', .int .i64 0] I' [] (fun v R' => ∃ A2 c2, v = .slice A2 2 c2 ∧ R' = [textsR A2 c2 (onT full3 0)]))
  repeat' first
    | ((with_reducible refine Nx.is_wp ?_); first | refine Nx.wo ?_ | refine Nx.zp (fun hc => ?_) (fun hc => ?_))
    | (refine Nx.zo ?_; first | refine Nx.opr rfl rfl ?_ | (refine Nx.call (Rpre := []) rfl rfl rfl (by kernel_rfl) rfl (Full_spec _) (Ent.refl _) ?_; rintro _ _ ⟨A6, c6, rfl, rfl⟩) | (refine Nx.call rfl rfl rfl (by kernel_rfl) rfl (FnSpec.keep [shiftsR _ _ full3] fun m I' hle hm' hv => hOn _ _ m I' hle hm' hv) (by (exact Ent.auto)) ?_; rintro _ _ ⟨_, ⟨A7, c7, rfl, rfl⟩, rfl⟩) | refine Nx.indexAddr_nat (A := A5) (i := 0) (sz := 1) rfl rfl rfl rfl rfl (by decide) (h5.isSome (by decide)) ?_ | refine Nx.load rfl rfl rfl (h5.rd (k := 0) (by decide)) ?_ | refine Nx.so ?_ | refine Nx.sb (fun bx => ?_) | refine Nx.sa (fun A2 c2 => ?_))
    | ((with_reducible refine Nx.is_at ?_); first | refine Nx.a ?_ | refine Nx.zd ?_ | refine Nx.zs (fun hc => ?_) (fun hc => ?_))
    | ((with_reducible refine Nx.is_mix ?_); first | refine Nx.m ?_ | refine Nx.zm ?_ | refine Nx.zt (fun hc => ?_) (fun hc => ?_))
    | refine Nx.zx ?_ | fail
  exact Nx.imm_le ((hI1.trans hI2).trans hI3) (Nx.ret_fn rfl [] ⟨rfl, rfl⟩ (by (exact Ent.auto)))
end Go.Proofs.YtjnhoemgceghlaaGreat
/- Contracts of functions of the given program, and lemmas about plain lists and numbers: what the laws of this seat lean on. -/
namespace Go.Proofs.YtjnhoemgceghlaaGreat
open Go.Eng Go.Sol
attribute [local irreducible] opK wpList Code.wp Exit.then Exit.inBlock fnPost bodyPost Nx Calls Oper.wp Rd Rds Wr Ent Stars Blk Again Vec FnSpec wpMix QRun Stop Upto wpAt
attribute [local irreducible] wpFork
/-! One more release behind others, in TopSuppressed: allocations in any order (written by mkW3.py) -/
set_option maxRecDepth 10000 in
set_option maxHeartbeats 8000000 in
theorem top24 (B As Av Ap : Option Addr) (cs ca cv cz sn vn zn b4 b19 : Nat) (num : Int) (rs : List Rel) (v7 v9 v11 v12 v13 v14 v16 v18 v20 : Value) (xs : List Int) (er : Int) (I : PH) (hr : SliceN relC 3 I As ca rs) (h9 : rs.length ≤ 1000) (w : World) (X F : Res) (Q : Exit → Act → World → Prop) (hQ : PanicOk Q)
    (spec : ∀ A3 c3 q I', PH.le I I' → PH.le q I' → Stars [Vec 43 3 A3 (rs.length + 1) c3 (rs.flatMap relC ++ [.int .i64 num, .slice Av vn cv, .slice Ap zn cz])] q → FnSpec Tryz.prog 18 [.agg #[.slice B sn cs], .slice A3 (rs.length + 1) c3] I' [] (fun u R' => ∃ (A' : Option Addr) (c' : Nat), u = .tuple #[.slice A' xs.length c', .int .i64 er] ∧ R' = [iR A' c' xs]))
    (h : ∀ (A5 : Option Addr) (c5 : Nat), Nx ⟨Tryz.prog, 172, w⟩ [(21, .slice A5 xs.length c5), (22, .int .i64 er), (4, .pointer (some ⟨b4, 0, none⟩)), (6, .slice As rs.length ca), (19, .pointer (some ⟨b19, 0, none⟩)), (7, v7), (9, v9), (11, v11), (12, v12), (13, v13), (14, v14), (16, v16), (18, v18), (20, v20)] I [iR A5 c5 xs, Blk b4 27 [.slice B sn cs], Blk b19 43 [.int .i64 num, .slice Av vn cv, .slice Ap zn cz], X, F] (Q .normal)) :
    Nx ⟨Tryz.prog, 172, w⟩ [(4, .pointer (some ⟨b4, 0, none⟩)), (6, .slice As rs.length ca), (19, .pointer (some ⟨b19, 0, none⟩)), (7, v7), (9, v9), (11, v11), (12, v12), (13, v13), (14, v14), (16, v16), (18, v18), (20, v20)] I [Blk b4 27 [.slice B sn cs], Blk b19 43 [.int .i64 num, .slice Av vn cv, .slice Ap zn cz], X, F]
      (Code.wp Tryz.prog (cl (cr (cr (cr (cr (cl (cl (cr (cl (cl (cr (cl (cr (cr (cr (cr (cr (cr (cr (cr (cr (cr (cr (cr (bodyOf Tryz.f3))))))))))))))))))))))))) Q) := by
  have hcap := hr.cap
  refine Nx.p_fork (id := 24) rfl [0, 2, 4] [8, 9, 10, 11, 12] [1, 3, 5, 6, 7] [Blk b4 27 [.slice B sn cs], Blk b19 43 [.int .i64 num, .slice Av vn cv, .slice Ap zn cz]] 10 rfl rfl (by kernel_rfl) (by kernel_rfl) (by kernel_rfl) hQ (by (exact Ent.auto)) ?_
  repeat' first
    | ((with_reducible refine Nx.is_wp ?_); first | refine Nx.wo ?_ | refine Nx.zp (fun hc => ?_) (fun hc => ?_))
    | (refine Nx.zo ?_; first | refine Nx.opr rfl rfl ?_ | refine Nx.so ?_ | refine Nx.sb (fun bx => ?_) | refine Nx.sa (fun A2 c2 => ?_))
    | ((with_reducible refine Nx.is_at ?_); first | refine Nx.a ?_ | refine Nx.zd ?_ | refine Nx.zs (fun hc => ?_) (fun hc => ?_))
    | ((with_reducible refine Nx.is_mix ?_); first | refine Nx.m ?_ | refine Nx.zm ?_ | refine Nx.zt (fun hc => ?_) (fun hc => ?_))
    | refine Nx.zx ?_ | fail
  refine Nx.fork2 (i := 1) (j := 5) (by kernel_rfl) rfl rfl rfl rfl ?_ ?_
  · refine Nx.sb (fun b0 => ?_)
    refine Nx.mix_S (by (exact Ent.auto)) ?_
    refine Nx.fork2 (i := 3) (j := 5) (by kernel_rfl) rfl rfl rfl rfl ?_ ?_
    · refine Nx.blk_vec 0 0 3 rfl rfl (by omega) ?_
      refine Nx.append rfl rfl rfl rfl (by kernel_rfl) rfl (Src.arr hr.arr (flat_len relC_len rs) (by omega) (rel_one rs)) (by omega) fun A2 c2 => ?_
      rw [Nat.zero_add, List.nil_append]
      refine Nx.mix_S (by (exact Ent.auto)) ?_
      refine Nx.fork1 (i := 5) (by kernel_rfl) rfl rfl ?_
      refine Nx.sb (fun b9 => ?_)
      refine Nx.mix_S (by (exact Ent.auto)) ?_
      refine Nx.fork1 (i := 6) (by kernel_rfl) rfl rfl ?_
      refine Nx.ent (R' := [Blk b9 43 [.int .i64 num, .slice Av vn cv, .slice Ap zn cz], Vec 43 3 A2 rs.length c2 (rs.flatMap relC), Blk b4 27 [.slice B sn cs], Blk b19 43 [.int .i64 num, .slice Av vn cv, .slice Ap zn cz], X, F]) (by (exact Ent.auto)) ?_
      refine Nx.append_lit 0 rfl rfl rfl rfl (by kernel_rfl) rfl rfl rfl rfl (by omega) fun A3 c3 => ?_
      refine Nx.mix_S (by (exact Ent.auto)) ?_
      refine Nx.fork1 (i := 7) (by kernel_rfl) rfl rfl ?_
      refine Nx.call rfl rfl rfl (by kernel_rfl) rfl (FnSpec.keep [Vec 43 3 A3 (rs.length + 1) c3 (rs.flatMap relC ++ [.int .i64 num, .slice Av vn cv, .slice Ap zn cz])] (spec A3 c3)) (by (exact Ent.auto)) ?_
      rintro _ _ ⟨_, ⟨A5, c5, rfl, rfl⟩, rfl⟩
      refine Nx.mix_S (by (exact Ent.auto)) ?_
      refine Nx.fork_fin (by kernel_rfl) rfl ?_
      repeat' first
        | ((with_reducible refine Nx.is_wp ?_); first | refine Nx.wo ?_ | refine Nx.zp (fun hc => ?_) (fun hc => ?_))
        | (refine Nx.zo ?_; first | refine Nx.opr rfl rfl ?_ | refine Nx.so ?_ | refine Nx.sb (fun bx => ?_) | refine Nx.sa (fun A2 c2 => ?_))
        | ((with_reducible refine Nx.is_at ?_); first | refine Nx.a ?_ | refine Nx.zd ?_ | refine Nx.zs (fun hc => ?_) (fun hc => ?_))
        | ((with_reducible refine Nx.is_mix ?_); first | refine Nx.m ?_ | refine Nx.zm ?_ | refine Nx.zt (fun hc => ?_) (fun hc => ?_))
        | refine Nx.zx ?_ | fail
      refine Nx.weak ?_ ?_ (h A5 c5)
      · exact ⟨rfl, rfl, rfl, rfl, rfl, rfl, rfl, rfl, rfl, rfl, rfl, rfl, rfl, rfl, trivial⟩
      · (exact Ent.auto)
    · refine Nx.sb (fun b9 => ?_)
      refine Nx.mix_S (by (exact Ent.auto)) ?_
      refine Nx.fork1 (i := 3) (by kernel_rfl) rfl rfl ?_
      refine Nx.blk_vec 1 0 3 rfl rfl (by omega) ?_
      refine Nx.append rfl rfl rfl rfl (by kernel_rfl) rfl (Src.arr hr.arr (flat_len relC_len rs) (by omega) (rel_one rs)) (by omega) fun A2 c2 => ?_
      rw [Nat.zero_add, List.nil_append]
      refine Nx.mix_S (by (exact Ent.auto)) ?_
      refine Nx.fork1 (i := 6) (by kernel_rfl) rfl rfl ?_
      refine Nx.ent (R' := [Blk b9 43 [.int .i64 num, .slice Av vn cv, .slice Ap zn cz], Vec 43 3 A2 rs.length c2 (rs.flatMap relC), Blk b4 27 [.slice B sn cs], Blk b19 43 [.int .i64 num, .slice Av vn cv, .slice Ap zn cz], X, F]) (by (exact Ent.auto)) ?_
      refine Nx.append_lit 0 rfl rfl rfl rfl (by kernel_rfl) rfl rfl rfl rfl (by omega) fun A3 c3 => ?_
      refine Nx.mix_S (by (exact Ent.auto)) ?_
      refine Nx.fork1 (i := 7) (by kernel_rfl) rfl rfl ?_
      refine Nx.call rfl rfl rfl (by kernel_rfl) rfl (FnSpec.keep [Vec 43 3 A3 (rs.length + 1) c3 (rs.flatMap relC ++ [.int .i64 num, .slice Av vn cv, .slice Ap zn cz])] (spec A3 c3)) (by (exact Ent.auto)) ?_
      rintro _ _ ⟨_, ⟨A5, c5, rfl, rfl⟩, rfl⟩
      refine Nx.mix_S (by (exact Ent.auto)) ?_
      refine Nx.fork_fin (by kernel_rfl) rfl ?_
      repeat' first
        | ((with_reducible refine Nx.is_wp ?_); first | refine Nx.wo ?_ | refine Nx.zp (fun hc => ?_) (fun hc => ?_))
        | (refine Nx.zo ?_; first | refine Nx.opr rfl rfl ?_ | refine Nx.so ?_ | refine Nx.sb (fun bx => ?_) | refine Nx.sa (fun A2 c2 => ?_))
        | ((with_reducible refine Nx.is_at ?_); first | refine Nx.a ?_ | refine Nx.zd ?_ | refine Nx.zs (fun hc => ?_) (fun hc => ?_))
        | ((with_reducible refine Nx.is_mix ?_); first | refine Nx.m ?_ | refine Nx.zm ?_ | refine Nx.zt (fun hc => ?_) (fun hc => ?_))
        | refine Nx.zx ?_ | fail
      refine Nx.weak ?_ ?_ (h A5 c5)
      · exact ⟨rfl, rfl, rfl, rfl, rfl, rfl, rfl, rfl, rfl, rfl, rfl, rfl, rfl, rfl, trivial⟩
      · (exact Ent.auto)
  · refine Nx.sb (fun b9 => ?_)
    refine Nx.mix_S (by (exact Ent.auto)) ?_
    refine Nx.fork1 (i := 1) (by kernel_rfl) rfl rfl ?_
    refine Nx.sb (fun b0 => ?_)
    refine Nx.mix_S (by (exact Ent.auto)) ?_
    refine Nx.fork1 (i := 3) (by kernel_rfl) rfl rfl ?_
    refine Nx.blk_vec 0 0 3 rfl rfl (by omega) ?_
    refine Nx.append rfl rfl rfl rfl (by kernel_rfl) rfl (Src.arr hr.arr (flat_len relC_len rs) (by omega) (rel_one rs)) (by omega) fun A2 c2 => ?_
    rw [Nat.zero_add, List.nil_append]
    refine Nx.mix_S (by (exact Ent.auto)) ?_
    refine Nx.fork1 (i := 6) (by kernel_rfl) rfl rfl ?_
    refine Nx.ent (R' := [Blk b9 43 [.int .i64 num, .slice Av vn cv, .slice Ap zn cz], Vec 43 3 A2 rs.length c2 (rs.flatMap relC), Blk b4 27 [.slice B sn cs], Blk b19 43 [.int .i64 num, .slice Av vn cv, .slice Ap zn cz], X, F]) (by (exact Ent.auto)) ?_
    refine Nx.append_lit 0 rfl rfl rfl rfl (by kernel_rfl) rfl rfl rfl rfl (by omega) fun A3 c3 => ?_
    refine Nx.mix_S (by (exact Ent.auto)) ?_
    refine Nx.fork1 (i := 7) (by kernel_rfl) rfl rfl ?_
    refine Nx.call rfl rfl rfl (by kernel_rfl) rfl (FnSpec.keep [Vec 43 3 A3 (rs.length + 1) c3 (rs.flatMap relC ++ [.int .i64 num, .slice Av vn cv, .slice Ap zn cz])] (spec A3 c3)) (by (exact Ent.auto)) ?_
    rintro _ _ ⟨_, ⟨A5, c5, rfl, rfl⟩, rfl⟩
    refine Nx.mix_S (by (exact Ent.auto)) ?_
    refine Nx.fork_fin (by kernel_rfl) rfl ?_
    repeat' first
      | ((with_reducible refine Nx.is_wp ?_); first | refine Nx.wo ?_ | refine Nx.zp (fun hc => ?_) (fun hc => ?_))
      | (refine Nx.zo ?_; first | refine Nx.opr rfl rfl ?_ | refine Nx.so ?_ | refine Nx.sb (fun bx => ?_) | refine Nx.sa (fun A2 c2 => ?_))
      | ((with_reducible refine Nx.is_at ?_); first | refine Nx.a ?_ | refine Nx.zd ?_ | refine Nx.zs (fun hc => ?_) (fun hc => ?_))
      | ((with_reducible refine Nx.is_mix ?_); first | refine Nx.m ?_ | refine Nx.zm ?_ | refine Nx.zt (fun hc => ?_) (fun hc => ?_))
      | refine Nx.zx ?_ | fail
    refine Nx.weak ?_ ?_ (h A5 c5)
    · exact ⟨rfl, rfl, rfl, rfl, rfl, rfl, rfl, rfl, rfl, rfl, rfl, rfl, rfl, rfl, trivial⟩
    · (exact Ent.auto)
end Go.Proofs.YtjnhoemgceghlaaGreat
/- Contracts of functions of the given program, and lemmas about plain lists and numbers: what the laws of this seat lean on. -/
namespace Go.Proofs.YtjnhoemgceghlaaGreat
open Go.Eng Go.Sol
attribute [local irreducible] opK wpList Code.wp Exit.then Exit.inBlock fnPost bodyPost Nx Calls Oper.wp Rd Rds Wr Ent Stars Blk Again Vec FnSpec wpMix QRun Stop Upto wpAt
/-! What somebody knows, against what is protected -/
theorem run_be2 {P : Program} {t : TypeId} {x y : Operand} (ht : P.underlying t = some .bool) (b c r : Bool) (h : (b == c) = r) (w : World) : (do eqGuard .eql t x y (.bool b) (.bool c); binOp .eql t (.bool b) (.bool c)).run P w = .ok (.bool r) w := by subst h; exact run_booleq ht b c w
theorem next_ex {X : Nat → Prop} {i j : Nat} (h : j = i + 1) : (∃ k, k < j ∧ X k) ↔ (∃ k, k < i ∧ X k) ∨ X i := by
  subst h
  constructor
  · rintro ⟨k, hk, hx⟩
    rcases Nat.lt_or_ge k i with h | h
    · exact .inl ⟨k, h, hx⟩
    · rw [show k = i by omega] at hx; exact .inr hx
  · rintro (⟨k, hk, hx⟩ | hx)
    · exact ⟨k, by omega, hx⟩
    · exact ⟨i, by omega, hx⟩
set_option maxHeartbeats 16000000 in
set_option maxRecDepth 10000 in
/-- What is known, against what is protected. -/
theorem top_known (Bp A21 : Option Addr) (cp c21 : Nat) (p xs : List Int) (er : Int) (mine : Bool) (v4 v6 v9 v11 v12 v13 v14 v16 : Value) (I : PH) (R : List Res) (hks : Ints I A21 c21 xs) (hp : Ints I Bp cp p) (he : er = 0 ∨ er = 1) (hm1 : mine = true → er = 0) (hm2 : er = 0 → ((∃ k ∈ xs, k ∈ p) ↔ mine = false)) (w : World) (Q : Exit → Act → World → Prop)
    (h1 : Nx ⟨Tryz.prog, 172, w⟩ [(4, v4), (6, v6), (7, .slice Bp p.length cp), (9, v9), (11, v11), (12, v12), (13, v13), (14, v14), (16, v16)] I R (Q .normal))
    (h2 : Nx ⟨Tryz.prog, 172, w⟩ [(4, v4), (6, v6), (7, .slice Bp p.length cp), (9, v9), (11, v11), (12, v12), (13, v13), (14, v14), (16, v16)] I R (Q (.exit 3))) :
    Nx ⟨Tryz.prog, 172, w⟩ [(4, v4), (6, v6), (7, .slice Bp p.length cp), (9, v9), (11, v11), (12, v12), (13, v13), (14, v14), (16, v16), (18, .bool mine), (20, .int .i64 0), (21, .slice A21 xs.length c21), (22, .int .i64 er)] I R
      (Code.wp Tryz.prog (cr (cr (cr (cr (cr (cl (cl (cr (cl (cl (cr (cl (cr (cr (cr (cr (cr (cr (cr (cr (cr (cr (cr (cr (bodyOf Tryz.f3))))))))))))))))))))))))) Q) := by
  have hkl := hks.len
  have hpl := hp.len
  by_cases he0 : er = 0
  case neg =>
    obtain rfl : er = 1 := he.resolve_left he0
    obtain rfl : mine = false := by cases mine with
      | false => rfl
      | true => exact absurd (hm1 rfl) he0
    repeat' first
      | ((with_reducible refine Nx.is_wp ?_); first | refine Nx.wo ?_ | refine Nx.zp (fun hc => ?_) (fun hc => ?_))
      | (refine Nx.zo ?_; first | refine Nx.opr rfl rfl ?_ | refine Nx.so ?_ | refine Nx.sb (fun bx => ?_) | refine Nx.sa (fun A2 c2 => ?_))
      | ((with_reducible refine Nx.is_at ?_); first | refine Nx.a ?_ | refine Nx.zd ?_ | refine Nx.zs (fun hc => ?_) (fun hc => ?_))
      | ((with_reducible refine Nx.is_mix ?_); first | refine Nx.m ?_ | refine Nx.zm ?_ | refine Nx.zt (fun hc => ?_) (fun hc => ?_))
      | refine Nx.zx ?_ | fail
    exact Nx.env (by exact ⟨rfl, rfl, rfl, rfl, rfl, rfl, rfl, rfl, rfl, trivial⟩) h2
  subst he0
  have hit := hm2 rfl
  clear h2 hm1 hm2 he
  repeat' first
    | ((with_reducible refine Nx.is_wp ?_); first | refine Nx.wo ?_ | refine Nx.zp (fun hc => ?_) (fun hc => ?_))
    | (refine Nx.zo ?_; first | refine Nx.opr rfl rfl ?_ | refine Nx.so ?_ | refine Nx.sb (fun bx => ?_) | refine Nx.sa (fun A2 c2 => ?_))
    | ((with_reducible refine Nx.is_at ?_); first | refine Nx.a ?_ | refine Nx.zd ?_ | refine Nx.zs (fun hc => ?_) (fun hc => ?_))
    | ((with_reducible refine Nx.is_mix ?_); first | refine Nx.m ?_ | refine Nx.zm ?_ | refine Nx.zt (fun hc => ?_) (fun hc => ?_))
    | refine Nx.zx ?_ | fail
  refine Nx.p_loop (σ := Nat × Bool) (fun q => [(4, v4), (6, v6), (7, .slice Bp p.length cp), (9, v9), (11, v11), (12, v12), (13, v13), (14, v14), (16, v16), (18, .bool mine), (23, .bool q.2), (148, .slice A21 xs.length c21), (149, .int .i64 xs.length), (150, .int .i64 (q.1 : Int))])
    (fun _ => R) (fun q => q.1 ≤ xs.length ∧ (q.2 = true ↔ ∃ j, j < q.1 ∧ xs.getD j default ∈ p)) (fun q => xs.length - q.1) (0, false) rfl ⟨Nat.zero_le _, ⟨(fun h => nomatch h), (fun ⟨j, hj, _⟩ => absurd hj (Nat.not_lt_zero _))⟩⟩ ⟨rfl, rfl, rfl, rfl, rfl, rfl, rfl, rfl, rfl, rfl, rfl, rfl, rfl, rfl, trivial⟩ (Ent.refl _) ?_
  rintro ⟨i, f⟩ ⟨hi, hf⟩
  dsimp only at hi hf ⊢
  by_cases hil : i < xs.length
  case neg =>
    have hfx : f = true ↔ ∃ k ∈ xs, k ∈ p := hf.trans ⟨fun ⟨j, hj, hq⟩ => ⟨_, getD_memI (by omega), hq⟩, fun ⟨y, hy, hyp⟩ => by obtain ⟨j, hj, rfl⟩ := mem_getDI hy; exact ⟨j, by omega, hyp⟩⟩
    have hne : (f == mine) = false := by
      have := hfx.trans hit
      cases f <;> cases mine <;> simp_all
    repeat' first
      | ((with_reducible refine Nx.is_wp ?_); first | refine Nx.wo ?_ | refine Nx.zp (fun hc => ?_) (fun hc => ?_))
      | (refine Nx.zo ?_; first | (refine Nx.binr rfl rfl (run_be2 Tryz.underlying4 f mine false hne) rfl ?_) | refine Nx.opr rfl rfl ?_ | refine Nx.so ?_ | refine Nx.sb (fun bx => ?_) | refine Nx.sa (fun A2 c2 => ?_))
      | ((with_reducible refine Nx.is_at ?_); first | refine Nx.a ?_ | refine Nx.zd ?_ | refine Nx.zs (fun hc => ?_) (fun hc => ?_))
      | ((with_reducible refine Nx.is_mix ?_); first | refine Nx.m ?_ | refine Nx.zm ?_ | refine Nx.zt (fun hc => ?_) (fun hc => ?_))
      | refine Nx.zx ?_ | fail
    exact Nx.env (by exact ⟨rfl, rfl, rfl, rfl, rfl, rfl, rfl, rfl, rfl, trivial⟩) h1
  clear h1 hit
  have hyr : ∀ (W : World) (R : List Res), Rd W I R ((ad A21).add (i * 1)) (.int .i64 (xs.getD i default)) := fun W R => hks.rd hil
  have hA21 := hks.isSome (by omega)
  have hnx := next_ex (X := fun j => xs.getD j default ∈ p) (i := i) (j := i + 1) rfl
  generalize xs.getD i default = y at hyr hnx
  repeat' first
    | ((with_reducible refine Nx.is_wp ?_); first | refine Nx.wo ?_ | refine Nx.zp (fun hc => ?_) (fun hc => ?_))
    | (refine Nx.zo ?_; first | refine Nx.opr rfl rfl ?_ | refine Nx.indexAddr_nat (A := A21) (i := i) (sz := 1) rfl rfl rfl rfl rfl hil hA21 ?_ | refine Nx.load rfl rfl rfl (hyr _ _) ?_ | refine Nx.so ?_ | refine Nx.sb (fun bx => ?_) | refine Nx.sa (fun A2 c2 => ?_))
    | ((with_reducible refine Nx.is_at ?_); first | refine Nx.a ?_ | refine Nx.zd ?_ | refine Nx.zs (fun hc => ?_) (fun hc => ?_))
    | ((with_reducible refine Nx.is_mix ?_); first | refine Nx.m ?_ | refine Nx.zm ?_ | refine Nx.zt (fun hc => ?_) (fun hc => ?_))
    | refine Nx.zx ?_ | fail
  refine Nx.p_loop (σ := Nat × Bool) (fun q => [(4, v4), (6, v6), (7, .slice Bp p.length cp), (9, v9), (11, v11), (12, v12), (13, v13), (14, v14), (16, v16), (18, .bool mine), (23, .bool q.2), (25, .int .i64 y), (148, .slice A21 xs.length c21), (149, .int .i64 xs.length), (150, .int .i64 (i : Int)), (154, .slice Bp p.length cp), (155, .int .i64 p.length), (156, .int .i64 (q.1 : Int))])
    (fun _ => R) (fun q => q.1 ≤ p.length ∧ (q.2 = true ↔ f = true ∨ ∃ j, j < q.1 ∧ p.getD j default = y)) (fun q => p.length - q.1) (0, f) rfl ⟨Nat.zero_le _, ⟨.inl, fun h => h.elim id fun ⟨j, hj, _⟩ => absurd hj (Nat.not_lt_zero _)⟩⟩ ⟨rfl, rfl, rfl, rfl, rfl, rfl, rfl, rfl, rfl, rfl, rfl, rfl, rfl, rfl, rfl, rfl, rfl, rfl, trivial⟩ (Ent.refl _) ?_
  rintro ⟨j, g⟩ ⟨hj, hgg⟩
  dsimp only at hj hgg ⊢
  by_cases hjl : j < p.length
  case neg =>
    obtain rfl : j = p.length := by omega
    have hgy : g = true ↔ ∃ j, j < i + 1 ∧ xs.getD j default ∈ p := by
      rw [hnx, ← hf, hgg]
      exact ⟨fun h => h.elim .inl fun ⟨j, hj, he⟩ => .inr (he ▸ getD_memI hj), fun h => h.elim .inl fun h => .inr (mem_getDI h)⟩
    repeat' first
      | ((with_reducible refine Nx.is_wp ?_); first | refine Nx.wo ?_ | refine Nx.zp (fun hc => ?_) (fun hc => ?_))
      | (refine Nx.zo ?_; first | refine Nx.opr rfl rfl ?_ | refine Nx.so ?_ | refine Nx.sb (fun bx => ?_) | refine Nx.sa (fun A2 c2 => ?_))
      | ((with_reducible refine Nx.is_at ?_); first | refine Nx.a ?_ | refine Nx.zd ?_ | refine Nx.zs (fun hc => ?_) (fun hc => ?_))
      | ((with_reducible refine Nx.is_mix ?_); first | refine Nx.m ?_ | refine Nx.zm ?_ | refine Nx.zt (fun hc => ?_) (fun hc => ?_))
      | refine Nx.zx ?_ | fail
    exact Nx.again (i + 1, g) ⟨hil, hgy⟩ (by dsimp only; omega) ⟨rfl, rfl, rfl, rfl, rfl, rfl, rfl, rfl, rfl, rfl, rfl, rfl, rfl, rfl, trivial⟩ (Ent.refl _)
  have hzr : ∀ (W : World) (R : List Res), Rd W I R ((ad Bp).add (j * 1)) (.int .i64 (p.getD j default)) := fun W R => hp.rd hjl
  have hBp := hp.isSome (by omega)
  have hnz := next_ex (X := fun j => p.getD j default = y) (i := j) (j := j + 1) rfl
  generalize p.getD j default = z at hzr hnz
  cases g with
  | true =>
    repeat' first
      | ((with_reducible refine Nx.is_wp ?_); first | refine Nx.wo ?_ | refine Nx.zp (fun hc => ?_) (fun hc => ?_))
      | (refine Nx.zo ?_; first | refine Nx.opr rfl rfl ?_ | refine Nx.indexAddr_nat (A := Bp) (i := j) (sz := 1) rfl rfl rfl rfl rfl hjl hBp ?_ | refine Nx.load rfl rfl rfl (hzr _ _) ?_ | refine Nx.so ?_ | refine Nx.sb (fun bx => ?_) | refine Nx.sa (fun A2 c2 => ?_))
      | ((with_reducible refine Nx.is_at ?_); first | refine Nx.a ?_ | refine Nx.zd ?_ | refine Nx.zs (fun hc => ?_) (fun hc => ?_))
      | ((with_reducible refine Nx.is_mix ?_); first | refine Nx.m ?_ | refine Nx.zm ?_ | refine Nx.zt (fun hc => ?_) (fun hc => ?_))
      | refine Nx.zx ?_ | fail
    exact Nx.again (j + 1, true) ⟨hjl, ⟨fun _ => (hgg.1 rfl).elim .inl fun ⟨j, hj, he⟩ => .inr ⟨j, by omega, he⟩, fun _ => rfl⟩⟩ (by dsimp only; omega) ⟨rfl, rfl, rfl, rfl, rfl, rfl, rfl, rfl, rfl, rfl, rfl, rfl, rfl, rfl, rfl, rfl, rfl, rfl, trivial⟩ (Ent.refl _)
  | false =>
    have hnf : ∀ g' : Bool, (g' = true ↔ z = y) → (g' = true ↔ f = true ∨ ∃ i, i < j + 1 ∧ p.getD i default = y) := fun g' h => by
      rw [hnz, h]
      have h0 : ¬ (f = true ∨ ∃ i, i < j ∧ p.getD i default = y) := fun h' => nomatch hgg.2 h'
      exact ⟨fun h => .inr (.inr h), fun h' => h'.elim (fun h => absurd (.inl h) h0) fun h' => h'.elim (fun h => absurd (.inr h) h0) id⟩
    repeat' first
      | ((with_reducible refine Nx.is_wp ?_); first | refine Nx.wo ?_ | refine Nx.zp (fun hc => ?_) (fun hc => ?_))
      | (refine Nx.zo ?_; first | refine Nx.opr rfl rfl ?_ | refine Nx.indexAddr_nat (A := Bp) (i := j) (sz := 1) rfl rfl rfl rfl rfl hjl hBp ?_ | refine Nx.load rfl rfl rfl (hzr _ _) ?_ | refine Nx.so ?_ | refine Nx.sb (fun bx => ?_) | refine Nx.sa (fun A2 c2 => ?_))
      | ((with_reducible refine Nx.is_at ?_); first | refine Nx.a ?_ | refine Nx.zd ?_ | refine Nx.zs (fun hc => ?_) (fun hc => ?_))
      | ((with_reducible refine Nx.is_mix ?_); first | refine Nx.m ?_ | refine Nx.zm ?_ | refine Nx.zt (fun hc => ?_) (fun hc => ?_))
      | refine Nx.zx ?_ | fail
    exact Nx.again (j + 1, decide (z = y)) ⟨hjl, hnf _ ⟨fun h => of_decide_eq_true h, fun h => decide_eq_true h⟩⟩ (by dsimp only; omega) ⟨rfl, rfl, rfl, rfl, rfl, rfl, rfl, rfl, rfl, rfl, rfl, rfl, rfl, rfl, rfl, rfl, rfl, rfl, trivial⟩ (Ent.refl _)
end Go.Proofs.YtjnhoemgceghlaaGreat
/- Contracts of functions of the given program, and lemmas about plain lists and numbers: what the laws of this seat lean on. -/
namespace Go.Proofs.YtjnhoemgceghlaaGreat
open Go.Eng Go.Sol
attribute [local irreducible] opK wpList Code.wp Exit.then Exit.inBlock fnPost bodyPost Nx Calls Oper.wp Rd Rds Wr Ent Stars Blk Again Vec FnSpec wpMix QRun Stop Upto wpAt
/-! The law: a table released with its least suppression -/
set_option maxRecDepth 10000 in
set_option maxHeartbeats 32000000 in
theorem TopSuppressed_spec (A : Option Addr) (c : Nat) (l : List Int) (I : PH) (hl : Bytes I A c l) (hx : ∀ x ∈ l, 0 ≤ x ∧ x < 256) :
    FnSpec Tryz.prog 3 [.slice A l.length c] I [] (fun v R' => v = .bool true ∧ R' = []) := by
  have hL := bytes_take hl hx
  refine FnSpec.enterP Tryz.func3 rfl Tryz.ntmps3 rfl fun w0 F => ?_
  repeat' first
    | ((with_reducible refine Nx.is_wp ?_); first | refine Nx.p_stopr 3 rfl ?_ | refine Nx.wo ?_ | refine Nx.zp (fun hc => ?_) (fun hc => ?_))
    | (refine Nx.zo ?_; first | refine Nx.opr rfl rfl ?_ | (refine Nx.call (Rpre := []) rfl rfl rfl (by kernel_rfl) rfl (New_codes A c l I hl) (Ent.refl _) ?_; rintro _ _ ⟨b, rfl, rfl⟩) | (refine Nx.call rfl rfl rfl (by kernel_rfl) rfl (Told_made b A c _ 0 2 1 I hL (Nat.zero_le _) (by omega) (by omega)) (by (exact Ent.auto)) ?_; rintro _ _ ⟨B, c', s, At, ct, t, As, ca, es, k1, rfl, hs, hT, hrn, hro, hk1, rfl⟩) | refine Nx.so ?_ | refine Nx.sb (fun bx => ?_) | refine Nx.sa (fun A2 c2 => ?_))
    | ((with_reducible refine Nx.is_at ?_); first | refine Nx.a ?_ | refine Nx.zd ?_ | refine Nx.zs (fun hc => ?_) (fun hc => ?_))
    | ((with_reducible refine Nx.is_mix ?_); first | refine Nx.m ?_ | refine Nx.zm ?_ | refine Nx.zt (fun hc => ?_) (fun hc => ?_))
    | refine Nx.zx ?_ | fail
  refine Nx.unstop ?_
  revert bx; intro b4
  refine Nx.giveTold (B := B) (c' := c') (s := s) (At := At) (ct := ct) (t := t) (As := As) (ca := ca) (rs := es) (RR := [Blk b4 27 [.slice B s.length c'], CodesR b A c (l.take 400) k1, F]) (by refine Ent.trans (R' := toldR B c' s At ct t As ca es ++ [Blk b4 27 [.slice B s.length c'], CodesR b A c (l.take 400) k1, F]) ?_ Ent.stars; unfold toldR; (exact Ent.auto)) fun I1 hI1 hz ht hes => ?_
  replace hL := hL.mono hI1
  have hzs := size_ok hs
  have hCt := RCount_spec B c' s I1 hz hs
  rw [← hzs.2.2] at hCt
  repeat' first
    | ((with_reducible refine Nx.is_wp ?_); first | refine Nx.p_stopr 4 rfl ?_ | refine Nx.wo ?_ | refine Nx.zp (fun hc => ?_) (fun hc => ?_))
    | (refine Nx.zo ?_; first | refine Nx.opr rfl rfl ?_ | refine Nx.callv rfl rfl rfl (by kernel_rfl) rfl hCt ?_ | (refine Nx.call rfl rfl rfl (by kernel_rfl) rfl (Protected_made b A c _ k1 (prod s).toNat I1 hL hk1 (by omega)) (by (exact Ent.auto)) ?_; rintro _ _ ⟨Bp, cp, p, k2, rfl, hpl, ⟨hpa, hpb⟩, hk2, rfl⟩) | refine Nx.so ?_ | refine Nx.sb (fun bx => ?_) | refine Nx.sa (fun A2 c2 => ?_))
    | ((with_reducible refine Nx.is_at ?_); first | refine Nx.a ?_ | refine Nx.zd ?_ | refine Nx.zs (fun hc => ?_) (fun hc => ?_))
    | ((with_reducible refine Nx.is_mix ?_); first | refine Nx.m ?_ | refine Nx.zm ?_ | refine Nx.zt (fun hc => ?_) (fun hc => ?_))
    | refine Nx.zx ?_ | fail
  refine Nx.unstop ?_
  have hpb : ∀ x ∈ p, 0 ≤ x ∧ x < prod s := fun x hx => by have := hpb x hx; omega
  refine Nx.ent (R' := [iR Bp cp p, Blk b4 27 [.slice B s.length c'], CodesR b A c (l.take 400) k2, F]) (by (exact Ent.auto)) ?_
  refine Nx.freezeAt 0 rfl fun I2 m2 hI2 hm2 h2 => ?_
  have hp : Ints I2 Bp cp p := Vec.sliceOf hm2 h2
  replace hL := hL.mono hI2
  replace hz := hz.mono hI2
  replace ht := ht.mono hI2
  replace hes := hes.mono hI2
  repeat' first
    | ((with_reducible refine Nx.is_wp ?_); first | refine Nx.p_stopr 5 rfl ?_ | refine Nx.wo ?_ | refine Nx.zp (fun hc => ?_) (fun hc => ?_))
    | (refine Nx.zo ?_; first | refine Nx.opr rfl rfl ?_ | (refine Nx.call rfl rfl rfl (by kernel_rfl) rfl (View_made b A B c c' _ s k2 I2 hL hk2 hz hs) (by (exact Ent.auto)) ?_; rintro _ _ ⟨Av, cv, v, k3, rfl, hw, hk3, rfl⟩) | refine Nx.so ?_ | refine Nx.sb (fun bx => ?_) | refine Nx.sa (fun A2 c2 => ?_))
    | ((with_reducible refine Nx.is_at ?_); first | refine Nx.a ?_ | refine Nx.zd ?_ | refine Nx.zs (fun hc => ?_) (fun hc => ?_))
    | ((with_reducible refine Nx.is_mix ?_); first | refine Nx.m ?_ | refine Nx.zm ?_ | refine Nx.zt (fun hc => ?_) (fun hc => ?_))
    | refine Nx.zx ?_ | fail
  refine Nx.unstop ?_
  revert bx; intro b8
  refine Nx.ent (R' := [ViewR Av cv v, Blk b4 27 [.slice B s.length c'], Blk b8 35 [.slice Av v.length cv], CodesR b A c (l.take 400) k3, F]) (by (exact Ent.auto)) ?_
  refine Nx.freezeAt 0 rfl fun I3 m3 hI3 hm3 h3 => ?_
  have hv : RowsOf I3 Av cv v := ViewR.rows hm3 h3
  replace hL := hL.mono hI3
  replace hz := hz.mono hI3
  replace ht := ht.mono hI3
  replace hes := hes.mono hI3
  replace hp := hp.mono hI3
  have hTb : Table s t := ⟨hT.1, fun j hj => by have := hT.2 j hj; omega⟩
  have hPb := Publish_spec B Av At c' cv ct s t v I3 hz hs hv hw ht hTb
  have hszs := hw.sizes hs
  have hpr := hszs.bound (k := (szs v).length) (Nat.le_refl _)
  rw [List.take_length] at hpr
  have hpc := hszs.cells
  have hsl := sums_len (pubOf s v) t (prod (szs v)).toNat t.length
  have hz1 : ∀ j, j < (prod (szs v)).toNat → (sums (pubOf s v) t (prod (szs v)).toNat t.length).getD j default = sumAt (pubOf s v) t (j : Int) t.length := fun j hj => sums_at _ _ _ _ _ hj
  generalize sums (pubOf s v) t (prod (szs v)).toNat t.length = z0 at hsl hPb hz1
  generalize hP : (prod (szs v)).toNat = P at hsl hPb hz1
  have hP48 : P ≤ 48 := by omega
  repeat' first
    | ((with_reducible refine Nx.is_wp ?_); first | refine Nx.p_stops 6 rfl ?_ | refine Nx.wo ?_ | refine Nx.zp (fun hc => ?_) (fun hc => ?_))
    | (refine Nx.zo ?_; first | refine Nx.opr rfl rfl ?_ | (refine Nx.call (Rpre := []) rfl rfl rfl (by kernel_rfl) rfl hPb (Ent.refl _) ?_; rintro _ _ ⟨Ap, rfl, rfl⟩) | refine Nx.so ?_ | refine Nx.sb (fun bx => ?_) | refine Nx.sa (fun A2 c2 => ?_))
    | ((with_reducible refine Nx.is_at ?_); first | refine Nx.a ?_ | refine Nx.zd ?_ | refine Nx.zs (fun hc => ?_) (fun hc => ?_))
    | ((with_reducible refine Nx.is_mix ?_); first | refine Nx.m ?_ | refine Nx.zm ?_ | refine Nx.zt (fun hc => ?_) (fun hc => ?_))
    | refine Nx.zx ?_ | fail
  refine Nx.unstop ?_
  refine Nx.freezeAt 0 rfl fun I4 m4 hI4 hm4 h4 => ?_
  subst hsl
  have hpz : Ints I4 Ap z0.length z0 := Vec.sliceOf hm4 h4
  replace hL := hL.mono hI4
  replace hz := hz.mono hI4
  replace hes := hes.mono hI4
  replace hp := hp.mono hI4
  replace hv := hv.mono hI4
  have hle4 := ((hI1.trans hI2).trans hI3).trans hI4
  by_cases h6 : z0.length ≤ 6
  case neg =>
    repeat' first
      | ((with_reducible refine Nx.is_wp ?_); first | refine Nx.wo ?_ | refine Nx.zp (fun hc => ?_) (fun hc => ?_))
      | (refine Nx.zo ?_; first | refine Nx.opr rfl rfl ?_ | refine Nx.callv rfl rfl rfl (by kernel_rfl) rfl (awakeT_spec _) ?_ | refine Nx.so ?_ | refine Nx.sb (fun bx => ?_) | refine Nx.sa (fun A2 c2 => ?_))
      | ((with_reducible refine Nx.is_at ?_); first | refine Nx.a ?_ | refine Nx.zd ?_ | refine Nx.zs (fun hc => ?_) (fun hc => ?_))
      | ((with_reducible refine Nx.is_mix ?_); first | refine Nx.m ?_ | refine Nx.zm ?_ | refine Nx.zt (fun hc => ?_) (fun hc => ?_))
      | refine Nx.zx ?_ | fail
    exact Nx.imm_le hle4 (Nx.ret_fn rfl [] ⟨rfl, rfl⟩ (by (exact Ent.auto)))
  repeat' first
    | ((with_reducible refine Nx.is_wp ?_); first | refine Nx.wo ?_ | refine Nx.zp (fun hc => ?_) (fun hc => ?_))
    | (refine Nx.zo ?_; first | refine Nx.opr rfl rfl ?_ | refine Nx.so ?_ | refine Nx.sb (fun bx => ?_) | refine Nx.sa (fun A2 c2 => ?_))
    | ((with_reducible refine Nx.is_at ?_); first | refine Nx.a ?_ | refine Nx.zd ?_ | refine Nx.zs (fun hc => ?_) (fun hc => ?_))
    | ((with_reducible refine Nx.is_mix ?_); first | refine Nx.m ?_ | refine Nx.zm ?_ | refine Nx.zt (fun hc => ?_) (fun hc => ?_))
    | refine Nx.zx ?_ | fail
  refine Nx.p_loop (σ := Nat × Option Addr × Nat × List Int × Nat) (fun q => [(3, .pointer (some ⟨b, 0, none⟩)), (4, .pointer (some ⟨b4, 0, none⟩)), (6, .slice As es.length ca), (7, .slice Bp p.length cp), (8, .pointer (some ⟨b8, 0, none⟩)), (9, .slice Ap z0.length z0.length), (11, .slice q.2.1 q.2.2.2.1.length q.2.2.1), (62, .slice Ap z0.length z0.length), (63, .int .i64 z0.length), (64, .int .i64 (q.1 : Int))])
    (fun q => [iR q.2.1 q.2.2.1 q.2.2.2.1, CodesR b A c (l.take 400) q.2.2.2.2, Blk b4 27 [.slice B s.length c'], Blk b8 35 [.slice Av v.length cv], F]) (fun q => q.1 ≤ z0.length ∧ q.2.2.2.1.length = q.1 ∧ (∀ x ∈ q.2.2.2.1, 1 ≤ x ∧ x ≤ 4) ∧ q.2.2.2.2 ≤ (l.take 400).length) (fun q => z0.length - q.1) (0, none, 0, [], k3) rfl ⟨Nat.zero_le _, rfl, (fun x hx => by cases hx), hk3⟩ ⟨rfl, rfl, rfl, rfl, rfl, rfl, rfl, rfl, rfl, rfl, trivial⟩ ((Ent.vec_nil 3 1 _).trans (by (exact Ent.auto))) ?_
  rintro ⟨i, Aw, cw, w, k4⟩ ⟨hi, hwi, hwb, hk4⟩
  dsimp only at hi hwi hwb hk4 ⊢
  by_cases hiP : i < z0.length
  · repeat' first
      | ((with_reducible refine Nx.is_wp ?_); first | refine Nx.wo ?_ | refine Nx.zp (fun hc => ?_) (fun hc => ?_))
      | (refine Nx.zo ?_; first | refine Nx.opr rfl rfl ?_ | (refine Nx.call rfl rfl rfl (by kernel_rfl) rfl (Next_any b A c _ k4 4 I4 hL hk4 (by omega)) (by (exact Ent.auto)) ?_; rintro _ _ ⟨q, k6, rfl, hq, hk6, rfl⟩) | refine Nx.so ?_ | refine Nx.sb (fun bx => ?_) | refine Nx.sa (fun A2 c2 => ?_))
      | ((with_reducible refine Nx.is_at ?_); first | refine Nx.a ?_ | refine Nx.zd ?_ | refine Nx.zs (fun hc => ?_) (fun hc => ?_))
      | ((with_reducible refine Nx.is_mix ?_); first | refine Nx.m ?_ | refine Nx.zm ?_ | refine Nx.zt (fun hc => ?_) (fun hc => ?_))
      | refine Nx.zx ?_ | fail
    refine Nx.again (i + 1, A2, c2, w ++ [1 + q], k6) ⟨hiP, by dsimp only; rw [List.length_append, hwi]; rfl, fun x hx => ?_, hk6⟩ (by dsimp only; omega) ⟨rfl, rfl, rfl, rfl, rfl, rfl, by dsimp only; rw [List.length_append]; rfl, rfl, rfl, rfl, trivial⟩ ?_
    · rcases List.mem_append.1 hx with h | h
      · exact hwb x h
      · rw [List.mem_singleton.1 h]; omega
    · dsimp only
      unfold iR
      rw [List.length_append (bs := [_]), List.length_singleton, List.map_append]
      (exact Ent.auto)
  have hiz : i = z0.length := by omega
  rw [hiz] at hwi
  refine Nx.freezeAt 0 rfl fun I5 m5 hI5 hm5 h5 => ?_
  have hW : Ints I5 Aw cw w := Vec.sliceOf hm5 h5
  replace hz := hz.mono hI5
  replace hes := hes.mono hI5
  replace hp := hp.mono hI5
  replace hv := hv.mono hI5
  replace hpz := hpz.mono hI5
  have hle5 := hle4.trans hI5
  have hS : StoryOk s t es ⟨(es.length : Int), Av, cv, v, (Ap, z0.length, z0)⟩ w p := ⟨hs, hT, hrn, hro, ⟨hw, hP.symm, fun j hj => .inr (hz1 j hj)⟩, rfl, h6, hwi, fun x hx => by have := hwb x hx; omega, hpa, hpb, by omega⟩
  have hG : Given I5 B As Aw Bp c' ca cw cp s es ⟨(es.length : Int), Av, cv, v, (Ap, z0.length, z0)⟩ w p := ⟨hz, hes, hv, hpz, hW, hp⟩
  have hLq := LeastQ hG hS Bp cp p 1 hG.p (by omega)
  dsimp only at hLq
  repeat' first
    | ((with_reducible refine Nx.is_wp ?_); first | refine Nx.p_stops 15 rfl ?_ | refine Nx.wo ?_ | refine Nx.zp (fun hc => ?_) (fun hc => ?_))
    | (refine Nx.zo ?_; first | refine Nx.opr rfl rfl ?_ | (refine Nx.call (Rpre := []) rfl rfl rfl (by kernel_rfl) rfl hLq (Ent.refl _) ?_; rintro _ _ ⟨⟨x1, wt, g⟩, A13, c13, hQ, rfl, rfl⟩) | refine Nx.so ?_ | refine Nx.sb (fun bx => ?_) | refine Nx.sa (fun A2 c2 => ?_))
    | ((with_reducible refine Nx.is_at ?_); first | refine Nx.a ?_ | refine Nx.zd ?_ | refine Nx.zs (fun hc => ?_) (fun hc => ?_))
    | ((with_reducible refine Nx.is_mix ?_); first | refine Nx.m ?_ | refine Nx.zm ?_ | refine Nx.zt (fun hc => ?_) (fun hc => ?_))
    | refine Nx.zx ?_ | fail
  refine Nx.unstop ?_
  revert bx; intro b12
  obtain ⟨hg, hlaw⟩ := top_law hS hQ
  dsimp only at hg hlaw
  by_cases hg0 : g = 0
  case neg =>
    have hg1 : g = 1 ∨ g = 51 := by omega
    rcases hg1 with rfl | rfl
    · repeat' first
        | ((with_reducible refine Nx.is_wp ?_); first | refine Nx.wo ?_ | refine Nx.zp (fun hc => ?_) (fun hc => ?_))
        | (refine Nx.zo ?_; first | refine Nx.opr rfl rfl ?_ | refine Nx.callv rfl rfl rfl (by kernel_rfl) rfl (awakeT_spec _) ?_ | refine Nx.so ?_ | refine Nx.sb (fun bx => ?_) | refine Nx.sa (fun A2 c2 => ?_))
        | ((with_reducible refine Nx.is_at ?_); first | refine Nx.a ?_ | refine Nx.zd ?_ | refine Nx.zs (fun hc => ?_) (fun hc => ?_))
        | ((with_reducible refine Nx.is_mix ?_); first | refine Nx.m ?_ | refine Nx.zm ?_ | refine Nx.zt (fun hc => ?_) (fun hc => ?_))
        | refine Nx.zx ?_ | fail
      exact Nx.imm_le hle5 (Nx.ret_fn rfl [] ⟨rfl, rfl⟩ (by (exact Ent.auto)))
    · repeat' first
        | ((with_reducible refine Nx.is_wp ?_); first | refine Nx.wo ?_ | refine Nx.zp (fun hc => ?_) (fun hc => ?_))
        | (refine Nx.zo ?_; first | refine Nx.opr rfl rfl ?_ | refine Nx.callv rfl rfl rfl (by kernel_rfl) rfl (awakeT_spec _) ?_ | refine Nx.so ?_ | refine Nx.sb (fun bx => ?_) | refine Nx.sa (fun A2 c2 => ?_))
        | ((with_reducible refine Nx.is_at ?_); first | refine Nx.a ?_ | refine Nx.zd ?_ | refine Nx.zs (fun hc => ?_) (fun hc => ?_))
        | ((with_reducible refine Nx.is_mix ?_); first | refine Nx.m ?_ | refine Nx.zm ?_ | refine Nx.zt (fun hc => ?_) (fun hc => ?_))
        | refine Nx.zx ?_ | fail
      exact Nx.imm_le hle5 (Nx.ret_fn rfl [] ⟨rfl, rfl⟩ (by (exact Ent.auto)))
  subst hg0
  replace hlaw := hlaw rfl
  refine Nx.ent (R' := [iR A13 c13 x1, Blk b4 27 [.slice B s.length c'], Blk b12 43 [.int .i64 es.length, .slice Av v.length cv, .slice Ap z0.length z0.length], F]) (by (exact Ent.auto)) ?_
  refine Nx.freezeAt 0 rfl fun I6 m6 hI6 hm6 h6x => ?_
  have hx1 : Ints I6 A13 c13 x1 := Vec.sliceOf hm6 h6x
  have hG6 := hG.mono hI6
  obtain ⟨pw, hpw⟩ : ∃ pw, pw = 2 ^ z0.length := ⟨_, rfl⟩
  have hpw64 : pw ≤ 64 := by rw [hpw]; have := Nat.pow_le_pow_right (n := 2) (by decide) h6; simpa using this
  rw [hwi, ← hpw] at hlaw
  have hv4 := (hw.szsOk hs).1
  have hrows : ∀ x ∈ v, x.2.2.length ≤ 1000 := fun x hx => by
    obtain ⟨k, hk, rfl⟩ := List.mem_iff_getElem.1 hx
    have h1 := (hw.each k (by rw [← hw.len]; exact hk)).1
    have h2 := hs.at (k := k) (by rw [← hw.len]; exact hk)
    rw [List.getD_eq_getElem?_getD, List.getElem?_eq_getElem hk, Option.getD_some] at h1
    omega
  repeat' first
    | ((with_reducible refine Nx.is_wp ?_); first | refine Nx.wo ?_ | refine Nx.zp (fun hc => ?_) (fun hc => ?_))
    | (refine Nx.zo ?_; first | refine Nx.opr rfl rfl ?_ | refine Nx.so ?_ | refine Nx.sb (fun bx => ?_) | refine Nx.sa (fun A2 c2 => ?_))
    | ((with_reducible refine Nx.is_at ?_); first | refine Nx.a ?_ | refine Nx.zd ?_ | refine Nx.zs (fun hc => ?_) (fun hc => ?_))
    | ((with_reducible refine Nx.is_mix ?_); first | refine Nx.m ?_ | refine Nx.zm ?_ | refine Nx.zt (fun hc => ?_) (fun hc => ?_))
    | refine Nx.zx ?_ | fail
  refine Nx.p_loop (σ := Nat) (fun k => [(4, .pointer (some ⟨b4, 0, none⟩)), (6, .slice As es.length ca), (7, .slice Bp p.length cp), (9, .slice Ap z0.length z0.length), (11, .slice Aw w.length cw), (12, .pointer (some ⟨b12, 0, none⟩)), (13, .slice A13 x1.length c13), (14, .int .i64 wt), (16, .int .i64 (k : Int))])
    (fun _ => [Blk b4 27 [.slice B s.length c'], Blk b12 43 [.int .i64 es.length, .slice Av v.length cv, .slice Ap z0.length z0.length], F]) (fun k => k ≤ pw) (fun k => pw - k) 0 rfl (Nat.zero_le _) ⟨rfl, rfl, rfl, rfl, by rw [hwi]; rfl, rfl, rfl, rfl, rfl, trivial⟩ (by (exact Ent.auto)) ?_
  intro k hk
  have hk : k ≤ pw := hk
  by_cases hkp : k < pw
  case neg =>
    repeat' first
      | ((with_reducible refine Nx.is_wp ?_); first | refine Nx.wo ?_ | refine Nx.zp (fun hc => ?_) (fun hc => ?_))
      | (refine Nx.zo ?_; first | refine Nx.opr rfl rfl ?_ | refine Nx.bin rfl rfl (run_shlK (.inl rfl) rfl h6 hpw) rfl ?_ | refine Nx.callv rfl rfl rfl (by kernel_rfl) rfl (awakeT_spec _) ?_ | refine Nx.so ?_ | refine Nx.sb (fun bx => ?_) | refine Nx.sa (fun A2 c2 => ?_))
      | ((with_reducible refine Nx.is_at ?_); first | refine Nx.a ?_ | refine Nx.zd ?_ | refine Nx.zs (fun hc => ?_) (fun hc => ?_))
      | ((with_reducible refine Nx.is_mix ?_); first | refine Nx.m ?_ | refine Nx.zm ?_ | refine Nx.zt (fun hc => ?_) (fun hc => ?_))
      | refine Nx.zx ?_ | fail
    exact Nx.imm_le (hle5.trans hI6) (Nx.ret_fn rfl [] ⟨rfl, rfl⟩ (by (exact Ent.auto)))
  have hSet := Set_spec k z0.length (by omega) h6 I6
  repeat' first
    | ((with_reducible refine Nx.is_wp ?_); first | refine Nx.p_stopr 21 rfl ?_ | refine Nx.wo ?_ | refine Nx.zp (fun hc => ?_) (fun hc => ?_))
    | (refine Nx.zo ?_; first | refine Nx.opr rfl rfl ?_ | refine Nx.bin rfl rfl (run_shlK (.inl rfl) rfl h6 hpw) rfl ?_ | (refine Nx.call (Rpre := []) rfl rfl rfl (by kernel_rfl) rfl hSet (Ent.refl _) ?_; rintro _ _ ⟨A2, c2, rfl, rfl⟩) | refine Nx.so ?_ | refine Nx.sb (fun bx => ?_) | refine Nx.sa (fun A2 c2 => ?_))
    | ((with_reducible refine Nx.is_at ?_); first | refine Nx.a ?_ | refine Nx.zd ?_ | refine Nx.zs (fun hc => ?_) (fun hc => ?_))
    | ((with_reducible refine Nx.is_mix ?_); first | refine Nx.m ?_ | refine Nx.zm ?_ | refine Nx.zt (fun hc => ?_) (fun hc => ?_))
    | refine Nx.zx ?_ | fail
  refine Nx.unstop ?_
  refine Nx.freezeAt 0 rfl fun I7 m7 hI7 hm7 h7 => ?_
  have hB2 : Ints I7 A2 c2 (bitsL k z0.length) := Vec.sliceOf hm7 h7
  have hG7 := hG6.mono hI7
  have hIn := Ints_spec A2 A13 c2 c13 (bitsL k z0.length) x1 I7 hB2 (hx1.mono hI7)
  have hWt := Weight_spec Aw A2 cw c2 w (bitsL k z0.length) I7 hG7.w hB2 hS.wok (fun x hx => by have := bitsL_in x hx; omega) (by have := bitsL_len k z0.length; omega)
  by_cases hskip : ¬ bitsL k z0.length = x1 ∧ wt ≤ wSum w (bitsL k z0.length)
  · rw [decide_eq_false hskip.1] at hIn
    have hge := hskip.2
    repeat' first
      | ((with_reducible refine Nx.is_wp ?_); first | refine Nx.wo ?_ | refine Nx.zp (fun hc => ?_) (fun hc => ?_))
      | (refine Nx.zo ?_; first | refine Nx.opr rfl rfl ?_ | refine Nx.callv rfl rfl rfl (by kernel_rfl) rfl hIn ?_ | refine Nx.callv rfl rfl rfl (by kernel_rfl) rfl hWt ?_ | refine Nx.so ?_ | refine Nx.sb (fun bx => ?_) | refine Nx.sa (fun A2 c2 => ?_))
      | ((with_reducible refine Nx.is_at ?_); first | refine Nx.a ?_ | refine Nx.zd ?_ | refine Nx.zs (fun hc => ?_) (fun hc => ?_))
      | ((with_reducible refine Nx.is_mix ?_); first | refine Nx.m ?_ | refine Nx.zm ?_ | refine Nx.zt (fun hc => ?_) (fun hc => ?_))
      | refine Nx.zx ?_ | fail
    exact Nx.imm_le hI7 (Nx.again (k + 1) hkp (by omega) ⟨rfl, rfl, rfl, rfl, rfl, rfl, rfl, rfl, rfl, trivial⟩ (by (exact Ent.auto)))
  have hor : bitsL k z0.length = x1 ∨ wSum w (bitsL k z0.length) < wt := by
    by_cases h : bitsL k z0.length = x1
    · exact .inl h
    · exact .inr (Int.lt_of_not_ge fun h' => hskip ⟨h, h'⟩)
  obtain ⟨e1, e2, e3⟩ := hlaw k hkp hor
  have hHd := HideP_spec A2 c2 (bitsL k z0.length) ⟨(es.length : Int), Av, cv, v, (Ap, z0.length, z0)⟩ I7 hG7.v hG7.d hB2 (show v.length ≤ 1000 by omega) hrows (show z0.length ≤ 1000 by omega)
  unfold HidePost at hHd
  dsimp only at hHd
  rw [hide_bits rfl] at hHd
  have hce := fun (r' : Rel) (h1 : r'.num = (es.length : Int)) (h2 : vStrip r'.v = vStrip v) (h3 : r'.val.2.2 = hidL z0 (bitsL k z0.length)) => cer_hid (l := s) (es := es) (r := ⟨(es.length : Int), Av, cv, v, (Ap, z0.length, z0)⟩) (r' := r') (L := bitsL k z0.length) h1 h2 h3
  generalize cerD s (es ++ [hidR ⟨(es.length : Int), Av, cv, v, (Ap, z0.length, z0)⟩ (bitsL k z0.length)]) = fc at e1 e2 e3 hce
  obtain ⟨xs, er⟩ := fc
  dsimp only at e1 e2 e3
  obtain ⟨mine, hmine⟩ : ∃ mine, mine = decide (bitsL k z0.length = x1) := ⟨_, rfl⟩
  rw [← hmine] at hIn
  have hm1 : mine = true → er = 0 := fun h => e2 (of_decide_eq_true (hmine.symm.trans h))
  have hm2 : er = 0 → ((∃ k ∈ xs, k ∈ p) ↔ mine = false) := fun h => by
    rw [e3 h, hmine, decide_eq_false_iff_not]
  have hm3 : mine = false → wSum w (bitsL k z0.length) < wt := fun h => hor.resolve_left (of_decide_eq_false (hmine.symm.trans h))
  clear e2 e3 hmine hor hskip hlaw
  generalize wSum w (bitsL k z0.length) = wk at hWt hm3
  have hlen1 : ∀ x : Rel, (es ++ [x]).length = es.length + 1 := fun x => by rw [List.length_append]; rfl
  have hall : ∀ (I8 : PH) (b19 : Nat) (va2 : Option Addr) (vc2 : Nat) (v2 : List Row) (D2 : Option Addr) (cd2 : Nat) (x2 : List Int), PH.le I7 I8 → vStrip v2 = vStrip v → x2 = hidL z0 (bitsL k z0.length) → RowsOf I8 va2 vc2 v2 → Ints I8 D2 cd2 x2 → ∀ A3 c3 q I', PH.le I8 I' → PH.le q I' → Stars [Vec 43 3 A3 (es.length + 1) c3 (es.flatMap relC ++ [.int .i64 es.length, .slice va2 v2.length vc2, .slice D2 x2.length cd2])] q → FnSpec Tryz.prog 18 [.agg #[.slice B s.length c'], .slice A3 (es.length + 1) c3] I' [] (fun u R' => ∃ (A' : Option Addr) (c' : Nat), u = .tuple #[.slice A' xs.length c', .int .i64 er] ∧ R' = [iR A' c' xs]) := fun I8 _ va2 vc2 v2 D2 cd2 x2 hle8 hv2 hx2 hR2 hD2 A3 c3 q I' hle hq hvq => by
    have hes8 := hG7.es.mono hle8
    have hra := rels_app (r := ⟨(es.length : Int), va2, vc2, v2, (D2, cd2, x2)⟩) hes8 hle hq hvq hR2 hD2
    have hwv2 : ∀ x ∈ es ++ [⟨(es.length : Int), va2, vc2, v2, (D2, cd2, x2)⟩], Viewed s x.v := fun x hx => (List.mem_append.1 hx).elim (views_of hro x) fun h => by rw [List.mem_singleton.1 h]; exact viewed_strip hv2.symm hw
    have := Certain_spec B A3 c' c3 s (es ++ [⟨(es.length : Int), va2, vc2, v2, (D2, cd2, x2)⟩]) I' (hG7.z.mono (hle8.trans hle)) hs hra hwv2
    rw [hce ⟨(es.length : Int), va2, vc2, v2, (D2, cd2, x2)⟩ rfl hv2 hx2, hlen1] at this
    exact this
  have hrest : ∀ Q : Exit → Act → World → Prop, PanicOk Q → (∀ I', PH.le I7 I' → Nx ⟨Tryz.prog, 172, w0⟩ [(4, .pointer (some ⟨b4, 0, none⟩)), (6, .slice As es.length ca), (7, .slice Bp p.length cp), (9, .slice Ap z0.length z0.length), (11, .slice Aw w.length cw), (12, .pointer (some ⟨b12, 0, none⟩)), (13, .slice A13 x1.length c13), (14, .int .i64 wt), (16, .int .i64 (k : Int))] I' [Blk b4 27 [.slice B s.length c'], Blk b12 43 [.int .i64 es.length, .slice Av v.length cv, .slice Ap z0.length z0.length], F] (Q .normal)) → (∀ I', PH.le I7 I' → Nx ⟨Tryz.prog, 172, w0⟩ [(4, .pointer (some ⟨b4, 0, none⟩)), (6, .slice As es.length ca), (7, .slice Bp p.length cp), (9, .slice Ap z0.length z0.length), (11, .slice Aw w.length cw), (12, .pointer (some ⟨b12, 0, none⟩)), (13, .slice A13 x1.length c13), (14, .int .i64 wt), (16, .int .i64 (k : Int))] I' [Blk b4 27 [.slice B s.length c'], Blk b12 43 [.int .i64 es.length, .slice Av v.length cv, .slice Ap z0.length z0.length], F] (Q (.exit 3))) →
      Nx ⟨Tryz.prog, 172, w0⟩ ((17, .slice A2 (bitsL k z0.length).length c2) :: (18, .bool mine) :: [(4, .pointer (some ⟨b4, 0, none⟩)), (6, .slice As es.length ca), (7, .slice Bp p.length cp), (9, .slice Ap z0.length z0.length), (11, .slice Aw w.length cw), (12, .pointer (some ⟨b12, 0, none⟩)), (13, .slice A13 x1.length c13), (14, .int .i64 wt), (16, .int .i64 (k : Int))]) I7 [Blk b4 27 [.slice B s.length c'], Blk b12 43 [.int .i64 es.length, .slice Av v.length cv, .slice Ap z0.length z0.length], F] (Code.wp Tryz.prog (cr (cr (cr (cl (cl (cr (cl (cl (cr (cl (cr (cr (cr (cr (cr (cr (cr (cr (cr (cr (cr (cr (bodyOf Tryz.f3))))))))))))))))))))))) Q) := by
    intro Q hQ h1 h2
    clear hIn hWt hm3 hce hle5
    repeat' first
      | ((with_reducible refine Nx.is_wp ?_); first | refine Nx.p_stopr 24 rfl ?_ | refine Nx.wo ?_ | refine Nx.zp (fun hc => ?_) (fun hc => ?_))
      | (refine Nx.zo ?_; first | refine Nx.opr rfl rfl ?_ | (refine Nx.call (Rpre := []) rfl rfl rfl (by kernel_rfl) rfl hHd (Ent.refl _) ?_; rintro _ _ ⟨⟨num2, va2, vc2, v2, D2, cd2, x2⟩, rfl, hh, -, rfl⟩) | refine Nx.so ?_ | refine Nx.sb (fun bx => ?_) | refine Nx.sa (fun A2 c2 => ?_))
      | ((with_reducible refine Nx.is_at ?_); first | refine Nx.a ?_ | refine Nx.zd ?_ | refine Nx.zs (fun hc => ?_) (fun hc => ?_))
      | ((with_reducible refine Nx.is_mix ?_); first | refine Nx.m ?_ | refine Nx.zm ?_ | refine Nx.zt (fun hc => ?_) (fun hc => ?_))
      | refine Nx.zx ?_ | fail
    refine Nx.unstop ?_
    revert bx; intro b19
    obtain ⟨hn2, hv2, hx2⟩ := hh rfl
    dsimp only at hn2 hv2 hx2
    subst hn2
    refine Nx.ent (R' := [relR ⟨(es.length : Int), va2, vc2, v2, (D2, cd2, x2)⟩, Blk b19 43 [.int .i64 es.length, .slice va2 v2.length vc2, .slice D2 x2.length cd2], Blk b4 27 [.slice B s.length c'], Blk b12 43 [.int .i64 es.length, .slice Av v.length cv, .slice Ap z0.length z0.length], F]) (by (exact Ent.auto)) ?_
    refine Nx.freezeAt 0 rfl fun I8 m8 hI8 hm8 h8 => ?_
    obtain ⟨n1, d1, q1⟩ := Stars.get 0 h8 rfl
    obtain ⟨n2, d2, q2⟩ := Stars.get 1 h8 rfl
    have hR2 : RowsOf I8 va2 vc2 v2 := ViewR.rows (d1.trans hm8) q1
    have hD2 : Ints I8 D2 cd2 x2 := Vec.sliceOf (d2.trans hm8) q2
    refine Nx.p_seq rfl ?_
    refine Nx.weak ?_ ?_ (top24 B As va2 D2 c' ca vc2 cd2 s.length v2.length x2.length b4 b19 es.length es (.slice Bp p.length cp) (.slice Ap z0.length z0.length) (.slice Aw w.length cw) (.pointer (some ⟨b12, 0, none⟩)) (.slice A13 x1.length c13) (.int .i64 wt) (.int .i64 (k : Int)) (.bool mine) (.int .i64 0) xs er I8 (hG7.es.mono hI8).outer (by omega) w0 (Blk b12 43 [.int .i64 es.length, .slice Av v.length cv, .slice Ap z0.length z0.length]) F _ (PanicOk.then_ hQ) (hall I8 b19 va2 vc2 v2 D2 cd2 x2 hI8 hv2 hx2 hR2 hD2) fun A21 c21 => ?_)
    · exact ⟨rfl, rfl, rfl, rfl, rfl, rfl, rfl, rfl, rfl, rfl, rfl, rfl, trivial⟩
    · (exact Ent.auto)
    refine Nx.freezeAt 0 rfl fun I9 m9 hI9 hm9 h9x => ?_
    have hks : Ints I9 A21 c21 xs := Vec.sliceOf hm9 h9x
    have hp9 : Ints I9 Bp cp p := hG7.p.mono (hI8.trans hI9)
    refine Nx.then_normal ?_
    refine Nx.weak ?_ ?_ (top_known Bp A21 cp c21 p xs er mine (.pointer (some ⟨b4, 0, none⟩)) (.slice As es.length ca) (.slice Ap z0.length z0.length) (.slice Aw w.length cw) (.pointer (some ⟨b12, 0, none⟩)) (.slice A13 x1.length c13) (.int .i64 wt) (.int .i64 (k : Int)) I9 [Blk b4 27 [.slice B s.length c'], Blk b12 43 [.int .i64 es.length, .slice Av v.length cv, .slice Ap z0.length z0.length], F] hks hp9 e1 hm1 hm2 w0 Q (h1 I9 (hI8.trans hI9)) (h2 I9 (hI8.trans hI9)))
    · exact ⟨rfl, rfl, rfl, rfl, rfl, rfl, rfl, rfl, rfl, rfl, rfl, rfl, rfl, trivial⟩
    · (exact Ent.auto)
  clear hall hHd hce
  cases mine with
  | false =>
    have hlt := hm3 rfl
    repeat' first
      | ((with_reducible refine Nx.is_wp ?_); first | refine Nx.p_stopr 23 rfl ?_ | refine Nx.wo ?_ | refine Nx.zp (fun hc => ?_) (fun hc => ?_))
      | (refine Nx.zo ?_; first | refine Nx.opr rfl rfl ?_ | refine Nx.callv rfl rfl rfl (by kernel_rfl) rfl hIn ?_ | refine Nx.callv rfl rfl rfl (by kernel_rfl) rfl hWt ?_ | refine Nx.so ?_ | refine Nx.sb (fun bx => ?_) | refine Nx.sa (fun A2 c2 => ?_))
      | ((with_reducible refine Nx.is_at ?_); first | refine Nx.a ?_ | refine Nx.zd ?_ | refine Nx.zs (fun hc => ?_) (fun hc => ?_))
      | ((with_reducible refine Nx.is_mix ?_); first | refine Nx.m ?_ | refine Nx.zm ?_ | refine Nx.zt (fun hc => ?_) (fun hc => ?_))
      | refine Nx.zx ?_ | fail
    refine Nx.unstop ?_
    refine Nx.weak ?_ ?_ (hrest _ (by repeat first | exact PanicOk.fn | refine PanicOk.then_ ?_ | refine PanicOk.inB ?_) (fun I' hle => ?_) (fun I' hle => ?_))
    · exact ⟨rfl, rfl, rfl, rfl, rfl, rfl, rfl, rfl, rfl, rfl, rfl, trivial⟩
    · (exact Ent.auto)
    · repeat' first
        | ((with_reducible refine Nx.is_wp ?_); first | refine Nx.wo ?_ | refine Nx.zp (fun hc => ?_) (fun hc => ?_))
        | (refine Nx.zo ?_; first | refine Nx.opr rfl rfl ?_ | refine Nx.so ?_ | refine Nx.sb (fun bx => ?_) | refine Nx.sa (fun A2 c2 => ?_))
        | ((with_reducible refine Nx.is_at ?_); first | refine Nx.a ?_ | refine Nx.zd ?_ | refine Nx.zs (fun hc => ?_) (fun hc => ?_))
        | ((with_reducible refine Nx.is_mix ?_); first | refine Nx.m ?_ | refine Nx.zm ?_ | refine Nx.zt (fun hc => ?_) (fun hc => ?_))
        | refine Nx.zx ?_ | fail
      exact Nx.imm_le (hI7.trans hle) (Nx.again (k + 1) hkp (by omega) ⟨rfl, rfl, rfl, rfl, rfl, rfl, rfl, rfl, rfl, trivial⟩ (by (exact Ent.auto)))
    · repeat' first
        | ((with_reducible refine Nx.is_wp ?_); first | refine Nx.wo ?_ | refine Nx.zp (fun hc => ?_) (fun hc => ?_))
        | (refine Nx.zo ?_; first | refine Nx.opr rfl rfl ?_ | refine Nx.so ?_ | refine Nx.sb (fun bx => ?_) | refine Nx.sa (fun A2 c2 => ?_))
        | ((with_reducible refine Nx.is_at ?_); first | refine Nx.a ?_ | refine Nx.zd ?_ | refine Nx.zs (fun hc => ?_) (fun hc => ?_))
        | ((with_reducible refine Nx.is_mix ?_); first | refine Nx.m ?_ | refine Nx.zm ?_ | refine Nx.zt (fun hc => ?_) (fun hc => ?_))
        | refine Nx.zx ?_ | fail
      exact Nx.imm_le (hI7.trans hle) (Nx.again (k + 1) hkp (by omega) ⟨rfl, rfl, rfl, rfl, rfl, rfl, rfl, rfl, rfl, trivial⟩ (by (exact Ent.auto)))
  | true =>
    repeat' first
      | ((with_reducible refine Nx.is_wp ?_); first | refine Nx.p_stopr 23 rfl ?_ | refine Nx.wo ?_ | refine Nx.zp (fun hc => ?_) (fun hc => ?_))
      | (refine Nx.zo ?_; first | refine Nx.opr rfl rfl ?_ | refine Nx.callv rfl rfl rfl (by kernel_rfl) rfl hIn ?_ | refine Nx.callv rfl rfl rfl (by kernel_rfl) rfl hWt ?_ | refine Nx.so ?_ | refine Nx.sb (fun bx => ?_) | refine Nx.sa (fun A2 c2 => ?_))
      | ((with_reducible refine Nx.is_at ?_); first | refine Nx.a ?_ | refine Nx.zd ?_ | refine Nx.zs (fun hc => ?_) (fun hc => ?_))
      | ((with_reducible refine Nx.is_mix ?_); first | refine Nx.m ?_ | refine Nx.zm ?_ | refine Nx.zt (fun hc => ?_) (fun hc => ?_))
      | refine Nx.zx ?_ | fail
    refine Nx.unstop ?_
    refine Nx.weak ?_ ?_ (hrest _ (by repeat first | exact PanicOk.fn | refine PanicOk.then_ ?_ | refine PanicOk.inB ?_) (fun I' hle => ?_) (fun I' hle => ?_))
    · exact ⟨rfl, rfl, rfl, rfl, rfl, rfl, rfl, rfl, rfl, rfl, rfl, trivial⟩
    · (exact Ent.auto)
    · repeat' first
        | ((with_reducible refine Nx.is_wp ?_); first | refine Nx.wo ?_ | refine Nx.zp (fun hc => ?_) (fun hc => ?_))
        | (refine Nx.zo ?_; first | refine Nx.opr rfl rfl ?_ | refine Nx.so ?_ | refine Nx.sb (fun bx => ?_) | refine Nx.sa (fun A2 c2 => ?_))
        | ((with_reducible refine Nx.is_at ?_); first | refine Nx.a ?_ | refine Nx.zd ?_ | refine Nx.zs (fun hc => ?_) (fun hc => ?_))
        | ((with_reducible refine Nx.is_mix ?_); first | refine Nx.m ?_ | refine Nx.zm ?_ | refine Nx.zt (fun hc => ?_) (fun hc => ?_))
        | refine Nx.zx ?_ | fail
      exact Nx.imm_le (hI7.trans hle) (Nx.again (k + 1) hkp (by omega) ⟨rfl, rfl, rfl, rfl, rfl, rfl, rfl, rfl, rfl, trivial⟩ (by (exact Ent.auto)))
    · repeat' first
        | ((with_reducible refine Nx.is_wp ?_); first | refine Nx.wo ?_ | refine Nx.zp (fun hc => ?_) (fun hc => ?_))
        | (refine Nx.zo ?_; first | refine Nx.opr rfl rfl ?_ | refine Nx.so ?_ | refine Nx.sb (fun bx => ?_) | refine Nx.sa (fun A2 c2 => ?_))
        | ((with_reducible refine Nx.is_at ?_); first | refine Nx.a ?_ | refine Nx.zd ?_ | refine Nx.zs (fun hc => ?_) (fun hc => ?_))
        | ((with_reducible refine Nx.is_mix ?_); first | refine Nx.m ?_ | refine Nx.zm ?_ | refine Nx.zt (fun hc => ?_) (fun hc => ?_))
        | refine Nx.zx ?_ | fail
      exact Nx.imm_le (hI7.trans hle) (Nx.again (k + 1) hkp (by omega) ⟨rfl, rfl, rfl, rfl, rfl, rfl, rfl, rfl, rfl, trivial⟩ (by (exact Ent.auto)))
end Go.Proofs.YtjnhoemgceghlaaGreat
