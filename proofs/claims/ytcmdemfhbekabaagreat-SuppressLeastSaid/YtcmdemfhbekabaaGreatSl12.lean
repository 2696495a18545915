/- Contracts of functions of the given program, and lemmas about plain lists and numbers: what the laws of this seat lean on. -/
import Derived.Test.YtcmdemfhbekabaaGreatSl11
namespace Go.Proofs.YtcmdemfhbekabaaGreat
open Go.Eng Go.Sol
attribute [local irreducible] opK wpList Code.wp Exit.then Exit.inBlock fnPost bodyPost Nx Calls Oper.wp Rd Rds Wr Ent Stars Blk Again Vec FnSpec wpMix QRun Stop Upto wpAt
/-! Hiding: the reference -/
def HideRPost (r : Rel) (L : List Int) (u : Value) (R' : List Res) : Prop :=
  ∃ r' : Rel, u = .tuple #[.agg (relC r').toArray, .int .i64 (hideE r.val.2.2 L)] ∧ (hideE r.val.2.2 L = 0 → r'.num = r.num ∧ r'.va = r.va ∧ r'.vc = r.vc ∧ r'.v = r.v ∧ r'.val.2.2 = hidL r.val.2.2 L) ∧ (hideE r.val.2.2 L ≠ 0 → r' = default) ∧ R' = [rowR r'.val]
theorem rowR_nil (R : List Res) : Ent R (rowR (default : Rel).val :: R) := Ent.vec_nil 3 1 R
set_option maxRecDepth 10000 in
set_option maxHeartbeats 16000000 in
theorem HideR_spec (B : Option Addr) (cb : Nat) (L : List Int) (r : Rel) (I : PH) (hd : Ints I r.val.1 r.val.2.1 r.val.2.2) (hB : Ints I B cb L) (hd9 : r.val.2.2.length ≤ 1000) :
    FnSpec Tryz.prog 48 [.agg #[.int .i64 r.num, .slice r.va r.v.length r.vc, .slice r.val.1 r.val.2.2.length r.val.2.1], .slice B L.length cb] I [] (HideRPost r L) := by
  obtain ⟨num, va, vc, v, D, cd, vs⟩ := r
  unfold HideRPost
  dsimp only at hd hd9 ⊢
  have hBl := hB.len
  refine FnSpec.enterP Tryz.func48 rfl Tryz.ntmps48 rfl fun w F => ?_
  repeat' first
    | ((with_reducible refine Nx.is_wp ?_); first | refine Nx.wo ?_ | refine Nx.zp (fun hc => ?_) (fun hc => ?_))
    | (refine Nx.zo ?_; first | refine Nx.opr rfl rfl ?_ | refine Nx.so ?_ | refine Nx.sb (fun bx => ?_) | refine Nx.sa (fun A2 c2 => ?_))
    | ((with_reducible refine Nx.is_at ?_); first | refine Nx.a ?_ | refine Nx.zd ?_ | refine Nx.zs (fun hc => ?_) (fun hc => ?_))
    | ((with_reducible refine Nx.is_mix ?_); first | refine Nx.m ?_ | refine Nx.zm ?_ | refine Nx.zt (fun hc => ?_) (fun hc => ?_))
    | refine Nx.zx ?_ | fail
  rename_i b2
  revert bx; intro b4
  refine Nx.p_loop (σ := Nat) (fun i => [(1, .slice B L.length cb), (2, .pointer (some ⟨b2, 0, none⟩)), (4, .pointer (some ⟨b4, 0, none⟩)), (5, .int .i64 0), (6, .int .i64 ((i + 1 : Nat) : Int))])
    (fun _ => [Blk b4 62 [.int .i64 0, .slice none 0 0, .slice none 0 0], Blk b2 62 [.int .i64 num, .slice va v.length vc, .slice D vs.length cd], F]) (fun i => i ≤ L.length ∧ ∀ j, j < i → j + 1 < L.length → L.getD j default < L.getD (j + 1) default) (fun i => L.length - i) 0 rfl ⟨Nat.zero_le _, fun j hj => absurd hj (Nat.not_lt_zero _)⟩ ⟨rfl, rfl, rfl, rfl, rfl, trivial⟩ (by (exact Ent.auto)) ?_
  rintro i ⟨hi, hall⟩
  by_cases hlt : i + 1 < L.length
  · have hnp := not_pw hlt
    have r1 := fun (W : World) (R : List Res) => hB.rd (W := W) (R := R) (k := i) (by omega)
    have r2 := fun (W : World) (R : List Res) => hB.rd (W := W) (R := R) hlt
    have hnx : ∀ j, j < i + 1 → L.getD i default < L.getD (i + 1) default → j + 1 < L.length → L.getD j default < L.getD (j + 1) default := fun j hj hx h => by
      rcases Nat.lt_or_ge j i with h' | h'
      · exact hall j h' h
      · rw [show j = i by omega]; exact hx
    generalize L.getD i default = x at hnp r1 hnx
    generalize L.getD (i + 1) default = y at hnp r2 hnx
    have hi1 : (((i + 1 : Nat) : Int) - 1).toNat = i := by omega
    have r1' : ∀ (W : World) (R : List Res), Rd W I R ((ad B).add ((((i + 1 : Nat) : Int) - 1).toNat * 1)) (.int .i64 x) := fun W R => by rw [hi1]; exact r1 W R
    by_cases hxy : x < y
    · repeat' first
        | ((with_reducible refine Nx.is_wp ?_); first | refine Nx.wo ?_ | refine Nx.p_draw (id := 4) rfl [0, 1, 2, 3, 4, 5, 6, 7, 8, 9] [] _ rfl rfl (by kernel_rfl) (by kernel_rfl) rfl (by repeat first | exact PanicOk.fn | refine PanicOk.then_ ?_ | refine PanicOk.inB ?_) (Ent.refl _) ?_ | refine Nx.zp (fun hc => ?_) (fun hc => ?_))
        | (refine Nx.zo ?_; first | refine Nx.opr rfl rfl ?_ | refine Nx.so ?_ | refine Nx.sb (fun bx => ?_) | refine Nx.sa (fun A2 c2 => ?_))
        | ((with_reducible refine Nx.is_at ?_); first | refine Nx.a ?_ | refine Nx.zd ?_ | refine Nx.zs (fun hc => ?_) (fun hc => ?_))
        | ((with_reducible refine Nx.is_mix ?_); first | refine Nx.m_quiet rfl rfl rfl rfl rfl (by first | exact QRun.opr rfl | exact QRun.idxi (A := B) (i := ((i + 1 : Nat) : Int) - 1) (sz := 1) rfl rfl rfl rfl (by omega) (by omega) (hB.isSome (by omega)) | exact QRun.idx (A := B) (i := i + 1) (sz := 1) rfl rfl rfl rfl (by omega) (hB.isSome (by omega)) | exact QRun.load rfl rfl (r1' _ _) | exact QRun.load rfl rfl (r2 _ _)) ?_ | refine Nx.m_quiet_do rfl rfl rfl rfl rfl rfl rfl (by first | exact QRun.opr rfl | exact QRun.idxi (A := B) (i := ((i + 1 : Nat) : Int) - 1) (sz := 1) rfl rfl rfl rfl (by omega) (by omega) (hB.isSome (by omega)) | exact QRun.idx (A := B) (i := i + 1) (sz := 1) rfl rfl rfl rfl (by omega) (hB.isSome (by omega)) | exact QRun.load rfl rfl (r1' _ _) | exact QRun.load rfl rfl (r2 _ _)) ?_ | refine Nx.m ?_ | refine Nx.zm ?_ | refine Nx.zt (fun hc => ?_) (fun hc => ?_))
        | refine Nx.zx ?_ | fail
      exact Nx.again (i + 1) ⟨by omega, fun j hj h => hnx j hj hxy h⟩ (by omega) ⟨rfl, rfl, rfl, rfl, rfl, trivial⟩ (by (exact Ent.auto))
    · have he : hideE vs L = 11 := if_neg (hnp hxy)
      rw [he]
      repeat' first
        | ((with_reducible refine Nx.is_wp ?_); first | refine Nx.wo ?_ | refine Nx.p_draw (id := 4) rfl [0, 1, 2, 3, 4, 5, 6, 7, 8, 9] [] _ rfl rfl (by kernel_rfl) (by kernel_rfl) rfl (by repeat first | exact PanicOk.fn | refine PanicOk.then_ ?_ | refine PanicOk.inB ?_) (Ent.refl _) ?_ | refine Nx.zp (fun hc => ?_) (fun hc => ?_))
        | (refine Nx.zo ?_; first | refine Nx.opr rfl rfl ?_ | refine Nx.so ?_ | refine Nx.sb (fun bx => ?_) | refine Nx.sa (fun A2 c2 => ?_))
        | ((with_reducible refine Nx.is_at ?_); first | refine Nx.a ?_ | refine Nx.zd ?_ | refine Nx.zs (fun hc => ?_) (fun hc => ?_))
        | ((with_reducible refine Nx.is_mix ?_); first | refine Nx.m_quiet rfl rfl rfl rfl rfl (by first | exact QRun.opr rfl | exact QRun.idxi (A := B) (i := ((i + 1 : Nat) : Int) - 1) (sz := 1) rfl rfl rfl rfl (by omega) (by omega) (hB.isSome (by omega)) | exact QRun.idx (A := B) (i := i + 1) (sz := 1) rfl rfl rfl rfl (by omega) (hB.isSome (by omega)) | exact QRun.load rfl rfl (r1' _ _) | exact QRun.load rfl rfl (r2 _ _)) ?_ | refine Nx.m_quiet_do rfl rfl rfl rfl rfl rfl rfl (by first | exact QRun.opr rfl | exact QRun.idxi (A := B) (i := ((i + 1 : Nat) : Int) - 1) (sz := 1) rfl rfl rfl rfl (by omega) (by omega) (hB.isSome (by omega)) | exact QRun.idx (A := B) (i := i + 1) (sz := 1) rfl rfl rfl rfl (by omega) (hB.isSome (by omega)) | exact QRun.load rfl rfl (r1' _ _) | exact QRun.load rfl rfl (r2 _ _)) ?_ | refine Nx.m ?_ | refine Nx.zm ?_ | refine Nx.zt (fun hc => ?_) (fun hc => ?_))
        | refine Nx.zx ?_ | fail
      exact Nx.ret2 rfl (ROne.cell 0 rfl rfl rfl rfl rfl) (ROne.tmp rfl) [_] ⟨default, rfl, fun h => absurd h (by decide), fun _ => rfl, rfl⟩ ((rowR_nil _).trans (by (exact Ent.auto)))
  have hpw : L.Pairwise (· < ·) := pairwise_adj fun j hj => hall j (by omega) hj
  repeat' first
    | ((with_reducible refine Nx.is_wp ?_); first | refine Nx.wo ?_ | refine Nx.zp (fun hc => ?_) (fun hc => ?_))
    | (refine Nx.zo ?_; first | refine Nx.opr rfl rfl ?_ | refine Nx.so ?_ | refine Nx.sb (fun bx => ?_) | refine Nx.sa (fun A2 c2 => ?_))
    | ((with_reducible refine Nx.is_at ?_); first | refine Nx.a ?_ | refine Nx.zd ?_ | refine Nx.zs (fun hc => ?_) (fun hc => ?_))
    | ((with_reducible refine Nx.is_mix ?_); first | refine Nx.m ?_ | refine Nx.zm ?_ | refine Nx.zt (fun hc => ?_) (fun hc => ?_))
    | refine Nx.zx ?_ | fail
  refine Nx.p_loop (σ := Nat) (fun q => [(1, .slice B L.length cb), (2, .pointer (some ⟨b2, 0, none⟩)), (4, .pointer (some ⟨b4, 0, none⟩)), (5, .int .i64 0), (29, .slice B L.length cb), (30, .int .i64 L.length), (31, .int .i64 (q : Int))])
    (fun _ => [Blk b4 62 [.int .i64 0, .slice none 0 0, .slice none 0 0], Blk b2 62 [.int .i64 num, .slice va v.length vc, .slice D vs.length cd], F])
    (fun q => q ≤ L.length ∧ ∀ k ∈ L.take q, inB vs.length k = true) (fun q => L.length - q) 0 rfl ⟨Nat.zero_le _, by simp⟩ ⟨rfl, rfl, rfl, rfl, rfl, rfl, rfl, trivial⟩ (by (exact Ent.auto)) ?_
  rintro q ⟨hq2, hin⟩
  by_cases hql : q < L.length
  · have htk := take_snocJ hql
    have hrd : ∀ (W : World) (R : List Res), Rd W I R ((ad B).add (q * 1)) (.int .i64 (L.getD q default)) := fun W R => hB.rd hql
    have hbad : ¬ inB vs.length (L.getD q default) = true → hideE vs L = 2 := fun h => by
      unfold hideE
      rw [if_pos hpw, if_neg]
      intro hall
      exact h (List.all_eq_true.1 hall _ (getD_memI hql))
    generalize L.getD q default = x at htk hrd hbad
    by_cases hx : 0 ≤ x ∧ x < vs.length
    · repeat' first
        | ((with_reducible refine Nx.is_wp ?_); first | refine Nx.wo ?_ | refine Nx.zp (fun hc => ?_) (fun hc => ?_))
        | (refine Nx.zo ?_; first | refine Nx.opr rfl rfl ?_ | refine Nx.indexAddr_nat (A := B) (i := q) (sz := 1) rfl rfl rfl rfl rfl hql (hB.isSome (by omega)) ?_ | refine Nx.load rfl rfl rfl (hrd _ _) ?_ | refine Nx.so ?_ | refine Nx.sb (fun bx => ?_) | refine Nx.sa (fun A2 c2 => ?_))
        | ((with_reducible refine Nx.is_at ?_); first | refine Nx.a ?_ | refine Nx.zd ?_ | refine Nx.zs (fun hc => ?_) (fun hc => ?_))
        | ((with_reducible refine Nx.is_mix ?_); first | refine Nx.m ?_ | refine Nx.zm ?_ | refine Nx.zt (fun hc => ?_) (fun hc => ?_))
        | refine Nx.zx ?_ | fail
      exact Nx.again (q + 1) ⟨hql, by rw [htk]; intro k hk; rcases List.mem_append.1 hk with h | h; exact hin k h; rw [List.mem_singleton.1 h]; exact decide_eq_true hx⟩ (by omega) ⟨rfl, rfl, rfl, rfl, rfl, rfl, rfl, trivial⟩ (by (exact Ent.auto))
    · rw [hbad (by unfold inB; rw [decide_eq_true_eq]; exact hx)]
      by_cases hx0 : x < 0
      · repeat' first
          | ((with_reducible refine Nx.is_wp ?_); first | refine Nx.wo ?_ | refine Nx.zp (fun hc => ?_) (fun hc => ?_))
          | (refine Nx.zo ?_; first | refine Nx.opr rfl rfl ?_ | refine Nx.indexAddr_nat (A := B) (i := q) (sz := 1) rfl rfl rfl rfl rfl hql (hB.isSome (by omega)) ?_ | refine Nx.load rfl rfl rfl (hrd _ _) ?_ | refine Nx.so ?_ | refine Nx.sb (fun bx => ?_) | refine Nx.sa (fun A2 c2 => ?_))
          | ((with_reducible refine Nx.is_at ?_); first | refine Nx.a ?_ | refine Nx.zd ?_ | refine Nx.zs (fun hc => ?_) (fun hc => ?_))
          | ((with_reducible refine Nx.is_mix ?_); first | refine Nx.m ?_ | refine Nx.zm ?_ | refine Nx.zt (fun hc => ?_) (fun hc => ?_))
          | refine Nx.zx ?_ | fail
        exact Nx.ret2 rfl (ROne.cell 0 rfl rfl rfl rfl rfl) (ROne.tmp rfl) [_] ⟨default, rfl, fun h => absurd h (by decide), fun _ => rfl, rfl⟩ ((rowR_nil _).trans (by (exact Ent.auto)))
      · repeat' first
          | ((with_reducible refine Nx.is_wp ?_); first | refine Nx.wo ?_ | refine Nx.zp (fun hc => ?_) (fun hc => ?_))
          | (refine Nx.zo ?_; first | refine Nx.opr rfl rfl ?_ | refine Nx.indexAddr_nat (A := B) (i := q) (sz := 1) rfl rfl rfl rfl rfl hql (hB.isSome (by omega)) ?_ | refine Nx.load rfl rfl rfl (hrd _ _) ?_ | refine Nx.so ?_ | refine Nx.sb (fun bx => ?_) | refine Nx.sa (fun A2 c2 => ?_))
          | ((with_reducible refine Nx.is_at ?_); first | refine Nx.a ?_ | refine Nx.zd ?_ | refine Nx.zs (fun hc => ?_) (fun hc => ?_))
          | ((with_reducible refine Nx.is_mix ?_); first | refine Nx.m ?_ | refine Nx.zm ?_ | refine Nx.zt (fun hc => ?_) (fun hc => ?_))
          | refine Nx.zx ?_ | fail
        exact Nx.ret2 rfl (ROne.cell 0 rfl rfl rfl rfl rfl) (ROne.tmp rfl) [_] ⟨default, rfl, fun h => absurd h (by decide), fun _ => rfl, rfl⟩ ((rowR_nil _).trans (by (exact Ent.auto)))
  rw [List.take_of_length_le (by omega)] at hin
  have he : hideE vs L = 0 := by unfold hideE; rw [if_pos hpw, if_pos (List.all_eq_true.2 hin)]
  rw [he]
  have hLin : ∀ k ∈ L, 0 ≤ k ∧ k < vs.length := fun k hk => by
    have := hin k hk
    unfold inB at this
    exact of_decide_eq_true this
  refine Nx.ent (R' := [Blk b2 62 [.int .i64 num, .slice va v.length vc, .slice D vs.length cd], Blk b4 62 [.int .i64 0, .slice none 0 0, .slice none 0 0], F]) (by (exact Ent.auto)) ?_
  repeat' first
    | ((with_reducible refine Nx.is_wp ?_); first | refine Nx.p_stopr 13 rfl ?_ | refine Nx.wo ?_ | refine Nx.p_drawF (id := 4) rfl [0, 1, 2, 3, 4, 5, 6, 7, 8, 9] [] [] _ rfl rfl (by kernel_rfl) (by kernel_rfl) rfl (by repeat first | exact PanicOk.fn | refine PanicOk.then_ ?_ | refine PanicOk.inB ?_) (Ent.refl _) ?_ | refine Nx.p_poolF (id := 12) rfl [0, 1, 2, 3, 5, 6, 4, 7, 8] [4, 7] [] [10] [10] [⟨9, 9, 62, _⟩] rfl rfl (by kernel_rfl) (by kernel_rfl) (by decide) (PoolFit.cons ⟨⟨_, _, _, rfl⟩, rfl, rfl⟩ PoolFit.nil) (by repeat first | exact PanicOk.fn | refine PanicOk.then_ ?_ | refine PanicOk.inB ?_) (Ent.refl _) ?_ | refine Nx.zp (fun hc => ?_) (fun hc => ?_))
    | ((first | refine Nx.at_op rfl rfl ?_ | refine Nx.m_loud rfl rfl rfl ?_ | refine Nx.at_do rfl rfl rfl rfl ?_ | refine Nx.m_loud_do rfl rfl rfl rfl rfl ?_ | refine GoodF.loud_ rfl rfl rfl rfl (fun ex X => ?_)); first | refine Nx.opr rfl rfl ?_ | (refine Nx.blk_vec 1 0 1 rfl rfl (by omega) ?_; refine Nx.append rfl rfl rfl rfl (by kernel_rfl) rfl (Src.arr hd.arr (by simp) (by omega) (fun u hu => by obtain ⟨z, _, rfl⟩ := List.mem_map.1 hu; rfl)) (by omega) fun D2 cd2 => ?_; rw [Nat.zero_add, List.nil_append]) | refine Nx.so ?_ | refine Nx.sb (fun bx => ?_) | refine Nx.sa (fun A2 c2 => ?_))
    | ((with_reducible refine Nx.is_at ?_); first | refine Nx.a ?_ | refine Nx.zd ?_ | refine Nx.zs (fun hc => ?_) (fun hc => ?_))
    | ((with_reducible refine Nx.is_mix ?_); first | refine Nx.m_quiet rfl rfl rfl rfl rfl (by first | exact QRun.opr rfl | exact QRun.loads rfl rfl rfl (Rds.cut 0 1 rfl rfl) rfl) ?_ | refine Nx.m_quiet_do rfl rfl rfl rfl rfl rfl rfl (by first | exact QRun.opr rfl | exact QRun.loads rfl rfl rfl (Rds.cut 0 1 rfl rfl) rfl) ?_ | refine Nx.m ?_ | refine Nx.zm ?_ | refine Nx.zt (fun hc => ?_) (fun hc => ?_))
    | ((with_reducible refine GoodF.is ?_); first | refine GoodF.quiet rfl rfl rfl rfl rfl rfl (by first | exact QRun.opr rfl | exact QRun.loads rfl rfl rfl (Rds.cut 0 1 rfl rfl) rfl |  exact QRun.std) ?_ | refine GoodF.done1 rfl (fun bx => ?_) | refine GoodF.done2 rfl (fun bx by_ => ?_) | refine GoodF.done3 rfl (fun bx by_ bz => ?_))
    | ((fail_if_success (with_reducible refine Nx.is_at ?_)); (fail_if_success (with_reducible refine Nx.is_wp ?_)); (fail_if_success (with_reducible refine Nx.is_mix ?_)); first | refine Nx.ex ?_ | refine Nx.pool_nextF 0 rfl (by exact Ent.auto) ?_ | refine Nx.pool_nextF 1 rfl (by exact Ent.auto) ?_ | refine Nx.pool_nextF 2 rfl (by exact Ent.auto) ?_ | refine Nx.pool_nextF 3 rfl (by exact Ent.auto) ?_)
  refine Nx.unstop ?_
  revert bx; intro b9
  refine Nx.weak (e' := [(1, .slice B L.length cb), (2, .pointer (some ⟨b2, 0, none⟩)), (4, .pointer (some ⟨b4, 0, none⟩)), (5, .int .i64 0), (9, .pointer (some ⟨b9, 0, none⟩))]) (R' := [Blk b9 62 [.int .i64 num, .slice va v.length vc, .slice D2 vs.length cd2], iR D2 cd2 vs, Blk b2 62 [.int .i64 num, .slice va v.length vc, .slice D vs.length cd], Blk b4 62 [.int .i64 0, .slice none 0 0, .slice none 0 0], F]) ⟨rfl, rfl, rfl, rfl, rfl, trivial⟩ (by (exact Ent.auto)) ?_
  repeat' first
    | ((with_reducible refine Nx.is_wp ?_); first | refine Nx.wo ?_ | refine Nx.zp (fun hc => ?_) (fun hc => ?_))
    | (refine Nx.zo ?_; first | refine Nx.opr rfl rfl ?_ | refine Nx.so ?_ | refine Nx.sb (fun bx => ?_) | refine Nx.sa (fun A2 c2 => ?_))
    | ((with_reducible refine Nx.is_at ?_); first | refine Nx.a ?_ | refine Nx.zd ?_ | refine Nx.zs (fun hc => ?_) (fun hc => ?_))
    | ((with_reducible refine Nx.is_mix ?_); first | refine Nx.m ?_ | refine Nx.zm ?_ | refine Nx.zt (fun hc => ?_) (fun hc => ?_))
    | refine Nx.zx ?_ | fail
  refine Nx.p_loop (σ := Nat) (fun q => [(2, .pointer (some ⟨b2, 0, none⟩)), (4, .pointer (some ⟨b4, 0, none⟩)), (5, .int .i64 0), (9, .pointer (some ⟨b9, 0, none⟩)), (55, .slice B L.length cb), (56, .int .i64 L.length), (57, .int .i64 (q : Int))])
    (fun q => [Vec 3 1 D2 vs.length cd2 ((hidL vs (L.take q)).map (Value.int .i64)), Blk b9 62 [.int .i64 num, .slice va v.length vc, .slice D2 vs.length cd2], Blk b2 62 [.int .i64 num, .slice va v.length vc, .slice D vs.length cd], Blk b4 62 [.int .i64 0, .slice none 0 0, .slice none 0 0], F])
    (fun q => q ≤ L.length) (fun q => L.length - q) 0 rfl (Nat.zero_le _) ⟨rfl, rfl, rfl, rfl, rfl, rfl, rfl, trivial⟩ (by (exact Ent.auto)) ?_
  intro q hq2
  have hhl := hidL_len (L.take q) vs
  by_cases hql : q < L.length
  case neg =>
    rw [List.take_of_length_le (by omega)] at hhl ⊢
    repeat' first
      | ((with_reducible refine Nx.is_wp ?_); first | refine Nx.wo ?_ | refine Nx.zp (fun hc => ?_) (fun hc => ?_))
      | (refine Nx.zo ?_; first | refine Nx.opr rfl rfl ?_ | refine Nx.so ?_ | refine Nx.sb (fun bx => ?_) | refine Nx.sa (fun A2 c2 => ?_))
      | ((with_reducible refine Nx.is_at ?_); first | refine Nx.a ?_ | refine Nx.zd ?_ | refine Nx.zs (fun hc => ?_) (fun hc => ?_))
      | ((with_reducible refine Nx.is_mix ?_); first | refine Nx.m ?_ | refine Nx.zm ?_ | refine Nx.zt (fun hc => ?_) (fun hc => ?_))
      | refine Nx.zx ?_ | fail
    refine Nx.ret2 rfl (ROne.cell 0 rfl rfl rfl rfl rfl) (ROne.tmp rfl) [rowR (D2, cd2, hidL vs L)] ⟨⟨num, va, vc, v, (D2, cd2, hidL vs L)⟩, by unfold relC rowV; dsimp only; rw [hidL_len], fun _ => ⟨rfl, rfl, rfl, rfl, rfl⟩, fun h => absurd rfl h, rfl⟩ ?_
    unfold rowR; dsimp only; rw [hidL_len]; (exact Ent.auto)
  have htk := take_snocJ hql
  have hrd : ∀ (W : World) (R : List Res), Rd W I R ((ad B).add (q * 1)) (.int .i64 (L.getD q default)) := fun W R => hB.rd hql
  have hx := hLin _ (getD_memI hql)
  have hsn := hidL_snoc vs (L.take q) (L.getD q default)
  rw [← htk] at hsn
  generalize L.getD q default = x at htk hrd hx hsn
  obtain ⟨y, rfl⟩ : ∃ y : Nat, x = y := ⟨x.toNat, by omega⟩
  rw [Int.toNat_natCast] at hsn
  have hyl : y < vs.length := by omega
  refine Nx.vec_fact fun _ _ _ hD2 => ?_
  have hD2 := hD2 (by omega)
  repeat' first
    | ((with_reducible refine Nx.is_wp ?_); first | refine Nx.wo ?_ | refine Nx.zp (fun hc => ?_) (fun hc => ?_))
    | (refine Nx.zo ?_; first | refine Nx.opr rfl rfl ?_ | refine Nx.indexAddr_nat (A := B) (i := q) (sz := 1) rfl rfl rfl rfl rfl hql (hB.isSome (by omega)) ?_ | refine Nx.load rfl rfl rfl (hrd _ _) ?_ | refine Nx.indexAddr_nat (A := D2) (i := y) (sz := 1) rfl rfl rfl rfl rfl hyl hD2 ?_ | refine Nx.store_ints 0 (A := D2) (i := y) (l := hidL vs (L.take q)) rfl rfl rfl rfl (by omega) ?_ | refine Nx.so ?_ | refine Nx.sb (fun bx => ?_) | refine Nx.sa (fun A2 c2 => ?_))
    | ((with_reducible refine Nx.is_at ?_); first | refine Nx.a ?_ | refine Nx.zd ?_ | refine Nx.zs (fun hc => ?_) (fun hc => ?_))
    | ((with_reducible refine Nx.is_mix ?_); first | refine Nx.m ?_ | refine Nx.zm ?_ | refine Nx.zt (fun hc => ?_) (fun hc => ?_))
    | refine Nx.zx ?_ | fail
  exact Nx.again (q + 1) hql (by omega) ⟨rfl, rfl, rfl, rfl, rfl, rfl, rfl, trivial⟩ (by rw [hsn]; (exact Ent.auto))
end Go.Proofs.YtcmdemfhbekabaaGreat
/- Contracts of functions of the given program, and lemmas about plain lists and numbers: what the laws of this seat lean on. -/
namespace Go.Proofs.YtcmdemfhbekabaaGreat
open Go.Eng Go.Sol
attribute [local irreducible] opK wpList Code.wp Exit.then Exit.inBlock fnPost bodyPost Nx Calls Oper.wp Rd Rds Wr Ent Stars Blk Again Vec FnSpec wpMix QRun Stop Upto wpAt
/-! The law: the least set -/
theorem pbF_bits {l : List Int} {es : List Rel} {r : Rel} {n : Nat} {p : List Int} {m : Int} {s : Nat} (hn : n = r.val.2.2.length) : pbF l es r n p m s = (safeB l (es ++ [hidR r (bitsL s n)]) p m && decide ((findD l (es ++ [hidR r (bitsL s n)]) p m).2 = 0)) := by
  unfold pbF protF
  rw [hide_bits hn, if_neg (by decide)]
set_option maxHeartbeats 8000000 in
theorem HideR_bits {I : PH} {r : Rel} {n s : Nat} (hn : n = r.val.2.2.length) (B : Option Addr) (cb : Nat) (hd : Ints I r.val.1 r.val.2.1 r.val.2.2) (hB : Ints I B cb (bitsL s n)) (hd9 : r.val.2.2.length ≤ 1000) :
    FnSpec Tryz.prog 48 [.agg #[.int .i64 r.num, .slice r.va r.v.length r.vc, .slice r.val.1 r.val.2.2.length r.val.2.1], .slice B (bitsL s n).length cb] I [] (fun u R' => ∃ (D2 : Option Addr) (cd2 : Nat), u = .tuple #[.agg #[.int .i64 r.num, .slice r.va r.v.length r.vc, .slice D2 r.val.2.2.length cd2], .int .i64 0] ∧ R' = [iR D2 cd2 (hidL r.val.2.2 (bitsL s n))]) := by
  refine FnSpec.mono (HideR_spec B cb (bitsL s n) r I hd hB hd9) fun u R' hu => ?_
  obtain ⟨⟨num2, va2, vc2, v2, D2, cd2, x2⟩, rfl, h1, _, rfl⟩ := hu
  obtain ⟨e1, e2, e3, e4, e5⟩ := h1 (hide_bits hn)
  dsimp only at e1 e2 e3 e4 e5
  subst e1 e2 e3 e4 e5
  refine ⟨D2, cd2, ?_, rfl⟩
  rw [hide_bits hn]
  unfold relC rowV
  dsimp only
  rw [hidL_len]
set_option maxHeartbeats 8000000 in
theorem safe_hid {I : PH} {B As Aw Bp : Option Addr} {c' ca cw cp : Nat} {s t : List Int} {es : List Rel} {r : Rel} {w p : List Int} (hG : Given I B As Aw Bp c' ca cw cp s es r w p) (hS : StoryOk s t es r w p) (m : Int) (n k : Nat) (D2 : Option Addr) (cd2 : Nat) (hd2 : Ints I D2 cd2 (hidL r.val.2.2 (bitsL k n))) :
    ∀ A3 c3 q I', PH.le I I' → PH.le q I' → Stars [Vec 62 3 A3 (es.length + 1) c3 (es.flatMap relC ++ [.int .i64 r.num, .slice r.va r.v.length r.vc, .slice D2 r.val.2.2.length cd2])] q → FnSpec Tryz.prog 29 [.agg #[.slice B s.length c'], .slice A3 (es.length + 1) c3, .slice Bp p.length cp, .int .i64 m] I' [] (fun u R' => u = .tuple #[.bool (safeB s (es ++ [hidR r (bitsL k n)]) p m), .int .i64 (findD s (es ++ [hidR r (bitsL k n)]) p m).2] ∧ R' = []) := by
  have h := safe_behind hG hS m (r2 := ⟨r.num, r.va, r.vc, r.v, (D2, cd2, hidL r.val.2.2 (bitsL k n))⟩) hG.v hd2 hS.rel.view
  dsimp only at h
  rw [hidL_len] at h
  unfold safeB at h ⊢
  rw [prot_same (r := r) (r' := ⟨r.num, r.va, r.vc, r.v, (D2, cd2, hidL r.val.2.2 (bitsL k n))⟩) (L := bitsL k n) rfl rfl rfl] at h
  exact h
set_option maxRecDepth 10000 in
set_option maxHeartbeats 16000000 in
theorem least_loop (w0 : World) (F : Res) (b6 b8 : Nat) (B As Aw Bp : Option Addr) (c' ca cw cp : Nat) (s t : List Int) (es : List Rel) (r : Rel) (w p : List Int) (m wt e : Int) (I0 I1 : PH) (hle : PH.le I0 I1) (hG : Given I1 B As Aw Bp c' ca cw cp s es r w p) (hS : StoryOk s t es r w p)
    (he : e = 0 ∨ e = 51) (hno : ∀ t, t < 2 ^ w.length → (e = 0 → wSum w (bitsL t w.length) < wt) → pbF s es r w.length p m t = false) :
    Nx ⟨Tryz.prog, 140, w0⟩ [(6, .pointer (some ⟨b6, 0, none⟩)), (7, .slice As es.length ca), (8, .pointer (some ⟨b8, 0, none⟩)), (9, .slice Aw w.length cw), (10, .slice Bp p.length cp), (11, .int .i64 m), (13, .int .i64 wt), (14, .int .i64 e)] I1 [Blk b6 27 [.slice B s.length c'], Blk b8 62 [.int .i64 r.num, .slice r.va r.v.length r.vc, .slice r.val.1 r.val.2.2.length r.val.2.1], F]
      (Code.wp Tryz.prog (cr (cr (cr (cr (cr (cr (cr (cr (bodyOf Tryz.f9))))))))) (fnPost Tryz.prog Tryz.f9 I0 F w0 (fun v R' => v = .bool true ∧ R' = []))) := by
  have hwl := hS.wlen
  have hfew := hS.few
  have h6 := hS.six
  obtain ⟨pw, hpw⟩ : ∃ pw, pw = 2 ^ w.length := ⟨_, rfl⟩
  have hpw64 : pw ≤ 64 := by rw [hpw]; have := Nat.pow_le_pow_right (n := 2) (by decide) (show w.length ≤ 6 by omega); simpa using this
  have hpr : pw = 2 ^ r.val.2.2.length := by rw [hpw, hwl]
  rw [← hpw] at hno
  repeat' first
    | ((with_reducible refine Nx.is_wp ?_); first | refine Nx.wo ?_ | refine Nx.zp (fun hc => ?_) (fun hc => ?_))
    | (refine Nx.zo ?_; first | refine Nx.opr rfl rfl ?_ | refine Nx.so ?_ | refine Nx.sb (fun bx => ?_) | refine Nx.sa (fun A2 c2 => ?_))
    | ((with_reducible refine Nx.is_at ?_); first | refine Nx.a ?_ | refine Nx.zd ?_ | refine Nx.zs (fun hc => ?_) (fun hc => ?_))
    | ((with_reducible refine Nx.is_mix ?_); first | refine Nx.m ?_ | refine Nx.zm ?_ | refine Nx.zt (fun hc => ?_) (fun hc => ?_))
    | refine Nx.zx ?_ | fail
  refine Nx.p_loop (σ := Nat) (fun k => [(6, .pointer (some ⟨b6, 0, none⟩)), (7, .slice As es.length ca), (8, .pointer (some ⟨b8, 0, none⟩)), (9, .slice Aw w.length cw), (10, .slice Bp p.length cp), (11, .int .i64 m), (13, .int .i64 wt), (14, .int .i64 e), (19, .int .i64 (k : Int))])
    (fun _ => [Blk b6 27 [.slice B s.length c'], Blk b8 62 [.int .i64 r.num, .slice r.va r.v.length r.vc, .slice r.val.1 r.val.2.2.length r.val.2.1], F]) (fun k => k ≤ pw) (fun k => pw - k) 0 rfl (Nat.zero_le _) ⟨rfl, rfl, rfl, rfl, rfl, rfl, rfl, rfl, rfl, trivial⟩ (by (exact Ent.auto)) ?_
  intro k hk
  have hk : k ≤ pw := hk
  by_cases hkp : k < pw
  case neg =>
    repeat' first
      | ((with_reducible refine Nx.is_wp ?_); first | refine Nx.wo ?_ | refine Nx.zp (fun hc => ?_) (fun hc => ?_))
      | (refine Nx.zo ?_; first | refine Nx.opr rfl rfl ?_ | refine Nx.bin rfl rfl (run_shlK (.inl rfl) rfl h6 hpr) rfl ?_ | refine Nx.callv rfl rfl rfl (by kernel_rfl) rfl (awakeS_spec _) ?_ | refine Nx.so ?_ | refine Nx.sb (fun bx => ?_) | refine Nx.sa (fun A2 c2 => ?_))
      | ((with_reducible refine Nx.is_at ?_); first | refine Nx.a ?_ | refine Nx.zd ?_ | refine Nx.zs (fun hc => ?_) (fun hc => ?_))
      | ((with_reducible refine Nx.is_mix ?_); first | refine Nx.m ?_ | refine Nx.zm ?_ | refine Nx.zt (fun hc => ?_) (fun hc => ?_))
      | refine Nx.zx ?_ | fail
    exact Nx.imm_le hle (Nx.ret_fn rfl [] ⟨rfl, rfl⟩ (by (exact Ent.auto)))
  have hSet := Set_spec k r.val.2.2.length (by omega) h6 I1
  repeat' first
    | ((with_reducible refine Nx.is_wp ?_); first | refine Nx.p_stopr 18 rfl ?_ | refine Nx.wo ?_ | refine Nx.zp (fun hc => ?_) (fun hc => ?_))
    | (refine Nx.zo ?_; first | refine Nx.opr rfl rfl ?_ | refine Nx.bin rfl rfl (run_shlK (.inl rfl) rfl h6 hpr) rfl ?_ | (refine Nx.call (Rpre := []) rfl rfl rfl (by kernel_rfl) rfl hSet (Ent.refl _) ?_; rintro _ _ ⟨A2, c2, rfl, rfl⟩) | refine Nx.so ?_ | refine Nx.sb (fun bx => ?_) | refine Nx.sa (fun A2 c2 => ?_))
    | ((with_reducible refine Nx.is_at ?_); first | refine Nx.a ?_ | refine Nx.zd ?_ | refine Nx.zs (fun hc => ?_) (fun hc => ?_))
    | ((with_reducible refine Nx.is_mix ?_); first | refine Nx.m ?_ | refine Nx.zm ?_ | refine Nx.zt (fun hc => ?_) (fun hc => ?_))
    | refine Nx.zx ?_ | fail
  refine Nx.unstop ?_
  refine Nx.freezeAt 0 rfl fun I2 m2 hI2 hm2 h2 => ?_
  have hB2 : Ints I2 A2 c2 (bitsL k r.val.2.2.length) := Vec.sliceOf hm2 h2
  have hG2 := hG.mono hI2
  have hWt := Weight_spec Aw A2 cw c2 w (bitsL k r.val.2.2.length) I2 hG2.w hB2 hS.wok (fun x hx => by have := bitsL_in x hx; omega) (by have := bitsL_len k r.val.2.2.length; omega)
  have hHd := HideR_bits (s := k) (n := r.val.2.2.length) rfl A2 c2 hG2.d hB2 (by omega)
  have hpn := hno k hkp
  rw [hwl, pbF_bits rfl] at hpn
  rcases he with rfl | rfl
  · by_cases hge : wt ≤ wSum w (bitsL k r.val.2.2.length)
    · repeat' first
        | ((with_reducible refine Nx.is_wp ?_); first | refine Nx.wo ?_ | refine Nx.zp (fun hc => ?_) (fun hc => ?_))
        | (refine Nx.zo ?_; first | refine Nx.opr rfl rfl ?_ | refine Nx.callv rfl rfl rfl (by kernel_rfl) rfl hWt ?_ | refine Nx.so ?_ | refine Nx.sb (fun bx => ?_) | refine Nx.sa (fun A2 c2 => ?_))
        | ((with_reducible refine Nx.is_at ?_); first | refine Nx.a ?_ | refine Nx.zd ?_ | refine Nx.zs (fun hc => ?_) (fun hc => ?_))
        | ((with_reducible refine Nx.is_mix ?_); first | refine Nx.m ?_ | refine Nx.zm ?_ | refine Nx.zt (fun hc => ?_) (fun hc => ?_))
        | refine Nx.zx ?_ | fail
      exact Nx.imm_le hI2 (Nx.again (k + 1) hkp (by omega) ⟨rfl, rfl, rfl, rfl, rfl, rfl, rfl, rfl, rfl, trivial⟩ (by (exact Ent.auto)))
    repeat' first
      | ((with_reducible refine Nx.is_wp ?_); first | refine Nx.p_stopr 20 rfl ?_ | refine Nx.wo ?_ | refine Nx.zp (fun hc => ?_) (fun hc => ?_))
      | (refine Nx.zo ?_; first | refine Nx.opr rfl rfl ?_ | refine Nx.callv rfl rfl rfl (by kernel_rfl) rfl hWt ?_ | (refine Nx.call (Rpre := []) rfl rfl rfl (by kernel_rfl) rfl hHd (Ent.refl _) ?_; rintro _ _ ⟨D2, cd2, rfl, rfl⟩) | refine Nx.so ?_ | refine Nx.sb (fun bx => ?_) | refine Nx.sa (fun A2 c2 => ?_))
      | ((with_reducible refine Nx.is_at ?_); first | refine Nx.a ?_ | refine Nx.zd ?_ | refine Nx.zs (fun hc => ?_) (fun hc => ?_))
      | ((with_reducible refine Nx.is_mix ?_); first | refine Nx.m ?_ | refine Nx.zm ?_ | refine Nx.zt (fun hc => ?_) (fun hc => ?_))
      | refine Nx.zx ?_ | fail
    have hpn := hpn fun _ => by omega
    refine Nx.unstop ?_
    revert bx; intro b21
    refine Nx.weak (e' := [(6, .pointer (some ⟨b6, 0, none⟩)), (7, .slice As es.length ca), (21, .pointer (some ⟨b21, 0, none⟩)), (10, .slice Bp p.length cp), (11, .int .i64 m), (8, .pointer (some ⟨b8, 0, none⟩)), (9, .slice Aw w.length cw), (13, .int .i64 wt), (14, .int .i64 0), (19, .int .i64 (k : Int))]) (R' := [Vec 3 1 D2 r.val.2.2.length cd2 ((hidL r.val.2.2 (bitsL k r.val.2.2.length)).map (Value.int .i64)), Blk b6 27 [.slice B s.length c'], Blk b21 62 [.int .i64 r.num, .slice r.va r.v.length r.vc, .slice D2 r.val.2.2.length cd2], Blk b8 62 [.int .i64 r.num, .slice r.va r.v.length r.vc, .slice r.val.1 r.val.2.2.length r.val.2.1], F]) ⟨rfl, rfl, rfl, rfl, rfl, rfl, rfl, rfl, rfl, rfl, trivial⟩ (by unfold iR; rw [hidL_len]; (exact Ent.auto)) ?_
    refine Nx.freezeAt 0 rfl fun I3 m3 hI3 hm3 h3 => ?_
    have hd2 : Ints I3 D2 cd2 (hidL r.val.2.2 (bitsL k r.val.2.2.length)) := Vec.sliceOf hm3 (by rw [hidL_len]; exact h3)
    have hG3 := hG2.mono hI3
    have hsp := safe_hid hG3 hS m r.val.2.2.length k D2 cd2 hd2
    generalize safeB s (es ++ [hidR r (bitsL k r.val.2.2.length)]) p m = ok at hsp hpn
    generalize (findD s (es ++ [hidR r (bitsL k r.val.2.2.length)]) p m).2 = se at hsp hpn
    refine Nx.p_seq rfl ?_
    refine Nx.weak ?_ ?_ (least20 B As Bp r.va D2 c' ca cp s.length p.length b6 b21 r.v.length r.vc r.val.2.2.length cd2 r.num es m (.pointer (some ⟨b8, 0, none⟩)) (.slice Aw w.length cw) (.int .i64 wt) (.int .i64 0) (.int .i64 (k : Int)) ok se I3 hG3.es.outer (by omega) w0 (Blk b8 62 [.int .i64 r.num, .slice r.va r.v.length r.vc, .slice r.val.1 r.val.2.2.length r.val.2.1]) F _ (by repeat first | exact PanicOk.fn | refine PanicOk.then_ ?_ | refine PanicOk.inB ?_) hsp ?_)
    · exact ⟨rfl, rfl, rfl, rfl, rfl, rfl, rfl, rfl, rfl, rfl, trivial⟩
    · (exact Ent.auto)
    cases ok with
    | false =>
      repeat' first
        | ((with_reducible refine Nx.is_wp ?_); first | refine Nx.wo ?_ | refine Nx.zp (fun hc => ?_) (fun hc => ?_))
        | (refine Nx.zo ?_; first | refine Nx.opr rfl rfl ?_ | refine Nx.so ?_ | refine Nx.sb (fun bx => ?_) | refine Nx.sa (fun A2 c2 => ?_))
        | ((with_reducible refine Nx.is_at ?_); first | refine Nx.a ?_ | refine Nx.zd ?_ | refine Nx.zs (fun hc => ?_) (fun hc => ?_))
        | ((with_reducible refine Nx.is_mix ?_); first | refine Nx.m ?_ | refine Nx.zm ?_ | refine Nx.zt (fun hc => ?_) (fun hc => ?_))
        | refine Nx.zx ?_ | fail
      exact Nx.imm_le (hI2.trans hI3) (Nx.again (k + 1) hkp (by omega) ⟨rfl, rfl, rfl, rfl, rfl, rfl, rfl, rfl, rfl, trivial⟩ (by (exact Ent.auto)))
    | true =>
      have hse : ¬ se = 0 := fun h => by rw [h] at hpn; exact absurd hpn (by decide)
      repeat' first
        | ((with_reducible refine Nx.is_wp ?_); first | refine Nx.wo ?_ | refine Nx.zp (fun hc => ?_) (fun hc => ?_))
        | (refine Nx.zo ?_; first | refine Nx.opr rfl rfl ?_ | refine Nx.so ?_ | refine Nx.sb (fun bx => ?_) | refine Nx.sa (fun A2 c2 => ?_))
        | ((with_reducible refine Nx.is_at ?_); first | refine Nx.a ?_ | refine Nx.zd ?_ | refine Nx.zs (fun hc => ?_) (fun hc => ?_))
        | ((with_reducible refine Nx.is_mix ?_); first | refine Nx.m ?_ | refine Nx.zm ?_ | refine Nx.zt (fun hc => ?_) (fun hc => ?_))
        | refine Nx.zx ?_ | fail
      exact Nx.imm_le (hI2.trans hI3) (Nx.again (k + 1) hkp (by omega) ⟨rfl, rfl, rfl, rfl, rfl, rfl, rfl, rfl, rfl, trivial⟩ (by (exact Ent.auto)))
  · repeat' first
      | ((with_reducible refine Nx.is_wp ?_); first | refine Nx.p_stopr 20 rfl ?_ | refine Nx.wo ?_ | refine Nx.zp (fun hc => ?_) (fun hc => ?_))
      | (refine Nx.zo ?_; first | refine Nx.opr rfl rfl ?_ | (refine Nx.call (Rpre := []) rfl rfl rfl (by kernel_rfl) rfl hHd (Ent.refl _) ?_; rintro _ _ ⟨D2, cd2, rfl, rfl⟩) | refine Nx.so ?_ | refine Nx.sb (fun bx => ?_) | refine Nx.sa (fun A2 c2 => ?_))
      | ((with_reducible refine Nx.is_at ?_); first | refine Nx.a ?_ | refine Nx.zd ?_ | refine Nx.zs (fun hc => ?_) (fun hc => ?_))
      | ((with_reducible refine Nx.is_mix ?_); first | refine Nx.m ?_ | refine Nx.zm ?_ | refine Nx.zt (fun hc => ?_) (fun hc => ?_))
      | refine Nx.zx ?_ | fail
    have hpn := hpn fun h => absurd h (by decide)
    refine Nx.unstop ?_
    revert bx; intro b21
    refine Nx.weak (e' := [(6, .pointer (some ⟨b6, 0, none⟩)), (7, .slice As es.length ca), (21, .pointer (some ⟨b21, 0, none⟩)), (10, .slice Bp p.length cp), (11, .int .i64 m), (8, .pointer (some ⟨b8, 0, none⟩)), (9, .slice Aw w.length cw), (13, .int .i64 wt), (14, .int .i64 51), (19, .int .i64 (k : Int))]) (R' := [Vec 3 1 D2 r.val.2.2.length cd2 ((hidL r.val.2.2 (bitsL k r.val.2.2.length)).map (Value.int .i64)), Blk b6 27 [.slice B s.length c'], Blk b21 62 [.int .i64 r.num, .slice r.va r.v.length r.vc, .slice D2 r.val.2.2.length cd2], Blk b8 62 [.int .i64 r.num, .slice r.va r.v.length r.vc, .slice r.val.1 r.val.2.2.length r.val.2.1], F]) ⟨rfl, rfl, rfl, rfl, rfl, rfl, rfl, rfl, rfl, rfl, trivial⟩ (by unfold iR; rw [hidL_len]; (exact Ent.auto)) ?_
    refine Nx.freezeAt 0 rfl fun I3 m3 hI3 hm3 h3 => ?_
    have hd2 : Ints I3 D2 cd2 (hidL r.val.2.2 (bitsL k r.val.2.2.length)) := Vec.sliceOf hm3 (by rw [hidL_len]; exact h3)
    have hG3 := hG2.mono hI3
    have hsp := safe_hid hG3 hS m r.val.2.2.length k D2 cd2 hd2
    generalize safeB s (es ++ [hidR r (bitsL k r.val.2.2.length)]) p m = ok at hsp hpn
    generalize (findD s (es ++ [hidR r (bitsL k r.val.2.2.length)]) p m).2 = se at hsp hpn
    refine Nx.p_seq rfl ?_
    refine Nx.weak ?_ ?_ (least20 B As Bp r.va D2 c' ca cp s.length p.length b6 b21 r.v.length r.vc r.val.2.2.length cd2 r.num es m (.pointer (some ⟨b8, 0, none⟩)) (.slice Aw w.length cw) (.int .i64 wt) (.int .i64 51) (.int .i64 (k : Int)) ok se I3 hG3.es.outer (by omega) w0 (Blk b8 62 [.int .i64 r.num, .slice r.va r.v.length r.vc, .slice r.val.1 r.val.2.2.length r.val.2.1]) F _ (by repeat first | exact PanicOk.fn | refine PanicOk.then_ ?_ | refine PanicOk.inB ?_) hsp ?_)
    · exact ⟨rfl, rfl, rfl, rfl, rfl, rfl, rfl, rfl, rfl, rfl, trivial⟩
    · (exact Ent.auto)
    cases ok with
    | false =>
      repeat' first
        | ((with_reducible refine Nx.is_wp ?_); first | refine Nx.wo ?_ | refine Nx.zp (fun hc => ?_) (fun hc => ?_))
        | (refine Nx.zo ?_; first | refine Nx.opr rfl rfl ?_ | refine Nx.so ?_ | refine Nx.sb (fun bx => ?_) | refine Nx.sa (fun A2 c2 => ?_))
        | ((with_reducible refine Nx.is_at ?_); first | refine Nx.a ?_ | refine Nx.zd ?_ | refine Nx.zs (fun hc => ?_) (fun hc => ?_))
        | ((with_reducible refine Nx.is_mix ?_); first | refine Nx.m ?_ | refine Nx.zm ?_ | refine Nx.zt (fun hc => ?_) (fun hc => ?_))
        | refine Nx.zx ?_ | fail
      exact Nx.imm_le (hI2.trans hI3) (Nx.again (k + 1) hkp (by omega) ⟨rfl, rfl, rfl, rfl, rfl, rfl, rfl, rfl, rfl, trivial⟩ (by (exact Ent.auto)))
    | true =>
      have hse : ¬ se = 0 := fun h => by rw [h] at hpn; exact absurd hpn (by decide)
      repeat' first
        | ((with_reducible refine Nx.is_wp ?_); first | refine Nx.wo ?_ | refine Nx.zp (fun hc => ?_) (fun hc => ?_))
        | (refine Nx.zo ?_; first | refine Nx.opr rfl rfl ?_ | refine Nx.so ?_ | refine Nx.sb (fun bx => ?_) | refine Nx.sa (fun A2 c2 => ?_))
        | ((with_reducible refine Nx.is_at ?_); first | refine Nx.a ?_ | refine Nx.zd ?_ | refine Nx.zs (fun hc => ?_) (fun hc => ?_))
        | ((with_reducible refine Nx.is_mix ?_); first | refine Nx.m ?_ | refine Nx.zm ?_ | refine Nx.zt (fun hc => ?_) (fun hc => ?_))
        | refine Nx.zx ?_ | fail
      exact Nx.imm_le (hI2.trans hI3) (Nx.again (k + 1) hkp (by omega) ⟨rfl, rfl, rfl, rfl, rfl, rfl, rfl, rfl, rfl, trivial⟩ (by (exact Ent.auto)))
set_option maxRecDepth 10000 in
set_option maxHeartbeats 16000000 in
theorem SuppressLeast_spec (A : Option Addr) (c : Nat) (l : List Int) (mg : Int) (I : PH) (hl : Bytes I A c l) (hx : ∀ x ∈ l, 0 ≤ x ∧ x < 256) (hmg : 0 ≤ mg ∧ mg < 256) :
    FnSpec Tryz.prog 9 [.slice A l.length c, .int .u8 mg] I [] (fun v R' => v = .bool true ∧ R' = []) := by
  have hL := bytes_take hl hx
  have hSt := fun b => Story_made b A c _ 0 I hL (Nat.zero_le _)
  unfold StoryPost at hSt
  obtain ⟨m, hmd, hm⟩ : ∃ m, m = 1 + mg % 2 ∧ 1 ≤ m ∧ m ≤ 100 := ⟨_, rfl, by omega, by omega⟩
  refine FnSpec.enterP Tryz.func9 rfl Tryz.ntmps9 rfl fun w0 F => ?_
  repeat' first
    | ((with_reducible refine Nx.is_wp ?_); first | refine Nx.p_stopr 4 rfl ?_ | refine Nx.wo ?_ | refine Nx.zp (fun hc => ?_) (fun hc => ?_))
    | (refine Nx.zo ?_; first | refine Nx.opr rfl rfl ?_ | (refine Nx.call (Rpre := []) rfl rfl rfl (by kernel_rfl) rfl (New_codes A c l I hl) (Ent.refl _) ?_; rintro _ _ ⟨b, rfl, rfl⟩) | (refine Nx.call rfl rfl rfl (by kernel_rfl) rfl (hSt b) (by (exact Ent.auto)) ?_; rintro _ _ ⟨B, c', s, At, ct, t, As, ca, es, r, Aw, cw, w, Bp, cp, p, k1, rfl, hS, hk1, rfl⟩) | refine Nx.rem rfl rfl (by omega) (by omega) rfl ?_ | refine Nx.so ?_ | refine Nx.sb (fun bx => ?_) | refine Nx.sa (fun A2 c2 => ?_))
    | ((with_reducible refine Nx.is_at ?_); first | refine Nx.a ?_ | refine Nx.zd ?_ | refine Nx.zs (fun hc => ?_) (fun hc => ?_))
    | ((with_reducible refine Nx.is_mix ?_); first | refine Nx.m ?_ | refine Nx.zm ?_ | refine Nx.zt (fun hc => ?_) (fun hc => ?_))
    | refine Nx.zx ?_ | fail
  refine Nx.unstop ?_
  rw [← hmd]
  rename_i b6
  revert bx; intro b8
  refine Nx.giveStory (B := B) (c' := c') (s := s) (At := At) (ct := ct) (t := t) (As := As) (ca := ca) (es := es) (r := r) (Aw := Aw) (cw := cw) (w := w) (Bp := Bp) (cp := cp) (p := p) (RR := [Blk b6 27 [.slice B s.length c'], Blk b8 62 [.int .i64 r.num, .slice r.va r.v.length r.vc, .slice r.val.1 r.val.2.2.length r.val.2.1], F]) (by refine Ent.trans ?_ Ent.stars; (exact Ent.auto)) fun I1 hI1 hG => ?_
  have hfew := hS.few
  have h6 := hS.six
  have hwl := hS.wlen
  have hL1 := LeastQ hG hS Bp cp p m hG.p (by have := hS.plen; omega)
  repeat' first
    | ((with_reducible refine Nx.is_wp ?_); first | refine Nx.p_stopr 5 rfl ?_ | refine Nx.wo ?_ | refine Nx.zp (fun hc => ?_) (fun hc => ?_))
    | (refine Nx.zo ?_; first | refine Nx.opr rfl rfl ?_ | (refine Nx.call (Rpre := []) rfl rfl rfl (by kernel_rfl) rfl hL1 (Ent.refl _) ?_; rintro _ _ ⟨⟨x1, wt, g⟩, A5, c5, hQ1, rfl, rfl⟩) | refine Nx.so ?_ | refine Nx.sb (fun bx => ?_) | refine Nx.sa (fun A2 c2 => ?_))
    | ((with_reducible refine Nx.is_at ?_); first | refine Nx.a ?_ | refine Nx.zd ?_ | refine Nx.zs (fun hc => ?_) (fun hc => ?_))
    | ((with_reducible refine Nx.is_mix ?_); first | refine Nx.m ?_ | refine Nx.zm ?_ | refine Nx.zt (fun hc => ?_) (fun hc => ?_))
    | refine Nx.zx ?_ | fail
  refine Nx.unstop ?_
  obtain ⟨hg, h0, hno⟩ := least_law hS hm hQ1
  dsimp only at hg h0 hno ⊢
  clear hQ1 hL1 hSt
  refine Nx.weak (e' := [(6, .pointer (some ⟨b6, 0, none⟩)), (7, .slice As es.length ca), (8, .pointer (some ⟨b8, 0, none⟩)), (9, .slice Aw w.length cw), (10, .slice Bp p.length cp), (11, .int .i64 m), (12, .slice A5 x1.length c5), (13, .int .i64 wt), (14, .int .i64 g)]) (R' := [iR A5 c5 x1, Blk b6 27 [.slice B s.length c'], Blk b8 62 [.int .i64 r.num, .slice r.va r.v.length r.vc, .slice r.val.1 r.val.2.2.length r.val.2.1], F]) ⟨rfl, rfl, rfl, rfl, rfl, rfl, rfl, rfl, rfl, trivial⟩ (by (exact Ent.auto)) ?_
  refine Nx.freezeAt 0 rfl fun I2 m2 hI2 hm2 h2 => ?_
  have hG2 := hG.mono hI2
  have hA5 : Ints I2 A5 c5 x1 := Vec.sliceOf hm2 h2
  rcases hg with rfl | rfl | rfl
  · obtain ⟨k, hkw, rfl, hpb, hwt⟩ := h0 rfl
    rw [hwl] at hpb hwt hA5
    rw [pbF_bits rfl] at hpb
    have hHd := HideR_bits (s := k) (n := r.val.2.2.length) rfl A5 c5 hG2.d hA5 (by omega)
    rw [hwl]
    repeat' first
      | ((with_reducible refine Nx.is_wp ?_); first | refine Nx.p_stopr 11 rfl ?_ | refine Nx.wo ?_ | refine Nx.zp (fun hc => ?_) (fun hc => ?_))
      | (refine Nx.zo ?_; first | refine Nx.opr rfl rfl ?_ | (refine Nx.call (Rpre := []) rfl rfl rfl (by kernel_rfl) rfl hHd (Ent.refl _) ?_; rintro _ _ ⟨D2, cd2, rfl, rfl⟩) | refine Nx.so ?_ | refine Nx.sb (fun bx => ?_) | refine Nx.sa (fun A2 c2 => ?_))
      | ((with_reducible refine Nx.is_at ?_); first | refine Nx.a ?_ | refine Nx.zd ?_ | refine Nx.zs (fun hc => ?_) (fun hc => ?_))
      | ((with_reducible refine Nx.is_mix ?_); first | refine Nx.m ?_ | refine Nx.zm ?_ | refine Nx.zt (fun hc => ?_) (fun hc => ?_))
      | refine Nx.zx ?_ | fail
    refine Nx.unstop ?_
    revert bx; intro b15
    refine Nx.weak (e' := [(6, .pointer (some ⟨b6, 0, none⟩)), (7, .slice As es.length ca), (15, .pointer (some ⟨b15, 0, none⟩)), (10, .slice Bp p.length cp), (11, .int .i64 m), (8, .pointer (some ⟨b8, 0, none⟩)), (9, .slice Aw r.val.2.2.length cw), (12, .slice A5 (bitsL k r.val.2.2.length).length c5), (13, .int .i64 wt), (14, .int .i64 0)]) (R' := [Vec 3 1 D2 r.val.2.2.length cd2 ((hidL r.val.2.2 (bitsL k r.val.2.2.length)).map (Value.int .i64)), Blk b6 27 [.slice B s.length c'], Blk b15 62 [.int .i64 r.num, .slice r.va r.v.length r.vc, .slice D2 r.val.2.2.length cd2], Blk b8 62 [.int .i64 r.num, .slice r.va r.v.length r.vc, .slice r.val.1 r.val.2.2.length r.val.2.1], F]) ⟨rfl, rfl, rfl, rfl, rfl, rfl, rfl, rfl, rfl, rfl, trivial⟩ (by unfold iR; rw [hidL_len]; (exact Ent.auto)) ?_
    refine Nx.freezeAt 0 rfl fun I3 m3 hI3 hm3 h3 => ?_
    have hd2 : Ints I3 D2 cd2 (hidL r.val.2.2 (bitsL k r.val.2.2.length)) := Vec.sliceOf hm3 (by rw [hidL_len]; exact h3)
    have hG3 := hG2.mono hI3
    have hsp := safe_hid hG3 hS m r.val.2.2.length k D2 cd2 hd2
    have hWt := Weight_spec Aw A5 cw c5 w (bitsL k r.val.2.2.length) I3 hG3.w (hA5.mono hI3) hS.wok (fun x hx => by have := bitsL_in x hx; omega) (by have := bitsL_len k r.val.2.2.length; omega)
    rw [← hwt, hwl] at hWt
    obtain ⟨q1, q2⟩ := Bool.and_eq_true_iff.1 hpb
    rw [q1, of_decide_eq_true q2] at hsp
    refine Nx.p_seq rfl ?_
    refine Nx.weak ?_ ?_ (least11 B As Bp r.va D2 c' ca cp s.length p.length b6 b15 r.v.length r.vc r.val.2.2.length cd2 r.num es m (.pointer (some ⟨b8, 0, none⟩)) (.slice Aw r.val.2.2.length cw) (.slice A5 (bitsL k r.val.2.2.length).length c5) (.int .i64 wt) (.int .i64 0) true 0 I3 hG3.es.outer (by omega) w0 (Blk b8 62 [.int .i64 r.num, .slice r.va r.v.length r.vc, .slice r.val.1 r.val.2.2.length r.val.2.1]) F _ (by repeat first | exact PanicOk.fn | refine PanicOk.then_ ?_ | refine PanicOk.inB ?_) hsp ?_)
    · exact ⟨rfl, rfl, rfl, rfl, rfl, rfl, rfl, rfl, rfl, rfl, trivial⟩
    · (exact Ent.auto)
    repeat' first
      | ((with_reducible refine Nx.is_wp ?_); first | refine Nx.p_stops 14 rfl ?_ | refine Nx.wo ?_ | refine Nx.zp (fun hc => ?_) (fun hc => ?_))
      | (refine Nx.zo ?_; first | refine Nx.opr rfl rfl ?_ | refine Nx.callv rfl rfl rfl (by kernel_rfl) rfl hWt ?_ | refine Nx.so ?_ | refine Nx.sb (fun bx => ?_) | refine Nx.sa (fun A2 c2 => ?_))
      | ((with_reducible refine Nx.is_at ?_); first | refine Nx.a ?_ | refine Nx.zd ?_ | refine Nx.zs (fun hc => ?_) (fun hc => ?_))
      | ((with_reducible refine Nx.is_mix ?_); first | refine Nx.m ?_ | refine Nx.zm ?_ | refine Nx.zt (fun hc => ?_) (fun hc => ?_))
      | refine Nx.zx ?_ | fail
    refine Nx.unstop ?_
    refine Nx.weak ?_ ?_ (least_loop w0 F b6 b8 B As Aw Bp c' ca cw cp s t es r w p m wt 0 I I3 ((hI1.trans hI2).trans hI3) hG3 hS (.inl rfl) (hno (.inl rfl)))
    · rw [hwl]; exact ⟨rfl, rfl, rfl, rfl, rfl, rfl, rfl, rfl, trivial⟩
    · (exact Ent.auto)
  · repeat' first
      | ((with_reducible refine Nx.is_wp ?_); first | refine Nx.wo ?_ | refine Nx.zp (fun hc => ?_) (fun hc => ?_))
      | (refine Nx.zo ?_; first | refine Nx.opr rfl rfl ?_ | refine Nx.callv rfl rfl rfl (by kernel_rfl) rfl (awakeS_spec _) ?_ | refine Nx.so ?_ | refine Nx.sb (fun bx => ?_) | refine Nx.sa (fun A2 c2 => ?_))
      | ((with_reducible refine Nx.is_at ?_); first | refine Nx.a ?_ | refine Nx.zd ?_ | refine Nx.zs (fun hc => ?_) (fun hc => ?_))
      | ((with_reducible refine Nx.is_mix ?_); first | refine Nx.m ?_ | refine Nx.zm ?_ | refine Nx.zt (fun hc => ?_) (fun hc => ?_))
      | refine Nx.zx ?_ | fail
    exact Nx.imm_le (hI1.trans hI2) (Nx.ret_fn rfl [] ⟨rfl, rfl⟩ (by (exact Ent.auto)))
  · repeat' first
      | ((with_reducible refine Nx.is_wp ?_); first | refine Nx.p_stops 14 rfl ?_ | refine Nx.wo ?_ | refine Nx.zp (fun hc => ?_) (fun hc => ?_))
      | (refine Nx.zo ?_; first | refine Nx.opr rfl rfl ?_ | refine Nx.so ?_ | refine Nx.sb (fun bx => ?_) | refine Nx.sa (fun A2 c2 => ?_))
      | ((with_reducible refine Nx.is_at ?_); first | refine Nx.a ?_ | refine Nx.zd ?_ | refine Nx.zs (fun hc => ?_) (fun hc => ?_))
      | ((with_reducible refine Nx.is_mix ?_); first | refine Nx.m ?_ | refine Nx.zm ?_ | refine Nx.zt (fun hc => ?_) (fun hc => ?_))
      | refine Nx.zx ?_ | fail
    refine Nx.unstop ?_
    refine Nx.weak ?_ ?_ (least_loop w0 F b6 b8 B As Aw Bp c' ca cw cp s t es r w p m wt 51 I I2 (hI1.trans hI2) hG2 hS (.inr rfl) (hno (.inr rfl)))
    · exact ⟨rfl, rfl, rfl, rfl, rfl, rfl, rfl, rfl, trivial⟩
    · (exact Ent.auto)
end Go.Proofs.YtcmdemfhbekabaaGreat
