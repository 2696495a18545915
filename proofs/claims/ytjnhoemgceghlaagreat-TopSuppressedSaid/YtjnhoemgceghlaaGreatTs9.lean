/- Contracts of functions of the given program, and lemmas about plain lists and numbers: what the laws of this seat lean on. -/
import Derived.Maps.RangeRun
import Derived.Test.YtjnhoemgceghlaaGreatTs8
namespace Go.Proofs.YtjnhoemgceghlaaGreat
open Go.Eng Go.Sol
attribute [local irreducible] opK wpList Code.wp Exit.then Exit.inBlock fnPost bodyPost Nx Calls Oper.wp Rd Rds Wr Ent Stars Blk Again Vec FnSpec wpMix QRun Stop Upto wpAt
/-! Hiding: the program -/
theorem relR_nil (R : List Res) : Ent R (relR default :: R) :=
  (Ent.vec_nil 3 1 R).trans ((Ent.stars_nil _).trans ((Ent.vec_nil 25 1 _).trans ((Ent.stars (B := [Vec 25 1 none 0 0 [], Stars []])).trans (Ent.stars (B := [ViewR none 0 [], rowR (none, 0, [])])))))
def HidePost (r : Rel) (L : List Int) (u : Value) (R' : List Res) : Prop :=
  ∃ r' : Rel, u = .tuple #[.agg (relC r').toArray, .int .i64 (hideE r.val.2.2 L)] ∧ (hideE r.val.2.2 L = 0 → r'.num = r.num ∧ vStrip r'.v = vStrip r.v ∧ r'.val.2.2 = hidL r.val.2.2 L) ∧ (hideE r.val.2.2 L ≠ 0 → r' = default) ∧ R' = [relR r']
theorem not_pw {L : List Int} {i : Nat} (hi : i + 1 < L.length) (h : ¬ L.getD i default < L.getD (i + 1) default) : ¬ L.Pairwise (· < ·) := fun hp => h (adj_of hp hi)
set_option maxRecDepth 10000 in
set_option maxHeartbeats 16000000 in
theorem HideP_spec (B : Option Addr) (cb : Nat) (L : List Int) (r : Rel) (I : PH) (hv : RowsOf I r.va r.vc r.v) (hd : Ints I r.val.1 r.val.2.1 r.val.2.2) (hB : Ints I B cb L) (hv9 : r.v.length ≤ 1000) (hrow : ∀ x ∈ r.v, x.2.2.length ≤ 1000) (hd9 : r.val.2.2.length ≤ 1000) :
    FnSpec Tryz.prog 17 [.agg #[.int .i64 r.num, .slice r.va r.v.length r.vc, rowV r.val], .slice B L.length cb] I [] (HidePost r L) := by
  obtain ⟨num, va, vc, v, D, cd, vs⟩ := r
  unfold HidePost
  dsimp only at hv hd hv9 hrow hd9 ⊢
  have hBl := hB.len
  have hvl := hv.outer.len
  refine FnSpec.enterP Tryz.func17 rfl Tryz.ntmps17 rfl fun w F => ?_
  repeat' first
    | ((with_reducible refine Nx.is_wp ?_); first | refine Nx.wo ?_ | refine Nx.zp (fun hc => ?_) (fun hc => ?_))
    | (refine Nx.zo ?_; first | refine Nx.opr rfl rfl ?_ | refine Nx.so ?_ | refine Nx.sb (fun bx => ?_) | refine Nx.sa (fun A2 c2 => ?_))
    | ((with_reducible refine Nx.is_at ?_); first | refine Nx.a ?_ | refine Nx.zd ?_ | refine Nx.zs (fun hc => ?_) (fun hc => ?_))
    | ((with_reducible refine Nx.is_mix ?_); first | refine Nx.m ?_ | refine Nx.zm ?_ | refine Nx.zt (fun hc => ?_) (fun hc => ?_))
    | refine Nx.zx ?_ | fail
  rename_i b2
  revert bx; intro b4
  refine Nx.p_loop (σ := Nat) (fun i => [(1, .slice B L.length cb), (2, .pointer (some ⟨b2, 0, none⟩)), (4, .pointer (some ⟨b4, 0, none⟩)), (5, .int .i64 0), (6, .int .i64 ((i + 1 : Nat) : Int))])
    (fun _ => [Blk b4 43 [.int .i64 0, .slice none 0 0, .slice none 0 0], Blk b2 43 [.int .i64 num, .slice va v.length vc, .slice D vs.length cd], F]) (fun i => i ≤ L.length ∧ ∀ j, j < i → j + 1 < L.length → L.getD j default < L.getD (j + 1) default) (fun i => L.length - i) 0 rfl ⟨Nat.zero_le _, fun j hj => absurd hj (Nat.not_lt_zero _)⟩ ⟨rfl, rfl, rfl, rfl, rfl, trivial⟩ (by (exact Ent.auto)) ?_
  rintro i ⟨hi, hall⟩
  by_cases hlt : i + 1 < L.length
  · have hnp := not_pw hlt
    have r1 := fun (W : World) (R : List Res) => hB.rd (W := W) (R := R) (k := i) (by omega)
    have r2 := fun (W : World) (R : List Res) => hB.rd (W := W) (R := R) hlt
    have hnx : ∀ j, j < i + 1 → L.getD i default < L.getD (i + 1) default → j + 1 < L.length → L.getD j default < L.getD (j + 1) default := fun j hj hx h => by
      rcases Nat.lt_or_ge j i with h' | h'
      · exact hall j h' h
      · rw [show j = i by omega]; exact hx
    generalize L.getD i default = x at hnp r1 hnx
    generalize L.getD (i + 1) default = y at hnp r2 hnx
    have hi1 : (((i + 1 : Nat) : Int) - 1).toNat = i := by omega
    have r1' : ∀ (W : World) (R : List Res), Rd W I R ((ad B).add ((((i + 1 : Nat) : Int) - 1).toNat * 1)) (.int .i64 x) := fun W R => by rw [hi1]; exact r1 W R
    by_cases hxy : x < y
    · repeat' first
        | ((with_reducible refine Nx.is_wp ?_); first | refine Nx.wo ?_ | refine Nx.p_draw (id := 4) rfl [0, 1, 2, 3, 4, 5, 6, 7, 8, 9] [] _ rfl rfl (by kernel_rfl) (by kernel_rfl) rfl (by repeat first | exact PanicOk.fn | refine PanicOk.then_ ?_ | refine PanicOk.inB ?_) (Ent.refl _) ?_ | refine Nx.p_draw (id := 10) rfl [0, 1, 2, 3, 4, 5, 6, 7, 8, 9] [4, 5, 6, 9] _ rfl rfl (by kernel_rfl) (by kernel_rfl) rfl (by repeat first | exact PanicOk.fn | refine PanicOk.then_ ?_ | refine PanicOk.inB ?_) (Ent.refl _) ?_ | refine Nx.zp (fun hc => ?_) (fun hc => ?_))
        | (refine Nx.zo ?_; first | refine Nx.opr rfl rfl ?_ | refine Nx.so ?_ | refine Nx.sb (fun bx => ?_) | refine Nx.sa (fun A2 c2 => ?_))
        | ((with_reducible refine Nx.is_at ?_); first | refine Nx.a ?_ | refine Nx.zd ?_ | refine Nx.zs (fun hc => ?_) (fun hc => ?_))
        | ((with_reducible refine Nx.is_mix ?_); first | refine Nx.m_quiet rfl rfl rfl rfl rfl (by first | exact QRun.opr rfl | exact QRun.idxi (A := B) (i := ((i + 1 : Nat) : Int) - 1) (sz := 1) rfl rfl rfl rfl (by omega) (by omega) (hB.isSome (by omega)) | exact QRun.idx (A := B) (i := i + 1) (sz := 1) rfl rfl rfl rfl (by omega) (hB.isSome (by omega)) | exact QRun.load rfl rfl (r1' _ _) | exact QRun.load rfl rfl (r2 _ _)) ?_ | refine Nx.m_quiet_do rfl rfl rfl rfl rfl rfl rfl (by first | exact QRun.opr rfl | exact QRun.idxi (A := B) (i := ((i + 1 : Nat) : Int) - 1) (sz := 1) rfl rfl rfl rfl (by omega) (by omega) (hB.isSome (by omega)) | exact QRun.idx (A := B) (i := i + 1) (sz := 1) rfl rfl rfl rfl (by omega) (hB.isSome (by omega)) | exact QRun.load rfl rfl (r1' _ _) | exact QRun.load rfl rfl (r2 _ _)) ?_ | refine Nx.m ?_ | refine Nx.zm ?_ | refine Nx.zt (fun hc => ?_) (fun hc => ?_))
        | refine Nx.zx ?_ | fail
      exact Nx.again (i + 1) ⟨by omega, fun j hj h => hnx j hj hxy h⟩ (by omega) ⟨rfl, rfl, rfl, rfl, rfl, trivial⟩ (by (exact Ent.auto))
    · have he : hideE vs L = 11 := if_neg (hnp hxy)
      rw [he]
      repeat' first
        | ((with_reducible refine Nx.is_wp ?_); first | refine Nx.wo ?_ | refine Nx.p_draw (id := 4) rfl [0, 1, 2, 3, 4, 5, 6, 7, 8, 9] [] _ rfl rfl (by kernel_rfl) (by kernel_rfl) rfl (by repeat first | exact PanicOk.fn | refine PanicOk.then_ ?_ | refine PanicOk.inB ?_) (Ent.refl _) ?_ | refine Nx.p_draw (id := 10) rfl [0, 1, 2, 3, 4, 5, 6, 7, 8, 9] [4, 5, 6, 9] _ rfl rfl (by kernel_rfl) (by kernel_rfl) rfl (by repeat first | exact PanicOk.fn | refine PanicOk.then_ ?_ | refine PanicOk.inB ?_) (Ent.refl _) ?_ | refine Nx.zp (fun hc => ?_) (fun hc => ?_))
        | (refine Nx.zo ?_; first | refine Nx.opr rfl rfl ?_ | refine Nx.so ?_ | refine Nx.sb (fun bx => ?_) | refine Nx.sa (fun A2 c2 => ?_))
        | ((with_reducible refine Nx.is_at ?_); first | refine Nx.a ?_ | refine Nx.zd ?_ | refine Nx.zs (fun hc => ?_) (fun hc => ?_))
        | ((with_reducible refine Nx.is_mix ?_); first | refine Nx.m_quiet rfl rfl rfl rfl rfl (by first | exact QRun.opr rfl | exact QRun.idxi (A := B) (i := ((i + 1 : Nat) : Int) - 1) (sz := 1) rfl rfl rfl rfl (by omega) (by omega) (hB.isSome (by omega)) | exact QRun.idx (A := B) (i := i + 1) (sz := 1) rfl rfl rfl rfl (by omega) (hB.isSome (by omega)) | exact QRun.load rfl rfl (r1' _ _) | exact QRun.load rfl rfl (r2 _ _)) ?_ | refine Nx.m_quiet_do rfl rfl rfl rfl rfl rfl rfl (by first | exact QRun.opr rfl | exact QRun.idxi (A := B) (i := ((i + 1 : Nat) : Int) - 1) (sz := 1) rfl rfl rfl rfl (by omega) (by omega) (hB.isSome (by omega)) | exact QRun.idx (A := B) (i := i + 1) (sz := 1) rfl rfl rfl rfl (by omega) (hB.isSome (by omega)) | exact QRun.load rfl rfl (r1' _ _) | exact QRun.load rfl rfl (r2 _ _)) ?_ | refine Nx.m ?_ | refine Nx.zm ?_ | refine Nx.zt (fun hc => ?_) (fun hc => ?_))
        | refine Nx.zx ?_ | fail
      exact Nx.ret2 rfl (ROne.cell 0 rfl rfl rfl rfl rfl) (ROne.tmp rfl) [relR default] ⟨default, rfl, fun h => absurd h (by decide), fun _ => rfl, rfl⟩ ((relR_nil _).trans (by (exact Ent.auto)))
  have hpw : L.Pairwise (· < ·) := pairwise_adj fun j hj => hall j (by omega) hj
  have hCl := CloneI_spec D cd vs I hd (by omega)
  repeat' first
    | ((with_reducible refine Nx.is_wp ?_); first | refine Nx.p_stopr 7 rfl ?_ | refine Nx.wo ?_ | refine Nx.p_drawF (id := 4) rfl [0, 1, 2, 3, 4, 5, 6, 7, 8, 9] [] [] _ rfl rfl (by kernel_rfl) (by kernel_rfl) rfl (by repeat first | exact PanicOk.fn | refine PanicOk.then_ ?_ | refine PanicOk.inB ?_) (Ent.refl _) ?_ | refine Nx.p_poolF (id := 6) rfl [0, 1, 2, 3, 4, 5] [4] [] [7] [7] [⟨6, 7, 43, _⟩] rfl rfl (by kernel_rfl) (by kernel_rfl) (by decide) (PoolFit.cons ⟨⟨_, _, _, rfl⟩, rfl, rfl⟩ PoolFit.nil) (by repeat first | exact PanicOk.fn | refine PanicOk.then_ ?_ | refine PanicOk.inB ?_) (Ent.refl _) ?_ | refine Nx.p_drawF (id := 10) rfl [0, 1, 2, 3, 4, 5] [4, 5] [6, 7, 8, 9] _ rfl rfl (by kernel_rfl) (by kernel_rfl) rfl (by repeat first | exact PanicOk.fn | refine PanicOk.then_ ?_ | refine PanicOk.inB ?_) (Ent.refl _) ?_ | refine Nx.zp (fun hc => ?_) (fun hc => ?_))
    | ((first | refine Nx.at_op rfl rfl ?_ | refine Nx.m_loud rfl rfl rfl ?_ | refine Nx.at_do rfl rfl rfl rfl ?_ | refine Nx.m_loud_do rfl rfl rfl rfl rfl ?_ | refine GoodF.loud_ rfl rfl rfl rfl (fun ex X => ?_)); first | refine Nx.opr rfl rfl ?_ | (refine Nx.call (Rpre := []) rfl rfl rfl (by kernel_rfl) rfl hCl (Ent.refl _) ?_; rintro _ _ ⟨D2, cd2, rfl, rfl⟩) | refine Nx.so ?_ | refine Nx.sb (fun bx => ?_) | refine Nx.sa (fun A2 c2 => ?_))
    | ((with_reducible refine Nx.is_at ?_); first | refine Nx.a ?_ | refine Nx.zd ?_ | refine Nx.zs (fun hc => ?_) (fun hc => ?_))
    | ((with_reducible refine Nx.is_mix ?_); first | refine Nx.m ?_ | refine Nx.zm ?_ | refine Nx.zt (fun hc => ?_) (fun hc => ?_))
    | ((with_reducible refine GoodF.is ?_); first | refine GoodF.quiet rfl rfl rfl rfl rfl rfl (by first | exact QRun.opr rfl |  exact QRun.std) ?_ | refine GoodF.done1 rfl (fun bx => ?_) | refine GoodF.done2 rfl (fun bx by_ => ?_) | refine GoodF.done3 rfl (fun bx by_ bz => ?_))
    | ((fail_if_success (with_reducible refine Nx.is_at ?_)); (fail_if_success (with_reducible refine Nx.is_wp ?_)); (fail_if_success (with_reducible refine Nx.is_mix ?_)); first | refine Nx.ex ?_ | refine Nx.pool_nextF 0 rfl (by exact Ent.auto) ?_ | refine Nx.pool_nextF 1 rfl (by exact Ent.auto) ?_ | refine Nx.pool_nextF 2 rfl (by exact Ent.auto) ?_ | refine Nx.pool_nextF 3 rfl (by exact Ent.auto) ?_)
  refine Nx.unstop ?_
  revert bx; intro b7
  refine Nx.weak (e' := [(1, .slice B L.length cb), (2, .pointer (some ⟨b2, 0, none⟩)), (4, .pointer (some ⟨b4, 0, none⟩)), (5, .int .i64 0), (7, .pointer (some ⟨b7, 0, none⟩))]) (R' := [Blk b7 43 [.int .i64 num, .slice none 0 0, .slice D2 vs.length cd2], iR D2 cd2 vs, Blk b4 43 [.int .i64 0, .slice none 0 0, .slice none 0 0], Blk b2 43 [.int .i64 num, .slice va v.length vc, .slice D vs.length cd], F]) ⟨rfl, rfl, rfl, rfl, rfl, trivial⟩ (by (exact Ent.auto)) ?_
  repeat' first
    | ((with_reducible refine Nx.is_wp ?_); first | refine Nx.wo ?_ | refine Nx.zp (fun hc => ?_) (fun hc => ?_))
    | (refine Nx.zo ?_; first | refine Nx.opr rfl rfl ?_ | refine Nx.so ?_ | refine Nx.sb (fun bx => ?_) | refine Nx.sa (fun A2 c2 => ?_))
    | ((with_reducible refine Nx.is_at ?_); first | refine Nx.a ?_ | refine Nx.zd ?_ | refine Nx.zs (fun hc => ?_) (fun hc => ?_))
    | ((with_reducible refine Nx.is_mix ?_); first | refine Nx.m ?_ | refine Nx.zm ?_ | refine Nx.zt (fun hc => ?_) (fun hc => ?_))
    | refine Nx.zx ?_ | fail
  refine Nx.p_loop (σ := Nat × Option Addr × Nat × List Row) (fun s => [(1, .slice B L.length cb), (2, .pointer (some ⟨b2, 0, none⟩)), (4, .pointer (some ⟨b4, 0, none⟩)), (5, .int .i64 0), (7, .pointer (some ⟨b7, 0, none⟩)), (37, .slice va v.length vc), (38, .int .i64 v.length), (39, .int .i64 (s.1 : Int))])
    (fun s => [Blk b7 43 [.int .i64 num, .slice s.2.1 s.2.2.2.length s.2.2.1, .slice D2 vs.length cd2], Vec 25 1 s.2.1 s.2.2.2.length s.2.2.1 (s.2.2.2.map rowV), Stars (s.2.2.2.map rowR), iR D2 cd2 vs, Blk b2 43 [.int .i64 num, .slice va v.length vc, .slice D vs.length cd], Blk b4 43 [.int .i64 0, .slice none 0 0, .slice none 0 0], F])
    (fun s => s.1 ≤ v.length ∧ s.2.2.2.length = s.1 ∧ vStrip s.2.2.2 = vStrip (v.take s.1)) (fun s => v.length - s.1) (0, none, 0, []) rfl ⟨Nat.zero_le _, rfl, rfl⟩ ⟨rfl, rfl, rfl, rfl, rfl, rfl, rfl, rfl, trivial⟩ (((Ent.vec_nil 25 1 _).trans (Ent.stars_nil _)).trans (by (exact Ent.auto))) ?_
  rintro ⟨q, A1, c1, o⟩ ⟨hq, hol, hos⟩
  dsimp only at hq hol hos ⊢
  by_cases hqv : q < v.length
  · have hrow1 := hv.at hqv
    have hg9 := hrow _ (show v.getD q default ∈ v by rw [List.getD_eq_getElem?_getD, List.getElem?_eq_getElem hqv]; exact List.getElem_mem _)
    have hrd : ∀ (W : World) (R : List Res), Rd W I R ((ad va).add (q * 1)) (rowV (v.getD q default)) := fun W R => hv.outer.rd hqv
    have htk : vStrip (v.take (q + 1)) = vStrip (v.take q) ++ [(none, 0, (v.getD q default).2.2)] := by
      unfold vStrip
      rw [List.take_succ_eq_append_getElem hqv, List.map_append, List.getD_eq_getElem?_getD, List.getElem?_eq_getElem hqv]; rfl
    generalize v.getD q default = rw1 at hrow1 hg9 hrd htk
    obtain ⟨G, cg, g⟩ := rw1
    dsimp only at hrow1 hg9 htk
    replace hrd : ∀ (W : World) (R : List Res), Rd W I R ((ad va).add (q * 1)) (.slice G g.length cg) := hrd
    have hCg := CloneI_spec G cg g I hrow1 (by omega)
    repeat' first
      | ((with_reducible refine Nx.is_wp ?_); first | refine Nx.wo ?_ | refine Nx.p_drawF (id := 4) rfl [0, 1, 2, 3, 4, 5, 6, 7, 8, 9] [] [] _ rfl rfl (by kernel_rfl) (by kernel_rfl) rfl (by repeat first | exact PanicOk.fn | refine PanicOk.then_ ?_ | refine PanicOk.inB ?_) (Ent.refl _) ?_ | refine Nx.p_poolF (id := 6) rfl [0, 1, 2, 3, 4, 5] [4] [] [7] [7] [⟨6, 7, 43, _⟩] rfl rfl (by kernel_rfl) (by kernel_rfl) (by decide) (PoolFit.cons ⟨⟨_, _, _, rfl⟩, rfl, rfl⟩ PoolFit.nil) (by repeat first | exact PanicOk.fn | refine PanicOk.then_ ?_ | refine PanicOk.inB ?_) (Ent.refl _) ?_ | refine Nx.p_drawF (id := 10) rfl [0, 1, 2, 3, 4, 5] [4, 5] [6, 7, 8, 9] _ rfl rfl (by kernel_rfl) (by kernel_rfl) rfl (by repeat first | exact PanicOk.fn | refine PanicOk.then_ ?_ | refine PanicOk.inB ?_) (Ent.refl _) ?_ | refine Nx.zp (fun hc => ?_) (fun hc => ?_))
      | ((first | refine Nx.at_op rfl rfl ?_ | refine Nx.m_loud rfl rfl rfl ?_ | refine Nx.at_do rfl rfl rfl rfl ?_ | refine Nx.m_loud_do rfl rfl rfl rfl rfl ?_ | refine GoodF.loud_ rfl rfl rfl rfl (fun ex X => ?_)); first | refine Nx.opr rfl rfl ?_ | refine Nx.indexAddr_nat (A := va) (i := q) (sz := 1) rfl rfl rfl rfl rfl hqv (hv.outer.isSome (by omega)) ?_ | refine Nx.load rfl rfl rfl (hrd _ _) ?_ | (refine Nx.call (Rpre := []) rfl rfl rfl (by kernel_rfl) rfl hCg (Ent.refl _) ?_; rintro _ _ ⟨G2, cg2, rfl, rfl⟩) | refine Nx.so ?_ | refine Nx.sb (fun bx => ?_) | refine Nx.sa (fun A2 c2 => ?_))
      | ((with_reducible refine Nx.is_at ?_); first | refine Nx.a ?_ | refine Nx.zd ?_ | refine Nx.zs (fun hc => ?_) (fun hc => ?_))
      | ((with_reducible refine Nx.is_mix ?_); first | refine Nx.m ?_ | refine Nx.zm ?_ | refine Nx.zt (fun hc => ?_) (fun hc => ?_))
      | ((with_reducible refine GoodF.is ?_); first | refine GoodF.quiet rfl rfl rfl rfl rfl rfl (by first | exact QRun.opr rfl |  exact QRun.std) ?_ | refine GoodF.done1 rfl (fun bx => ?_) | refine GoodF.done2 rfl (fun bx by_ => ?_) | refine GoodF.done3 rfl (fun bx by_ bz => ?_))
      | ((fail_if_success (with_reducible refine Nx.is_at ?_)); (fail_if_success (with_reducible refine Nx.is_wp ?_)); (fail_if_success (with_reducible refine Nx.is_mix ?_)); first | refine Nx.ex ?_ | refine Nx.pool_nextF 0 rfl (by exact Ent.auto) ?_ | refine Nx.pool_nextF 1 rfl (by exact Ent.auto) ?_ | refine Nx.pool_nextF 2 rfl (by exact Ent.auto) ?_ | refine Nx.pool_nextF 3 rfl (by exact Ent.auto) ?_)
    refine Nx.again (q + 1, A2, c2, o ++ [(G2, cg2, g)]) ⟨hqv, by simp [hol], ?_⟩ (by dsimp only; omega) ⟨rfl, rfl, rfl, rfl, rfl, rfl, rfl, rfl, trivial⟩ ?_
    · dsimp only
      rw [htk, ← hos]
      unfold vStrip
      rw [List.map_append]; rfl
    · dsimp only
      rw [List.length_append (bs := [_]), List.length_singleton]
      refine Ent.trans (R' := [rowR (G2, cg2, g), Stars (o.map rowR), Blk b7 43 [.int .i64 num, .slice A2 (o.length + 1) c2, .slice D2 vs.length cd2], Vec 25 1 A2 (o.length + 1) c2 (o.map rowV ++ [.slice G2 g.length cg2]), iR D2 cd2 vs, Blk b2 43 [.int .i64 num, .slice va v.length vc, .slice D vs.length cd], Blk b4 43 [.int .i64 0, .slice none 0 0, .slice none 0 0], F]) (by unfold rowR; (exact Ent.auto)) (Ent.bundle.trans ?_)
      rw [List.map_append, List.map_append]
      exact (by (exact Ent.auto))
  obtain rfl : q = v.length := by omega
  rw [List.take_length] at hos
  repeat' first
    | ((with_reducible refine Nx.is_wp ?_); first | refine Nx.wo ?_ | refine Nx.zp (fun hc => ?_) (fun hc => ?_))
    | (refine Nx.zo ?_; first | refine Nx.opr rfl rfl ?_ | refine Nx.so ?_ | refine Nx.sb (fun bx => ?_) | refine Nx.sa (fun A2 c2 => ?_))
    | ((with_reducible refine Nx.is_at ?_); first | refine Nx.a ?_ | refine Nx.zd ?_ | refine Nx.zs (fun hc => ?_) (fun hc => ?_))
    | ((with_reducible refine Nx.is_mix ?_); first | refine Nx.m ?_ | refine Nx.zm ?_ | refine Nx.zt (fun hc => ?_) (fun hc => ?_))
    | refine Nx.zx ?_ | fail
  refine Nx.p_loop (σ := Nat) (fun q => [(2, .pointer (some ⟨b2, 0, none⟩)), (4, .pointer (some ⟨b4, 0, none⟩)), (5, .int .i64 0), (7, .pointer (some ⟨b7, 0, none⟩)), (53, .slice B L.length cb), (54, .int .i64 L.length), (55, .int .i64 (q : Int))])
    (fun q => [Vec 3 1 D2 vs.length cd2 ((hidL vs (L.take q)).map (Value.int .i64)), Blk b7 43 [.int .i64 num, .slice A1 o.length c1, .slice D2 vs.length cd2], Vec 25 1 A1 o.length c1 (o.map rowV), Stars (o.map rowR), Blk b2 43 [.int .i64 num, .slice va v.length vc, .slice D vs.length cd], Blk b4 43 [.int .i64 0, .slice none 0 0, .slice none 0 0], F])
    (fun q => q ≤ L.length ∧ ∀ k ∈ L.take q, inB vs.length k = true) (fun q => L.length - q) 0 rfl ⟨Nat.zero_le _, by simp⟩ ⟨rfl, rfl, rfl, rfl, rfl, rfl, rfl, trivial⟩ (by (exact Ent.auto)) ?_
  rintro q ⟨hq2, hin⟩
  have hhl := hidL_len (L.take q) vs
  by_cases hql : q < L.length
  case neg =>
    rw [List.take_of_length_le (by omega)] at hhl hin ⊢
    have he : hideE vs L = 0 := by unfold hideE; rw [if_pos hpw, if_pos (List.all_eq_true.2 hin)]
    rw [he]
    repeat' first
      | ((with_reducible refine Nx.is_wp ?_); first | refine Nx.wo ?_ | refine Nx.zp (fun hc => ?_) (fun hc => ?_))
      | (refine Nx.zo ?_; first | refine Nx.opr rfl rfl ?_ | refine Nx.so ?_ | refine Nx.sb (fun bx => ?_) | refine Nx.sa (fun A2 c2 => ?_))
      | ((with_reducible refine Nx.is_at ?_); first | refine Nx.a ?_ | refine Nx.zd ?_ | refine Nx.zs (fun hc => ?_) (fun hc => ?_))
      | ((with_reducible refine Nx.is_mix ?_); first | refine Nx.m ?_ | refine Nx.zm ?_ | refine Nx.zt (fun hc => ?_) (fun hc => ?_))
      | refine Nx.zx ?_ | fail
    refine Nx.ret2 rfl (ROne.cell 0 rfl rfl rfl rfl rfl) (ROne.tmp rfl) [relR ⟨num, A1, c1, o, (D2, cd2, hidL vs L)⟩] ⟨⟨num, A1, c1, o, (D2, cd2, hidL vs L)⟩, by unfold relC rowV; dsimp only; rw [hidL_len], fun _ => ⟨rfl, hos, rfl⟩, fun h => absurd rfl h, rfl⟩ ?_
    refine Ent.trans (R' := [Vec 25 1 A1 o.length c1 (o.map rowV), Stars (o.map rowR), rowR (D2, cd2, hidL vs L), F]) (by unfold rowR; dsimp only; rw [hidL_len]; (exact Ent.auto)) ?_
    exact Ent.pack2.trans Ent.pack2
  have htk := take_snocJ hql
  have hrd : ∀ (W : World) (R : List Res), Rd W I R ((ad B).add (q * 1)) (.int .i64 (L.getD q default)) := fun W R => hB.rd hql
  have hbad : ¬ inB vs.length (L.getD q default) = true → hideE vs L = 2 := fun h => by
    unfold hideE
    rw [if_pos hpw, if_neg]
    intro hall
    exact h (List.all_eq_true.1 hall _ (getD_memI hql))
  have hsn := hidL_snoc vs (L.take q) (L.getD q default)
  rw [← htk] at hsn
  generalize L.getD q default = x at htk hrd hbad hsn
  by_cases hx : 0 ≤ x ∧ x < vs.length
  · obtain ⟨y, rfl⟩ : ∃ y : Nat, x = y := ⟨x.toNat, by omega⟩
    rw [Int.toNat_natCast] at hsn
    have hyl : y < vs.length := by omega
    refine Nx.vec_fact fun _ _ _ hD2 => ?_
    have hD2 := hD2 (by omega)
    repeat' first
      | ((with_reducible refine Nx.is_wp ?_); first | refine Nx.wo ?_ | refine Nx.zp (fun hc => ?_) (fun hc => ?_))
      | (refine Nx.zo ?_; first | refine Nx.opr rfl rfl ?_ | refine Nx.indexAddr_nat (A := B) (i := q) (sz := 1) rfl rfl rfl rfl rfl hql (hB.isSome (by omega)) ?_ | refine Nx.load rfl rfl rfl (hrd _ _) ?_ | refine Nx.indexAddr_nat (A := D2) (i := y) (sz := 1) rfl rfl rfl rfl rfl hyl hD2 ?_ | refine Nx.store_ints 0 (A := D2) (i := y) (l := hidL vs (L.take q)) rfl rfl rfl rfl (by omega) ?_ | refine Nx.so ?_ | refine Nx.sb (fun bx => ?_) | refine Nx.sa (fun A2 c2 => ?_))
      | ((with_reducible refine Nx.is_at ?_); first | refine Nx.a ?_ | refine Nx.zd ?_ | refine Nx.zs (fun hc => ?_) (fun hc => ?_))
      | ((with_reducible refine Nx.is_mix ?_); first | refine Nx.m ?_ | refine Nx.zm ?_ | refine Nx.zt (fun hc => ?_) (fun hc => ?_))
      | refine Nx.zx ?_ | fail
    exact Nx.again (q + 1) ⟨hql, by rw [htk]; intro k hk; rcases List.mem_append.1 hk with h | h; exact hin k h; rw [List.mem_singleton.1 h]; exact decide_eq_true hx⟩ (by omega) ⟨rfl, rfl, rfl, rfl, rfl, rfl, rfl, trivial⟩ (by rw [hsn]; (exact Ent.auto))
  · rw [hbad (by unfold inB; rw [decide_eq_true_eq]; exact hx)]
    by_cases hx0 : x < 0
    · repeat' first
        | ((with_reducible refine Nx.is_wp ?_); first | refine Nx.wo ?_ | refine Nx.zp (fun hc => ?_) (fun hc => ?_))
        | (refine Nx.zo ?_; first | refine Nx.opr rfl rfl ?_ | refine Nx.indexAddr_nat (A := B) (i := q) (sz := 1) rfl rfl rfl rfl rfl hql (hB.isSome (by omega)) ?_ | refine Nx.load rfl rfl rfl (hrd _ _) ?_ | refine Nx.so ?_ | refine Nx.sb (fun bx => ?_) | refine Nx.sa (fun A2 c2 => ?_))
        | ((with_reducible refine Nx.is_at ?_); first | refine Nx.a ?_ | refine Nx.zd ?_ | refine Nx.zs (fun hc => ?_) (fun hc => ?_))
        | ((with_reducible refine Nx.is_mix ?_); first | refine Nx.m ?_ | refine Nx.zm ?_ | refine Nx.zt (fun hc => ?_) (fun hc => ?_))
        | refine Nx.zx ?_ | fail
      exact Nx.ret2 rfl (ROne.cell 0 rfl rfl rfl rfl rfl) (ROne.tmp rfl) [relR default] ⟨default, rfl, fun h => absurd h (by decide), fun _ => rfl, rfl⟩ ((relR_nil _).trans (by (exact Ent.auto)))
    · repeat' first
        | ((with_reducible refine Nx.is_wp ?_); first | refine Nx.wo ?_ | refine Nx.zp (fun hc => ?_) (fun hc => ?_))
        | (refine Nx.zo ?_; first | refine Nx.opr rfl rfl ?_ | refine Nx.indexAddr_nat (A := B) (i := q) (sz := 1) rfl rfl rfl rfl rfl hql (hB.isSome (by omega)) ?_ | refine Nx.load rfl rfl rfl (hrd _ _) ?_ | refine Nx.so ?_ | refine Nx.sb (fun bx => ?_) | refine Nx.sa (fun A2 c2 => ?_))
        | ((with_reducible refine Nx.is_at ?_); first | refine Nx.a ?_ | refine Nx.zd ?_ | refine Nx.zs (fun hc => ?_) (fun hc => ?_))
        | ((with_reducible refine Nx.is_mix ?_); first | refine Nx.m ?_ | refine Nx.zm ?_ | refine Nx.zt (fun hc => ?_) (fun hc => ?_))
        | refine Nx.zx ?_ | fail
      exact Nx.ret2 rfl (ROne.cell 0 rfl rfl rfl rfl rfl) (ROne.tmp rfl) [relR default] ⟨default, rfl, fun h => absurd h (by decide), fun _ => rfl, rfl⟩ ((relR_nil _).trans (by (exact Ent.auto)))
end Go.Proofs.YtjnhoemgceghlaaGreat
/- Contracts of functions of the given program, and lemmas about plain lists and numbers: what the laws of this seat lean on. -/
namespace Go.Proofs.YtjnhoemgceghlaaGreat
open Go.Eng Go.Sol
attribute [local irreducible] opK wpList Code.wp Exit.then Exit.inBlock fnPost bodyPost Nx Calls Oper.wp Rd Rds Wr Ent Stars Blk Again Vec FnSpec wpMix QRun Stop Upto wpAt
/-! A release behind others; whether a set protects -/
set_option maxRecDepth 10000 in
set_option maxHeartbeats 8000000 in
theorem behind_spec (A : Option Addr) (c : Nat) (es : List Rel) (r : Rel) (I : PH) (he : SliceN relC 3 I A c es) (h9 : es.length ≤ 1000) :
    FnSpec Tryz.prog 36 [.slice A es.length c, .agg #[.int .i64 r.num, .slice r.va r.v.length r.vc, rowV r.val]] I [] (fun u R' => ∃ (A' : Option Addr) (c' : Nat), u = .slice A' (es ++ [r]).length c' ∧ R' = [rlR A' c' (es ++ [r])]) := by
  have hCl := CloneR_spec A c es I he (by omega)
  have h1 : (es ++ [r]).length = es.length + 1 := by rw [List.length_append]; rfl
  have h2 : (es ++ [r]).flatMap relC = es.flatMap relC ++ [.int .i64 r.num, .slice r.va r.v.length r.vc, rowV r.val] := by rw [List.flatMap_append, List.flatMap_cons, List.flatMap_nil, List.append_nil]; rfl
  obtain ⟨num, va, vc, v, D, cd, vs⟩ := r
  unfold rowV at h2 ⊢
  dsimp only at h2 ⊢
  rw [h1]
  unfold rlR
  rw [h1, h2]
  refine FnSpec.enterP Tryz.func36 rfl Tryz.ntmps36 rfl fun w F => ?_
  repeat' first
    | ((with_reducible refine Nx.is_wp ?_); first | refine Nx.p_stopr 1 rfl ?_ | refine Nx.wo ?_ | refine Nx.zp (fun hc => ?_) (fun hc => ?_))
    | (refine Nx.zo ?_; first | refine Nx.opr rfl rfl ?_ | refine Nx.so ?_ | refine Nx.sb (fun bx => ?_) | refine Nx.sa (fun A2 c2 => ?_))
    | ((with_reducible refine Nx.is_at ?_); first | refine Nx.a ?_ | refine Nx.zd ?_ | refine Nx.zs (fun hc => ?_) (fun hc => ?_))
    | ((with_reducible refine Nx.is_mix ?_); first | refine Nx.m ?_ | refine Nx.zm ?_ | refine Nx.zt (fun hc => ?_) (fun hc => ?_))
    | refine Nx.zx ?_ | fail
  refine Nx.unstop ?_
  revert bx; intro b3
  refine Nx.p_seq rfl ?_
  refine Nx.p_fork (id := 1) rfl [0, 2] [5] [1, 3, 4] [Blk b3 43 [.int .i64 num, .slice va v.length vc, .slice D vs.length cd]] 4 rfl rfl (by kernel_rfl) (by kernel_rfl) (by kernel_rfl) (by repeat first | exact PanicOk.fn | refine PanicOk.then_ ?_ | refine PanicOk.inB ?_) (by (exact Ent.auto)) ?_
  repeat' first
    | ((with_reducible refine Nx.is_wp ?_); first | refine Nx.wo ?_ | refine Nx.zp (fun hc => ?_) (fun hc => ?_))
    | (refine Nx.zo ?_; first | refine Nx.opr rfl rfl ?_ | refine Nx.so ?_ | refine Nx.sb (fun bx => ?_) | refine Nx.sa (fun A2 c2 => ?_))
    | ((with_reducible refine Nx.is_at ?_); first | refine Nx.a ?_ | refine Nx.zd ?_ | refine Nx.zs (fun hc => ?_) (fun hc => ?_))
    | ((with_reducible refine Nx.is_mix ?_); first | refine Nx.m ?_ | refine Nx.zm ?_ | refine Nx.zt (fun hc => ?_) (fun hc => ?_))
    | refine Nx.zx ?_ | fail
  refine Nx.fork2 (i := 1) (j := 3) (by kernel_rfl) rfl rfl rfl rfl ?_ ?_
  · refine Nx.call (Rpre := []) rfl rfl rfl (by kernel_rfl) rfl hCl (Ent.refl _) ?_
    rintro _ _ ⟨A1, c1, rfl, rfl⟩
    refine Nx.mix_S (by (exact Ent.auto)) ?_
    refine Nx.fork1 (i := 3) (by kernel_rfl) rfl rfl ?_
    refine Nx.sb (fun b8 => ?_)
    refine Nx.mix_S (by (exact Ent.auto)) ?_
    refine Nx.fork1 (i := 4) (by kernel_rfl) rfl rfl ?_
    refine Nx.ent (R' := [Blk b8 43 [.int .i64 num, .slice va v.length vc, .slice D vs.length cd], rlR A1 c1 es, Blk b3 43 [.int .i64 num, .slice va v.length vc, .slice D vs.length cd], F]) (by (exact Ent.auto)) ?_
    refine Nx.append_lit 0 rfl rfl rfl rfl (by kernel_rfl) rfl rfl rfl rfl (by omega) fun A2 c2 => ?_
    refine Nx.mix_S (by (exact Ent.auto)) ?_
    refine Nx.fork_fin (by kernel_rfl) rfl ?_
    repeat' first
      | ((with_reducible refine Nx.is_wp ?_); first | refine Nx.wo ?_ | refine Nx.zp (fun hc => ?_) (fun hc => ?_))
      | (refine Nx.zo ?_; first | refine Nx.opr rfl rfl ?_ | refine Nx.so ?_ | refine Nx.sb (fun bx => ?_) | refine Nx.sa (fun A2 c2 => ?_))
      | ((with_reducible refine Nx.is_at ?_); first | refine Nx.a ?_ | refine Nx.zd ?_ | refine Nx.zs (fun hc => ?_) (fun hc => ?_))
      | ((with_reducible refine Nx.is_mix ?_); first | refine Nx.m ?_ | refine Nx.zm ?_ | refine Nx.zt (fun hc => ?_) (fun hc => ?_))
      | refine Nx.zx ?_ | fail
    exact Nx.ret_fn rfl [_] ⟨A2, c2, rfl, rfl⟩ (by (exact Ent.auto))
  · refine Nx.sb (fun b8 => ?_)
    refine Nx.mix_S (by (exact Ent.auto)) ?_
    refine Nx.fork1 (i := 1) (by kernel_rfl) rfl rfl ?_
    refine Nx.call (Rpre := []) rfl rfl rfl (by kernel_rfl) rfl hCl (Ent.refl _) ?_
    rintro _ _ ⟨A1, c1, rfl, rfl⟩
    refine Nx.mix_S (by (exact Ent.auto)) ?_
    refine Nx.fork1 (i := 4) (by kernel_rfl) rfl rfl ?_
    refine Nx.ent (R' := [Blk b8 43 [.int .i64 num, .slice va v.length vc, .slice D vs.length cd], rlR A1 c1 es, Blk b3 43 [.int .i64 num, .slice va v.length vc, .slice D vs.length cd], F]) (by (exact Ent.auto)) ?_
    refine Nx.append_lit 0 rfl rfl rfl rfl (by kernel_rfl) rfl rfl rfl rfl (by omega) fun A2 c2 => ?_
    refine Nx.mix_S (by (exact Ent.auto)) ?_
    refine Nx.fork_fin (by kernel_rfl) rfl ?_
    repeat' first
      | ((with_reducible refine Nx.is_wp ?_); first | refine Nx.wo ?_ | refine Nx.zp (fun hc => ?_) (fun hc => ?_))
      | (refine Nx.zo ?_; first | refine Nx.opr rfl rfl ?_ | refine Nx.so ?_ | refine Nx.sb (fun bx => ?_) | refine Nx.sa (fun A2 c2 => ?_))
      | ((with_reducible refine Nx.is_at ?_); first | refine Nx.a ?_ | refine Nx.zd ?_ | refine Nx.zs (fun hc => ?_) (fun hc => ?_))
      | ((with_reducible refine Nx.is_mix ?_); first | refine Nx.m ?_ | refine Nx.zm ?_ | refine Nx.zt (fun hc => ?_) (fun hc => ?_))
      | refine Nx.zx ?_ | fail
    exact Nx.ret_fn rfl [_] ⟨A2, c2, rfl, rfl⟩ (by (exact Ent.auto))
set_option maxRecDepth 10000 in
set_option maxHeartbeats 8000000 in
theorem Protects_spec (A Ae B Ap : Option Addr) (c ce cb cp : Nat) (l : List Int) (es : List Rel) (r : Rel) (L prot : List Int) (m : Int) (I : PH) (hl : Ints I A c l) (hs : Sizes l) (he : Rels I Ae ce es) (hw : ∀ r ∈ es, Viewed l r.v) (h9 : es.length ≤ 1000)
    (hv : RowsOf I r.va r.vc r.v) (hd : Ints I r.val.1 r.val.2.1 r.val.2.2) (hwr : Viewed l r.v) (hd9 : r.val.2.2.length ≤ 1000) (hB : Ints I B cb L) (hp : Ints I Ap cp prot) (hp9 : prot.length ≤ 1000000) :
    FnSpec Tryz.prog 38 [.agg #[.slice A l.length c], .slice Ae es.length ce, .agg #[.int .i64 r.num, .slice r.va r.v.length r.vc, rowV r.val], .slice B L.length cb, .slice Ap prot.length cp, .int .i64 m] I []
      (fun u R' => u = .tuple #[.bool (protF l es r L prot m).1, .int .i64 (protF l es r L prot m).2] ∧ R' = []) := by
  have hv4 := (hwr.szsOk hs).1
  have hH := HideP_spec B cb L r I hv hd hB (by omega) (fun x hx => by
    obtain ⟨k, hk, rfl⟩ := List.mem_iff_getElem.1 hx
    have h1 := (hwr.each k (by rw [← hwr.len]; exact hk)).1
    have h2 := hs.at (k := k) (by rw [← hwr.len]; exact hk)
    rw [List.getD_eq_getElem?_getD, List.getElem?_eq_getElem hk, Option.getD_some] at h1
    omega) hd9
  unfold HidePost at hH
  unfold protF
  refine FnSpec.enterP Tryz.func38 rfl Tryz.ntmps38 rfl fun w F => ?_
  by_cases h0 : hideE r.val.2.2 L = 0
  case neg =>
    rw [if_pos h0]
    generalize hideE r.val.2.2 L = er at hH h0
    repeat' first
      | ((with_reducible refine Nx.is_wp ?_); first | refine Nx.wo ?_ | refine Nx.zp (fun hc => ?_) (fun hc => ?_))
      | (refine Nx.zo ?_; first | refine Nx.opr rfl rfl ?_ | (refine Nx.call (Rpre := []) rfl rfl rfl (by kernel_rfl) rfl hH (Ent.refl _) ?_; rintro _ _ ⟨r2, rfl, _, _, rfl⟩) | refine Nx.so ?_ | refine Nx.sb (fun bx => ?_) | refine Nx.sa (fun A2 c2 => ?_))
      | ((with_reducible refine Nx.is_at ?_); first | refine Nx.a ?_ | refine Nx.zd ?_ | refine Nx.zs (fun hc => ?_) (fun hc => ?_))
      | ((with_reducible refine Nx.is_mix ?_); first | refine Nx.m ?_ | refine Nx.zm ?_ | refine Nx.zt (fun hc => ?_) (fun hc => ?_))
      | refine Nx.zx ?_ | fail
    exact Nx.ret_fn rfl [] ⟨rfl, rfl⟩ (by (exact Ent.auto))
  rw [if_neg (by omega)]
  rw [h0] at hH
  have hBe := fun r2 : Rel => behind_spec Ae ce es r2 I he.outer h9
  have hSf := fun (A3 : Option Addr) (c3 : Nat) (r2 : Rel) (e1 : r2.num = r.num) (e2 : vStrip r2.v = vStrip r.v) (e3 : r2.val.2.2 = hidL r.val.2.2 L) (m' I' : PH) (hle : PH.le I I') (hm : PH.le m' I') (hv : Stars [rlR A3 c3 (es ++ [r2]), relR r2] m') => (by
    obtain ⟨q0, z0, y0⟩ := Stars.get 0 hv rfl
    obtain ⟨q1, z1, y1⟩ := Stars.get 1 hv rfl
    obtain ⟨q2, z2, y2⟩ := Stars.get 0 y1 rfl
    obtain ⟨q3, z3, y3⟩ := Stars.get 1 y1 rfl
    have hR : Rels I' A3 c3 (es ++ [r2]) := ⟨Vec.sliceN (z0.trans hm) y0 fun x _ => relC_len x, fun x hx => by
      rcases List.mem_append.1 hx with h | h
      · exact (he.view x h).mono hle
      · rw [List.mem_singleton.1 h]; exact ViewR.rows ((z2.trans z1).trans hm) y2, fun x hx => by
      rcases List.mem_append.1 hx with h | h
      · exact (he.val x h).mono hle
      · rw [List.mem_singleton.1 h]; exact Vec.sliceOf ((z3.trans z1).trans hm) y3⟩
    have := Safe_spec A A3 Ap c c3 cp l (es ++ [r2]) prot m I' (hl.mono hle) hs hR (fun x hx => (List.mem_append.1 hx).elim (hw x) fun h => by rw [List.mem_singleton.1 h]; exact viewed_strip e2.symm hwr) (hp.mono hle) hp9
    unfold safeB at this
    rw [prot_same e1 e2 e3] at this
    exact this :
    FnSpec Tryz.prog 35 [.agg #[.slice A l.length c], .slice A3 (es ++ [r2]).length c3, .slice Ap prot.length cp, .int .i64 m] I' [] (fun u R' => u = .tuple #[.bool (safeB l (es ++ [hidR r L]) prot m), .int .i64 (findD l (es ++ [hidR r L]) prot m).2] ∧ R' = []))
  generalize safeB l (es ++ [hidR r L]) prot m = sb at hSf
  generalize (findD l (es ++ [hidR r L]) prot m).2 = se at hSf
  dsimp only
  repeat' first
    | ((with_reducible refine Nx.is_wp ?_); first | refine Nx.wo ?_ | refine Nx.p_draw (id := 4) rfl [0, 1, 2, 4, 5, 3, 6, 7, 8, 9, 10] [3, 6] _ rfl rfl (by kernel_rfl) (by kernel_rfl) rfl (by repeat first | exact PanicOk.fn | refine PanicOk.then_ ?_ | refine PanicOk.inB ?_) (Ent.refl _) ?_ | refine Nx.zp (fun hc => ?_) (fun hc => ?_))
    | (refine Nx.zo ?_; first | refine Nx.opr rfl rfl ?_ | (refine Nx.call (Rpre := []) rfl rfl rfl (by kernel_rfl) rfl hH (Ent.refl _) ?_; rintro _ _ ⟨r2, rfl, hr2, _, rfl⟩; obtain ⟨e1, e2, e3⟩ := hr2 rfl; clear hr2) | (refine Nx.call (Rpre := []) rfl rfl rfl (by kernel_rfl) rfl (hBe r2) (Ent.refl _) ?_; rintro _ _ ⟨A3, c3, rfl, rfl⟩) | (refine Nx.call rfl rfl rfl (by kernel_rfl) rfl (FnSpec.keep [rlR _ _ (es ++ [r2]), relR r2] fun m' I' hle hm' hv => hSf _ _ r2 e1 e2 e3 m' I' hle hm' hv) (by (exact Ent.auto)) ?_; rintro _ _ ⟨_, ⟨rfl, rfl⟩, rfl⟩) | refine Nx.so ?_ | refine Nx.sb (fun bx => ?_) | refine Nx.sa (fun A2 c2 => ?_))
    | ((with_reducible refine Nx.is_at ?_); first | refine Nx.a ?_ | refine Nx.zd ?_ | refine Nx.zs (fun hc => ?_) (fun hc => ?_))
    | ((with_reducible refine Nx.is_mix ?_); first | refine Nx.m ?_ | refine Nx.zm ?_ | refine Nx.zt (fun hc => ?_) (fun hc => ?_))
    | refine Nx.zx ?_ | fail
  exact Nx.ret_fn rfl [] ⟨rfl, rfl⟩ (by (exact Ent.auto))
end Go.Proofs.YtjnhoemgceghlaaGreat
/- Contracts of functions of the given program, and lemmas about plain lists and numbers: what the laws of this seat lean on. -/
namespace Go.Proofs.YtjnhoemgceghlaaGreat
open Go.Eng Go.Sol
attribute [local irreducible] opK wpList Code.wp Exit.then Exit.inBlock fnPost bodyPost Nx Calls Oper.wp Rd Rds Wr Ent Stars Blk Again Vec FnSpec wpMix QRun Stop Upto wpAt
/-! The least set that protects: the program -/
def badW (x : Int) : Bool := decide (x < 0 ∨ 1000 < x)
set_option maxHeartbeats 8000000 in
set_option maxRecDepth 10000 in
theorem badW_spec (x : Int) (I : PH) : FnSpec Tryz.prog 34 [.int .i64 x] I [] (fun u R' => u = .bool (badW x) ∧ R' = []) := by
  unfold badW
  refine FnSpec.enterP Tryz.func34 rfl Tryz.ntmps34 rfl fun w F => ?_
  by_cases h : x < 0
  · rw [decide_eq_true (.inl h)]
    repeat' first
      | ((with_reducible refine Nx.is_wp ?_); first | refine Nx.wo ?_ | refine Nx.zp (fun hc => ?_) (fun hc => ?_))
      | (refine Nx.zo ?_; first | refine Nx.opr rfl rfl ?_ | refine Nx.so ?_ | refine Nx.sb (fun bx => ?_) | refine Nx.sa (fun A2 c2 => ?_))
      | ((with_reducible refine Nx.is_at ?_); first | refine Nx.a ?_ | refine Nx.zd ?_ | refine Nx.zs (fun hc => ?_) (fun hc => ?_))
      | ((with_reducible refine Nx.is_mix ?_); first | refine Nx.m ?_ | refine Nx.zm ?_ | refine Nx.zt (fun hc => ?_) (fun hc => ?_))
      | refine Nx.zx ?_ | fail
    exact Nx.ret_fn rfl [] ⟨rfl, rfl⟩ (by (exact Ent.auto))
  · repeat' first
      | ((with_reducible refine Nx.is_wp ?_); first | refine Nx.wo ?_ | refine Nx.zp (fun hc => ?_) (fun hc => ?_))
      | (refine Nx.zo ?_; first | refine Nx.opr rfl rfl ?_ | refine Nx.so ?_ | refine Nx.sb (fun bx => ?_) | refine Nx.sa (fun A2 c2 => ?_))
      | ((with_reducible refine Nx.is_at ?_); first | refine Nx.a ?_ | refine Nx.zd ?_ | refine Nx.zs (fun hc => ?_) (fun hc => ?_))
      | ((with_reducible refine Nx.is_mix ?_); first | refine Nx.m ?_ | refine Nx.zm ?_ | refine Nx.zt (fun hc => ?_) (fun hc => ?_))
      | refine Nx.zx ?_ | fail
    exact Nx.ret_fn rfl [] ⟨by rw [show decide (x < 0 ∨ 1000 < x) = decide (1000 < x) from decide_eq_decide.2 (by omega)], rfl⟩ (by (exact Ent.auto))
/-- Whether a set of bits protects. -/
def pbF (l : List Int) (es : List Rel) (r : Rel) (n : Nat) (prot : List Int) (m : Int) (s : Nat) : Bool := (protF l es r (bitsL s n) prot m).1 && decide ((protF l es r (bitsL s n) prot m).2 = 0)
/-- The least set: no other one that protects comes before it. -/
def IsLeast (w : List Int) (pb : Nat → Bool) : Option Nat → Prop
  | some s => s < 2 ^ w.length ∧ pb s = true ∧ ∀ t, t < 2 ^ w.length → pb t = true → cfN w w.length s t ≤ 0
  | none => ∀ t, t < 2 ^ w.length → pb t = false
/-- Why there is no search. -/
def lstE (l : List Int) (es : List Rel) (r : Rel) (w prot : List Int) (m : Int) : Int :=
  if 10 < r.val.2.2.length then 1 else if w.length ≠ r.val.2.2.length then 17 else if w.any badW = true then 2 else (findD l (es ++ [r]) prot m).2
def lstR (w : List Int) (e : Int) (res : Option Nat) : List Int × Int × Int :=
  if e ≠ 0 then ([], 0, e) else match res with
  | some s => (bitsL s w.length, wSum w (bitsL s w.length), 0)
  | none => ([], 0, 51)
theorem lstR_some (w : List Int) (s : Nat) : lstR w 0 (some s) = (bitsL s w.length, wSum w (bitsL s w.length), 0) := rfl
theorem lstR_none (w : List Int) : lstR w 0 none = ([], 0, 51) := rfl
theorem least_at {w : List Int} {pb : Nat → Bool} {L : List (Sb w.length)} {q : Nat} (hpm : L.Perm (allS w.length)) (hps : L.Pairwise (fun x y => ltOf (fun a b : Sb w.length => cfN w w.length a.1 b.1) y x = false)) (hq : q < L.length) (hno : ∀ x ∈ L.take q, pb x.1 = false) (hp : pb (L.getD q default).1 = true) : IsLeast w pb (some (L.getD q default).1) := by
  refine ⟨(L.getD q default).2, hp, fun t ht hpt => ?_⟩
  have hm : (⟨t, ht⟩ : Sb w.length) ∈ L := hpm.mem_iff.2 (mem_allS _)
  have he : L.drop q = L.getD q default :: L.drop (q + 1) := by
    rw [List.drop_eq_getElem_cons hq, List.getD_eq_getElem?_getD, List.getElem?_eq_getElem hq]; rfl
  rw [← List.take_append_drop q L, he] at hm
  have hpd := hps.sublist (List.drop_sublist q L)
  rw [he, List.pairwise_cons] at hpd
  have han := (cfN_le w w.length).anti
  rcases List.mem_append.1 hm with h | h
  · have := hno _ h
    dsimp only at this
    rw [hpt] at this; cases this
  · rcases List.mem_cons.1 h with h | h
    · have h2 : t = (L.getD q default).1 := by rw [← h]
      rw [h2]
      have := han (L.getD q default).1 (L.getD q default).1
      omega
    · have h2 := hpd.1 _ h
      unfold ltOf at h2
      rw [decide_eq_false_iff_not] at h2
      have h3 : ¬ cfN w w.length t (L.getD q default).1 < 0 := h2
      have := han (L.getD q default).1 t
      omega
def LeastPost (l : List Int) (es : List Rel) (r : Rel) (w prot : List Int) (m : Int) (u : Value) (R' : List Res) : Prop :=
  ∃ (res : Option Nat) (A' : Option Addr) (c' : Nat), (lstE l es r w prot m = 0 → IsLeast w (pbF l es r w.length prot m) res) ∧ u = .tuple #[.slice A' (lstR w (lstE l es r w prot m) res).1.length c', .int .i64 (lstR w (lstE l es r w prot m) res).2.1, .int .i64 (lstR w (lstE l es r w prot m) res).2.2] ∧ R' = [iR A' c' (lstR w (lstE l es r w prot m) res).1]
set_option maxRecDepth 10000 in
set_option maxHeartbeats 16000000 in
theorem LeastP_spec (A Ae Aw Ap : Option Addr) (c ce cw cp : Nat) (l : List Int) (es : List Rel) (r : Rel) (w prot : List Int) (m : Int) (I : PH) (hl : Ints I A c l) (hs : Sizes l) (he : Rels I Ae ce es) (hw : ∀ r ∈ es, Viewed l r.v) (h9 : es.length ≤ 1000)
    (hv : RowsOf I r.va r.vc r.v) (hd : Ints I r.val.1 r.val.2.1 r.val.2.2) (hwr : Viewed l r.v) (hd6 : r.val.2.2.length ≤ 6) (hW : Ints I Aw cw w) (hp : Ints I Ap cp prot) (hp9 : prot.length ≤ 1000000) :
    FnSpec Tryz.prog 13 [.agg #[.slice A l.length c], .slice Ae es.length ce, .agg #[.int .i64 r.num, .slice r.va r.v.length r.vc, .slice r.val.1 r.val.2.2.length r.val.2.1], .slice Aw w.length cw, .slice Ap prot.length cp, .int .i64 m] I [] (LeastPost l es r w prot m) := by
  have hWl := hW.len
  have hBe := behind_spec Ae ce es r I he.outer h9
  have hCF := ContainsFunc_spec 34 badW Aw cw w I hW (by kernel_rfl) (fun z => badW_spec z I)
  have hSf := fun (A3 : Option Addr) (c3 : Nat) (m' I' : PH) (hle : PH.le I I') (hm : PH.le m' I') (hv' : Stars [rlR A3 c3 (es ++ [r])] m') => (by
    obtain ⟨q0, z0, y0⟩ := Stars.get 0 hv' rfl
    have hR : Rels I' A3 c3 (es ++ [r]) := ⟨Vec.sliceN (z0.trans hm) y0 fun x _ => relC_len x, fun x hx => by
      rcases List.mem_append.1 hx with h | h
      · exact (he.view x h).mono hle
      · rw [List.mem_singleton.1 h]; exact hv.mono hle, fun x hx => by
      rcases List.mem_append.1 hx with h | h
      · exact (he.val x h).mono hle
      · rw [List.mem_singleton.1 h]; exact hd.mono hle⟩
    exact Safe_spec A A3 Ap c c3 cp l (es ++ [r]) prot m I' (hl.mono hle) hs hR (fun x hx => (List.mem_append.1 hx).elim (hw x) fun h => by rw [List.mem_singleton.1 h]; exact hwr) (hp.mono hle) hp9 :
    FnSpec Tryz.prog 35 [.agg #[.slice A l.length c], .slice A3 (es ++ [r]).length c3, .slice Ap prot.length cp, .int .i64 m] I' [] (fun u R' => u = .tuple #[.bool (safeB l (es ++ [r]) prot m), .int .i64 (findD l (es ++ [r]) prot m).2] ∧ R' = []))
  have hPr := fun (B : Option Addr) (cb : Nat) (L : List Int) (I' : PH) (hle : PH.le I I') (hB : Ints I' B cb L) => Protects_spec A Ae B Ap c ce cb cp l es r L prot m I' (hl.mono hle) hs (he.mono hle) hw h9 (hv.mono hle) (hd.mono hle) hwr (by omega) hB (hp.mono hle) hp9
  obtain ⟨pb, hpb⟩ : ∃ pb, pb = pbF l es r w.length prot m := ⟨_, rfl⟩
  unfold LeastPost lstE
  rw [← hpb]
  obtain ⟨num, va, vc, v, D, cd, vs⟩ := r
  dsimp only at hd6 ⊢
  rw [if_neg (c := 10 < vs.length) (by omega)]
  refine FnSpec.enterP Tryz.func13 rfl Tryz.ntmps13 rfl fun w0 F => ?_
  by_cases h1 : w.length = vs.length
  case neg =>
    rw [if_pos h1]
    repeat' first
      | ((with_reducible refine Nx.is_wp ?_); first | refine Nx.wo ?_ | refine Nx.zp (fun hc => ?_) (fun hc => ?_))
      | (refine Nx.zo ?_; first | refine Nx.opr rfl rfl ?_ | refine Nx.so ?_ | refine Nx.sb (fun bx => ?_) | refine Nx.sa (fun A2 c2 => ?_))
      | ((with_reducible refine Nx.is_at ?_); first | refine Nx.a ?_ | refine Nx.zd ?_ | refine Nx.zs (fun hc => ?_) (fun hc => ?_))
      | ((with_reducible refine Nx.is_mix ?_); first | refine Nx.m ?_ | refine Nx.zm ?_ | refine Nx.zt (fun hc => ?_) (fun hc => ?_))
      | refine Nx.zx ?_ | fail
    exact Nx.ret_fn rfl [_] ⟨none, none, 0, fun h => absurd h (by decide), rfl, rfl⟩ ((Ent.vec_nil 3 1 _).trans (by (exact Ent.auto)))
  rw [if_neg (c := w.length ≠ vs.length) (by omega)]
  cases hb : w.any badW with
  | true =>
    rw [if_pos rfl]
    rw [hb] at hCF
    repeat' first
      | ((with_reducible refine Nx.is_wp ?_); first | refine Nx.wo ?_ | refine Nx.zp (fun hc => ?_) (fun hc => ?_))
      | (refine Nx.zo ?_; first | refine Nx.opr rfl rfl ?_ | refine Nx.callv rfl rfl rfl (by kernel_rfl) rfl hCF ?_ | refine Nx.so ?_ | refine Nx.sb (fun bx => ?_) | refine Nx.sa (fun A2 c2 => ?_))
      | ((with_reducible refine Nx.is_at ?_); first | refine Nx.a ?_ | refine Nx.zd ?_ | refine Nx.zs (fun hc => ?_) (fun hc => ?_))
      | ((with_reducible refine Nx.is_mix ?_); first | refine Nx.m ?_ | refine Nx.zm ?_ | refine Nx.zt (fun hc => ?_) (fun hc => ?_))
      | refine Nx.zx ?_ | fail
    exact Nx.ret_fn rfl [_] ⟨none, none, 0, fun h => absurd h (by decide), rfl, rfl⟩ ((Ent.vec_nil 3 1 _).trans (by (exact Ent.auto)))
  | false =>
  rw [if_neg (by decide)]
  rw [hb] at hCF
  have hWok : WOk w := fun x hx => by
    have : ¬ badW x = true := fun h => by
      have := List.any_eq_true.2 ⟨x, hx, h⟩
      rw [hb] at this; cases this
    unfold badW at this
    rw [decide_eq_true_eq] at this
    omega
  have hw6 : w.length ≤ 6 := by omega
  generalize safeB l (es ++ [⟨num, va, vc, v, (D, cd, vs)⟩]) prot m = sb at hSf
  generalize (findD l (es ++ [⟨num, va, vc, v, (D, cd, vs)⟩]) prot m).2 = er at hSf
  by_cases h0 : er = 0
  case neg =>
    repeat' first
      | ((with_reducible refine Nx.is_wp ?_); first | refine Nx.wo ?_ | refine Nx.p_draw (id := 7) rfl [0, 1, 2, 4, 5, 3, 6, 7, 8, 9, 10, 11] [3, 6] _ rfl rfl (by kernel_rfl) (by kernel_rfl) rfl (by repeat first | exact PanicOk.fn | refine PanicOk.then_ ?_ | refine PanicOk.inB ?_) (Ent.refl _) ?_ | refine Nx.p_draw (id := 13) rfl [0, 1, 2, 3, 5, 6, 4, 7, 8, 9, 10, 11, 12] [4, 7] _ rfl rfl (by kernel_rfl) (by kernel_rfl) rfl (by repeat first | exact PanicOk.fn | refine PanicOk.then_ ?_ | refine PanicOk.inB ?_) (Ent.refl _) ?_ | refine Nx.zp (fun hc => ?_) (fun hc => ?_))
      | (refine Nx.zo ?_; first | refine Nx.opr rfl rfl ?_ | refine Nx.callv rfl rfl rfl (by kernel_rfl) rfl hCF ?_ | (refine Nx.call (Rpre := []) rfl rfl rfl (by kernel_rfl) rfl hBe (Ent.refl _) ?_; rintro _ _ ⟨A3, c3, rfl, rfl⟩) | (refine Nx.call rfl rfl rfl (by kernel_rfl) rfl (FnSpec.keep [rlR _ _ (es ++ [⟨num, va, vc, v, (D, cd, vs)⟩])] fun m' I' hle hm' hv => hSf _ _ m' I' hle hm' hv) (by (exact Ent.auto)) ?_; rintro _ _ ⟨_, ⟨rfl, rfl⟩, rfl⟩) | refine Nx.so ?_ | refine Nx.sb (fun bx => ?_) | refine Nx.sa (fun A2 c2 => ?_))
      | ((with_reducible refine Nx.is_at ?_); first | refine Nx.a ?_ | refine Nx.zd ?_ | refine Nx.zs (fun hc => ?_) (fun hc => ?_))
      | ((with_reducible refine Nx.is_mix ?_); first | refine Nx.m ?_ | refine Nx.zm ?_ | refine Nx.zt (fun hc => ?_) (fun hc => ?_))
      | refine Nx.zx ?_ | fail
    exact Nx.ret_fn rfl [_] ⟨none, none, 0, fun h => absurd h h0, by unfold lstR; rw [if_pos h0]; rfl, rfl⟩ (by unfold lstR; rw [if_pos h0]; exact (Ent.vec_nil 3 1 _).trans (by (exact Ent.auto)))
  subst h0
  have hOr := ordered_spec Aw cw w I hW hWok hw6
  repeat' first
    | ((with_reducible refine Nx.is_wp ?_); first | refine Nx.wo ?_ | refine Nx.p_draw (id := 7) rfl [0, 1, 2, 4, 5, 3, 6, 7, 8, 9, 10, 11] [3, 6] _ rfl rfl (by kernel_rfl) (by kernel_rfl) rfl (by repeat first | exact PanicOk.fn | refine PanicOk.then_ ?_ | refine PanicOk.inB ?_) (Ent.refl _) ?_ | refine Nx.p_draw (id := 13) rfl [0, 1, 2, 3, 5, 6, 4, 7, 8, 9, 10, 11, 12] [4, 7] _ rfl rfl (by kernel_rfl) (by kernel_rfl) rfl (by repeat first | exact PanicOk.fn | refine PanicOk.then_ ?_ | refine PanicOk.inB ?_) (Ent.refl _) ?_ | refine Nx.zp (fun hc => ?_) (fun hc => ?_))
    | (refine Nx.zo ?_; first | refine Nx.opr rfl rfl ?_ | refine Nx.callv rfl rfl rfl (by kernel_rfl) rfl hCF ?_ | (refine Nx.call (Rpre := []) rfl rfl rfl (by kernel_rfl) rfl hBe (Ent.refl _) ?_; rintro _ _ ⟨A3, c3, rfl, rfl⟩) | (refine Nx.call rfl rfl rfl (by kernel_rfl) rfl (FnSpec.keep [rlR _ _ (es ++ [⟨num, va, vc, v, (D, cd, vs)⟩])] fun m' I' hle hm' hv => hSf _ _ m' I' hle hm' hv) (by (exact Ent.auto)) ?_; rintro _ _ ⟨_, ⟨rfl, rfl⟩, rfl⟩) | (refine Nx.call (Rpre := []) rfl rfl rfl (by kernel_rfl) rfl hOr (Ent.refl _) ?_; rintro _ _ ⟨A4, c4, L, rfl, hpm, hps, rfl⟩) | refine Nx.so ?_ | refine Nx.sb (fun bx => ?_) | refine Nx.sa (fun A2 c2 => ?_))
    | ((with_reducible refine Nx.is_at ?_); first | refine Nx.a ?_ | refine Nx.zd ?_ | refine Nx.zs (fun hc => ?_) (fun hc => ?_))
    | ((with_reducible refine Nx.is_mix ?_); first | refine Nx.m ?_ | refine Nx.zm ?_ | refine Nx.zt (fun hc => ?_) (fun hc => ?_))
    | refine Nx.zx ?_ | fail
  rename_i b6
  revert bx; intro b8
  refine Nx.freezeAt 0 rfl fun I2 m2 hI2 hm2 h2 => ?_
  have hS4 : Ints I2 A4 c4 (setsI L) := Vec.sliceOf hm2 h2
  have hsl := setsI_len L
  have hLl : L.length ≤ 64 := by rw [hpm.length_eq, allS_len]; have := Nat.pow_le_pow_right (n := 2) (by decide) hw6; simpa using this
  have hW2 := hW.mono hI2
  replace hPr := fun (B : Option Addr) (cb : Nat) (L : List Int) (I' : PH) (hle : PH.le I2 I') (hB : Ints I' B cb L) => hPr B cb L I' (hI2.trans hle) hB
  dsimp only at hPr
  refine Nx.p_loop (σ := Nat) (fun q => [(1, .slice Ae es.length ce), (3, .slice Aw w.length cw), (4, .slice Ap prot.length cp), (5, .int .i64 m), (6, .pointer (some ⟨b6, 0, none⟩)), (8, .pointer (some ⟨b8, 0, none⟩)), (50, .slice A4 (setsI L).length c4), (51, .int .i64 ((setsI L).length : Int)), (52, .int .i64 (q : Int))])
    (fun _ => [Blk b8 43 [.int .i64 num, .slice va v.length vc, .slice D vs.length cd], Blk b6 27 [.slice A l.length c], F]) (fun q => q ≤ L.length ∧ ∀ x ∈ L.take q, pb x.1 = false) (fun q => L.length - q) 0 rfl ⟨Nat.zero_le _, by simp⟩ ⟨rfl, rfl, rfl, rfl, rfl, rfl, rfl, rfl, rfl, trivial⟩ (by (exact Ent.auto)) ?_
  rintro q ⟨hq, hno⟩
  by_cases hql : q < L.length
  case neg =>
    rw [List.take_of_length_le (by omega)] at hno
    repeat' first
      | ((with_reducible refine Nx.is_wp ?_); first | refine Nx.wo ?_ | refine Nx.zp (fun hc => ?_) (fun hc => ?_))
      | (refine Nx.zo ?_; first | refine Nx.opr rfl rfl ?_ | refine Nx.so ?_ | refine Nx.sb (fun bx => ?_) | refine Nx.sa (fun A2 c2 => ?_))
      | ((with_reducible refine Nx.is_at ?_); first | refine Nx.a ?_ | refine Nx.zd ?_ | refine Nx.zs (fun hc => ?_) (fun hc => ?_))
      | ((with_reducible refine Nx.is_mix ?_); first | refine Nx.m ?_ | refine Nx.zm ?_ | refine Nx.zt (fun hc => ?_) (fun hc => ?_))
      | refine Nx.zx ?_ | fail
    exact Nx.imm_le hI2 (Nx.ret_fn rfl [_] ⟨none, none, 0, fun _ t ht => hno ⟨t, ht⟩ (hpm.mem_iff.2 (mem_allS _)), rfl, rfl⟩ ((Ent.vec_nil 3 1 _).trans (by (exact Ent.auto))))
  have htk : L.take (q + 1) = L.take q ++ [L.getD q default] := by rw [List.take_succ_eq_append_getElem hql, List.getD_eq_getElem?_getD, List.getElem?_eq_getElem hql]; rfl
  have hla := fun hp => least_at (pb := pb) hpm hps hql hno hp
  have hrd : ∀ (W : World) (R : List Res), Rd W I2 R ((ad A4).add (q * 1)) (.int .i64 ((L.getD q default).1 : Int)) := fun W R => by
    have := hS4.rd (W := W) (R := R) (k := q) (by omega)
    have e : (setsI L).getD q default = ((L.getD q default).1 : Int) := by
      unfold setsI
      rw [List.getD_eq_getElem?_getD, List.getElem?_map, List.getElem?_eq_getElem hql, List.getD_eq_getElem?_getD, List.getElem?_eq_getElem hql]; rfl
    rw [e] at this
    exact this
  have hs2 := (L.getD q default).2
  have hno2 : pb (L.getD q default).1 = false → ∀ x ∈ L.take (q + 1), pb x.1 = false := fun h x hx => by
    rw [htk] at hx
    rcases List.mem_append.1 hx with hx | hx
    · exact hno x hx
    · rw [List.mem_singleton.1 hx]; exact h
  generalize (L.getD q default).1 = s at hla hrd hs2 hno2
  clear htk
  have hs64 : s < 64 := Nat.lt_of_lt_of_le hs2 (by have := Nat.pow_le_pow_right (n := 2) (by decide) hw6; simpa using this)
  have h6 := bitsL_same hs2 (6 - w.length)
  rw [show w.length + (6 - w.length) = 6 by omega] at h6
  have hLs := list_spec s hs64 I2
  rw [h6] at hLs
  have hSm := sum_spec Aw cw w s I2 hW2 hWok hw6 hs2
  have hPs := fun (B : Option Addr) (cb : Nat) (m' I' : PH) (hle : PH.le I2 I') (hm : PH.le m' I') (hv' : Stars [iR B cb (bitsL s w.length)] m') => hPr B cb (bitsL s w.length) I' hle (by
    obtain ⟨q0, z0, y0⟩ := Stars.get 0 hv' rfl
    exact Vec.sliceOf (z0.trans hm) y0)
  have hpbs : pb s = ((protF l es ⟨num, va, vc, v, (D, cd, vs)⟩ (bitsL s w.length) prot m).1 && decide ((protF l es ⟨num, va, vc, v, (D, cd, vs)⟩ (bitsL s w.length) prot m).2 = 0)) := by rw [hpb]; rfl
  generalize protF l es ⟨num, va, vc, v, (D, cd, vs)⟩ (bitsL s w.length) prot m = fp at hPs hpbs
  obtain ⟨ok, e⟩ := fp
  dsimp only at hPs hpbs
  unfold rowV at hPs
  dsimp only at hPs
  by_cases hok : ok = true ∧ e = 0
  · obtain ⟨rfl, rfl⟩ := hok
    have hil := hla hpbs
    repeat' first
      | ((with_reducible refine Nx.is_wp ?_); first | refine Nx.wo ?_ | refine Nx.p_draw (id := 7) rfl [0, 1, 2, 4, 5, 3, 6, 7, 8, 9, 10, 11] [3, 6] _ rfl rfl (by kernel_rfl) (by kernel_rfl) rfl (by repeat first | exact PanicOk.fn | refine PanicOk.then_ ?_ | refine PanicOk.inB ?_) (Ent.refl _) ?_ | refine Nx.p_draw (id := 13) rfl [0, 1, 2, 3, 5, 6, 4, 7, 8, 9, 10, 11, 12] [4, 7] _ rfl rfl (by kernel_rfl) (by kernel_rfl) rfl (by repeat first | exact PanicOk.fn | refine PanicOk.then_ ?_ | refine PanicOk.inB ?_) (Ent.refl _) ?_ | refine Nx.zp (fun hc => ?_) (fun hc => ?_))
      | (refine Nx.zo ?_; first | refine Nx.opr rfl rfl ?_ | refine Nx.indexAddr_nat (A := A4) (i := q) (sz := 1) rfl rfl rfl rfl rfl (by omega) (hS4.isSome (by omega)) ?_ | refine Nx.load rfl rfl rfl (hrd _ _) ?_ | (refine Nx.call (Rpre := []) rfl rfl rfl (by kernel_rfl) rfl hLs (Ent.refl _) ?_; rintro _ _ ⟨A5, c5, rfl, rfl⟩) | (refine Nx.call rfl rfl rfl (by kernel_rfl) rfl (FnSpec.keep [iR _ _ (bitsL s w.length)] fun m' I' hle hm' hv => hPs _ _ m' I' hle hm' hv) (by (exact Ent.auto)) ?_; rintro _ _ ⟨_, ⟨rfl, rfl⟩, rfl⟩) | refine Nx.callv rfl rfl rfl (by kernel_rfl) rfl hSm ?_ | refine Nx.so ?_ | refine Nx.sb (fun bx => ?_) | refine Nx.sa (fun A2 c2 => ?_))
      | ((with_reducible refine Nx.is_at ?_); first | refine Nx.a ?_ | refine Nx.zd ?_ | refine Nx.zs (fun hc => ?_) (fun hc => ?_))
      | ((with_reducible refine Nx.is_mix ?_); first | refine Nx.m ?_ | refine Nx.zm ?_ | refine Nx.zt (fun hc => ?_) (fun hc => ?_))
      | refine Nx.zx ?_ | fail
    exact Nx.imm_le hI2 (Nx.ret_fn rfl [_] ⟨some s, A5, c5, fun _ => hil, rfl, rfl⟩ (by rw [lstR_some]; (exact Ent.auto)))
  · have hf : pb s = false := by
      rw [hpbs]
      cases ok with
      | false => rfl
      | true => rw [Bool.true_and]; exact decide_eq_false fun h => hok ⟨rfl, h⟩
    have hn2 := hno2 hf
    cases ok with
    | false =>
      repeat' first
        | ((with_reducible refine Nx.is_wp ?_); first | refine Nx.wo ?_ | refine Nx.p_draw (id := 7) rfl [0, 1, 2, 4, 5, 3, 6, 7, 8, 9, 10, 11] [3, 6] _ rfl rfl (by kernel_rfl) (by kernel_rfl) rfl (by repeat first | exact PanicOk.fn | refine PanicOk.then_ ?_ | refine PanicOk.inB ?_) (Ent.refl _) ?_ | refine Nx.p_draw (id := 13) rfl [0, 1, 2, 3, 5, 6, 4, 7, 8, 9, 10, 11, 12] [4, 7] _ rfl rfl (by kernel_rfl) (by kernel_rfl) rfl (by repeat first | exact PanicOk.fn | refine PanicOk.then_ ?_ | refine PanicOk.inB ?_) (Ent.refl _) ?_ | refine Nx.zp (fun hc => ?_) (fun hc => ?_))
        | (refine Nx.zo ?_; first | refine Nx.opr rfl rfl ?_ | refine Nx.indexAddr_nat (A := A4) (i := q) (sz := 1) rfl rfl rfl rfl rfl (by omega) (hS4.isSome (by omega)) ?_ | refine Nx.load rfl rfl rfl (hrd _ _) ?_ | (refine Nx.call (Rpre := []) rfl rfl rfl (by kernel_rfl) rfl hLs (Ent.refl _) ?_; rintro _ _ ⟨A5, c5, rfl, rfl⟩) | (refine Nx.call rfl rfl rfl (by kernel_rfl) rfl (FnSpec.keep [iR _ _ (bitsL s w.length)] fun m' I' hle hm' hv => hPs _ _ m' I' hle hm' hv) (by (exact Ent.auto)) ?_; rintro _ _ ⟨_, ⟨rfl, rfl⟩, rfl⟩) | refine Nx.so ?_ | refine Nx.sb (fun bx => ?_) | refine Nx.sa (fun A2 c2 => ?_))
        | ((with_reducible refine Nx.is_at ?_); first | refine Nx.a ?_ | refine Nx.zd ?_ | refine Nx.zs (fun hc => ?_) (fun hc => ?_))
        | ((with_reducible refine Nx.is_mix ?_); first | refine Nx.m ?_ | refine Nx.zm ?_ | refine Nx.zt (fun hc => ?_) (fun hc => ?_))
        | refine Nx.zx ?_ | fail
      exact Nx.again (q + 1) ⟨hql, hn2⟩ (by omega) ⟨rfl, rfl, rfl, rfl, rfl, rfl, rfl, rfl, rfl, trivial⟩ (by (exact Ent.auto))
    | true =>
      have he0 : e ≠ 0 := fun h => hok ⟨rfl, h⟩
      repeat' first
        | ((with_reducible refine Nx.is_wp ?_); first | refine Nx.wo ?_ | refine Nx.p_draw (id := 7) rfl [0, 1, 2, 4, 5, 3, 6, 7, 8, 9, 10, 11] [3, 6] _ rfl rfl (by kernel_rfl) (by kernel_rfl) rfl (by repeat first | exact PanicOk.fn | refine PanicOk.then_ ?_ | refine PanicOk.inB ?_) (Ent.refl _) ?_ | refine Nx.p_draw (id := 13) rfl [0, 1, 2, 3, 5, 6, 4, 7, 8, 9, 10, 11, 12] [4, 7] _ rfl rfl (by kernel_rfl) (by kernel_rfl) rfl (by repeat first | exact PanicOk.fn | refine PanicOk.then_ ?_ | refine PanicOk.inB ?_) (Ent.refl _) ?_ | refine Nx.zp (fun hc => ?_) (fun hc => ?_))
        | (refine Nx.zo ?_; first | refine Nx.opr rfl rfl ?_ | refine Nx.indexAddr_nat (A := A4) (i := q) (sz := 1) rfl rfl rfl rfl rfl (by omega) (hS4.isSome (by omega)) ?_ | refine Nx.load rfl rfl rfl (hrd _ _) ?_ | (refine Nx.call (Rpre := []) rfl rfl rfl (by kernel_rfl) rfl hLs (Ent.refl _) ?_; rintro _ _ ⟨A5, c5, rfl, rfl⟩) | (refine Nx.call rfl rfl rfl (by kernel_rfl) rfl (FnSpec.keep [iR _ _ (bitsL s w.length)] fun m' I' hle hm' hv => hPs _ _ m' I' hle hm' hv) (by (exact Ent.auto)) ?_; rintro _ _ ⟨_, ⟨rfl, rfl⟩, rfl⟩) | refine Nx.so ?_ | refine Nx.sb (fun bx => ?_) | refine Nx.sa (fun A2 c2 => ?_))
        | ((with_reducible refine Nx.is_at ?_); first | refine Nx.a ?_ | refine Nx.zd ?_ | refine Nx.zs (fun hc => ?_) (fun hc => ?_))
        | ((with_reducible refine Nx.is_mix ?_); first | refine Nx.m ?_ | refine Nx.zm ?_ | refine Nx.zt (fun hc => ?_) (fun hc => ?_))
        | refine Nx.zx ?_ | fail
      exact Nx.again (q + 1) ⟨hql, hn2⟩ (by omega) ⟨rfl, rfl, rfl, rfl, rfl, rfl, rfl, rfl, rfl, trivial⟩ (by (exact Ent.auto))
end Go.Proofs.YtjnhoemgceghlaaGreat
/- Contracts of functions of the given program, and lemmas about plain lists and numbers: what the laws of this seat lean on. -/
namespace Go.Proofs.YtjnhoemgceghlaaGreat
open Go.Eng Go.Sol
attribute [local irreducible] opK wpList Code.wp Exit.then Exit.inBlock fnPost bodyPost Nx Calls Oper.wp Rd Rds Wr Ent Stars Blk Again Vec FnSpec wpMix QRun Stop Upto wpAt
/-! What the laws of suppression begin with -/
structure StoryOk (s t : List Int) (es : List Rel) (r : Rel) (w p : List Int) : Prop where
  sizes : Sizes s
  tab : tabOk s t 2
  few : es.length ≤ 1
  rels : RelsOk s t es
  rel : RelOk s t r
  num : r.num = es.length
  six : r.val.2.2.length ≤ 6
  wlen : w.length = r.val.2.2.length
  weights : ∀ x ∈ w, 0 ≤ x ∧ x < 6
  asc : p.Pairwise (· < ·)
  inp : ∀ x ∈ p, 0 ≤ x ∧ x < prod s
  plen : p.length ≤ 48
end Go.Proofs.YtjnhoemgceghlaaGreat
/- Contracts of functions of the given program, and lemmas about plain lists and numbers: what the laws of this seat lean on. -/
namespace Go.Proofs.YtjnhoemgceghlaaGreat
open Go.Eng Go.Sol
/-! Suppression of made releases: plain facts -/
theorem set_atD {l : List Int} {k j : Nat} {x : Int} : (l.set k x).getD j default = l.getD j default ∨ (l.set k x).getD j default = x := by
  rw [List.getD_eq_getElem?_getD, List.getD_eq_getElem?_getD]
  by_cases h : k = j
  · subst h
    by_cases hl : k < l.length
    · rw [List.getElem?_set_self hl]; exact .inr rfl
    · rw [List.getElem?_eq_none (by rw [List.length_set]; omega), List.getElem?_eq_none (by omega)]; exact .inl rfl
  · rw [List.getElem?_set_ne h]; exact .inl rfl
theorem hidL_at : ∀ (L vs : List Int) (j : Nat), (hidL vs L).getD j default = -1 ∨ (hidL vs L).getD j default = vs.getD j default
  | [], _, _ => .inr rfl
  | x :: L, vs, j => by
    have ih := hidL_at L (vs.set x.toNat (-1)) j
    have e : hidL vs (x :: L) = hidL (vs.set x.toNat (-1)) L := rfl
    rw [e]
    rcases ih with h | h
    · exact .inl h
    · rw [h]
      rcases set_atD (l := vs) (k := x.toNat) (j := j) (x := -1) with h2 | h2
      · exact .inr h2
      · exact .inl h2
theorem hidR_ok {l t : List Int} {r : Rel} (L : List Int) (h : RelOk l t r) : RelOk l t (hidR r L) := by
  refine ⟨viewed_strip (vStrip_idem r.v).symm h.view, ?_, fun j hj => ?_⟩
  · unfold hidR
    dsimp only
    rw [hidL_len, szs_strip]
    exact h.len
  · unfold hidR at hj ⊢
    dsimp only at hj ⊢
    rw [hidL_len] at hj
    have hp : pubOf l (vStrip r.v) = pubOf l r.v := funext fun n => pubOf_strip l r.v n
    rw [hp]
    rcases hidL_at L r.val.2.2 j with h2 | h2
    · exact .inl h2
    · rw [h2]; exact h.each j hj
theorem bits_asc (s n : Nat) : (bitsL s n).Pairwise (· < ·) := by
  unfold bitsL
  rw [List.pairwise_map]
  exact (List.pairwise_lt_range.filter _).imp fun h => by omega
theorem hide_bits {vs : List Int} {s n : Nat} (hn : n = vs.length) : hideE vs (bitsL s n) = 0 := by
  unfold hideE
  rw [if_pos (bits_asc s n), if_pos]
  refine List.all_eq_true.2 fun k hk => ?_
  have := bitsL_in k hk
  unfold inB
  exact decide_eq_true (by omega)
theorem exOf_none {rc : List Rch} {p : List Int} {m : Int} : (exOf rc p m).length = 0 ↔ ∀ k ∈ p, narrowB (rc.getD k.toNat default) m = false := by
  unfold exOf
  rw [List.length_map, List.length_eq_zero_iff, List.filter_eq_nil_iff]
  exact ⟨fun h k hk => by have := h k hk; simpa using this, fun h k hk => by rw [h k hk]; decide⟩
/-- When a set of bits protects. -/
theorem pb_iff {l t : List Int} {es : List Rel} {r : Rel} {w p : List Int} {m : Int} {s : Nat} (hS : StoryOk l t es r w p) {p' : List Int} (hpa : p'.Pairwise (· < ·)) (hpb : ∀ x ∈ p', 0 ≤ x ∧ x < prod l) (hm : 1 ≤ m ∧ m ≤ 100) :
    pbF l es r w.length p' m s = true ↔ (rchD l (es ++ [hidR r (bitsL s w.length)])).2 = 0 ∧ ∀ k ∈ p', narrowB ((rchD l (es ++ [hidR r (bitsL s w.length)])).1.getD k.toNat default) m = false := by
  have hro := rels_snoc hS.rels (hidR_ok (bitsL s w.length) hS.rel) hS.num
  have hf := findD_made hS.sizes hS.tab hro (by have := hS.few; rw [List.length_append]; show es.length + 1 ≤ 24; omega) hm hpa hpb
  unfold pbF protF
  rw [hide_bits hS.wlen, if_neg (by decide)]
  unfold safeB
  dsimp only
  rw [hf]
  by_cases h0 : (rchD l (es ++ [hidR r (bitsL s w.length)])).2 = 0
  · rw [if_neg (by omega)]
    dsimp only
    rw [decide_eq_true rfl, Bool.true_and, Bool.and_true, decide_eq_true_eq, exOf_none]
    exact ⟨fun h => ⟨h0, h⟩, fun h => h.2⟩
  · rw [if_pos h0]
    dsimp only
    rw [decide_eq_false h0]
    exact ⟨fun h => (by cases h), fun h => absurd h.1 h0⟩
theorem lstE_made {l t : List Int} {es : List Rel} {r : Rel} {w p : List Int} {m : Int} (hS : StoryOk l t es r w p) {p' : List Int} (hpa : p'.Pairwise (· < ·)) (hpb : ∀ x ∈ p', 0 ≤ x ∧ x < prod l) (hm : 1 ≤ m ∧ m ≤ 100) :
    lstE l es r w p' m = (rchD l (es ++ [r])).2 := by
  have hro := rels_snoc hS.rels hS.rel hS.num
  have hf := findD_made hS.sizes hS.tab hro (by have := hS.few; rw [List.length_append]; show es.length + 1 ≤ 24; omega) hm hpa hpb
  have h6 := hS.six
  unfold lstE
  rw [if_neg (by omega), if_neg (by have := hS.wlen; omega), if_neg, hf]
  · split
    · rfl
    · rename_i h; exact (Decidable.not_not.1 h).symm
  · intro h
    obtain ⟨x, hx, hb⟩ := List.any_eq_true.1 h
    have := hS.weights x hx
    unfold badW at hb
    rw [decide_eq_true_eq] at hb
    omega
theorem StoryOk.wok {l t : List Int} {es : List Rel} {r : Rel} {w p : List Int} (hS : StoryOk l t es r w p) : WOk w := fun x hx => by have := hS.weights x hx; omega
theorem cf_weight {w : List Int} {n a b : Nat} (h : cfN w n a b ≤ 0) : wSum w (bitsL a n) ≤ wSum w (bitsL b n) := by
  unfold cfN orC at h
  dsimp only at h
  have h1 : cmpI (wSum w (bitsL a n)) (wSum w (bitsL b n)) ≤ 0 := by
    split at h
    · exact h
    · rename_i h0
      rw [Decidable.not_not.1 h0]
      exact Int.le_refl _
  unfold cmpI at h1
  split at h1
  · omega
  · split at h1 <;> omega
/-- What Least answers, of a made story. -/
def LQ (l : List Int) (es : List Rel) (r : Rel) (w p : List Int) (m : Int) (x : List Int × Int × Int) : Prop := ∃ res, (lstE l es r w p m = 0 → IsLeast w (pbF l es r w.length p m) res) ∧ x = lstR w (lstE l es r w p m) res
/-! The list of more cells -/
end Go.Proofs.YtjnhoemgceghlaaGreat
/- Contracts of functions of the given program, and lemmas about plain lists and numbers: what the laws of this seat lean on. -/
namespace Go.Proofs.YtjnhoemgceghlaaGreat
open Go.Eng Go.Sol
/-! Nothing hidden, everything hidden -/
/-- The least weight. -/
theorem least_law {l t : List Int} {es : List Rel} {r : Rel} {w p : List Int} {m : Int} (hS : StoryOk l t es r w p) (hm : 1 ≤ m ∧ m ≤ 100) {x : List Int × Int × Int} (h : LQ l es r w p m x) :
    (x.2.2 = 0 ∨ x.2.2 = 1 ∨ x.2.2 = 51) ∧ (x.2.2 = 0 → ∃ s, s < 2 ^ w.length ∧ x.1 = bitsL s w.length ∧ pbF l es r w.length p m s = true ∧ x.2.1 = wSum w x.1) ∧ (x.2.2 = 0 ∨ x.2.2 = 51 → ∀ t, t < 2 ^ w.length → (x.2.2 = 0 → wSum w (bitsL t w.length) < x.2.1) → pbF l es r w.length p m t = false) := by
  obtain ⟨res, h1, rfl⟩ := h
  have he := lstE_made hS hS.asc hS.inp hm
  rw [he] at h1 ⊢
  obtain ⟨_, _, h01⟩ := rch_made hS.sizes hS.tab (rels_snoc hS.rels hS.rel hS.num) (by have := hS.few; rw [List.length_append]; show es.length + 1 ≤ 24; omega)
  rcases h01 with h0 | h0
  · rw [h0] at h1 ⊢
    have h1 := h1 rfl
    cases res with
    | none => exact ⟨.inr (.inr rfl), fun h => absurd h (by rw [lstR_none]; exact (by decide : ¬ (51 : Int) = 0)), fun _ t ht _ => h1 t ht⟩
    | some s =>
      obtain ⟨g1, g2, g3⟩ := h1
      refine ⟨.inl rfl, fun _ => ⟨s, g1, rfl, g2, rfl⟩, fun _ t ht hlt => ?_⟩
      have hlt := hlt rfl
      cases hb : pbF l es r w.length p m t with
      | false => rfl
      | true =>
        have := cf_weight (g3 t ht hb)
        rw [lstR_some] at hlt
        dsimp only at hlt
        omega
  · rw [h0, show lstR w 1 res = ([], 0, 1) by unfold lstR; rw [if_pos (by decide)]]
    exact ⟨.inr (.inl rfl), fun h => absurd h (by decide), fun h => absurd h (by decide)⟩
end Go.Proofs.YtjnhoemgceghlaaGreat
/-
  The proof engine, part AW: walks over owned maps ('for k, v := range m' while nothing is laid into m).
-/
namespace Go.Eng
open Go.Instr Go.ChangeMaps
/-- Each entry was born before now, no two at one time. -/
def Stamped (es : Array MapEntry) (clock : Nat) : Prop := (∀ x ∈ es.toList, x.born < clock) ∧ (es.toList.map (·.born)).Nodup
section
variable {κ α : Type} {g : κ → Value} {f : α → Value}
theorem stamped_nil : Stamped #[] 0 := ⟨fun x hx => by simp at hx, by simp⟩
theorem stamped_push {es : Array MapEntry} {clock : Nat} (h : Stamped es clock) (k v : Value) : Stamped (es.push ⟨k, v, clock⟩) (clock + 1) := by
  obtain ⟨h1, h2⟩ := h
  refine ⟨fun x hx => ?_, ?_⟩
  · rw [Array.toList_push, List.mem_append, List.mem_singleton] at hx
    rcases hx with hx | rfl
    · have := h1 x hx; omega
    · exact Nat.lt_succ_self _
  · rw [Array.toList_push, List.map_append, List.nodup_append]
    refine ⟨h2, by simp, fun a ha b hb => ?_⟩
    obtain ⟨x, hx, rfl⟩ := List.mem_map.1 ha
    simp only [List.map_cons, List.map_nil, List.mem_singleton] at hb
    have := h1 x hx
    omega
theorem map_modify {es : List MapEntry} {j : Nat} {k v : Value} : ((es.modify j fun e => { e with key := k, val := v }).map (·.born)) = es.map (·.born) := by
  induction es generalizing j with
  | nil => simp
  | cons x es ih =>
    cases j with
    | zero => simp
    | succ j => simp only [List.modify_succ_cons, List.map_cons, ih]
theorem stamped_modify {es : Array MapEntry} {clock : Nat} (h : Stamped es clock) (j : Nat) (k v : Value) : Stamped (es.modify j fun e => { e with key := k, val := v }) clock := by
  obtain ⟨h1, h2⟩ := h
  have hm : (es.modify j fun e => { e with key := k, val := v }).toList.map (·.born) = es.toList.map (·.born) := by rw [Array.toList_modify, map_modify]
  refine ⟨fun x hx => ?_, by rw [hm]; exact h2⟩
  have : x.born ∈ (es.modify j fun e => { e with key := k, val := v }).toList.map (·.born) := List.mem_map.2 ⟨x, hx, rfl⟩
  rw [hm] at this
  obtain ⟨y, hy, he⟩ := List.mem_map.1 this
  rw [← he]
  exact h1 y hy
/-- A map that is owned, its entries stamped. -/
def MapS (g : κ → Value) (f : α → Value) (b : Nat) (l : List (κ × α)) : Res := fun m => ∃ es clock, m b = some (.map es clock) ∧ entOk g f es.toList l ∧ Stamped es clock
/-- A walk over an owned map: 'left' is what is still to come, in any order. -/
def IterR (g : κ → Value) (f : α → Value) (b r : Nat) (l left : List (κ × α)) : Res := fun m => ∃ es clock, ∃ seen : Array Nat, ∃ c0, ∃ L : List MapEntry, m b = some (.map es clock) ∧ m r = some (.mapIter (some b) clock seen c0) ∧ entOk g f es.toList l ∧ Stamped es clock ∧ clock ≤ c0 ∧ L.Perm (leftOf es seen).toList ∧ entOk g f L left
/-- The same behind a step that came to p. -/
def IterAt (g : κ → Value) (f : α → Value) (b r : Nat) (l rest : List (κ × α)) (p : κ × α) : Res := fun m => ∃ es clock, ∃ seen : Array Nat, ∃ e : MapEntry, ∃ L : List MapEntry, m b = some (.map es clock) ∧ m r = some (.mapIter (some b) clock (seen.push e.born) clock) ∧ entOk g f es.toList l ∧ Stamped es clock ∧ e ∈ es.toList ∧ e.key = g p.1 ∧ e.val = f p.2 ∧ L.Perm (leftOf es (seen.push e.born)).toList ∧ entOk g f L rest
theorem Ent.iterAt {b r : Nat} {l rest : List (κ × α)} {p : κ × α} {R : List Res} : Ent (IterAt g f b r l rest p :: R) (IterR g f b r l rest :: R) :=
  Ent.head fun _ ⟨es, clock, seen, e, L, h1, h2, h3, h4, _, _, _, h5, h6⟩ => ⟨es, clock, seen.push e.born, clock, L, h1, h2, h3, h4, Nat.le_refl _, h5, h6⟩
theorem entOk_split : ∀ {L1 : List MapEntry} {e : MapEntry} {L2 : List MapEntry} {left : List (κ × α)}, entOk g f (L1 ++ e :: L2) left → ∃ a p c, left = a ++ p :: c ∧ e.key = g p.1 ∧ e.val = f p.2 ∧ entOk g f (L1 ++ L2) (a ++ c)
  | [], e, L2, [], h => by simp [entOk] at h
  | [], e, L2, p :: c, h => by
    simp only [entOk, List.nil_append, List.map_cons, List.cons.injEq, Prod.mk.injEq] at h
    exact ⟨[], p, c, rfl, h.1.1, h.1.2, h.2⟩
  | x :: L1, e, L2, [], h => by simp [entOk] at h
  | x :: L1, e, L2, q :: left, h => by
    simp only [entOk, List.cons_append, List.map_cons, List.cons.injEq] at h
    obtain ⟨a, p, c, rfl, h1, h2, h3⟩ := entOk_split h.2
    refine ⟨q :: a, p, c, rfl, h1, h2, ?_⟩
    simp only [entOk, List.cons_append, List.map_cons, List.cons.injEq]
    exact ⟨h.1, h3⟩
theorem leftOf_nil (es : Array MapEntry) : leftOf es #[] = es := by
  unfold leftOf
  exact Array.filter_eq_self.2 fun _ _ => by simp
theorem left_push (es : Array MapEntry) (seen : Array Nat) (b : Nat) : (leftOf es (seen.push b)).toList = (leftOf es seen).toList.filter fun e => !(e.born == b) := by
  unfold leftOf
  rw [Array.toList_filter, Array.toList_filter, List.filter_filter]
  congr 1
  funext e
  rw [contains_push]
  cases seen.contains e.born <;> cases (e.born == b) <;> rfl
theorem filter_out {L1 : List MapEntry} {e : MapEntry} {L2 : List MapEntry} (h : ((L1 ++ e :: L2).map (·.born)).Nodup) : (L1 ++ e :: L2).filter (fun x => !(x.born == e.born)) = L1 ++ L2 := by
  rw [List.map_append, List.map_cons, List.nodup_append, List.nodup_cons] at h
  obtain ⟨_, ⟨h1, _⟩, h2⟩ := h
  rw [List.filter_append, List.filter_cons]
  have ha : L1.filter (fun x => !(x.born == e.born)) = L1 := List.filter_eq_self.2 fun x hx => by
    have := h2 x.born (List.mem_map.2 ⟨x, hx, rfl⟩) e.born (by simp)
    simp [this]
  have hc : L2.filter (fun x => !(x.born == e.born)) = L2 := List.filter_eq_self.2 fun x hx => by
    have : x.born ≠ e.born := fun he => h1 (he ▸ List.mem_map.2 ⟨x, hx, rfl⟩)
    simp [this]
  rw [ha, hc]
  simp
end
section
variable {C : Cx} {e e' : Env} {I : PH} {R R' R0 : List Res} {K K' : Act → World → Prop} {Q : Exit → Act → World → Prop} {W : World}
variable {d : Nat} {ty t : TypeId} {pos : String} {after : Array Edge} {gd : Option (Nat × Bool)} {x y z : Operand} {dst : Option Tmp}
variable {κ α : Type}
theorem Nx.makeMapS (g : κ → Value) (f : α → Value) (hlt : Nat.blt d C.n = true)
    (h : ∀ b, Nx C ((d, .map (some b)) :: e) I (MapS g f b [] :: R) K) : Nx C e I R (opK C.P ⟨some d, .makeMap t none, ty, pos, after, gd⟩ K Q) :=
  Nx.op_new (v := fun b => .map (some b)) (ob := .map #[] 0) rfl hlt (fun a w ha hw => by
    simp only [execOp, Option.map_none]
    exact run_v rfl) (fun b => (h b).ent (Ent.head fun m hm => ⟨#[], 0, hm, rfl, stamped_nil⟩))
theorem Nx.mapRange (i : Nat) (g : κ → Value) (f : α → Value) {kt et : TypeId} {b : Nat} {l : List (κ × α)} (hx : evo e x = some (.map (some b))) (ht : C.P.underlying t = some (.map kt et)) (hlt : Nat.blt d C.n = true) (hk : nthL R i = some (MapS g f b l))
    (h : ∀ r, Nx C ((d, .pointer (some ⟨r, 0, none⟩)) :: e) I (IterR g f b r l l :: R.eraseIdx i) K) : Nx C e I R (opK C.P ⟨some d, .range t x, ty, pos, after, gd⟩ K Q) := by
  refine Nx.ent (Ent.pull i R _ (nthL_eq.symm.trans hk)) ?_
  intro a w ha hw
  obtain ⟨⟨m, ⟨m1, m2, hd, rfl, ⟨es, clock, hb, he, hs1⟩, h2⟩, hs⟩, hst⟩ := hw
  have hw0 : St C.W I ((fun m => m b = some (.map es clock)) :: R.eraseIdx i) w := ⟨⟨_, ⟨m1, m2, hd, rfl, hb, h2⟩, hs⟩, hst⟩
  have hbw : w.heap[b]? = some (.map es clock) := hs.own _ _ (PH.le_or_left _ _ _ _ hb)
  have hrun : (execOp a.eval ⟨some d, .range t x, ty, pos, after, gd⟩).run C.P w = .ok (.value (.pointer (some ⟨w.heap.size, 0, none⟩))) (w.alloc (.mapIter (some b) clock #[] clock)) := by
    simp only [execOp, ha.eval hx]
    exact run_v (run_range_map w t kt et b es clock ht hbw)
  unfold opK Oper.wp
  rw [hrun]
  refine h w.heap.size _ _ (ha.put hlt _) ((hw0.alloc (.mapIter (some b) clock #[] clock)).ent ?_)
  rintro m ⟨n1, n', hd1, rfl, hn1, n2, n3, hd2, rfl, hn2, hn3⟩
  obtain ⟨hd12, hd13⟩ := PH.dis_or.1 hd1
  refine ⟨_, PH.le_refl _, n1.or n2, n3, ?_, (PH.or_assoc _ _ _).symm, ?_, hn3⟩
  · exact (PH.dis_or.2 ⟨hd13.symm, hd2.symm⟩).symm
  · refine ⟨es, clock, #[], clock, es.toList, PH.le_or_right hd12 _ _ hn2, PH.le_or_left _ _ _ _ hn1, he, hs1, Nat.le_refl _, ?_, he⟩
    rw [leftOf_nil]
theorem Nx.mapNext (i : Nat) {g : κ → Value} {f : α → Value} {b r : Nat} {l left : List (κ × α)} (hx : evo e x = some (.pointer (some ⟨r, 0, none⟩))) (hlt : Nat.blt d C.n = true) (hk : nthL R i = some (IterR g f b r l left))
    (h0 : left = [] → Nx C ((d, .tuple #[.bool false]) :: e) I R K)
    (h1 : ∀ a p c, left = a ++ p :: c → Nx C ((d, .tuple #[.bool true, g p.1, f p.2]) :: e) I (IterAt g f b r l (a ++ c) p :: R.eraseIdx i) K) : Nx C e I R (opK C.P ⟨some d, .next x false, ty, pos, after, gd⟩ K Q) := by
  intro a w ha hw
  have hwe := hw.ent (Ent.pull i R _ (nthL_eq.symm.trans hk))
  obtain ⟨⟨m, ⟨m1, m2, hd, rfl, ⟨es, clock, seen, c0, L, hb, hr, he, hs1, hc0, hp, hL⟩, h2⟩, hs⟩, hst⟩ := hwe
  have hw0 : St C.W I ((fun m => m b = some (.map es clock) ∧ m r = some (.mapIter (some b) clock seen c0)) :: R.eraseIdx i) w := ⟨⟨_, ⟨m1, m2, hd, rfl, ⟨hb, hr⟩, h2⟩, hs⟩, hst⟩
  have hbw : w.heap[b]? = some (.map es clock) := hs.own _ _ (PH.le_or_left _ _ _ _ hb)
  have hrw : w.heap[r]? = some (.mapIter (some b) clock seen c0) := hs.own _ _ (PH.le_or_left _ _ _ _ hr)
  have hne : r ≠ b := fun h => by rw [h, hbw] at hrw; cases hrw
  rcases run_next_at (P := C.P) w ty r b clock c0 seen es clock hrw hbw hs1.1 hc0 with ⟨hz, hrun⟩ | ⟨en, hen, w1, hal, hrun⟩
  · have hLn : L = [] := List.eq_nil_of_length_eq_zero (by rw [hp.length_eq, Array.length_toList]; exact hz)
    have hln : left = [] := by
      rw [hLn] at hL
      cases left with
      | nil => rfl
      | cons q c => simp [entOk] at hL
    have hrun' : (execOp a.eval ⟨some d, .next x false, ty, pos, after, gd⟩).run C.P w = .ok (.value (.tuple #[.bool false])) w := by
      simp only [execOp, ha.eval hx]
      exact run_v hrun
    unfold opK Oper.wp
    rw [hrun']
    exact h0 hln _ _ (ha.put hlt _) hw
  · have hem := hp.mem_iff.2 hen
    obtain ⟨L1, L2, rfl⟩ := List.append_of_mem hem
    obtain ⟨pa, pp, pc, hleft, hk1, hk2, hk3⟩ := entOk_split hL
    have hnd : ((L1 ++ en :: L2).map (·.born)).Nodup := by
      refine (hp.map (·.born)).nodup_iff.2 ?_
      unfold leftOf
      rw [Array.toList_filter]
      exact hs1.2.sublist (List.filter_sublist.map _)
    have hperm : (L1 ++ L2).Perm (leftOf es (seen.push en.born)).toList := by
      rw [left_push, ← filter_out hnd]
      exact hp.filter _
    have hrun' : (execOp a.eval ⟨some d, .next x false, ty, pos, after, gd⟩).run C.P w = .ok (.value (.tuple #[.bool true, g pp.1, f pp.2])) (setBlock w1 r (.mapIter (some b) clock (seen.push en.born) clock)) := by
      simp only [execOp, ha.eval hx]
      rw [hk1, hk2] at hrun
      exact run_v hrun
    unfold opK Oper.wp
    rw [hrun']
    have hr1 : w1.heap[r]? = some (.mapIter (some b) clock seen c0) := by rcases hal with rfl | rfl <;> exact hrw
    have hset := MapKept.heap_set (o' := .mapIter (some b) clock (seen.push en.born) clock) hr1
    have hheap : w1.heap = w.heap := by rcases hal with rfl | rfl <;> rfl
    refine h1 pa pp pc hleft _ _ (ha.put hlt _) (hw0.upd (o := .mapIter (some b) clock (seen.push en.born) clock) (b := r) (fun m hm => ?_) hset.1 (fun j hj o' ho => ?_) ?_)
    · obtain ⟨hmb, hmr⟩ := hm
      refine ⟨by rw [hmr]; rfl, es, clock, seen, en, L1 ++ L2, ?_, if_pos rfl, he, hs1, (mem_left hen).1, hk1, hk2, hperm, hk3⟩
      exact (if_neg (fun h : b = r => hne h.symm)).trans hmb
    · exact (hset.2 j hj).trans (by rw [hheap]; exact ho)
    · rcases hal with rfl | rfl
      · exact ⟨rfl, rfl, rfl, by simp [setBlock], Nat.le_refl _⟩
      · exact ⟨rfl, rfl, rfl, by simp [setBlock], Nat.le_succ _⟩
theorem Nx.mapEntry (i : Nat) {g : κ → Value} {f : α → Value} {b r : Nat} {l rest : List (κ × α)} {p : κ × α} (hx : evo e x = some (.pointer (some ⟨r, 0, none⟩))) (hlt : Nat.blt d C.n = true) (hk : nthL R i = some (IterAt g f b r l rest p))
    (h : Nx C ((d, .tuple #[g p.1, f p.2]) :: e) I R K) : Nx C e I R (opK C.P ⟨some d, .entry x, ty, pos, after, gd⟩ K Q) :=
  Nx.op_run rfl hlt (fun a w ha hw => by
    obtain ⟨⟨m, ⟨m1, m2, hd, rfl, ⟨es, clock, seen, en, L, hb, hr, he, hs1, hen, hk1, hk2, _, _⟩, h2⟩, hs⟩, hst⟩ := hw.ent (Ent.pull i R _ (nthL_eq.symm.trans hk))
    have hbw : w.heap[b]? = some (.map es clock) := hs.own _ _ (PH.le_or_left _ _ _ _ hb)
    have hrw : w.heap[r]? = some (.mapIter (some b) clock (seen.push en.born) clock) := hs.own _ _ (PH.le_or_left _ _ _ _ hr)
    simp only [execOp, ha.eval hx]
    rw [← hk1, ← hk2]
    exact run_v (run_entry_at w r b clock seen es clock en hrw hbw hen hs1.2)) h
variable [DecidableEq κ]
theorem findI_key {g : κ → Value} {f : α → Value} {k : κ} {j : Nat} {v0 : α} : ∀ {es : List MapEntry} {l : List (κ × α)} {i : Nat}, entOk g f es l → mfindI l k i = some (j, v0) → i ≤ j ∧ (es[j - i]?).map (·.key) = some (g k)
  | [], [], i, _, h2 => by simp [mfindI] at h2
  | [], _ :: _, i, h1, _ => by simp [entOk] at h1
  | e :: es, [], i, h1, _ => by simp [entOk] at h1
  | e :: es, (q, u) :: l, i, h1, h2 => by
    simp only [entOk, List.map_cons, List.cons.injEq, Prod.mk.injEq] at h1
    obtain ⟨⟨a1, a2⟩, a3⟩ := h1
    unfold mfindI at h2
    by_cases hk : k = q
    · rw [if_pos hk] at h2
      simp only [Option.some.injEq, Prod.mk.injEq] at h2
      obtain ⟨rfl, rfl⟩ := h2
      refine ⟨Nat.le_refl _, ?_⟩
      rw [Nat.sub_self]
      simp [a1, hk]
    · rw [if_neg hk] at h2
      obtain ⟨b1, b2⟩ := findI_key a3 h2
      refine ⟨by omega, ?_⟩
      rw [show j - i = (j - (i + 1)) + 1 by omega, List.getElem?_cons_succ]
      exact b2
theorem run_update_entS {g : κ → Value} {f : α → Value} {P : Program} {t kt et : TypeId} {b clock : Nat} {es : Array MapEntry} {l : List (κ × α)} {w : World} (K : KeyEnc P kt g) (ht : P.underlying t = some (.map kt et)) (hb : w.heap[b]? = some (.map es clock)) (h : entOk g f es.toList l) (hs : Stamped es clock) (k : κ) (v : α) :
    ∃ es' clock', (Instr.mapUpdate t (.map (some b)) (g k) (f v)).run P w = .ok () { w with heap := w.heap.setIfInBounds b (.map es' clock') } ∧ entOk g f es'.toList (mset l k v) ∧ Stamped es' clock' := by
  obtain ⟨es1, clock1, hr1, he1⟩ := run_update_ent K ht hb h k v
  have hlt := (Array.getElem?_eq_some_iff.1 hb).1
  have tell : ∀ es2 clock2, (Instr.mapUpdate t (.map (some b)) (g k) (f v)).run P w = .ok () { w with heap := w.heap.setIfInBounds b (.map es2 clock2) } → es1 = es2 ∧ clock1 = clock2 := fun es2 clock2 h2 => by
    rw [hr1] at h2
    have hw := (Result.ok.inj h2).2
    have hh : (w.heap.setIfInBounds b (.map es1 clock1))[b]? = (w.heap.setIfInBounds b (.map es2 clock2))[b]? := congrArg (fun W : World => W.heap[b]?) hw
    simp [hlt] at hh
    exact hh
  refine ⟨es1, clock1, hr1, he1, ?_⟩
  cases hm : mfindI l k 0 with
  | none =>
    obtain ⟨rfl, rfl⟩ := tell (es.push ⟨g k, f v, clock⟩) (clock + 1) (by
      unfold Instr.mapUpdate
      rw [Sem.run_bind, run_underlying ht, Result.andThen_ok]
      simp only [Sem.run_bind, MapKept.run_getObj_map hb, Result.andThen_ok, K.check, run_findKey_ent K h, hm, Option.map_none, MapKept.run_setObj_map _ hb])
    exact stamped_push hs _ _
  | some p =>
    obtain ⟨j, v0⟩ := p
    have hkey := findI_key h hm
    rw [Nat.sub_zero] at hkey
    have hkey : es[j]?.map (·.key) = some (g k) := by rw [← Array.getElem?_toList]; exact hkey.2
    have hk : ∃ k0 v', (Instr.mapUpdate t (.map (some b)) (g k) (f v)).run P w = .ok () { w with heap := w.heap.setIfInBounds b (.map (es.modify j fun e => { e with key := k0, val := v' }) clock) } := by
      unfold Instr.mapUpdate
      rw [Sem.run_bind, run_underlying ht, Result.andThen_ok]
      simp only [Sem.run_bind, MapKept.run_getObj_map hb, Result.andThen_ok, K.check, run_findKey_ent K h, hm, Option.map_some, hkey, Option.getD_some, keyThatStays, K.bits, if_true, Sem.run_pure, MapKept.run_setObj_map _ hb]
      exact ⟨_, _, rfl⟩
    obtain ⟨k0, v', hk⟩ := hk
    obtain ⟨rfl, rfl⟩ := tell _ _ hk
    exact stamped_modify hs _ _ _
theorem Nx.mapSetS (i : Nat) (g : κ → Value) (f : α → Value) {kt et : TypeId} {b : Nat} {l : List (κ × α)} {k : κ} {v : α} {op : Op} (hop : op = .insert t x y z ∨ op = .mapUpdate t x y z) (hx : evo e x = some (.map (some b))) (hy : evo e y = some (g k)) (hz : evo e z = some (f v))
    (KE : KeyEnc C.P kt g) (ht : C.P.underlying t = some (.map kt et)) (hk : nthL R i = some (MapS g f b l)) (h : Nx C e I (MapS g f b (mset l k v) :: R.eraseIdx i) K) : Nx C e I R (opK C.P ⟨none, op, ty, pos, after, gd⟩ K Q) := by
  refine Nx.ent (Ent.pull i R _ (nthL_eq.symm.trans hk)) ?_
  intro a w ha hw
  obtain ⟨⟨m, ⟨m1, m2, hd, rfl, ⟨es, clock, hb1, he, hs1⟩, h2⟩, hs⟩, hst⟩ := hw
  have hw0 : St C.W I ((fun m => m b = some (.map es clock)) :: R.eraseIdx i) w := ⟨⟨_, ⟨m1, m2, hd, rfl, hb1, h2⟩, hs⟩, hst⟩
  have hb : w.heap[b]? = some (.map es clock) := hs.own _ _ (PH.le_or_left _ _ _ _ hb1)
  obtain ⟨es', clock', hr, he', hs'⟩ := run_update_entS KE ht hb he hs1 k v
  unfold opK Oper.wp
  have hrun : (execOp a.eval ⟨none, op, ty, pos, after, gd⟩).run C.P w = .ok .skip { w with heap := w.heap.setIfInBounds b (.map es' clock') } := by
    rcases hop with rfl | rfl <;>
    · simp only [execOp, ha.eval hx, ha.eval hy, ha.eval hz]
      rw [Sem.run_bind, hr]
      rfl
  rw [hrun]
  have hlt := (Array.getElem?_eq_some_iff.1 hb).1
  refine h _ _ ha (hw0.upd (o := .map es' clock') (b := b) (fun m hm => ⟨by rw [hm]; rfl, es', clock', by simp, he', hs'⟩) (by simp [hlt]) (fun j hne o' ho => ?_) ⟨rfl, rfl, rfl, by simp, Nat.le_refl _⟩)
  simp only
  rw [Array.getElem?_setIfInBounds_ne (fun h => hne h.symm)]
  exact ho
end
end Go.Eng
/- Contracts of functions of the given program, and lemmas about plain lists and numbers: what the laws of this seat lean on. -/
namespace Go.Proofs.YtjnhoemgceghlaaGreat
open Go.Eng Go.Sol
/-! Counting through all tables of some cells -/
def prodD : List Int → Int
  | [] => 1
  | s :: S => s * prodD S
def numD : List Int → List Int → Int
  | _ :: S, d :: D => d * prodD S + numD S D
  | _, _ => 0
def InD : List Int → List Int → Prop
  | [], [] => True
  | s :: S, d :: D => (0 ≤ d ∧ d < s) ∧ InD S D
  | _, _ => False
def nextD : List Int → List Int → Option (List Int)
  | s :: S, d :: D => match nextD S D with
    | some D' => some (d :: D')
    | none => if d + 1 < s then some ((d + 1) :: D.map fun _ => 0) else none
  | _, _ => none
theorem InD.len : ∀ {S D : List Int}, InD S D → D.length = S.length
  | [], [], _ => rfl
  | [], _ :: _, h => h.elim
  | _ :: _, [], h => h.elim
  | _ :: S, _ :: D, h => by rw [List.length_cons, List.length_cons, InD.len h.2]
theorem InD.at : ∀ {S D : List Int}, InD S D → ∀ {j : Nat}, j < S.length → 0 ≤ D.getD j 0 ∧ D.getD j 0 < S.getD j 0
  | _ :: S, _ :: D, h, 0, _ => h.1
  | _ :: S, _ :: D, h, j + 1, hj => InD.at h.2 (j := j) (by simpa using hj)
theorem InD.of : ∀ {S D : List Int}, D.length = S.length → (∀ j, j < S.length → 0 ≤ D.getD j 0 ∧ D.getD j 0 < S.getD j 0) → InD S D
  | [], [], _, _ => trivial
  | [], _ :: _, h, _ => by simp at h
  | _ :: _, [], h, _ => by simp at h
  | s :: S, d :: D, h, hj => ⟨hj 0 (by simp), InD.of (by simpa using h) fun j hjl => hj (j + 1) (by simpa using hjl)⟩
theorem numD_bd : ∀ {S D : List Int}, InD S D → 0 ≤ numD S D ∧ numD S D < prodD S
  | [], [], _ => by simp [numD, prodD]
  | [], _ :: _, h => h.elim
  | _ :: _, [], h => h.elim
  | s :: S, d :: D, ⟨⟨h1, h2⟩, h⟩ => by
    obtain ⟨h3, h4⟩ := numD_bd h
    rw [numD, prodD]
    have h5 : 0 ≤ d * prodD S := Int.mul_nonneg h1 (by omega)
    have h6 : (d + 1) * prodD S ≤ s * prodD S := Int.mul_le_mul_of_nonneg_right (by omega) (by omega)
    rw [Int.add_mul, Int.one_mul] at h6
    constructor <;> omega
theorem zeros_in : ∀ {S D : List Int}, InD S D → InD S (D.map fun _ => 0) ∧ numD S (D.map fun _ => 0) = 0
  | [], [], _ => ⟨trivial, rfl⟩
  | [], _ :: _, h => h.elim
  | _ :: _, [], h => h.elim
  | s :: S, d :: D, ⟨h1, h⟩ => by
    obtain ⟨h2, h3⟩ := zeros_in h
    refine ⟨⟨⟨Int.le_refl _, by show (0 : Int) < s; omega⟩, h2⟩, ?_⟩
    rw [List.map_cons, numD, h3, Int.zero_mul]; rfl
theorem nextD_some : ∀ {S D D' : List Int}, InD S D → nextD S D = some D' → InD S D' ∧ numD S D' = numD S D + 1
  | [], [], _, _, h => by simp [nextD] at h
  | [], _ :: _, _, h, _ => h.elim
  | _ :: _, [], _, h, _ => h.elim
  | s :: S, d :: D, D', ⟨h1, h⟩, hn => by
    unfold nextD at hn
    cases hx : nextD S D with
    | some E =>
      rw [hx] at hn
      obtain rfl := Option.some.inj hn
      obtain ⟨h2, h3⟩ := nextD_some h hx
      exact ⟨⟨h1, h2⟩, by rw [numD, numD, h3]; omega⟩
    | none =>
      rw [hx] at hn
      dsimp only at hn
      split at hn
      · rename_i hlt
        obtain rfl := Option.some.inj hn
        obtain ⟨z1, z2⟩ := zeros_in h
        refine ⟨⟨⟨by omega, hlt⟩, z1⟩, ?_⟩
        have hN : numD S D = prodD S - 1 := nextD_none h hx
        rw [numD, numD, z2, hN, Int.add_mul, Int.one_mul]; omega
      · cases hn
where nextD_none : ∀ {S D : List Int}, InD S D → nextD S D = none → numD S D = prodD S - 1
  | [], [], _, _ => rfl
  | [], _ :: _, h, _ => h.elim
  | _ :: _, [], h, _ => h.elim
  | s :: S, d :: D, ⟨h1, h⟩, hn => by
    unfold nextD at hn
    cases hx : nextD S D with
    | some E => rw [hx] at hn; cases hn
    | none =>
      rw [hx] at hn
      dsimp only at hn
      split at hn
      · cases hn
      · have hd : d = s - 1 := by omega
        rw [numD, prodD, nextD_none h hx, hd, Int.sub_mul, Int.one_mul]; omega
theorem nextD_end {S D : List Int} (h : InD S D) (hn : nextD S D = none) : numD S D = prodD S - 1 := nextD_some.nextD_none h hn
theorem numD_inj : ∀ {S D E : List Int}, InD S D → InD S E → numD S D = numD S E → D = E
  | [], [], [], _, _, _ => rfl
  | [], _ :: _, _, h, _, _ => h.elim
  | [], [], _ :: _, _, h, _ => h.elim
  | _ :: _, [], _, h, _, _ => h.elim
  | _ :: _, _ :: _, [], _, h, _ => h.elim
  | s :: S, d :: D, e :: E, ⟨h1, h⟩, ⟨k1, k⟩, he => by
    obtain ⟨a1, a2⟩ := numD_bd h
    obtain ⟨b1, b2⟩ := numD_bd k
    rw [numD, numD] at he
    have hde : d = e := by
      rcases Int.lt_trichotomy d e with hlt | heq | hgt
      · have h6 : (d + 1) * prodD S ≤ e * prodD S := Int.mul_le_mul_of_nonneg_right (by omega) (by omega)
        rw [Int.add_mul, Int.one_mul] at h6
        omega
      · exact heq
      · have h6 : (e + 1) * prodD S ≤ d * prodD S := Int.mul_le_mul_of_nonneg_right (by omega) (by omega)
        rw [Int.add_mul, Int.one_mul] at h6
        omega
    subst hde
    rw [numD_inj h k (by omega)]
theorem nextD_go : ∀ {S D : List Int} {j : Nat}, D.length = S.length → j < D.length → nextD (S.drop (j + 1)) (D.drop (j + 1)) = none → D.getD j 0 + 1 < S.getD j 0 → nextD S D = some (D.take j ++ (D.getD j 0 + 1) :: (D.drop (j + 1)).map fun _ => 0)
  | [], D, j, hl, hj, _, _ => by rw [List.length_nil] at hl; omega
  | _ :: _, [], j, hl, hj, _, _ => by simp at hj
  | s :: S, d :: D, 0, hl, hj, hn, hlt => by
    simp only [List.drop_succ_cons, List.drop_zero] at hn
    unfold nextD
    rw [hn]
    dsimp only
    rw [if_pos (by simpa using hlt)]
    rfl
  | s :: S, d :: D, j + 1, hl, hj, hn, hlt => by
    have := nextD_go (S := S) (D := D) (j := j) (by simpa using hl) (by simpa using hj) (by simpa using hn) (by simpa using hlt)
    unfold nextD
    rw [this]
    rfl
theorem nextD_stop {S D : List Int} {j : Nat} (hl : D.length = S.length) (hj : j < D.length) (hn : nextD (S.drop (j + 1)) (D.drop (j + 1)) = none) (hlt : ¬ D.getD j 0 + 1 < S.getD j 0) : nextD (S.drop j) (D.drop j) = none := by
  rw [List.drop_eq_getElem_cons (show j < S.length by omega), List.drop_eq_getElem_cons hj]
  rw [List.getD_eq_getElem?_getD, List.getD_eq_getElem?_getD, List.getElem?_eq_getElem hj, List.getElem?_eq_getElem (show j < S.length by omega)] at hlt
  unfold nextD
  rw [hn]
  exact if_neg hlt
/-- Digits of which those from j on are 0. -/
def zerD (D : List Int) (j : Nat) : List Int := D.take j ++ (D.drop j).map fun _ => 0
theorem zerD_len (D : List Int) (j : Nat) : (zerD D j).length = D.length := by unfold zerD; rw [List.length_append, List.length_map, ← List.length_append, List.take_append_drop]
theorem zerD_all (D : List Int) : zerD D D.length = D := by unfold zerD; rw [List.take_length, List.drop_length, List.map_nil, List.append_nil]
theorem zerD_at {D : List Int} {i : Nat} (hi : i < D.length) : (zerD D (i + 1)).getD i 0 = D.getD i 0 := by
  unfold zerD
  rw [List.getD_eq_getElem?_getD, List.getElem?_append_left (by rw [List.length_take]; omega), List.getElem?_take_of_lt (by omega), ← List.getD_eq_getElem?_getD]
theorem zerD_set {D : List Int} {i : Nat} (v : Int) (hi : i < D.length) : (zerD D (i + 1)).set i v = D.take i ++ v :: (D.drop (i + 1)).map fun _ => 0 := by
  unfold zerD
  rw [List.set_append_left _ _ (by rw [List.length_take]; omega), List.take_succ_eq_append_getElem hi, List.set_append_right _ _ (by rw [List.length_take]; omega), List.length_take, show i - min i D.length = 0 by omega]
  simp
theorem zerD_succ {D : List Int} {i : Nat} (hi : i < D.length) : (zerD D (i + 1)).set i 0 = zerD D i := by
  rw [zerD_set 0 hi]
  unfold zerD
  rw [List.drop_eq_getElem_cons hi]
  rfl
/-- The table of some digits. -/
def tabD (n : Nat) (U : List Nat) (D : List Int) : List Int := (List.range n).map fun c => if c ∈ U then D.getD (U.idxOf c) 0 else 0
theorem tabD_len (n : Nat) (U : List Nat) (D : List Int) : (tabD n U D).length = n := by simp [tabD]
theorem tabD_get {n c : Nat} {U : List Nat} {D : List Int} (hc : c < n) : (tabD n U D).getD c 0 = if c ∈ U then D.getD (U.idxOf c) 0 else 0 := by
  unfold tabD
  rw [List.getD_eq_getElem?_getD, List.getElem?_map, List.getElem?_range hc]; rfl
theorem tabD_out {n c : Nat} {U : List Nat} {D : List Int} (hc : c ∉ U) : (tabD n U D).getD c 0 = 0 := by
  by_cases hn : c < n
  · rw [tabD_get hn, if_neg hc]
  · exact getD_ge (by rw [tabD_len]; omega)
theorem idx_at {U : List Nat} (hn : U.Nodup) {i : Nat} (hi : i < U.length) : U.getD i 0 ∈ U ∧ U.idxOf (U.getD i 0) = i := by
  rw [List.getD_eq_getElem?_getD, List.getElem?_eq_getElem hi]
  exact ⟨List.getElem_mem _, hn.idxOf_getElem i hi⟩
theorem tabD_at {n : Nat} {U : List Nat} {D : List Int} (hn : U.Nodup) {i : Nat} (hi : i < U.length) (hc : U.getD i 0 < n) : (tabD n U D).getD (U.getD i 0) 0 = D.getD i 0 := by
  obtain ⟨h1, h2⟩ := idx_at hn hi
  rw [tabD_get hc, if_pos h1, h2]
theorem tabD_set {n : Nat} {U : List Nat} {D : List Int} (hn : U.Nodup) {i : Nat} (hi : i < U.length) (hl : D.length = U.length) (hc : U.getD i 0 < n) (v : Int) : (tabD n U D).set (U.getD i 0) v = tabD n U (D.set i v) := by
  obtain ⟨h1, h2⟩ := idx_at hn hi
  refine ext_len (by rw [List.length_set, tabD_len, tabD_len]) fun c => ?_
  rw [getD_setI (by rw [tabD_len]; exact hc)]
  by_cases h : c = U.getD i 0
  · rw [if_pos h, h, tabD_get hc, if_pos h1, h2, List.getD_eq_getElem?_getD, List.getElem?_set_self (by omega)]; rfl
  · rw [if_neg h]
    by_cases hm : c ∈ U
    · by_cases hcn : c < n
      · rw [tabD_get hcn, tabD_get hcn, if_pos hm, if_pos hm, List.getD_eq_getElem?_getD, List.getD_eq_getElem?_getD, List.getElem?_set_ne]
        intro he
        apply h
        have h4 := List.getElem_idxOf (List.idxOf_lt_length_of_mem hm)
        subst he
        rw [List.getD_eq_getElem?_getD, List.getElem?_eq_getElem hi]
        exact h4.symm
      · rw [getD_ge (by rw [tabD_len]; omega), getD_ge (by rw [tabD_len]; omega)]
    · rw [tabD_out hm, tabD_out hm]
theorem room_lt : ∀ {L : List Eqn} {c : Nat} {v : Int}, v < roomOf L c ↔ v < 1000001 ∧ ∀ q ∈ L, c ∈ q.1 → v ≤ q.2 := by
  have key : ∀ (L : List Eqn) (c : Nat) (v a : Int), v < L.foldl (fun a q => if c ∈ q.1 then min a (q.2 + 1) else a) a ↔ v < a ∧ ∀ q ∈ L, c ∈ q.1 → v ≤ q.2 := by
    intro L
    induction L with
    | nil => intro c v a; simp
    | cons q L ih =>
      intro c v a
      rw [List.foldl_cons, ih]
      by_cases hc : c ∈ q.1
      · rw [if_pos hc]
        constructor
        · rintro ⟨h1, h2⟩
          refine ⟨by omega, fun p hp hpc => ?_⟩
          rcases List.mem_cons.1 hp with rfl | hp
          · omega
          · exact h2 p hp hpc
        · rintro ⟨h1, h2⟩
          have := h2 q (by simp) hc
          exact ⟨by omega, fun p hp => h2 p (by simp [hp])⟩
      · rw [if_neg hc]
        constructor
        · rintro ⟨h1, h2⟩
          refine ⟨h1, fun p hp hpc => ?_⟩
          rcases List.mem_cons.1 hp with rfl | hp
          · exact absurd hpc hc
          · exact h2 p hp hpc
        · rintro ⟨h1, h2⟩
          exact ⟨h1, fun p hp => h2 p (by simp [hp])⟩
  intro L c v
  exact key L c v 1000001
theorem sumC_le {t : List Int} : ∀ {cs : List Nat} {c : Nat}, (∀ x ∈ cs, 0 ≤ t.getD x 0) → c ∈ cs → t.getD c 0 ≤ sumC t cs
  | x :: cs, c, h, hc => by
    have h0 := h x (by simp)
    have hs : 0 ≤ sumC t cs := sumC_nonneg fun y hy => h y (by simp [hy])
    rw [sumC]
    rcases List.mem_cons.1 hc with rfl | hc
    · omega
    · have := sumC_le (fun y hy => h y (by simp [hy])) hc
      omega
theorem rooms_get {n j : Nat} {L : List Eqn} (hj : j < (touch n L).length) : (roomsOf n L).getD j 0 = roomOf L ((touch n L).getD j 0) := by
  unfold roomsOf
  rw [List.getD_eq_getElem?_getD, List.getElem?_map, List.getD_eq_getElem?_getD, List.getElem?_eq_getElem hj]; rfl
theorem rooms_len (n : Nat) (L : List Eqn) : (roomsOf n L).length = (touch n L).length := List.length_map _
/-- The solutions are the tables of digits that agree. -/
theorem tab_sol {n : Nat} {l : List EqR} (hg : ∀ q ∈ l, GoodE n q) {D : List Int} (hD : InD (roomsOf n (eqns l)) D) (hs : ∀ q ∈ eqns l, sumC (tabD n (touch n (eqns l)) D) q.1 = q.2) : tabD n (touch n (eqns l)) D ∈ solsOf n (eqns l) := by
  refine (mem_sols hg).2 ⟨tabD_len _ _ _, fun c hc => ?_, fun c hc => ?_, hs⟩
  · rw [tabD_out hc, zeros_at]
  · obtain ⟨i, hi, rfl⟩ := List.mem_iff_getElem.1 hc
    have e : (touch n (eqns l))[i] = (touch n (eqns l)).getD i 0 := by rw [List.getD_eq_getElem?_getD, List.getElem?_eq_getElem hi]; rfl
    have hc2 := (mem_touch.1 hc).1
    rw [e] at hc2 ⊢
    rw [tabD_at (touch_nd _ _) hi hc2]
    have h := hD.at (j := i) (by rw [rooms_len]; exact hi)
    rw [rooms_get hi] at h
    have := (room_lt.1 h.2).1
    omega
theorem sol_tab {n : Nat} {l : List EqR} (hg : ∀ q ∈ l, GoodE n q) {s : List Int} (hs : s ∈ solsOf n (eqns l)) : ∃ D, InD (roomsOf n (eqns l)) D ∧ s = tabD n (touch n (eqns l)) D := by
  obtain ⟨h1, h2, h3, h4⟩ := (mem_sols hg).1 hs
  have hat : ∀ i, i < (touch n (eqns l)).length → ((touch n (eqns l)).map fun c => s.getD c 0).getD i 0 = s.getD ((touch n (eqns l)).getD i 0) 0 := fun i hi => by
    rw [List.getD_eq_getElem?_getD, List.getElem?_map, List.getD_eq_getElem?_getD (l := touch n (eqns l)), List.getElem?_eq_getElem hi]; rfl
  have hmem : ∀ i, i < (touch n (eqns l)).length → (touch n (eqns l)).getD i 0 ∈ touch n (eqns l) := fun i hi => (idx_at (touch_nd _ _) hi).1
  refine ⟨(touch n (eqns l)).map fun c => s.getD c 0, InD.of (by rw [List.length_map, rooms_len]) fun j hj => ?_, ext_len (by rw [h1, tabD_len]) fun c => ?_⟩
  · rw [rooms_len] at hj
    rw [hat j hj, rooms_get hj]
    have hm := hmem j hj
    refine ⟨(h3 _ hm).1, room_lt.2 ⟨by have := (h3 _ hm).2; omega, fun q hq hc => ?_⟩⟩
    rw [← h4 q hq]
    refine sumC_le (fun x hx => ?_) hc
    by_cases hxn : x ∈ touch n (eqns l)
    · exact (h3 x hxn).1
    · rw [h2 x hxn, zeros_at]; exact Int.le_refl _
  · by_cases hc : c ∈ touch n (eqns l)
    · obtain ⟨i, hi, rfl⟩ := List.mem_iff_getElem.1 hc
      have e : (touch n (eqns l))[i] = (touch n (eqns l)).getD i 0 := by rw [List.getD_eq_getElem?_getD, List.getElem?_eq_getElem hi]; rfl
      have hc2 := (mem_touch.1 hc).1
      rw [e] at hc2 ⊢
      rw [tabD_at (touch_nd _ _) hi hc2, hat i hi]
    · rw [tabD_out hc, h2 c hc, zeros_at]
/-- What a cell can be, ascending. -/
def valsOf (n : Nat) (L : List Eqn) (k : Nat) : List Int := Lib.compact (srtL ((solsOf n L).map fun s => s.getD k 0))
theorem vals_set (n : Nat) (L : List Eqn) (k : Nat) : IsSet (valsOf n L k) (fun z => ∃ s ∈ solsOf n L, s.getD k 0 = z) := by
  have h := set_of ((solsOf n L).map fun s => s.getD k 0)
  exact ⟨h.asc, fun z => by rw [show valsOf n L k = Lib.compact (srtL ((solsOf n L).map fun s => s.getD k 0)) from rfl, h.mem, List.mem_map]⟩
theorem srt_vals {n : Nat} {L : List Eqn} {k : Nat} {xs : List Int} (hn : xs.Nodup) (hm : ∀ z, z ∈ xs ↔ ∃ s ∈ solsOf n L, s.getD k 0 = z) : srtL xs = valsOf n L k := by
  have hv := vals_set n L k
  refine asc_ext ?_ hv.asc fun z => by rw [srtL_mem, hm, hv.mem]
  have h1 := srtL_sorted xs
  have h2 : (srtL xs).Nodup := (List.mergeSort_perm xs _).nodup_iff.2 hn
  exact (h1.and h2).imp fun h => Int.lt_iff_le_and_ne.2 h
theorem mset_keys {xs : List (Int × Unit)} {k z : Int} : z ∈ (mset xs k ()).map (·.1) ↔ z = k ∨ z ∈ xs.map (·.1) := by
  induction xs with
  | nil => simp [mset]
  | cons p xs ih =>
    obtain ⟨q, u⟩ := p
    unfold mset
    by_cases h : k = q
    · rw [if_pos h, h]; simp
    · rw [if_neg h, List.map_cons, List.mem_cons, ih, List.map_cons, List.mem_cons]
      constructor
      · rintro (h | h | h)
        · exact .inr (.inl h)
        · exact .inl h
        · exact .inr (.inr h)
      · rintro (h | h | h)
        · exact .inr (.inl h)
        · exact .inl h
        · exact .inr (.inr h)
theorem mset_nodup {xs : List (Int × Unit)} {k : Int} (h : (xs.map (·.1)).Nodup) : ((mset xs k ()).map (·.1)).Nodup := by
  induction xs with
  | nil => simp [mset]
  | cons p xs ih =>
    obtain ⟨q, u⟩ := p
    unfold mset
    by_cases hk : k = q
    · rw [if_pos hk]; exact h
    · rw [if_neg hk]
      rw [List.map_cons, List.nodup_cons] at h ⊢
      exact ⟨fun hm => (mset_keys.1 hm).elim (fun e => hk e.symm) h.1, ih h.2⟩
end Go.Proofs.YtjnhoemgceghlaaGreat
/- Contracts of functions of the given program, and lemmas about plain lists and numbers: what the laws of this seat lean on. -/
namespace Go.Proofs.YtjnhoemgceghlaaGreat
open Go.Eng Go.Sol
attribute [local irreducible] opK wpList Code.wp Exit.then Exit.inBlock fnPost bodyPost Nx Calls Oper.wp Rd Rds Wr Ent Stars Blk Again Vec FnSpec wpMix QRun Stop Upto wpAt
attribute [local irreducible] wpForkF
/-! The first table, and the next one -/
abbrev natI (U : List Nat) : List Int := U.map Int.ofNat
set_option maxRecDepth 10000 in
set_option maxHeartbeats 8000000 in
theorem dstart_r1 (w : World) (K : Act → World → Prop) (Q : Exit → Act → World → Prop) (hQ : PanicOk Q) (F : Res) (A : Option Addr) (c : Nat) (l : List EqR) (n : Nat) (I : PH) (hl : Eqs I A c l) (hg : ∀ q ∈ l, GoodE n q) (hn : n ≤ 4096) (h9 : (allC l).length ≤ 1000000)
    (h : ∀ At ct bt b, Nx ⟨Tryz.prog, 55, w⟩ [(0, .int .i64 (n : Int)), (1, .slice A l.length c), (5, .pointer (some ⟨b, 0, none⟩))] I [Blk b 142 [.slice At (touch n (eqns l)).length ct, .slice none 0 0, .slice (some ⟨bt, 0, none⟩) n n], iR At ct (natI (touch n (eqns l))), Vec 3 1 (some ⟨bt, 0, none⟩) n n ((List.replicate n (0 : Int)).map (Value.int .i64)), F] K) :
    Nx ⟨Tryz.prog, 55, w⟩ [(0, .int .i64 (n : Int)), (1, .slice A l.length c)] I [F] (Code.wp Tryz.prog (cl (cr (bodyOf Tryz.f94))) (Exit.then K Q)) := by
  have hlen := hl.len
  have hT := Touched_spec A c l n I hl hg h9
  refine Nx.p_forkF (id := 1) rfl [5, 6, 7] [5, 6, 7] [6] [] rfl rfl (by kernel_rfl) (by kernel_rfl) (PanicOk.then_ hQ) (Ent.nil _) ?_
  refine Nx.forkF_qs [0, 1, 3] 5 rfl (by kernel_rfl) ?_
  repeat' first
    | ((with_reducible refine Nx.is_wp ?_); first | refine Nx.wo ?_ | refine Nx.zp (fun hc => ?_) (fun hc => ?_))
    | (refine Nx.zo ?_; first | refine Nx.opr rfl rfl ?_ | refine Nx.so ?_ | refine Nx.sb (fun bx => ?_) | refine Nx.sa (fun A2 c2 => ?_))
    | ((with_reducible refine Nx.is_at ?_); first | refine Nx.a ?_ | refine Nx.zd ?_ | refine Nx.zs (fun hc => ?_) (fun hc => ?_))
    | ((with_reducible refine Nx.is_mix ?_); first | refine Nx.m ?_ | refine Nx.zm ?_ | refine Nx.zt (fun hc => ?_) (fun hc => ?_))
    | refine Nx.zx ?_ | fail
  refine Nx.forkF2 (i := 2) (j := 4) (by kernel_rfl) rfl rfl rfl rfl ?_ ?_
  · refine Nx.call (Rpre := []) rfl rfl rfl (by kernel_rfl) rfl hT (Ent.refl _) ?_
    rintro _ _ ⟨At, ct, rfl, rfl⟩
    refine Nx.mix_S (Ent.nil _) ?_
    refine Nx.forkF1 (i := 4) (by kernel_rfl) rfl rfl ?_
    refine Nx.makeInts rfl rfl rfl rfl rfl rfl rfl rfl (by omega) (fun bt => ?_)
    refine Nx.mix_S (Ent.nil _) ?_
    refine Nx.forkF_fin (by kernel_rfl) (by kernel_rfl) rfl ?_
    repeat' first
      | ((with_reducible refine Nx.is_wp ?_); first | refine Nx.wo ?_ | refine Nx.zp (fun hc => ?_) (fun hc => ?_))
      | (refine Nx.zo ?_; first | refine Nx.opr rfl rfl ?_ | refine Nx.so ?_ | refine Nx.sb (fun bx => ?_) | refine Nx.sa (fun A2 c2 => ?_))
      | ((with_reducible refine Nx.is_at ?_); first | refine Nx.a ?_ | refine Nx.zd ?_ | refine Nx.zs (fun hc => ?_) (fun hc => ?_))
      | ((with_reducible refine Nx.is_mix ?_); first | refine Nx.m ?_ | refine Nx.zm ?_ | refine Nx.zt (fun hc => ?_) (fun hc => ?_))
      | refine Nx.zx ?_ | fail
    exact Nx.weak (by exact ⟨rfl, rfl, rfl, trivial⟩) (by unfold iR; (exact Ent.auto)) (h At ct bt _)
  · refine Nx.makeInts rfl rfl rfl rfl rfl rfl rfl rfl (by omega) (fun bt => ?_)
    refine Nx.mix_S (Ent.nil _) ?_
    refine Nx.forkF1 (i := 2) (by kernel_rfl) rfl rfl ?_
    refine Nx.call (Rpre := []) rfl rfl rfl (by kernel_rfl) rfl hT (Ent.refl _) ?_
    rintro _ _ ⟨At, ct, rfl, rfl⟩
    refine Nx.mix_S (Ent.nil _) ?_
    refine Nx.forkF_fin (by kernel_rfl) (by kernel_rfl) rfl ?_
    repeat' first
      | ((with_reducible refine Nx.is_wp ?_); first | refine Nx.wo ?_ | refine Nx.zp (fun hc => ?_) (fun hc => ?_))
      | (refine Nx.zo ?_; first | refine Nx.opr rfl rfl ?_ | refine Nx.so ?_ | refine Nx.sb (fun bx => ?_) | refine Nx.sa (fun A2 c2 => ?_))
      | ((with_reducible refine Nx.is_at ?_); first | refine Nx.a ?_ | refine Nx.zd ?_ | refine Nx.zs (fun hc => ?_) (fun hc => ?_))
      | ((with_reducible refine Nx.is_mix ?_); first | refine Nx.m ?_ | refine Nx.zm ?_ | refine Nx.zt (fun hc => ?_) (fun hc => ?_))
      | refine Nx.zx ?_ | fail
    exact Nx.weak (by exact ⟨rfl, rfl, rfl, trivial⟩) (by unfold iR; (exact Ent.auto)) (h At ct bt _)
theorem nat_at {U : List Nat} {i : Nat} (hi : i < U.length) : (natI U).getD i default = ((U.getD i 0 : Nat) : Int) := by
  unfold natI
  rw [List.getD_eq_getElem?_getD, List.getElem?_map, List.getElem?_eq_getElem hi, List.getD_eq_getElem?_getD, List.getElem?_eq_getElem hi]; rfl
def DStartPost (n : Nat) (l : List EqR) (v : Value) (R' : List Res) : Prop :=
  ∃ (b : Nat) (At : Option Addr) (ct : Nat) (As : Option Addr) (cs bt : Nat), v = .pointer (some ⟨b, 0, none⟩) ∧ R' = [Blk b 142 [.slice At (touch n (eqns l)).length ct, .slice As (roomsOf n (eqns l)).length cs, .slice (some ⟨bt, 0, none⟩) n n], iR At ct (natI (touch n (eqns l))), iR As cs (roomsOf n (eqns l)), Vec 3 1 (some ⟨bt, 0, none⟩) n n ((List.replicate n (0 : Int)).map (Value.int .i64))]
set_option maxRecDepth 10000 in
set_option maxHeartbeats 16000000 in
theorem dstart_spec (A : Option Addr) (c : Nat) (l : List EqR) (n : Nat) (I : PH) (hl : Eqs I A c l) (hg : ∀ q ∈ l, GoodE n q) (hn : n ≤ 4096) (h9 : (allC l).length ≤ 1000000) :
    FnSpec Tryz.prog 94 [.int .i64 (n : Int), .slice A l.length c] I [] (DStartPost n l) := by
  have hlen := hl.len
  refine FnSpec.enterP Tryz.func94 rfl Tryz.ntmps94 rfl fun w F => ?_
  repeat' first
    | ((with_reducible refine Nx.is_wp ?_); first | refine Nx.wo ?_ | refine Nx.zp (fun hc => ?_) (fun hc => ?_))
    | (refine Nx.zo ?_; first | refine Nx.opr rfl rfl ?_ | refine Nx.so ?_ | refine Nx.sb (fun bx => ?_) | refine Nx.sa (fun A2 c2 => ?_))
    | ((with_reducible refine Nx.is_at ?_); first | refine Nx.a ?_ | refine Nx.zd ?_ | refine Nx.zs (fun hc => ?_) (fun hc => ?_))
    | ((with_reducible refine Nx.is_mix ?_); first | refine Nx.m ?_ | refine Nx.zm ?_ | refine Nx.zt (fun hc => ?_) (fun hc => ?_))
    | refine Nx.zx ?_ | fail
  refine Nx.weak (by exact ⟨rfl, rfl, trivial⟩) (by (exact Ent.auto)) (dstart_r1 w _ _ (by repeat first | exact PanicOk.fn | refine PanicOk.then_ ?_ | refine PanicOk.inB ?_) F A c l n I hl hg hn h9 fun At ct bt b => ?_)
  have hul : (touch n (eqns l)).length ≤ n := by unfold touch; exact Nat.le_trans (List.length_filter_le _ _) (by simp)
  have hin : ∀ i, i < (touch n (eqns l)).length → (touch n (eqns l)).getD i 0 < n := fun i hi => (mem_touch.1 (idx_at (touch_nd _ _) hi).1).1
  have hrl := rooms_len n (eqns l)
  have hrg : ∀ i, i < (touch n (eqns l)).length → (roomsOf n (eqns l)).getD i default = roomOf (eqns l) ((touch n (eqns l)).getD i 0) := fun i hi => rooms_get hi
  unfold DStartPost
  generalize touch n (eqns l) = U at hul hin hrl hrg
  generalize roomsOf n (eqns l) = rs at hrl hrg
  refine Nx.ent (R' := [iR At ct (natI U), Blk b 142 [.slice At U.length ct, .slice none 0 0, .slice (some ⟨bt, 0, none⟩) n n], Vec 3 1 (some ⟨bt, 0, none⟩) n n ((List.replicate n (0 : Int)).map (Value.int .i64)), F]) (by (exact Ent.auto)) ?_
  repeat' first
    | ((with_reducible refine Nx.is_wp ?_); first | refine Nx.wo ?_ | refine Nx.zp (fun hc => ?_) (fun hc => ?_))
    | (refine Nx.zo ?_; first | refine Nx.opr rfl rfl ?_ | refine Nx.so ?_ | refine Nx.sb (fun bx => ?_) | refine Nx.sa (fun A2 c2 => ?_))
    | ((with_reducible refine Nx.is_at ?_); first | refine Nx.a ?_ | refine Nx.zd ?_ | refine Nx.zs (fun hc => ?_) (fun hc => ?_))
    | ((with_reducible refine Nx.is_mix ?_); first | refine Nx.m ?_ | refine Nx.zm ?_ | refine Nx.zt (fun hc => ?_) (fun hc => ?_))
    | refine Nx.zx ?_ | fail
  refine Nx.p_loop (σ := Nat × Option Addr × Nat) (fun s => [(1, .slice A l.length c), (5, .pointer (some ⟨b, 0, none⟩)), (21, .slice At U.length ct), (22, .int .i64 U.length), (23, .int .i64 (s.1 : Int))])
    (fun s => [iR At ct (natI U), iR s.2.1 s.2.2 (rs.take s.1), Blk b 142 [.slice At U.length ct, .slice s.2.1 (rs.take s.1).length s.2.2, .slice (some ⟨bt, 0, none⟩) n n], Vec 3 1 (some ⟨bt, 0, none⟩) n n ((List.replicate n (0 : Int)).map (Value.int .i64)), F]) (fun s => s.1 ≤ U.length) (fun s => U.length - s.1) (0, none, 0) rfl (Nat.zero_le _) ⟨rfl, rfl, rfl, rfl, rfl, trivial⟩ ((Ent.vec_nil 3 1 _).trans (by (exact Ent.auto))) ?_
  rintro ⟨k, As, cs⟩ hk
  dsimp only at hk ⊢
  by_cases hkl : k < U.length
  case neg =>
    rw [List.take_of_length_le (by omega)]
    repeat' first
      | ((with_reducible refine Nx.is_wp ?_); first | refine Nx.wo ?_ | refine Nx.zp (fun hc => ?_) (fun hc => ?_))
      | (refine Nx.zo ?_; first | refine Nx.opr rfl rfl ?_ | refine Nx.so ?_ | refine Nx.sb (fun bx => ?_) | refine Nx.sa (fun A2 c2 => ?_))
      | ((with_reducible refine Nx.is_at ?_); first | refine Nx.a ?_ | refine Nx.zd ?_ | refine Nx.zs (fun hc => ?_) (fun hc => ?_))
      | ((with_reducible refine Nx.is_mix ?_); first | refine Nx.m ?_ | refine Nx.zm ?_ | refine Nx.zt (fun hc => ?_) (fun hc => ?_))
      | refine Nx.zx ?_ | fail
    exact Nx.ret_fn rfl [_, _, _, _] ⟨b, At, ct, As, cs, bt, rfl, rfl⟩ (by (exact Ent.auto))
  have hik := hin k hkl
  have hrk := hrg k hkl
  have hcr : ∀ (W : World) (R : List Res), Rd W I (iR At ct (natI U) :: R) ((ad At).add (k * 1)) (.int .i64 ((U.getD k 0 : Nat) : Int)) := fun W R => by
    have h := Rd.vecEl (W := W) (I := I) (R := iR At ct (natI U) :: R) 0 (f := Value.int .i64) (l := natI U) (i := k) rfl (by rw [List.length_map]; exact hkl)
    rw [nat_at hkl] at h
    exact h
  generalize U.getD k 0 = y at hik hrk hcr
  have hts := take_snocJ (l := rs) (k := k) (by omega)
  rw [hrk] at hts
  have htl : (rs.take k).length = k := by rw [List.length_take]; omega
  refine Nx.vec_fact fun _ hv2 _ hAt => ?_
  rw [List.length_map] at hv2 hAt
  repeat' first
    | ((with_reducible refine Nx.is_wp ?_); first | refine Nx.wo ?_ | refine Nx.zp (fun hc => ?_) (fun hc => ?_))
    | (refine Nx.zo ?_; first | refine Nx.opr rfl rfl ?_ | refine Nx.indexAddr_nat rfl rfl rfl rfl rfl hkl (hAt (by omega)) ?_ | refine Nx.load rfl rfl rfl (hcr _ _) ?_ | refine Nx.so ?_ | refine Nx.sb (fun bx => ?_) | refine Nx.sa (fun A2 c2 => ?_))
    | ((with_reducible refine Nx.is_at ?_); first | refine Nx.a ?_ | refine Nx.zd ?_ | refine Nx.zs (fun hc => ?_) (fun hc => ?_))
    | ((with_reducible refine Nx.is_mix ?_); first | refine Nx.m ?_ | refine Nx.zm ?_ | refine Nx.zt (fun hc => ?_) (fun hc => ?_))
    | refine Nx.zx ?_ | fail
  refine Nx.p_loop (σ := Nat) (fun j => [(1, .slice A l.length c), (5, .pointer (some ⟨b, 0, none⟩)), (21, .slice At U.length ct), (22, .int .i64 U.length), (23, .int .i64 (k : Int)), (7, .int .i64 (y : Int)), (8, .int .i64 (roomOf (eqns (l.take j)) y)), (27, .slice A l.length c), (28, .int .i64 l.length), (29, .int .i64 (j : Int))])
    (fun _ => [iR At ct (natI U), iR As cs (rs.take k), Blk b 142 [.slice At U.length ct, .slice As (rs.take k).length cs, .slice (some ⟨bt, 0, none⟩) n n], Vec 3 1 (some ⟨bt, 0, none⟩) n n ((List.replicate n (0 : Int)).map (Value.int .i64)), F]) (fun j => j ≤ l.length) (fun j => l.length - j) 0 rfl (Nat.zero_le _) ⟨rfl, rfl, rfl, rfl, rfl, rfl, rfl, rfl, rfl, rfl, trivial⟩ (by (exact Ent.auto)) ?_
  intro j hj
  have hj : j ≤ l.length := hj
  by_cases hjl : j < l.length
  · have hinq := hl.inner _ (getD_memQ hjl)
    have hgq := hg _ (getD_memQ hjl)
    have hes := eqns_snoc hjl
    have hrds : ∀ (W : World) (R : List Res), Rds W I R ((ad A).add (j * 2)) (eqC (l.getD j default)) := fun W R => hl.outer.rds hjl
    have hrb := room_bd (L := eqns (l.take j)) (c := y) (fun q hq => by
      obtain ⟨x, hx, rfl⟩ := List.mem_map.1 hq
      exact (hg x (List.mem_of_mem_take hx)).val.1)
    generalize l.getD j default = q at hinq hgq hes hrds
    obtain ⟨⟨Ax, cx, ix⟩, z⟩ := q
    dsimp only at hinq
    replace hrds : ∀ (W : World) (R : List Res), Rds W I R ((ad A).add (j * 2)) [.slice Ax ix.length cx, .int .i64 z] := hrds
    have hz := hgq.val
    dsimp only at hz
    have hCn := ContainsI_spec Ax cx ix (y : Int) I hinq
    have hms := mem_eqn hgq (c := y)
    dsimp only at hms
    have hrs : roomOf (eqns (l.take (j + 1))) y = if (y : Int) ∈ ix then min (roomOf (eqns (l.take j)) y) (z + 1) else roomOf (eqns (l.take j)) y := by
      rw [hes, room_snoc]
      by_cases hm : (y : Int) ∈ ix
      · rw [if_pos hm, if_pos (hms.2 hm)]; rfl
      · rw [if_neg hm, if_neg fun h => hm (hms.1 h)]
    by_cases hm : (y : Int) ∈ ix
    · rw [if_pos hm] at hrs
      rw [decide_eq_true hm] at hCn
      repeat' first
        | ((with_reducible refine Nx.is_wp ?_); first | refine Nx.wo ?_ | refine Nx.zp (fun hc => ?_) (fun hc => ?_))
        | (refine Nx.zo ?_; first | refine Nx.opr rfl rfl ?_ | refine Nx.indexAddr_nat rfl rfl rfl rfl rfl (by omega) (hl.outer.isSome (by omega) (by omega)) ?_ | refine Nx.loads rfl rfl rfl rfl (hrds _ _) rfl ?_ | refine Nx.callv rfl rfl rfl (by kernel_rfl) rfl hCn ?_ | refine Nx.so ?_ | refine Nx.sb (fun bx => ?_) | refine Nx.sa (fun A2 c2 => ?_))
        | ((with_reducible refine Nx.is_at ?_); first | refine Nx.a ?_ | refine Nx.zd ?_ | refine Nx.zs (fun hc => ?_) (fun hc => ?_))
        | ((with_reducible refine Nx.is_mix ?_); first | refine Nx.m ?_ | refine Nx.zm ?_ | refine Nx.zt (fun hc => ?_) (fun hc => ?_))
        | refine Nx.zx ?_ | fail
      exact Nx.again (j + 1) hjl (by omega) ⟨rfl, rfl, rfl, rfl, rfl, rfl, by rw [hrs]; rfl, rfl, rfl, rfl, trivial⟩ (by (exact Ent.auto))
    · rw [if_neg hm] at hrs
      rw [decide_eq_false hm] at hCn
      repeat' first
        | ((with_reducible refine Nx.is_wp ?_); first | refine Nx.wo ?_ | refine Nx.zp (fun hc => ?_) (fun hc => ?_))
        | (refine Nx.zo ?_; first | refine Nx.opr rfl rfl ?_ | refine Nx.indexAddr_nat rfl rfl rfl rfl rfl (by omega) (hl.outer.isSome (by omega) (by omega)) ?_ | refine Nx.loads rfl rfl rfl rfl (hrds _ _) rfl ?_ | refine Nx.callv rfl rfl rfl (by kernel_rfl) rfl hCn ?_ | refine Nx.so ?_ | refine Nx.sb (fun bx => ?_) | refine Nx.sa (fun A2 c2 => ?_))
        | ((with_reducible refine Nx.is_at ?_); first | refine Nx.a ?_ | refine Nx.zd ?_ | refine Nx.zs (fun hc => ?_) (fun hc => ?_))
        | ((with_reducible refine Nx.is_mix ?_); first | refine Nx.m ?_ | refine Nx.zm ?_ | refine Nx.zt (fun hc => ?_) (fun hc => ?_))
        | refine Nx.zx ?_ | fail
      exact Nx.again (j + 1) hjl (by omega) ⟨rfl, rfl, rfl, rfl, rfl, rfl, by rw [hrs]; rfl, rfl, rfl, rfl, trivial⟩ (by (exact Ent.auto))
  obtain rfl : j = l.length := by omega
  rw [List.take_length]
  repeat' first
    | ((with_reducible refine Nx.is_wp ?_); first | refine Nx.wo ?_ | refine Nx.zp (fun hc => ?_) (fun hc => ?_))
    | (refine Nx.zo ?_; first | refine Nx.opr rfl rfl ?_ | refine Nx.so ?_ | refine Nx.sb (fun bx => ?_) | refine Nx.sa (fun A2 c2 => ?_))
    | ((with_reducible refine Nx.is_at ?_); first | refine Nx.a ?_ | refine Nx.zd ?_ | refine Nx.zs (fun hc => ?_) (fun hc => ?_))
    | ((with_reducible refine Nx.is_mix ?_); first | refine Nx.m ?_ | refine Nx.zm ?_ | refine Nx.zt (fun hc => ?_) (fun hc => ?_))
    | refine Nx.zx ?_ | fail
  refine Nx.again (k + 1, A2, c2) hkl (by dsimp only; omega) ⟨rfl, rfl, rfl, rfl, rfl, trivial⟩ ?_
  dsimp only
  rw [hts, List.length_append (bs := [_]), List.length_singleton]
  unfold iR
  rw [List.length_append (bs := [_]), List.length_singleton, List.map_append]
  (exact Ent.auto)
end Go.Proofs.YtjnhoemgceghlaaGreat
/- Contracts of functions of the given program, and lemmas about plain lists and numbers: what the laws of this seat lean on. -/
namespace Go.Proofs.YtjnhoemgceghlaaGreat
open Go.Eng Go.Sol
attribute [local irreducible] opK wpList Code.wp Exit.then Exit.inBlock fnPost bodyPost Nx Calls Oper.wp Rd Rds Wr Ent Stars Blk Again Vec FnSpec wpMix QRun Stop Upto wpAt
/-! The next table -/
abbrev digR (b : Nat) (At As : Option Addr) (ct cs bt n : Nat) (U : List Nat) (rs : List Int) : Res := Blk b 142 [.slice At U.length ct, .slice As rs.length cs, .slice (some ⟨bt, 0, none⟩) n n]
abbrev tabR (bt n : Nat) (t : List Int) : Res := Vec 3 1 (some ⟨bt, 0, none⟩) n n (t.map (Value.int .i64))
def NextPost (b : Nat) (At As : Option Addr) (ct cs bt n : Nat) (U : List Nat) (rs D : List Int) (v : Value) (R' : List Res) : Prop :=
  (∃ D', nextD rs D = some D' ∧ v = .bool true ∧ R' = [digR b At As ct cs bt n U rs, tabR bt n (tabD n U D')]) ∨ (nextD rs D = none ∧ v = .bool false ∧ R' = [digR b At As ct cs bt n U rs, tabR bt n (tabD n U (zerD D 0))])
set_option maxRecDepth 10000 in
set_option maxHeartbeats 16000000 in
theorem next_spec (b : Nat) (At As : Option Addr) (ct cs bt n : Nat) (U : List Nat) (rs D : List Int) (I : PH) (hc : Ints I At ct (natI U)) (hs : Ints I As cs rs) (hD : InD rs D) (hlen : rs.length = U.length) (hU : U.Nodup) (hin : ∀ i, i < U.length → U.getD i 0 < n) (hr : ∀ i, i < rs.length → rs.getD i 0 ≤ 1000001) :
    FnSpec Tryz.prog 95 [.pointer (some ⟨b, 0, none⟩)] I [digR b At As ct cs bt n U rs, tabR bt n (tabD n U D)] (NextPost b At As ct cs bt n U rs D) := by
  have hcl := hc.len
  have hsl := hs.len
  have hnl : (natI U).length = U.length := List.length_map _
  rw [hnl] at hcl
  have hDl := hD.len
  unfold NextPost
  refine FnSpec.enterP Tryz.func95 rfl Tryz.ntmps95 rfl fun w F => ?_
  unfold digR tabR
  repeat' first
    | ((with_reducible refine Nx.is_wp ?_); first | refine Nx.wo ?_ | refine Nx.zp (fun hc => ?_) (fun hc => ?_))
    | (refine Nx.zo ?_; first | refine Nx.opr rfl rfl ?_ | refine Nx.so ?_ | refine Nx.sb (fun bx => ?_) | refine Nx.sa (fun A2 c2 => ?_))
    | ((with_reducible refine Nx.is_at ?_); first | refine Nx.a ?_ | refine Nx.zd ?_ | refine Nx.zs (fun hc => ?_) (fun hc => ?_))
    | ((with_reducible refine Nx.is_mix ?_); first | refine Nx.m ?_ | refine Nx.zm ?_ | refine Nx.zt (fun hc => ?_) (fun hc => ?_))
    | refine Nx.zx ?_ | fail
  refine Nx.p_loop (σ := Nat) (fun j => [(0, .pointer (some ⟨b, 0, none⟩)), (3, .int .i64 ((j : Int) - 1))])
    (fun j => [Blk b 142 [.slice At U.length ct, .slice As rs.length cs, .slice (some ⟨bt, 0, none⟩) n n], Vec 3 1 (some ⟨bt, 0, none⟩) n n ((tabD n U (zerD D j)).map (Value.int .i64)), F]) (fun j => j ≤ U.length ∧ nextD (rs.drop j) (D.drop j) = none) (fun j => j) U.length rfl ⟨Nat.le_refl _, by rw [List.drop_eq_nil_of_le (by omega), List.drop_eq_nil_of_le (by omega)]; rfl⟩ ⟨rfl, rfl, trivial⟩ (by rw [show zerD D U.length = D by rw [← hlen, ← hDl]; exact zerD_all D]; (exact Ent.auto)) ?_
  rintro j ⟨hj, hjn⟩
  cases j with
  | zero =>
    rw [List.drop_zero, List.drop_zero] at hjn
    repeat' first
      | ((with_reducible refine Nx.is_wp ?_); first | refine Nx.wo ?_ | refine Nx.zp (fun hc => ?_) (fun hc => ?_))
      | (refine Nx.zo ?_; first | refine Nx.opr rfl rfl ?_ | refine Nx.so ?_ | refine Nx.sb (fun bx => ?_) | refine Nx.sa (fun A2 c2 => ?_))
      | ((with_reducible refine Nx.is_at ?_); first | refine Nx.a ?_ | refine Nx.zd ?_ | refine Nx.zs (fun hc => ?_) (fun hc => ?_))
      | ((with_reducible refine Nx.is_mix ?_); first | refine Nx.m ?_ | refine Nx.zm ?_ | refine Nx.zt (fun hc => ?_) (fun hc => ?_))
      | refine Nx.zx ?_ | fail
    exact Nx.ret_fn rfl [_, _] (.inr ⟨hjn, rfl, rfl⟩) (by (exact Ent.auto))
  | succ i =>
    have hiU : i < U.length := hj
    have hiD : i < D.length := by omega
    rw [show (((i + 1 : Nat) : Int) - 1) = (i : Int) by omega]
    have hyn := hin i hiU
    have hDi := hD.at (j := i) (by omega)
    have hri := hr i (by omega)
    have hcr : ∀ (W : World) (R : List Res), Rd W I R ((ad At).add (i * 1)) (.int .i64 ((U.getD i 0 : Nat) : Int)) := fun W R => by rw [← nat_at hiU]; exact hc.rd (by omega)
    have hsr : ∀ (W : World) (R : List Res), Rd W I R ((ad As).add (i * 1)) (.int .i64 (rs.getD i 0)) := fun W R => hs.rd (by omega)
    have htl := tabD_len n U (zerD D (i + 1))
    have hta : (tabD n U (zerD D (i + 1))).getD (U.getD i 0) default = D.getD i 0 := by
      show (tabD n U (zerD D (i + 1))).getD (U.getD i 0) 0 = _
      rw [tabD_at hU hiU hyn, zerD_at hiD]
    have hset : ∀ v, (tabD n U (zerD D (i + 1))).set (U.getD i 0) v = tabD n U (D.take i ++ v :: (D.drop (i + 1)).map fun _ => 0) := fun v => by
      rw [tabD_set hU hiU (by rw [zerD_len]; omega) hyn, zerD_set v hiD]
    have hset0 : (tabD n U (zerD D (i + 1))).set (U.getD i 0) 0 = tabD n U (zerD D i) := by
      rw [tabD_set hU hiU (by rw [zerD_len]; omega) hyn, zerD_succ hiD]
    have hgo := nextD_go (S := rs) (D := D) (j := i) hDl hiD hjn
    have hstop := nextD_stop (S := rs) (D := D) (j := i) hDl hiD hjn
    generalize tabD n U (zerD D (i + 1)) = T at htl hta hset hset0
    generalize U.getD i 0 = y at hyn hcr hta hset hset0
    generalize D.getD i 0 = d at hDi hta hgo hstop
    generalize rs.getD i 0 = s at hDi hri hsr hgo hstop
    have htg : ∀ v, (T.set y v).getD y default = v := fun v => by rw [List.getD_eq_getElem?_getD, List.getElem?_set_self (by omega)]; rfl
    have hrv : ∀ (v : Int) (W : World) (R : List Res) (r0 : Res), Rd W I (Vec 3 1 (some ⟨bt, 0, none⟩) n n ((T.set y v).map (Value.int .i64)) :: r0 :: R) ((ad (some ⟨bt, 0, none⟩)).add (y * 1)) (.int .i64 v) := fun v W R r0 => by
      have h := Rd.vecEl (W := W) (I := I) (R := Vec 3 1 (some ⟨bt, 0, none⟩) n n ((T.set y v).map (Value.int .i64)) :: r0 :: R) 0 (f := Value.int .i64) (l := T.set y v) (i := y) rfl (by rw [List.length_set]; omega)
      rw [htg] at h
      exact h
    have hrv1 : ∀ (W : World) (R : List Res) (r0 : Res), Rd W I (r0 :: Vec 3 1 (some ⟨bt, 0, none⟩) n n (T.map (Value.int .i64)) :: R) ((ad (some ⟨bt, 0, none⟩)).add (y * 1)) (.int .i64 d) := fun W R r0 => by
      have h := Rd.vecEl (W := W) (I := I) (R := r0 :: Vec 3 1 (some ⟨bt, 0, none⟩) n n (T.map (Value.int .i64)) :: R) 1 (f := Value.int .i64) (l := T) (i := y) rfl (by omega)
      rw [hta] at h
      exact h
    by_cases hlt : d + 1 < s
    · have hgo := hgo hlt
      repeat' first
        | ((with_reducible refine Nx.is_wp ?_); first | refine Nx.wo ?_ | refine Nx.p_draw (id := 6) rfl [0, 1, 2, 3, 4, 5, 6, 7, 8, 9, 10, 11, 12, 13, 14] [] _ rfl rfl (by kernel_rfl) (by kernel_rfl) rfl (by repeat first | exact PanicOk.fn | refine PanicOk.then_ ?_ | refine PanicOk.inB ?_) (Ent.refl _) ?_ | refine Nx.zp (fun hc => ?_) (fun hc => ?_))
        | (refine Nx.zo ?_; first | refine Nx.opr rfl rfl ?_ | refine Nx.indexAddr_nat (A := At) (i := i) (sz := 1) rfl rfl rfl rfl rfl (by omega) (hc.isSome (by omega)) ?_ | refine Nx.load rfl rfl rfl (hcr _ _) ?_ | refine Nx.indexAddr_nat (A := some ⟨bt, 0, none⟩) (i := y) (sz := 1) rfl rfl rfl rfl rfl hyn rfl ?_ | refine Nx.load rfl rfl rfl (hrv1 _ _ _) ?_ | refine Nx.store_ints 1 (A := some ⟨bt, 0, none⟩) (i := y) (l := T) rfl rfl rfl rfl (by omega) ?_ | refine Nx.so ?_ | refine Nx.sb (fun bx => ?_) | refine Nx.sa (fun A2 c2 => ?_))
        | ((with_reducible refine Nx.is_at ?_); first | refine Nx.a ?_ | refine Nx.zd ?_ | refine Nx.zs (fun hc => ?_) (fun hc => ?_))
        | ((with_reducible refine Nx.is_mix ?_); first | refine Nx.m_quiet rfl rfl rfl rfl rfl (by first | exact QRun.opr rfl | exact QRun.idx (A := some ⟨bt, 0, none⟩) (i := y) (sz := 1) rfl rfl rfl rfl hyn rfl | exact QRun.idx (A := As) (i := i) (sz := 1) rfl rfl rfl rfl (by omega) (hs.isSome (by omega)) | exact QRun.load rfl rfl (hrv _ _ _ _) | exact QRun.load rfl rfl (hsr _ _)) ?_ | refine Nx.m_quiet_do rfl rfl rfl rfl rfl rfl rfl (by first | exact QRun.opr rfl | exact QRun.idx (A := some ⟨bt, 0, none⟩) (i := y) (sz := 1) rfl rfl rfl rfl hyn rfl | exact QRun.idx (A := As) (i := i) (sz := 1) rfl rfl rfl rfl (by omega) (hs.isSome (by omega)) | exact QRun.load rfl rfl (hrv _ _ _ _) | exact QRun.load rfl rfl (hsr _ _)) ?_ | refine Nx.m ?_ | refine Nx.zm ?_ | refine Nx.zt (fun hc => ?_) (fun hc => ?_))
        | refine Nx.zx ?_ | fail
      exact Nx.ret_fn rfl [_, _] (.inl ⟨_, hgo, rfl, rfl⟩) (by rw [← hset]; (exact Ent.auto))
    · have hstop := hstop hlt
      have hss : ∀ v, (T.set y v).set y 0 = tabD n U (zerD D i) := fun v => by rw [List.set_set, hset0]
      repeat' first
        | ((with_reducible refine Nx.is_wp ?_); first | refine Nx.wo ?_ | refine Nx.p_draw (id := 6) rfl [0, 1, 2, 3, 4, 5, 6, 7, 8, 9, 10, 11, 12, 13, 14] [] _ rfl rfl (by kernel_rfl) (by kernel_rfl) rfl (by repeat first | exact PanicOk.fn | refine PanicOk.then_ ?_ | refine PanicOk.inB ?_) (Ent.refl _) ?_ | refine Nx.zp (fun hc => ?_) (fun hc => ?_))
        | (refine Nx.zo ?_; first | refine Nx.opr rfl rfl ?_ | refine Nx.indexAddr_nat (A := At) (i := i) (sz := 1) rfl rfl rfl rfl rfl (by omega) (hc.isSome (by omega)) ?_ | refine Nx.load rfl rfl rfl (hcr _ _) ?_ | refine Nx.indexAddr_nat (A := some ⟨bt, 0, none⟩) (i := y) (sz := 1) rfl rfl rfl rfl rfl hyn rfl ?_ | refine Nx.load rfl rfl rfl (hrv1 _ _ _) ?_ | refine Nx.store_ints 1 (A := some ⟨bt, 0, none⟩) (i := y) (l := T) rfl rfl rfl rfl (by omega) ?_ | refine Nx.store_ints 0 (A := some ⟨bt, 0, none⟩) (i := y) (l := T.set y (d + 1)) rfl rfl rfl rfl (by omega) ?_ | refine Nx.so ?_ | refine Nx.sb (fun bx => ?_) | refine Nx.sa (fun A2 c2 => ?_))
        | ((with_reducible refine Nx.is_at ?_); first | refine Nx.a ?_ | refine Nx.zd ?_ | refine Nx.zs (fun hc => ?_) (fun hc => ?_))
        | ((with_reducible refine Nx.is_mix ?_); first | refine Nx.m_quiet rfl rfl rfl rfl rfl (by first | exact QRun.opr rfl | exact QRun.idx (A := some ⟨bt, 0, none⟩) (i := y) (sz := 1) rfl rfl rfl rfl hyn rfl | exact QRun.idx (A := As) (i := i) (sz := 1) rfl rfl rfl rfl (by omega) (hs.isSome (by omega)) | exact QRun.load rfl rfl (hrv _ _ _ _) | exact QRun.load rfl rfl (hsr _ _)) ?_ | refine Nx.m_quiet_do rfl rfl rfl rfl rfl rfl rfl (by first | exact QRun.opr rfl | exact QRun.idx (A := some ⟨bt, 0, none⟩) (i := y) (sz := 1) rfl rfl rfl rfl hyn rfl | exact QRun.idx (A := As) (i := i) (sz := 1) rfl rfl rfl rfl (by omega) (hs.isSome (by omega)) | exact QRun.load rfl rfl (hrv _ _ _ _) | exact QRun.load rfl rfl (hsr _ _)) ?_ | refine Nx.m ?_ | refine Nx.zm ?_ | refine Nx.zt (fun hc => ?_) (fun hc => ?_))
        | refine Nx.zx ?_ | fail
      exact Nx.again i ⟨by omega, hstop⟩ (by omega) ⟨rfl, rfl, trivial⟩ (by rw [← hss (d + 1)]; (exact Ent.auto))
end Go.Proofs.YtjnhoemgceghlaaGreat
