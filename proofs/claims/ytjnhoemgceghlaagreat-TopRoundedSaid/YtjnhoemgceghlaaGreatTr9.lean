/- Contracts of functions of the given program, and lemmas about plain lists and numbers: what the laws of this seat lean on. -/
import Derived.Test.YtjnhoemgceghlaaGreatProg
import Derived.Test.YtjnhoemgceghlaaGreatTr8
namespace Go.Proofs.YtjnhoemgceghlaaGreat
open Go.Eng Go.Sol
/-! What releases say does not lean on where they lie -/
def vStrip (v : List Row) : List Row := v.map fun r => (none, 0, r.2.2)
theorem vStrip_len (v : List Row) : (vStrip v).length = v.length := by unfold vStrip; rw [List.length_map]
theorem vStrip_at (v : List Row) (k : Nat) : ((vStrip v).getD k default).2.2 = (v.getD k default).2.2 := by
  unfold vStrip
  rw [List.getD_eq_getElem?_getD, List.getElem?_map, List.getD_eq_getElem?_getD]
  cases v[k]? <;> rfl
theorem szs_strip (v : List Row) : szs (vStrip v) = szs v := by unfold szs vStrip; rw [List.map_map]; rfl
theorem gsOf_strip (v : List Row) (xs : List Int) : gsOf (vStrip v) xs = gsOf v xs := by
  unfold gsOf
  rw [vStrip_len]
  exact List.map_congr_left fun i _ => by rw [vStrip_at]
theorem pubOf_strip (l : List Int) (v : List Row) (n : Nat) : pubOf l (vStrip v) n = pubOf l v n := by unfold pubOf; rw [gsOf_strip, szs_strip, vStrip_len]
theorem memK_strip (l : List Int) (v : List Row) (k : Int) (n : Nat) : memK l (vStrip v) k n = memK l v k n := by
  unfold memK
  congr 1
  exact List.filter_congr fun j _ => by rw [pubOf_strip]
theorem toldK_strip (l : List Int) (v : List Row) (vs : List Int) : ∀ j, toldK l (vStrip v) vs j = toldK l v vs j
  | 0 => rfl
  | j + 1 => by rw [toldK, toldK, toldK_strip l v vs j, memK_strip]
def rStrip (r : Rel) : Rel := ⟨r.num, none, 0, vStrip r.v, (none, 0, r.val.2.2)⟩
theorem told_strip (l : List Int) (r : Rel) : told l (rStrip r) = told l r := toldK_strip l r.v r.val.2.2 _
theorem relE_strip (l : List Int) (r : Rel) (b : Int) : relE l (rStrip r) b = relE l r b := by
  unfold relE rStrip
  dsimp only
  rw [szs_strip]
theorem relsF_strip (l : List Int) : ∀ (rs : List Rel) (b : Int), relsF l b (rs.map rStrip) = relsF l b rs
  | [], _ => rfl
  | r :: rs, b => by
    rw [List.map_cons, relsF, relsF, relE_strip, relsF_strip l rs]
    rfl
theorem relsE_strip (l : List Int) (rs : List Rel) : relsE l (rs.map rStrip) = relsE l rs := by unfold relsE; rw [List.length_map, relsF_strip]
theorem qsOf_strip (l : List Int) (rs : List Rel) : qsOf l (rs.map rStrip) = qsOf l rs := by
  unfold qsOf
  rw [List.flatMap_map]
  rw [List.flatMap_def, List.flatMap_def, List.map_congr_left fun r _ => told_strip l r]
theorem rchD_strip (l : List Int) (rs : List Rel) : rchD l (rs.map rStrip) = rchD l rs := by unfold rchD; rw [relsE_strip, qsOf_strip]
theorem chkD_strip (l : List Int) (rs : List Rel) (p : List Int) (m : Int) : chkD l (rs.map rStrip) p m = chkD l rs p m := by unfold chkD; rw [relsE_strip]
theorem findD_strip (l : List Int) (rs : List Rel) (p : List Int) (m : Int) : findD l (rs.map rStrip) p m = findD l rs p m := by unfold findD; rw [chkD_strip, rchD_strip]
theorem find_same {l : List Int} {rs rs' : List Rel} (h : rs.map rStrip = rs'.map rStrip) (p : List Int) (m : Int) : findD l rs p m = findD l rs' p m := by rw [← findD_strip l rs, h, findD_strip]
theorem viewed_strip {l : List Int} {v v' : List Row} (h : vStrip v = vStrip v') (hw : Viewed l v) : Viewed l v' := by
  have hl : v.length = v'.length := by rw [← vStrip_len v, h, vStrip_len]
  refine ⟨by rw [← hl]; exact hw.len, fun k hk => ?_⟩
  have h1 := vStrip_at v k
  rw [h, vStrip_at] at h1
  rw [h1]
  exact hw.each k hk
/-! Hidden values -/
def hidL (vs L : List Int) : List Int := L.foldl (fun vs k => vs.set k.toNat (-1)) vs
theorem hidL_snoc (vs L : List Int) (x : Int) : hidL vs (L ++ [x]) = (hidL vs L).set x.toNat (-1) := by unfold hidL; rw [List.foldl_append]; rfl
theorem hidL_len : ∀ (L vs : List Int), (hidL vs L).length = vs.length
  | [], _ => rfl
  | x :: L, vs => by
    have := hidL_len L (vs.set x.toNat (-1))
    rw [List.length_set] at this
    exact this
def inB (n k : Int) : Bool := decide (0 ≤ k ∧ k < n)
/-- Why a set cannot be hidden. -/
def hideE (vs L : List Int) : Int := if L.Pairwise (· < ·) then if L.all (inB vs.length) = true then 0 else 2 else 11
/-- A release with a set hidden: what it says. -/
def hidR (r : Rel) (L : List Int) : Rel := ⟨r.num, none, 0, vStrip r.v, (none, 0, hidL r.val.2.2 L)⟩
theorem vStrip_idem (v : List Row) : vStrip (vStrip v) = vStrip v := by unfold vStrip; rw [List.map_map]; rfl
/-- The answer of Safe behind earlier releases, with a set hidden. -/
def protF (l : List Int) (es : List Rel) (r : Rel) (L p : List Int) (m : Int) : Bool × Int :=
  if hideE r.val.2.2 L ≠ 0 then (false, hideE r.val.2.2 L) else (safeB l (es ++ [hidR r L]) p m, (findD l (es ++ [hidR r L]) p m).2)
theorem prot_same {l : List Int} {es : List Rel} {r r' : Rel} {L p : List Int} {m : Int} (h1 : r'.num = r.num) (h2 : vStrip r'.v = vStrip r.v) (h3 : r'.val.2.2 = hidL r.val.2.2 L) : findD l (es ++ [r']) p m = findD l (es ++ [hidR r L]) p m := by
  refine find_same ?_ p m
  rw [List.map_append, List.map_append]
  congr 1
  unfold hidR rStrip
  simp only [List.map_cons, List.map_nil]
  rw [h1, h2, h3, vStrip_idem]
end Go.Proofs.YtjnhoemgceghlaaGreat
/- Contracts of functions of the given program, and lemmas about plain lists and numbers: what the laws of this seat lean on. -/
namespace Go.Proofs.YtjnhoemgceghlaaGreat
open Go.Eng Go.Sol
attribute [local irreducible] opK wpList Code.wp Exit.then Exit.inBlock fnPost bodyPost Nx Calls Oper.wp Rd Rds Wr Ent Stars Blk Again Vec FnSpec wpMix QRun Stop Upto wpAt
/-! Hiding: the program -/
theorem relR_nil (R : List Res) : Ent R (relR default :: R) :=
  (Ent.vec_nil 3 1 R).trans ((Ent.stars_nil _).trans ((Ent.vec_nil 25 1 _).trans ((Ent.stars (B := [Vec 25 1 none 0 0 [], Stars []])).trans (Ent.stars (B := [ViewR none 0 [], rowR (none, 0, [])])))))
def HidePost (r : Rel) (L : List Int) (u : Value) (R' : List Res) : Prop :=
  ∃ r' : Rel, u = .tuple #[.agg (relC r').toArray, .int .i64 (hideE r.val.2.2 L)] ∧ (hideE r.val.2.2 L = 0 → r'.num = r.num ∧ vStrip r'.v = vStrip r.v ∧ r'.val.2.2 = hidL r.val.2.2 L) ∧ (hideE r.val.2.2 L ≠ 0 → r' = default) ∧ R' = [relR r']
theorem not_pw {L : List Int} {i : Nat} (hi : i + 1 < L.length) (h : ¬ L.getD i default < L.getD (i + 1) default) : ¬ L.Pairwise (· < ·) := fun hp => h (adj_of hp hi)
set_option maxRecDepth 10000 in
set_option maxHeartbeats 16000000 in
theorem HideP_spec (B : Option Addr) (cb : Nat) (L : List Int) (r : Rel) (I : PH) (hv : RowsOf I r.va r.vc r.v) (hd : Ints I r.val.1 r.val.2.1 r.val.2.2) (hB : Ints I B cb L) (hv9 : r.v.length ≤ 1000) (hrow : ∀ x ∈ r.v, x.2.2.length ≤ 1000) (hd9 : r.val.2.2.length ≤ 1000) :
    FnSpec Tryz.prog 17 [.agg #[.int .i64 r.num, .slice r.va r.v.length r.vc, rowV r.val], .slice B L.length cb] I [] (HidePost r L) := by
  obtain ⟨num, va, vc, v, D, cd, vs⟩ := r
  unfold HidePost
  dsimp only at hv hd hv9 hrow hd9 ⊢
  have hBl := hB.len
  have hvl := hv.outer.len
  refine FnSpec.enterP Tryz.func17 rfl Tryz.ntmps17 rfl fun w F => ?_
  repeat' first
    | ((with_reducible refine Nx.is_wp ?_); first | refine Nx.wo ?_ | refine Nx.zp (fun hc => ?_) (fun hc => ?_))
    | (refine Nx.zo ?_; first | refine Nx.opr rfl rfl ?_ | refine Nx.so ?_ | refine Nx.sb (fun bx => ?_) | refine Nx.sa (fun A2 c2 => ?_))
    | ((with_reducible refine Nx.is_at ?_); first | refine Nx.a ?_ | refine Nx.zd ?_ | refine Nx.zs (fun hc => ?_) (fun hc => ?_))
    | ((with_reducible refine Nx.is_mix ?_); first | refine Nx.m ?_ | refine Nx.zm ?_ | refine Nx.zt (fun hc => ?_) (fun hc => ?_))
    | refine Nx.zx ?_ | fail
  rename_i b2
  revert bx; intro b4
  refine Nx.p_loop (σ := Nat) (fun i => [(1, .slice B L.length cb), (2, .pointer (some ⟨b2, 0, none⟩)), (4, .pointer (some ⟨b4, 0, none⟩)), (5, .int .i64 0), (6, .int .i64 ((i + 1 : Nat) : Int))])
    (fun _ => [Blk b4 43 [.int .i64 0, .slice none 0 0, .slice none 0 0], Blk b2 43 [.int .i64 num, .slice va v.length vc, .slice D vs.length cd], F]) (fun i => i ≤ L.length ∧ ∀ j, j < i → j + 1 < L.length → L.getD j default < L.getD (j + 1) default) (fun i => L.length - i) 0 rfl ⟨Nat.zero_le _, fun j hj => absurd hj (Nat.not_lt_zero _)⟩ ⟨rfl, rfl, rfl, rfl, rfl, trivial⟩ (by (exact Ent.auto)) ?_
  rintro i ⟨hi, hall⟩
  by_cases hlt : i + 1 < L.length
  · have hnp := not_pw hlt
    have r1 := fun (W : World) (R : List Res) => hB.rd (W := W) (R := R) (k := i) (by omega)
    have r2 := fun (W : World) (R : List Res) => hB.rd (W := W) (R := R) hlt
    have hnx : ∀ j, j < i + 1 → L.getD i default < L.getD (i + 1) default → j + 1 < L.length → L.getD j default < L.getD (j + 1) default := fun j hj hx h => by
      rcases Nat.lt_or_ge j i with h' | h'
      · exact hall j h' h
      · rw [show j = i by omega]; exact hx
    generalize L.getD i default = x at hnp r1 hnx
    generalize L.getD (i + 1) default = y at hnp r2 hnx
    have hi1 : (((i + 1 : Nat) : Int) - 1).toNat = i := by omega
    have r1' : ∀ (W : World) (R : List Res), Rd W I R ((ad B).add ((((i + 1 : Nat) : Int) - 1).toNat * 1)) (.int .i64 x) := fun W R => by rw [hi1]; exact r1 W R
    by_cases hxy : x < y
    · repeat' first
        | ((with_reducible refine Nx.is_wp ?_); first | refine Nx.wo ?_ | refine Nx.p_draw (id := 4) rfl [0, 1, 2, 3, 4, 5, 6, 7, 8, 9] [] _ rfl rfl (by kernel_rfl) (by kernel_rfl) rfl (by repeat first | exact PanicOk.fn | refine PanicOk.then_ ?_ | refine PanicOk.inB ?_) (Ent.refl _) ?_ | refine Nx.p_draw (id := 10) rfl [0, 1, 2, 3, 4, 5, 6, 7, 8, 9] [4, 5, 6, 9] _ rfl rfl (by kernel_rfl) (by kernel_rfl) rfl (by repeat first | exact PanicOk.fn | refine PanicOk.then_ ?_ | refine PanicOk.inB ?_) (Ent.refl _) ?_ | refine Nx.zp (fun hc => ?_) (fun hc => ?_))
        | (refine Nx.zo ?_; first | refine Nx.opr rfl rfl ?_ | refine Nx.so ?_ | refine Nx.sb (fun bx => ?_) | refine Nx.sa (fun A2 c2 => ?_))
        | ((with_reducible refine Nx.is_at ?_); first | refine Nx.a ?_ | refine Nx.zd ?_ | refine Nx.zs (fun hc => ?_) (fun hc => ?_))
        | ((with_reducible refine Nx.is_mix ?_); first | refine Nx.m_quiet rfl rfl rfl rfl rfl (by first | exact QRun.opr rfl | exact QRun.idxi (A := B) (i := ((i + 1 : Nat) : Int) - 1) (sz := 1) rfl rfl rfl rfl (by omega) (by omega) (hB.isSome (by omega)) | exact QRun.idx (A := B) (i := i + 1) (sz := 1) rfl rfl rfl rfl (by omega) (hB.isSome (by omega)) | exact QRun.load rfl rfl (r1' _ _) | exact QRun.load rfl rfl (r2 _ _)) ?_ | refine Nx.m_quiet_do rfl rfl rfl rfl rfl rfl rfl (by first | exact QRun.opr rfl | exact QRun.idxi (A := B) (i := ((i + 1 : Nat) : Int) - 1) (sz := 1) rfl rfl rfl rfl (by omega) (by omega) (hB.isSome (by omega)) | exact QRun.idx (A := B) (i := i + 1) (sz := 1) rfl rfl rfl rfl (by omega) (hB.isSome (by omega)) | exact QRun.load rfl rfl (r1' _ _) | exact QRun.load rfl rfl (r2 _ _)) ?_ | refine Nx.m ?_ | refine Nx.zm ?_ | refine Nx.zt (fun hc => ?_) (fun hc => ?_))
        | refine Nx.zx ?_ | fail
      exact Nx.again (i + 1) ⟨by omega, fun j hj h => hnx j hj hxy h⟩ (by omega) ⟨rfl, rfl, rfl, rfl, rfl, trivial⟩ (by (exact Ent.auto))
    · have he : hideE vs L = 11 := if_neg (hnp hxy)
      rw [he]
      repeat' first
        | ((with_reducible refine Nx.is_wp ?_); first | refine Nx.wo ?_ | refine Nx.p_draw (id := 4) rfl [0, 1, 2, 3, 4, 5, 6, 7, 8, 9] [] _ rfl rfl (by kernel_rfl) (by kernel_rfl) rfl (by repeat first | exact PanicOk.fn | refine PanicOk.then_ ?_ | refine PanicOk.inB ?_) (Ent.refl _) ?_ | refine Nx.p_draw (id := 10) rfl [0, 1, 2, 3, 4, 5, 6, 7, 8, 9] [4, 5, 6, 9] _ rfl rfl (by kernel_rfl) (by kernel_rfl) rfl (by repeat first | exact PanicOk.fn | refine PanicOk.then_ ?_ | refine PanicOk.inB ?_) (Ent.refl _) ?_ | refine Nx.zp (fun hc => ?_) (fun hc => ?_))
        | (refine Nx.zo ?_; first | refine Nx.opr rfl rfl ?_ | refine Nx.so ?_ | refine Nx.sb (fun bx => ?_) | refine Nx.sa (fun A2 c2 => ?_))
        | ((with_reducible refine Nx.is_at ?_); first | refine Nx.a ?_ | refine Nx.zd ?_ | refine Nx.zs (fun hc => ?_) (fun hc => ?_))
        | ((with_reducible refine Nx.is_mix ?_); first | refine Nx.m_quiet rfl rfl rfl rfl rfl (by first | exact QRun.opr rfl | exact QRun.idxi (A := B) (i := ((i + 1 : Nat) : Int) - 1) (sz := 1) rfl rfl rfl rfl (by omega) (by omega) (hB.isSome (by omega)) | exact QRun.idx (A := B) (i := i + 1) (sz := 1) rfl rfl rfl rfl (by omega) (hB.isSome (by omega)) | exact QRun.load rfl rfl (r1' _ _) | exact QRun.load rfl rfl (r2 _ _)) ?_ | refine Nx.m_quiet_do rfl rfl rfl rfl rfl rfl rfl (by first | exact QRun.opr rfl | exact QRun.idxi (A := B) (i := ((i + 1 : Nat) : Int) - 1) (sz := 1) rfl rfl rfl rfl (by omega) (by omega) (hB.isSome (by omega)) | exact QRun.idx (A := B) (i := i + 1) (sz := 1) rfl rfl rfl rfl (by omega) (hB.isSome (by omega)) | exact QRun.load rfl rfl (r1' _ _) | exact QRun.load rfl rfl (r2 _ _)) ?_ | refine Nx.m ?_ | refine Nx.zm ?_ | refine Nx.zt (fun hc => ?_) (fun hc => ?_))
        | refine Nx.zx ?_ | fail
      exact Nx.ret2 rfl (ROne.cell 0 rfl rfl rfl rfl rfl) (ROne.tmp rfl) [relR default] ⟨default, rfl, fun h => absurd h (by decide), fun _ => rfl, rfl⟩ ((relR_nil _).trans (by (exact Ent.auto)))
  have hpw : L.Pairwise (· < ·) := pairwise_adj fun j hj => hall j (by omega) hj
  have hCl := CloneI_spec D cd vs I hd (by omega)
  repeat' first
    | ((with_reducible refine Nx.is_wp ?_); first | refine Nx.p_stopr 7 rfl ?_ | refine Nx.wo ?_ | refine Nx.p_drawF (id := 4) rfl [0, 1, 2, 3, 4, 5, 6, 7, 8, 9] [] [] _ rfl rfl (by kernel_rfl) (by kernel_rfl) rfl (by repeat first | exact PanicOk.fn | refine PanicOk.then_ ?_ | refine PanicOk.inB ?_) (Ent.refl _) ?_ | refine Nx.p_poolF (id := 6) rfl [0, 1, 2, 3, 4, 5] [4] [] [7] [7] [⟨6, 7, 43, _⟩] rfl rfl (by kernel_rfl) (by kernel_rfl) (by decide) (PoolFit.cons ⟨⟨_, _, _, rfl⟩, rfl, rfl⟩ PoolFit.nil) (by repeat first | exact PanicOk.fn | refine PanicOk.then_ ?_ | refine PanicOk.inB ?_) (Ent.refl _) ?_ | refine Nx.p_drawF (id := 10) rfl [0, 1, 2, 3, 4, 5] [4, 5] [6, 7, 8, 9] _ rfl rfl (by kernel_rfl) (by kernel_rfl) rfl (by repeat first | exact PanicOk.fn | refine PanicOk.then_ ?_ | refine PanicOk.inB ?_) (Ent.refl _) ?_ | refine Nx.zp (fun hc => ?_) (fun hc => ?_))
    | ((first | refine Nx.at_op rfl rfl ?_ | refine Nx.m_loud rfl rfl rfl ?_ | refine Nx.at_do rfl rfl rfl rfl ?_ | refine Nx.m_loud_do rfl rfl rfl rfl rfl ?_ | refine GoodF.loud_ rfl rfl rfl rfl (fun ex X => ?_)); first | refine Nx.opr rfl rfl ?_ | (refine Nx.call (Rpre := []) rfl rfl rfl (by kernel_rfl) rfl hCl (Ent.refl _) ?_; rintro _ _ ⟨D2, cd2, rfl, rfl⟩) | refine Nx.so ?_ | refine Nx.sb (fun bx => ?_) | refine Nx.sa (fun A2 c2 => ?_))
    | ((with_reducible refine Nx.is_at ?_); first | refine Nx.a ?_ | refine Nx.zd ?_ | refine Nx.zs (fun hc => ?_) (fun hc => ?_))
    | ((with_reducible refine Nx.is_mix ?_); first | refine Nx.m ?_ | refine Nx.zm ?_ | refine Nx.zt (fun hc => ?_) (fun hc => ?_))
    | ((with_reducible refine GoodF.is ?_); first | refine GoodF.quiet rfl rfl rfl rfl rfl rfl (by first | exact QRun.opr rfl |  exact QRun.std) ?_ | refine GoodF.done1 rfl (fun bx => ?_) | refine GoodF.done2 rfl (fun bx by_ => ?_) | refine GoodF.done3 rfl (fun bx by_ bz => ?_))
    | ((fail_if_success (with_reducible refine Nx.is_at ?_)); (fail_if_success (with_reducible refine Nx.is_wp ?_)); (fail_if_success (with_reducible refine Nx.is_mix ?_)); first | refine Nx.ex ?_ | refine Nx.pool_nextF 0 rfl (by exact Ent.auto) ?_ | refine Nx.pool_nextF 1 rfl (by exact Ent.auto) ?_ | refine Nx.pool_nextF 2 rfl (by exact Ent.auto) ?_ | refine Nx.pool_nextF 3 rfl (by exact Ent.auto) ?_)
  refine Nx.unstop ?_
  revert bx; intro b7
  refine Nx.weak (e' := [(1, .slice B L.length cb), (2, .pointer (some ⟨b2, 0, none⟩)), (4, .pointer (some ⟨b4, 0, none⟩)), (5, .int .i64 0), (7, .pointer (some ⟨b7, 0, none⟩))]) (R' := [Blk b7 43 [.int .i64 num, .slice none 0 0, .slice D2 vs.length cd2], iR D2 cd2 vs, Blk b4 43 [.int .i64 0, .slice none 0 0, .slice none 0 0], Blk b2 43 [.int .i64 num, .slice va v.length vc, .slice D vs.length cd], F]) ⟨rfl, rfl, rfl, rfl, rfl, trivial⟩ (by (exact Ent.auto)) ?_
  repeat' first
    | ((with_reducible refine Nx.is_wp ?_); first | refine Nx.wo ?_ | refine Nx.zp (fun hc => ?_) (fun hc => ?_))
    | (refine Nx.zo ?_; first | refine Nx.opr rfl rfl ?_ | refine Nx.so ?_ | refine Nx.sb (fun bx => ?_) | refine Nx.sa (fun A2 c2 => ?_))
    | ((with_reducible refine Nx.is_at ?_); first | refine Nx.a ?_ | refine Nx.zd ?_ | refine Nx.zs (fun hc => ?_) (fun hc => ?_))
    | ((with_reducible refine Nx.is_mix ?_); first | refine Nx.m ?_ | refine Nx.zm ?_ | refine Nx.zt (fun hc => ?_) (fun hc => ?_))
    | refine Nx.zx ?_ | fail
  refine Nx.p_loop (σ := Nat × Option Addr × Nat × List Row) (fun s => [(1, .slice B L.length cb), (2, .pointer (some ⟨b2, 0, none⟩)), (4, .pointer (some ⟨b4, 0, none⟩)), (5, .int .i64 0), (7, .pointer (some ⟨b7, 0, none⟩)), (37, .slice va v.length vc), (38, .int .i64 v.length), (39, .int .i64 (s.1 : Int))])
    (fun s => [Blk b7 43 [.int .i64 num, .slice s.2.1 s.2.2.2.length s.2.2.1, .slice D2 vs.length cd2], Vec 25 1 s.2.1 s.2.2.2.length s.2.2.1 (s.2.2.2.map rowV), Stars (s.2.2.2.map rowR), iR D2 cd2 vs, Blk b2 43 [.int .i64 num, .slice va v.length vc, .slice D vs.length cd], Blk b4 43 [.int .i64 0, .slice none 0 0, .slice none 0 0], F])
    (fun s => s.1 ≤ v.length ∧ s.2.2.2.length = s.1 ∧ vStrip s.2.2.2 = vStrip (v.take s.1)) (fun s => v.length - s.1) (0, none, 0, []) rfl ⟨Nat.zero_le _, rfl, rfl⟩ ⟨rfl, rfl, rfl, rfl, rfl, rfl, rfl, rfl, trivial⟩ (((Ent.vec_nil 25 1 _).trans (Ent.stars_nil _)).trans (by (exact Ent.auto))) ?_
  rintro ⟨q, A1, c1, o⟩ ⟨hq, hol, hos⟩
  dsimp only at hq hol hos ⊢
  by_cases hqv : q < v.length
  · have hrow1 := hv.at hqv
    have hg9 := hrow _ (show v.getD q default ∈ v by rw [List.getD_eq_getElem?_getD, List.getElem?_eq_getElem hqv]; exact List.getElem_mem _)
    have hrd : ∀ (W : World) (R : List Res), Rd W I R ((ad va).add (q * 1)) (rowV (v.getD q default)) := fun W R => hv.outer.rd hqv
    have htk : vStrip (v.take (q + 1)) = vStrip (v.take q) ++ [(none, 0, (v.getD q default).2.2)] := by
      unfold vStrip
      rw [List.take_succ_eq_append_getElem hqv, List.map_append, List.getD_eq_getElem?_getD, List.getElem?_eq_getElem hqv]; rfl
    generalize v.getD q default = rw1 at hrow1 hg9 hrd htk
    obtain ⟨G, cg, g⟩ := rw1
    dsimp only at hrow1 hg9 htk
    replace hrd : ∀ (W : World) (R : List Res), Rd W I R ((ad va).add (q * 1)) (.slice G g.length cg) := hrd
    have hCg := CloneI_spec G cg g I hrow1 (by omega)
    repeat' first
      | ((with_reducible refine Nx.is_wp ?_); first | refine Nx.wo ?_ | refine Nx.p_drawF (id := 4) rfl [0, 1, 2, 3, 4, 5, 6, 7, 8, 9] [] [] _ rfl rfl (by kernel_rfl) (by kernel_rfl) rfl (by repeat first | exact PanicOk.fn | refine PanicOk.then_ ?_ | refine PanicOk.inB ?_) (Ent.refl _) ?_ | refine Nx.p_poolF (id := 6) rfl [0, 1, 2, 3, 4, 5] [4] [] [7] [7] [⟨6, 7, 43, _⟩] rfl rfl (by kernel_rfl) (by kernel_rfl) (by decide) (PoolFit.cons ⟨⟨_, _, _, rfl⟩, rfl, rfl⟩ PoolFit.nil) (by repeat first | exact PanicOk.fn | refine PanicOk.then_ ?_ | refine PanicOk.inB ?_) (Ent.refl _) ?_ | refine Nx.p_drawF (id := 10) rfl [0, 1, 2, 3, 4, 5] [4, 5] [6, 7, 8, 9] _ rfl rfl (by kernel_rfl) (by kernel_rfl) rfl (by repeat first | exact PanicOk.fn | refine PanicOk.then_ ?_ | refine PanicOk.inB ?_) (Ent.refl _) ?_ | refine Nx.zp (fun hc => ?_) (fun hc => ?_))
      | ((first | refine Nx.at_op rfl rfl ?_ | refine Nx.m_loud rfl rfl rfl ?_ | refine Nx.at_do rfl rfl rfl rfl ?_ | refine Nx.m_loud_do rfl rfl rfl rfl rfl ?_ | refine GoodF.loud_ rfl rfl rfl rfl (fun ex X => ?_)); first | refine Nx.opr rfl rfl ?_ | refine Nx.indexAddr_nat (A := va) (i := q) (sz := 1) rfl rfl rfl rfl rfl hqv (hv.outer.isSome (by omega)) ?_ | refine Nx.load rfl rfl rfl (hrd _ _) ?_ | (refine Nx.call (Rpre := []) rfl rfl rfl (by kernel_rfl) rfl hCg (Ent.refl _) ?_; rintro _ _ ⟨G2, cg2, rfl, rfl⟩) | refine Nx.so ?_ | refine Nx.sb (fun bx => ?_) | refine Nx.sa (fun A2 c2 => ?_))
      | ((with_reducible refine Nx.is_at ?_); first | refine Nx.a ?_ | refine Nx.zd ?_ | refine Nx.zs (fun hc => ?_) (fun hc => ?_))
      | ((with_reducible refine Nx.is_mix ?_); first | refine Nx.m ?_ | refine Nx.zm ?_ | refine Nx.zt (fun hc => ?_) (fun hc => ?_))
      | ((with_reducible refine GoodF.is ?_); first | refine GoodF.quiet rfl rfl rfl rfl rfl rfl (by first | exact QRun.opr rfl |  exact QRun.std) ?_ | refine GoodF.done1 rfl (fun bx => ?_) | refine GoodF.done2 rfl (fun bx by_ => ?_) | refine GoodF.done3 rfl (fun bx by_ bz => ?_))
      | ((fail_if_success (with_reducible refine Nx.is_at ?_)); (fail_if_success (with_reducible refine Nx.is_wp ?_)); (fail_if_success (with_reducible refine Nx.is_mix ?_)); first | refine Nx.ex ?_ | refine Nx.pool_nextF 0 rfl (by exact Ent.auto) ?_ | refine Nx.pool_nextF 1 rfl (by exact Ent.auto) ?_ | refine Nx.pool_nextF 2 rfl (by exact Ent.auto) ?_ | refine Nx.pool_nextF 3 rfl (by exact Ent.auto) ?_)
    refine Nx.again (q + 1, A2, c2, o ++ [(G2, cg2, g)]) ⟨hqv, by simp [hol], ?_⟩ (by dsimp only; omega) ⟨rfl, rfl, rfl, rfl, rfl, rfl, rfl, rfl, trivial⟩ ?_
    · dsimp only
      rw [htk, ← hos]
      unfold vStrip
      rw [List.map_append]; rfl
    · dsimp only
      rw [List.length_append (bs := [_]), List.length_singleton]
      refine Ent.trans (R' := [rowR (G2, cg2, g), Stars (o.map rowR), Blk b7 43 [.int .i64 num, .slice A2 (o.length + 1) c2, .slice D2 vs.length cd2], Vec 25 1 A2 (o.length + 1) c2 (o.map rowV ++ [.slice G2 g.length cg2]), iR D2 cd2 vs, Blk b2 43 [.int .i64 num, .slice va v.length vc, .slice D vs.length cd], Blk b4 43 [.int .i64 0, .slice none 0 0, .slice none 0 0], F]) (by unfold rowR; (exact Ent.auto)) (Ent.bundle.trans ?_)
      rw [List.map_append, List.map_append]
      exact (by (exact Ent.auto))
  obtain rfl : q = v.length := by omega
  rw [List.take_length] at hos
  repeat' first
    | ((with_reducible refine Nx.is_wp ?_); first | refine Nx.wo ?_ | refine Nx.zp (fun hc => ?_) (fun hc => ?_))
    | (refine Nx.zo ?_; first | refine Nx.opr rfl rfl ?_ | refine Nx.so ?_ | refine Nx.sb (fun bx => ?_) | refine Nx.sa (fun A2 c2 => ?_))
    | ((with_reducible refine Nx.is_at ?_); first | refine Nx.a ?_ | refine Nx.zd ?_ | refine Nx.zs (fun hc => ?_) (fun hc => ?_))
    | ((with_reducible refine Nx.is_mix ?_); first | refine Nx.m ?_ | refine Nx.zm ?_ | refine Nx.zt (fun hc => ?_) (fun hc => ?_))
    | refine Nx.zx ?_ | fail
  refine Nx.p_loop (σ := Nat) (fun q => [(2, .pointer (some ⟨b2, 0, none⟩)), (4, .pointer (some ⟨b4, 0, none⟩)), (5, .int .i64 0), (7, .pointer (some ⟨b7, 0, none⟩)), (53, .slice B L.length cb), (54, .int .i64 L.length), (55, .int .i64 (q : Int))])
    (fun q => [Vec 3 1 D2 vs.length cd2 ((hidL vs (L.take q)).map (Value.int .i64)), Blk b7 43 [.int .i64 num, .slice A1 o.length c1, .slice D2 vs.length cd2], Vec 25 1 A1 o.length c1 (o.map rowV), Stars (o.map rowR), Blk b2 43 [.int .i64 num, .slice va v.length vc, .slice D vs.length cd], Blk b4 43 [.int .i64 0, .slice none 0 0, .slice none 0 0], F])
    (fun q => q ≤ L.length ∧ ∀ k ∈ L.take q, inB vs.length k = true) (fun q => L.length - q) 0 rfl ⟨Nat.zero_le _, by simp⟩ ⟨rfl, rfl, rfl, rfl, rfl, rfl, rfl, trivial⟩ (by (exact Ent.auto)) ?_
  rintro q ⟨hq2, hin⟩
  have hhl := hidL_len (L.take q) vs
  by_cases hql : q < L.length
  case neg =>
    rw [List.take_of_length_le (by omega)] at hhl hin ⊢
    have he : hideE vs L = 0 := by unfold hideE; rw [if_pos hpw, if_pos (List.all_eq_true.2 hin)]
    rw [he]
    repeat' first
      | ((with_reducible refine Nx.is_wp ?_); first | refine Nx.wo ?_ | refine Nx.zp (fun hc => ?_) (fun hc => ?_))
      | (refine Nx.zo ?_; first | refine Nx.opr rfl rfl ?_ | refine Nx.so ?_ | refine Nx.sb (fun bx => ?_) | refine Nx.sa (fun A2 c2 => ?_))
      | ((with_reducible refine Nx.is_at ?_); first | refine Nx.a ?_ | refine Nx.zd ?_ | refine Nx.zs (fun hc => ?_) (fun hc => ?_))
      | ((with_reducible refine Nx.is_mix ?_); first | refine Nx.m ?_ | refine Nx.zm ?_ | refine Nx.zt (fun hc => ?_) (fun hc => ?_))
      | refine Nx.zx ?_ | fail
    refine Nx.ret2 rfl (ROne.cell 0 rfl rfl rfl rfl rfl) (ROne.tmp rfl) [relR ⟨num, A1, c1, o, (D2, cd2, hidL vs L)⟩] ⟨⟨num, A1, c1, o, (D2, cd2, hidL vs L)⟩, by unfold relC rowV; dsimp only; rw [hidL_len], fun _ => ⟨rfl, hos, rfl⟩, fun h => absurd rfl h, rfl⟩ ?_
    refine Ent.trans (R' := [Vec 25 1 A1 o.length c1 (o.map rowV), Stars (o.map rowR), rowR (D2, cd2, hidL vs L), F]) (by unfold rowR; dsimp only; rw [hidL_len]; (exact Ent.auto)) ?_
    exact Ent.pack2.trans Ent.pack2
  have htk := take_snocJ hql
  have hrd : ∀ (W : World) (R : List Res), Rd W I R ((ad B).add (q * 1)) (.int .i64 (L.getD q default)) := fun W R => hB.rd hql
  have hbad : ¬ inB vs.length (L.getD q default) = true → hideE vs L = 2 := fun h => by
    unfold hideE
    rw [if_pos hpw, if_neg]
    intro hall
    exact h (List.all_eq_true.1 hall _ (getD_memI hql))
  have hsn := hidL_snoc vs (L.take q) (L.getD q default)
  rw [← htk] at hsn
  generalize L.getD q default = x at htk hrd hbad hsn
  by_cases hx : 0 ≤ x ∧ x < vs.length
  · obtain ⟨y, rfl⟩ : ∃ y : Nat, x = y := ⟨x.toNat, by omega⟩
    rw [Int.toNat_natCast] at hsn
    have hyl : y < vs.length := by omega
    refine Nx.vec_fact fun _ _ _ hD2 => ?_
    have hD2 := hD2 (by omega)
    repeat' first
      | ((with_reducible refine Nx.is_wp ?_); first | refine Nx.wo ?_ | refine Nx.zp (fun hc => ?_) (fun hc => ?_))
      | (refine Nx.zo ?_; first | refine Nx.opr rfl rfl ?_ | refine Nx.indexAddr_nat (A := B) (i := q) (sz := 1) rfl rfl rfl rfl rfl hql (hB.isSome (by omega)) ?_ | refine Nx.load rfl rfl rfl (hrd _ _) ?_ | refine Nx.indexAddr_nat (A := D2) (i := y) (sz := 1) rfl rfl rfl rfl rfl hyl hD2 ?_ | refine Nx.store_ints 0 (A := D2) (i := y) (l := hidL vs (L.take q)) rfl rfl rfl rfl (by omega) ?_ | refine Nx.so ?_ | refine Nx.sb (fun bx => ?_) | refine Nx.sa (fun A2 c2 => ?_))
      | ((with_reducible refine Nx.is_at ?_); first | refine Nx.a ?_ | refine Nx.zd ?_ | refine Nx.zs (fun hc => ?_) (fun hc => ?_))
      | ((with_reducible refine Nx.is_mix ?_); first | refine Nx.m ?_ | refine Nx.zm ?_ | refine Nx.zt (fun hc => ?_) (fun hc => ?_))
      | refine Nx.zx ?_ | fail
    exact Nx.again (q + 1) ⟨hql, by rw [htk]; intro k hk; rcases List.mem_append.1 hk with h | h; exact hin k h; rw [List.mem_singleton.1 h]; exact decide_eq_true hx⟩ (by omega) ⟨rfl, rfl, rfl, rfl, rfl, rfl, rfl, trivial⟩ (by rw [hsn]; (exact Ent.auto))
  · rw [hbad (by unfold inB; rw [decide_eq_true_eq]; exact hx)]
    by_cases hx0 : x < 0
    · repeat' first
        | ((with_reducible refine Nx.is_wp ?_); first | refine Nx.wo ?_ | refine Nx.zp (fun hc => ?_) (fun hc => ?_))
        | (refine Nx.zo ?_; first | refine Nx.opr rfl rfl ?_ | refine Nx.indexAddr_nat (A := B) (i := q) (sz := 1) rfl rfl rfl rfl rfl hql (hB.isSome (by omega)) ?_ | refine Nx.load rfl rfl rfl (hrd _ _) ?_ | refine Nx.so ?_ | refine Nx.sb (fun bx => ?_) | refine Nx.sa (fun A2 c2 => ?_))
        | ((with_reducible refine Nx.is_at ?_); first | refine Nx.a ?_ | refine Nx.zd ?_ | refine Nx.zs (fun hc => ?_) (fun hc => ?_))
        | ((with_reducible refine Nx.is_mix ?_); first | refine Nx.m ?_ | refine Nx.zm ?_ | refine Nx.zt (fun hc => ?_) (fun hc => ?_))
        | refine Nx.zx ?_ | fail
      exact Nx.ret2 rfl (ROne.cell 0 rfl rfl rfl rfl rfl) (ROne.tmp rfl) [relR default] ⟨default, rfl, fun h => absurd h (by decide), fun _ => rfl, rfl⟩ ((relR_nil _).trans (by (exact Ent.auto)))
    · repeat' first
        | ((with_reducible refine Nx.is_wp ?_); first | refine Nx.wo ?_ | refine Nx.zp (fun hc => ?_) (fun hc => ?_))
        | (refine Nx.zo ?_; first | refine Nx.opr rfl rfl ?_ | refine Nx.indexAddr_nat (A := B) (i := q) (sz := 1) rfl rfl rfl rfl rfl hql (hB.isSome (by omega)) ?_ | refine Nx.load rfl rfl rfl (hrd _ _) ?_ | refine Nx.so ?_ | refine Nx.sb (fun bx => ?_) | refine Nx.sa (fun A2 c2 => ?_))
        | ((with_reducible refine Nx.is_at ?_); first | refine Nx.a ?_ | refine Nx.zd ?_ | refine Nx.zs (fun hc => ?_) (fun hc => ?_))
        | ((with_reducible refine Nx.is_mix ?_); first | refine Nx.m ?_ | refine Nx.zm ?_ | refine Nx.zt (fun hc => ?_) (fun hc => ?_))
        | refine Nx.zx ?_ | fail
      exact Nx.ret2 rfl (ROne.cell 0 rfl rfl rfl rfl rfl) (ROne.tmp rfl) [relR default] ⟨default, rfl, fun h => absurd h (by decide), fun _ => rfl, rfl⟩ ((relR_nil _).trans (by (exact Ent.auto)))
end Go.Proofs.YtjnhoemgceghlaaGreat
/- Contracts of functions of the given program, and lemmas about plain lists and numbers: what the laws of this seat lean on. -/
namespace Go.Proofs.YtjnhoemgceghlaaGreat
open Go.Eng Go.Sol
attribute [local irreducible] opK wpList Code.wp Exit.then Exit.inBlock fnPost bodyPost Nx Calls Oper.wp Rd Rds Wr Ent Stars Blk Again Vec FnSpec wpMix QRun Stop Upto wpAt
/-! A release behind others; whether a set protects -/
set_option maxRecDepth 10000 in
set_option maxHeartbeats 8000000 in
theorem behind_spec (A : Option Addr) (c : Nat) (es : List Rel) (r : Rel) (I : PH) (he : SliceN relC 3 I A c es) (h9 : es.length ≤ 1000) :
    FnSpec Tryz.prog 36 [.slice A es.length c, .agg #[.int .i64 r.num, .slice r.va r.v.length r.vc, rowV r.val]] I [] (fun u R' => ∃ (A' : Option Addr) (c' : Nat), u = .slice A' (es ++ [r]).length c' ∧ R' = [rlR A' c' (es ++ [r])]) := by
  have hCl := CloneR_spec A c es I he (by omega)
  have h1 : (es ++ [r]).length = es.length + 1 := by rw [List.length_append]; rfl
  have h2 : (es ++ [r]).flatMap relC = es.flatMap relC ++ [.int .i64 r.num, .slice r.va r.v.length r.vc, rowV r.val] := by rw [List.flatMap_append, List.flatMap_cons, List.flatMap_nil, List.append_nil]; rfl
  obtain ⟨num, va, vc, v, D, cd, vs⟩ := r
  unfold rowV at h2 ⊢
  dsimp only at h2 ⊢
  rw [h1]
  unfold rlR
  rw [h1, h2]
  refine FnSpec.enterP Tryz.func36 rfl Tryz.ntmps36 rfl fun w F => ?_
  repeat' first
    | ((with_reducible refine Nx.is_wp ?_); first | refine Nx.p_stopr 1 rfl ?_ | refine Nx.wo ?_ | refine Nx.zp (fun hc => ?_) (fun hc => ?_))
    | (refine Nx.zo ?_; first | refine Nx.opr rfl rfl ?_ | refine Nx.so ?_ | refine Nx.sb (fun bx => ?_) | refine Nx.sa (fun A2 c2 => ?_))
    | ((with_reducible refine Nx.is_at ?_); first | refine Nx.a ?_ | refine Nx.zd ?_ | refine Nx.zs (fun hc => ?_) (fun hc => ?_))
    | ((with_reducible refine Nx.is_mix ?_); first | refine Nx.m ?_ | refine Nx.zm ?_ | refine Nx.zt (fun hc => ?_) (fun hc => ?_))
    | refine Nx.zx ?_ | fail
  refine Nx.unstop ?_
  revert bx; intro b3
  refine Nx.p_seq rfl ?_
  refine Nx.p_fork (id := 1) rfl [0, 2] [5] [1, 3, 4] [Blk b3 43 [.int .i64 num, .slice va v.length vc, .slice D vs.length cd]] 4 rfl rfl (by kernel_rfl) (by kernel_rfl) (by kernel_rfl) (by repeat first | exact PanicOk.fn | refine PanicOk.then_ ?_ | refine PanicOk.inB ?_) (by (exact Ent.auto)) ?_
  repeat' first
    | ((with_reducible refine Nx.is_wp ?_); first | refine Nx.wo ?_ | refine Nx.zp (fun hc => ?_) (fun hc => ?_))
    | (refine Nx.zo ?_; first | refine Nx.opr rfl rfl ?_ | refine Nx.so ?_ | refine Nx.sb (fun bx => ?_) | refine Nx.sa (fun A2 c2 => ?_))
    | ((with_reducible refine Nx.is_at ?_); first | refine Nx.a ?_ | refine Nx.zd ?_ | refine Nx.zs (fun hc => ?_) (fun hc => ?_))
    | ((with_reducible refine Nx.is_mix ?_); first | refine Nx.m ?_ | refine Nx.zm ?_ | refine Nx.zt (fun hc => ?_) (fun hc => ?_))
    | refine Nx.zx ?_ | fail
  refine Nx.fork2 (i := 1) (j := 3) (by kernel_rfl) rfl rfl rfl rfl ?_ ?_
  · refine Nx.call (Rpre := []) rfl rfl rfl (by kernel_rfl) rfl hCl (Ent.refl _) ?_
    rintro _ _ ⟨A1, c1, rfl, rfl⟩
    refine Nx.mix_S (by (exact Ent.auto)) ?_
    refine Nx.fork1 (i := 3) (by kernel_rfl) rfl rfl ?_
    refine Nx.sb (fun b8 => ?_)
    refine Nx.mix_S (by (exact Ent.auto)) ?_
    refine Nx.fork1 (i := 4) (by kernel_rfl) rfl rfl ?_
    refine Nx.ent (R' := [Blk b8 43 [.int .i64 num, .slice va v.length vc, .slice D vs.length cd], rlR A1 c1 es, Blk b3 43 [.int .i64 num, .slice va v.length vc, .slice D vs.length cd], F]) (by (exact Ent.auto)) ?_
    refine Nx.append_lit 0 rfl rfl rfl rfl (by kernel_rfl) rfl rfl rfl rfl (by omega) fun A2 c2 => ?_
    refine Nx.mix_S (by (exact Ent.auto)) ?_
    refine Nx.fork_fin (by kernel_rfl) rfl ?_
    repeat' first
      | ((with_reducible refine Nx.is_wp ?_); first | refine Nx.wo ?_ | refine Nx.zp (fun hc => ?_) (fun hc => ?_))
      | (refine Nx.zo ?_; first | refine Nx.opr rfl rfl ?_ | refine Nx.so ?_ | refine Nx.sb (fun bx => ?_) | refine Nx.sa (fun A2 c2 => ?_))
      | ((with_reducible refine Nx.is_at ?_); first | refine Nx.a ?_ | refine Nx.zd ?_ | refine Nx.zs (fun hc => ?_) (fun hc => ?_))
      | ((with_reducible refine Nx.is_mix ?_); first | refine Nx.m ?_ | refine Nx.zm ?_ | refine Nx.zt (fun hc => ?_) (fun hc => ?_))
      | refine Nx.zx ?_ | fail
    exact Nx.ret_fn rfl [_] ⟨A2, c2, rfl, rfl⟩ (by (exact Ent.auto))
  · refine Nx.sb (fun b8 => ?_)
    refine Nx.mix_S (by (exact Ent.auto)) ?_
    refine Nx.fork1 (i := 1) (by kernel_rfl) rfl rfl ?_
    refine Nx.call (Rpre := []) rfl rfl rfl (by kernel_rfl) rfl hCl (Ent.refl _) ?_
    rintro _ _ ⟨A1, c1, rfl, rfl⟩
    refine Nx.mix_S (by (exact Ent.auto)) ?_
    refine Nx.fork1 (i := 4) (by kernel_rfl) rfl rfl ?_
    refine Nx.ent (R' := [Blk b8 43 [.int .i64 num, .slice va v.length vc, .slice D vs.length cd], rlR A1 c1 es, Blk b3 43 [.int .i64 num, .slice va v.length vc, .slice D vs.length cd], F]) (by (exact Ent.auto)) ?_
    refine Nx.append_lit 0 rfl rfl rfl rfl (by kernel_rfl) rfl rfl rfl rfl (by omega) fun A2 c2 => ?_
    refine Nx.mix_S (by (exact Ent.auto)) ?_
    refine Nx.fork_fin (by kernel_rfl) rfl ?_
    repeat' first
      | ((with_reducible refine Nx.is_wp ?_); first | refine Nx.wo ?_ | refine Nx.zp (fun hc => ?_) (fun hc => ?_))
      | (refine Nx.zo ?_; first | refine Nx.opr rfl rfl ?_ | refine Nx.so ?_ | refine Nx.sb (fun bx => ?_) | refine Nx.sa (fun A2 c2 => ?_))
      | ((with_reducible refine Nx.is_at ?_); first | refine Nx.a ?_ | refine Nx.zd ?_ | refine Nx.zs (fun hc => ?_) (fun hc => ?_))
      | ((with_reducible refine Nx.is_mix ?_); first | refine Nx.m ?_ | refine Nx.zm ?_ | refine Nx.zt (fun hc => ?_) (fun hc => ?_))
      | refine Nx.zx ?_ | fail
    exact Nx.ret_fn rfl [_] ⟨A2, c2, rfl, rfl⟩ (by (exact Ent.auto))
set_option maxRecDepth 10000 in
set_option maxHeartbeats 8000000 in
theorem Protects_spec (A Ae B Ap : Option Addr) (c ce cb cp : Nat) (l : List Int) (es : List Rel) (r : Rel) (L prot : List Int) (m : Int) (I : PH) (hl : Ints I A c l) (hs : Sizes l) (he : Rels I Ae ce es) (hw : ∀ r ∈ es, Viewed l r.v) (h9 : es.length ≤ 1000)
    (hv : RowsOf I r.va r.vc r.v) (hd : Ints I r.val.1 r.val.2.1 r.val.2.2) (hwr : Viewed l r.v) (hd9 : r.val.2.2.length ≤ 1000) (hB : Ints I B cb L) (hp : Ints I Ap cp prot) (hp9 : prot.length ≤ 1000000) :
    FnSpec Tryz.prog 38 [.agg #[.slice A l.length c], .slice Ae es.length ce, .agg #[.int .i64 r.num, .slice r.va r.v.length r.vc, rowV r.val], .slice B L.length cb, .slice Ap prot.length cp, .int .i64 m] I []
      (fun u R' => u = .tuple #[.bool (protF l es r L prot m).1, .int .i64 (protF l es r L prot m).2] ∧ R' = []) := by
  have hv4 := (hwr.szsOk hs).1
  have hH := HideP_spec B cb L r I hv hd hB (by omega) (fun x hx => by
    obtain ⟨k, hk, rfl⟩ := List.mem_iff_getElem.1 hx
    have h1 := (hwr.each k (by rw [← hwr.len]; exact hk)).1
    have h2 := hs.at (k := k) (by rw [← hwr.len]; exact hk)
    rw [List.getD_eq_getElem?_getD, List.getElem?_eq_getElem hk, Option.getD_some] at h1
    omega) hd9
  unfold HidePost at hH
  unfold protF
  refine FnSpec.enterP Tryz.func38 rfl Tryz.ntmps38 rfl fun w F => ?_
  by_cases h0 : hideE r.val.2.2 L = 0
  case neg =>
    rw [if_pos h0]
    generalize hideE r.val.2.2 L = er at hH h0
    repeat' first
      | ((with_reducible refine Nx.is_wp ?_); first | refine Nx.wo ?_ | refine Nx.zp (fun hc => ?_) (fun hc => ?_))
      | (refine Nx.zo ?_; first | refine Nx.opr rfl rfl ?_ | (refine Nx.call (Rpre := []) rfl rfl rfl (by kernel_rfl) rfl hH (Ent.refl _) ?_; rintro _ _ ⟨r2, rfl, _, _, rfl⟩) | refine Nx.so ?_ | refine Nx.sb (fun bx => ?_) | refine Nx.sa (fun A2 c2 => ?_))
      | ((with_reducible refine Nx.is_at ?_); first | refine Nx.a ?_ | refine Nx.zd ?_ | refine Nx.zs (fun hc => ?_) (fun hc => ?_))
      | ((with_reducible refine Nx.is_mix ?_); first | refine Nx.m ?_ | refine Nx.zm ?_ | refine Nx.zt (fun hc => ?_) (fun hc => ?_))
      | refine Nx.zx ?_ | fail
    exact Nx.ret_fn rfl [] ⟨rfl, rfl⟩ (by (exact Ent.auto))
  rw [if_neg (by omega)]
  rw [h0] at hH
  have hBe := fun r2 : Rel => behind_spec Ae ce es r2 I he.outer h9
  have hSf := fun (A3 : Option Addr) (c3 : Nat) (r2 : Rel) (e1 : r2.num = r.num) (e2 : vStrip r2.v = vStrip r.v) (e3 : r2.val.2.2 = hidL r.val.2.2 L) (m' I' : PH) (hle : PH.le I I') (hm : PH.le m' I') (hv : Stars [rlR A3 c3 (es ++ [r2]), relR r2] m') => (by
    obtain ⟨q0, z0, y0⟩ := Stars.get 0 hv rfl
    obtain ⟨q1, z1, y1⟩ := Stars.get 1 hv rfl
    obtain ⟨q2, z2, y2⟩ := Stars.get 0 y1 rfl
    obtain ⟨q3, z3, y3⟩ := Stars.get 1 y1 rfl
    have hR : Rels I' A3 c3 (es ++ [r2]) := ⟨Vec.sliceN (z0.trans hm) y0 fun x _ => relC_len x, fun x hx => by
      rcases List.mem_append.1 hx with h | h
      · exact (he.view x h).mono hle
      · rw [List.mem_singleton.1 h]; exact ViewR.rows ((z2.trans z1).trans hm) y2, fun x hx => by
      rcases List.mem_append.1 hx with h | h
      · exact (he.val x h).mono hle
      · rw [List.mem_singleton.1 h]; exact Vec.sliceOf ((z3.trans z1).trans hm) y3⟩
    have := Safe_spec A A3 Ap c c3 cp l (es ++ [r2]) prot m I' (hl.mono hle) hs hR (fun x hx => (List.mem_append.1 hx).elim (hw x) fun h => by rw [List.mem_singleton.1 h]; exact viewed_strip e2.symm hwr) (hp.mono hle) hp9
    unfold safeB at this
    rw [prot_same e1 e2 e3] at this
    exact this :
    FnSpec Tryz.prog 35 [.agg #[.slice A l.length c], .slice A3 (es ++ [r2]).length c3, .slice Ap prot.length cp, .int .i64 m] I' [] (fun u R' => u = .tuple #[.bool (safeB l (es ++ [hidR r L]) prot m), .int .i64 (findD l (es ++ [hidR r L]) prot m).2] ∧ R' = []))
  generalize safeB l (es ++ [hidR r L]) prot m = sb at hSf
  generalize (findD l (es ++ [hidR r L]) prot m).2 = se at hSf
  dsimp only
  repeat' first
    | ((with_reducible refine Nx.is_wp ?_); first | refine Nx.wo ?_ | refine Nx.p_draw (id := 4) rfl [0, 1, 2, 4, 5, 3, 6, 7, 8, 9, 10] [3, 6] _ rfl rfl (by kernel_rfl) (by kernel_rfl) rfl (by repeat first | exact PanicOk.fn | refine PanicOk.then_ ?_ | refine PanicOk.inB ?_) (Ent.refl _) ?_ | refine Nx.zp (fun hc => ?_) (fun hc => ?_))
    | (refine Nx.zo ?_; first | refine Nx.opr rfl rfl ?_ | (refine Nx.call (Rpre := []) rfl rfl rfl (by kernel_rfl) rfl hH (Ent.refl _) ?_; rintro _ _ ⟨r2, rfl, hr2, _, rfl⟩; obtain ⟨e1, e2, e3⟩ := hr2 rfl; clear hr2) | (refine Nx.call (Rpre := []) rfl rfl rfl (by kernel_rfl) rfl (hBe r2) (Ent.refl _) ?_; rintro _ _ ⟨A3, c3, rfl, rfl⟩) | (refine Nx.call rfl rfl rfl (by kernel_rfl) rfl (FnSpec.keep [rlR _ _ (es ++ [r2]), relR r2] fun m' I' hle hm' hv => hSf _ _ r2 e1 e2 e3 m' I' hle hm' hv) (by (exact Ent.auto)) ?_; rintro _ _ ⟨_, ⟨rfl, rfl⟩, rfl⟩) | refine Nx.so ?_ | refine Nx.sb (fun bx => ?_) | refine Nx.sa (fun A2 c2 => ?_))
    | ((with_reducible refine Nx.is_at ?_); first | refine Nx.a ?_ | refine Nx.zd ?_ | refine Nx.zs (fun hc => ?_) (fun hc => ?_))
    | ((with_reducible refine Nx.is_mix ?_); first | refine Nx.m ?_ | refine Nx.zm ?_ | refine Nx.zt (fun hc => ?_) (fun hc => ?_))
    | refine Nx.zx ?_ | fail
  exact Nx.ret_fn rfl [] ⟨rfl, rfl⟩ (by (exact Ent.auto))
end Go.Proofs.YtjnhoemgceghlaaGreat
/- Contracts of functions of the given program, and lemmas about plain lists and numbers: what the laws of this seat lean on. -/
namespace Go.Proofs.YtjnhoemgceghlaaGreat
open Go.Eng Go.Sol
attribute [local irreducible] opK wpList Code.wp Exit.then Exit.inBlock fnPost bodyPost Nx Calls Oper.wp Rd Rds Wr Ent Stars Blk Again Vec FnSpec wpMix QRun Stop Upto wpAt
/-! The least set that protects: the program -/
def badW (x : Int) : Bool := decide (x < 0 ∨ 1000 < x)
set_option maxHeartbeats 8000000 in
set_option maxRecDepth 10000 in
theorem badW_spec (x : Int) (I : PH) : FnSpec Tryz.prog 34 [.int .i64 x] I [] (fun u R' => u = .bool (badW x) ∧ R' = []) := by
  unfold badW
  refine FnSpec.enterP Tryz.func34 rfl Tryz.ntmps34 rfl fun w F => ?_
  by_cases h : x < 0
  · rw [decide_eq_true (.inl h)]
    repeat' first
      | ((with_reducible refine Nx.is_wp ?_); first | refine Nx.wo ?_ | refine Nx.zp (fun hc => ?_) (fun hc => ?_))
      | (refine Nx.zo ?_; first | refine Nx.opr rfl rfl ?_ | refine Nx.so ?_ | refine Nx.sb (fun bx => ?_) | refine Nx.sa (fun A2 c2 => ?_))
      | ((with_reducible refine Nx.is_at ?_); first | refine Nx.a ?_ | refine Nx.zd ?_ | refine Nx.zs (fun hc => ?_) (fun hc => ?_))
      | ((with_reducible refine Nx.is_mix ?_); first | refine Nx.m ?_ | refine Nx.zm ?_ | refine Nx.zt (fun hc => ?_) (fun hc => ?_))
      | refine Nx.zx ?_ | fail
    exact Nx.ret_fn rfl [] ⟨rfl, rfl⟩ (by (exact Ent.auto))
  · repeat' first
      | ((with_reducible refine Nx.is_wp ?_); first | refine Nx.wo ?_ | refine Nx.zp (fun hc => ?_) (fun hc => ?_))
      | (refine Nx.zo ?_; first | refine Nx.opr rfl rfl ?_ | refine Nx.so ?_ | refine Nx.sb (fun bx => ?_) | refine Nx.sa (fun A2 c2 => ?_))
      | ((with_reducible refine Nx.is_at ?_); first | refine Nx.a ?_ | refine Nx.zd ?_ | refine Nx.zs (fun hc => ?_) (fun hc => ?_))
      | ((with_reducible refine Nx.is_mix ?_); first | refine Nx.m ?_ | refine Nx.zm ?_ | refine Nx.zt (fun hc => ?_) (fun hc => ?_))
      | refine Nx.zx ?_ | fail
    exact Nx.ret_fn rfl [] ⟨by rw [show decide (x < 0 ∨ 1000 < x) = decide (1000 < x) from decide_eq_decide.2 (by omega)], rfl⟩ (by (exact Ent.auto))
/-- Whether a set of bits protects. -/
def pbF (l : List Int) (es : List Rel) (r : Rel) (n : Nat) (prot : List Int) (m : Int) (s : Nat) : Bool := (protF l es r (bitsL s n) prot m).1 && decide ((protF l es r (bitsL s n) prot m).2 = 0)
/-- The least set: no other one that protects comes before it. -/
def IsLeast (w : List Int) (pb : Nat → Bool) : Option Nat → Prop
  | some s => s < 2 ^ w.length ∧ pb s = true ∧ ∀ t, t < 2 ^ w.length → pb t = true → cfN w w.length s t ≤ 0
  | none => ∀ t, t < 2 ^ w.length → pb t = false
/-- Why there is no search. -/
def lstE (l : List Int) (es : List Rel) (r : Rel) (w prot : List Int) (m : Int) : Int :=
  if 10 < r.val.2.2.length then 1 else if w.length ≠ r.val.2.2.length then 17 else if w.any badW = true then 2 else (findD l (es ++ [r]) prot m).2
def lstR (w : List Int) (e : Int) (res : Option Nat) : List Int × Int × Int :=
  if e ≠ 0 then ([], 0, e) else match res with
  | some s => (bitsL s w.length, wSum w (bitsL s w.length), 0)
  | none => ([], 0, 51)
theorem lstR_some (w : List Int) (s : Nat) : lstR w 0 (some s) = (bitsL s w.length, wSum w (bitsL s w.length), 0) := rfl
theorem least_at {w : List Int} {pb : Nat → Bool} {L : List (Sb w.length)} {q : Nat} (hpm : L.Perm (allS w.length)) (hps : L.Pairwise (fun x y => ltOf (fun a b : Sb w.length => cfN w w.length a.1 b.1) y x = false)) (hq : q < L.length) (hno : ∀ x ∈ L.take q, pb x.1 = false) (hp : pb (L.getD q default).1 = true) : IsLeast w pb (some (L.getD q default).1) := by
  refine ⟨(L.getD q default).2, hp, fun t ht hpt => ?_⟩
  have hm : (⟨t, ht⟩ : Sb w.length) ∈ L := hpm.mem_iff.2 (mem_allS _)
  have he : L.drop q = L.getD q default :: L.drop (q + 1) := by
    rw [List.drop_eq_getElem_cons hq, List.getD_eq_getElem?_getD, List.getElem?_eq_getElem hq]; rfl
  rw [← List.take_append_drop q L, he] at hm
  have hpd := hps.sublist (List.drop_sublist q L)
  rw [he, List.pairwise_cons] at hpd
  have han := (cfN_le w w.length).anti
  rcases List.mem_append.1 hm with h | h
  · have := hno _ h
    dsimp only at this
    rw [hpt] at this; cases this
  · rcases List.mem_cons.1 h with h | h
    · have h2 : t = (L.getD q default).1 := by rw [← h]
      rw [h2]
      have := han (L.getD q default).1 (L.getD q default).1
      omega
    · have h2 := hpd.1 _ h
      unfold ltOf at h2
      rw [decide_eq_false_iff_not] at h2
      have h3 : ¬ cfN w w.length t (L.getD q default).1 < 0 := h2
      have := han (L.getD q default).1 t
      omega
def LeastPost (l : List Int) (es : List Rel) (r : Rel) (w prot : List Int) (m : Int) (u : Value) (R' : List Res) : Prop :=
  ∃ (res : Option Nat) (A' : Option Addr) (c' : Nat), (lstE l es r w prot m = 0 → IsLeast w (pbF l es r w.length prot m) res) ∧ u = .tuple #[.slice A' (lstR w (lstE l es r w prot m) res).1.length c', .int .i64 (lstR w (lstE l es r w prot m) res).2.1, .int .i64 (lstR w (lstE l es r w prot m) res).2.2] ∧ R' = [iR A' c' (lstR w (lstE l es r w prot m) res).1]
set_option maxRecDepth 10000 in
set_option maxHeartbeats 16000000 in
theorem LeastP_spec (A Ae Aw Ap : Option Addr) (c ce cw cp : Nat) (l : List Int) (es : List Rel) (r : Rel) (w prot : List Int) (m : Int) (I : PH) (hl : Ints I A c l) (hs : Sizes l) (he : Rels I Ae ce es) (hw : ∀ r ∈ es, Viewed l r.v) (h9 : es.length ≤ 1000)
    (hv : RowsOf I r.va r.vc r.v) (hd : Ints I r.val.1 r.val.2.1 r.val.2.2) (hwr : Viewed l r.v) (hd6 : r.val.2.2.length ≤ 6) (hW : Ints I Aw cw w) (hp : Ints I Ap cp prot) (hp9 : prot.length ≤ 1000000) :
    FnSpec Tryz.prog 13 [.agg #[.slice A l.length c], .slice Ae es.length ce, .agg #[.int .i64 r.num, .slice r.va r.v.length r.vc, .slice r.val.1 r.val.2.2.length r.val.2.1], .slice Aw w.length cw, .slice Ap prot.length cp, .int .i64 m] I [] (LeastPost l es r w prot m) := by
  have hWl := hW.len
  have hBe := behind_spec Ae ce es r I he.outer h9
  have hCF := ContainsFunc_spec 34 badW Aw cw w I hW (by kernel_rfl) (fun z => badW_spec z I)
  have hSf := fun (A3 : Option Addr) (c3 : Nat) (m' I' : PH) (hle : PH.le I I') (hm : PH.le m' I') (hv' : Stars [rlR A3 c3 (es ++ [r])] m') => (by
    obtain ⟨q0, z0, y0⟩ := Stars.get 0 hv' rfl
    have hR : Rels I' A3 c3 (es ++ [r]) := ⟨Vec.sliceN (z0.trans hm) y0 fun x _ => relC_len x, fun x hx => by
      rcases List.mem_append.1 hx with h | h
      · exact (he.view x h).mono hle
      · rw [List.mem_singleton.1 h]; exact hv.mono hle, fun x hx => by
      rcases List.mem_append.1 hx with h | h
      · exact (he.val x h).mono hle
      · rw [List.mem_singleton.1 h]; exact hd.mono hle⟩
    exact Safe_spec A A3 Ap c c3 cp l (es ++ [r]) prot m I' (hl.mono hle) hs hR (fun x hx => (List.mem_append.1 hx).elim (hw x) fun h => by rw [List.mem_singleton.1 h]; exact hwr) (hp.mono hle) hp9 :
    FnSpec Tryz.prog 35 [.agg #[.slice A l.length c], .slice A3 (es ++ [r]).length c3, .slice Ap prot.length cp, .int .i64 m] I' [] (fun u R' => u = .tuple #[.bool (safeB l (es ++ [r]) prot m), .int .i64 (findD l (es ++ [r]) prot m).2] ∧ R' = []))
  have hPr := fun (B : Option Addr) (cb : Nat) (L : List Int) (I' : PH) (hle : PH.le I I') (hB : Ints I' B cb L) => Protects_spec A Ae B Ap c ce cb cp l es r L prot m I' (hl.mono hle) hs (he.mono hle) hw h9 (hv.mono hle) (hd.mono hle) hwr (by omega) hB (hp.mono hle) hp9
  obtain ⟨pb, hpb⟩ : ∃ pb, pb = pbF l es r w.length prot m := ⟨_, rfl⟩
  unfold LeastPost lstE
  rw [← hpb]
  obtain ⟨num, va, vc, v, D, cd, vs⟩ := r
  dsimp only at hd6 ⊢
  rw [if_neg (c := 10 < vs.length) (by omega)]
  refine FnSpec.enterP Tryz.func13 rfl Tryz.ntmps13 rfl fun w0 F => ?_
  by_cases h1 : w.length = vs.length
  case neg =>
    rw [if_pos h1]
    repeat' first
      | ((with_reducible refine Nx.is_wp ?_); first | refine Nx.wo ?_ | refine Nx.zp (fun hc => ?_) (fun hc => ?_))
      | (refine Nx.zo ?_; first | refine Nx.opr rfl rfl ?_ | refine Nx.so ?_ | refine Nx.sb (fun bx => ?_) | refine Nx.sa (fun A2 c2 => ?_))
      | ((with_reducible refine Nx.is_at ?_); first | refine Nx.a ?_ | refine Nx.zd ?_ | refine Nx.zs (fun hc => ?_) (fun hc => ?_))
      | ((with_reducible refine Nx.is_mix ?_); first | refine Nx.m ?_ | refine Nx.zm ?_ | refine Nx.zt (fun hc => ?_) (fun hc => ?_))
      | refine Nx.zx ?_ | fail
    exact Nx.ret_fn rfl [_] ⟨none, none, 0, fun h => absurd h (by decide), rfl, rfl⟩ ((Ent.vec_nil 3 1 _).trans (by (exact Ent.auto)))
  rw [if_neg (c := w.length ≠ vs.length) (by omega)]
  cases hb : w.any badW with
  | true =>
    rw [if_pos rfl]
    rw [hb] at hCF
    repeat' first
      | ((with_reducible refine Nx.is_wp ?_); first | refine Nx.wo ?_ | refine Nx.zp (fun hc => ?_) (fun hc => ?_))
      | (refine Nx.zo ?_; first | refine Nx.opr rfl rfl ?_ | refine Nx.callv rfl rfl rfl (by kernel_rfl) rfl hCF ?_ | refine Nx.so ?_ | refine Nx.sb (fun bx => ?_) | refine Nx.sa (fun A2 c2 => ?_))
      | ((with_reducible refine Nx.is_at ?_); first | refine Nx.a ?_ | refine Nx.zd ?_ | refine Nx.zs (fun hc => ?_) (fun hc => ?_))
      | ((with_reducible refine Nx.is_mix ?_); first | refine Nx.m ?_ | refine Nx.zm ?_ | refine Nx.zt (fun hc => ?_) (fun hc => ?_))
      | refine Nx.zx ?_ | fail
    exact Nx.ret_fn rfl [_] ⟨none, none, 0, fun h => absurd h (by decide), rfl, rfl⟩ ((Ent.vec_nil 3 1 _).trans (by (exact Ent.auto)))
  | false =>
  rw [if_neg (by decide)]
  rw [hb] at hCF
  have hWok : WOk w := fun x hx => by
    have : ¬ badW x = true := fun h => by
      have := List.any_eq_true.2 ⟨x, hx, h⟩
      rw [hb] at this; cases this
    unfold badW at this
    rw [decide_eq_true_eq] at this
    omega
  have hw6 : w.length ≤ 6 := by omega
  generalize safeB l (es ++ [⟨num, va, vc, v, (D, cd, vs)⟩]) prot m = sb at hSf
  generalize (findD l (es ++ [⟨num, va, vc, v, (D, cd, vs)⟩]) prot m).2 = er at hSf
  by_cases h0 : er = 0
  case neg =>
    repeat' first
      | ((with_reducible refine Nx.is_wp ?_); first | refine Nx.wo ?_ | refine Nx.p_draw (id := 7) rfl [0, 1, 2, 4, 5, 3, 6, 7, 8, 9, 10, 11] [3, 6] _ rfl rfl (by kernel_rfl) (by kernel_rfl) rfl (by repeat first | exact PanicOk.fn | refine PanicOk.then_ ?_ | refine PanicOk.inB ?_) (Ent.refl _) ?_ | refine Nx.p_draw (id := 13) rfl [0, 1, 2, 3, 5, 6, 4, 7, 8, 9, 10, 11, 12] [4, 7] _ rfl rfl (by kernel_rfl) (by kernel_rfl) rfl (by repeat first | exact PanicOk.fn | refine PanicOk.then_ ?_ | refine PanicOk.inB ?_) (Ent.refl _) ?_ | refine Nx.zp (fun hc => ?_) (fun hc => ?_))
      | (refine Nx.zo ?_; first | refine Nx.opr rfl rfl ?_ | refine Nx.callv rfl rfl rfl (by kernel_rfl) rfl hCF ?_ | (refine Nx.call (Rpre := []) rfl rfl rfl (by kernel_rfl) rfl hBe (Ent.refl _) ?_; rintro _ _ ⟨A3, c3, rfl, rfl⟩) | (refine Nx.call rfl rfl rfl (by kernel_rfl) rfl (FnSpec.keep [rlR _ _ (es ++ [⟨num, va, vc, v, (D, cd, vs)⟩])] fun m' I' hle hm' hv => hSf _ _ m' I' hle hm' hv) (by (exact Ent.auto)) ?_; rintro _ _ ⟨_, ⟨rfl, rfl⟩, rfl⟩) | refine Nx.so ?_ | refine Nx.sb (fun bx => ?_) | refine Nx.sa (fun A2 c2 => ?_))
      | ((with_reducible refine Nx.is_at ?_); first | refine Nx.a ?_ | refine Nx.zd ?_ | refine Nx.zs (fun hc => ?_) (fun hc => ?_))
      | ((with_reducible refine Nx.is_mix ?_); first | refine Nx.m ?_ | refine Nx.zm ?_ | refine Nx.zt (fun hc => ?_) (fun hc => ?_))
      | refine Nx.zx ?_ | fail
    exact Nx.ret_fn rfl [_] ⟨none, none, 0, fun h => absurd h h0, by unfold lstR; rw [if_pos h0]; rfl, rfl⟩ (by unfold lstR; rw [if_pos h0]; exact (Ent.vec_nil 3 1 _).trans (by (exact Ent.auto)))
  subst h0
  have hOr := ordered_spec Aw cw w I hW hWok hw6
  repeat' first
    | ((with_reducible refine Nx.is_wp ?_); first | refine Nx.wo ?_ | refine Nx.p_draw (id := 7) rfl [0, 1, 2, 4, 5, 3, 6, 7, 8, 9, 10, 11] [3, 6] _ rfl rfl (by kernel_rfl) (by kernel_rfl) rfl (by repeat first | exact PanicOk.fn | refine PanicOk.then_ ?_ | refine PanicOk.inB ?_) (Ent.refl _) ?_ | refine Nx.p_draw (id := 13) rfl [0, 1, 2, 3, 5, 6, 4, 7, 8, 9, 10, 11, 12] [4, 7] _ rfl rfl (by kernel_rfl) (by kernel_rfl) rfl (by repeat first | exact PanicOk.fn | refine PanicOk.then_ ?_ | refine PanicOk.inB ?_) (Ent.refl _) ?_ | refine Nx.zp (fun hc => ?_) (fun hc => ?_))
    | (refine Nx.zo ?_; first | refine Nx.opr rfl rfl ?_ | refine Nx.callv rfl rfl rfl (by kernel_rfl) rfl hCF ?_ | (refine Nx.call (Rpre := []) rfl rfl rfl (by kernel_rfl) rfl hBe (Ent.refl _) ?_; rintro _ _ ⟨A3, c3, rfl, rfl⟩) | (refine Nx.call rfl rfl rfl (by kernel_rfl) rfl (FnSpec.keep [rlR _ _ (es ++ [⟨num, va, vc, v, (D, cd, vs)⟩])] fun m' I' hle hm' hv => hSf _ _ m' I' hle hm' hv) (by (exact Ent.auto)) ?_; rintro _ _ ⟨_, ⟨rfl, rfl⟩, rfl⟩) | (refine Nx.call (Rpre := []) rfl rfl rfl (by kernel_rfl) rfl hOr (Ent.refl _) ?_; rintro _ _ ⟨A4, c4, L, rfl, hpm, hps, rfl⟩) | refine Nx.so ?_ | refine Nx.sb (fun bx => ?_) | refine Nx.sa (fun A2 c2 => ?_))
    | ((with_reducible refine Nx.is_at ?_); first | refine Nx.a ?_ | refine Nx.zd ?_ | refine Nx.zs (fun hc => ?_) (fun hc => ?_))
    | ((with_reducible refine Nx.is_mix ?_); first | refine Nx.m ?_ | refine Nx.zm ?_ | refine Nx.zt (fun hc => ?_) (fun hc => ?_))
    | refine Nx.zx ?_ | fail
  rename_i b6
  revert bx; intro b8
  refine Nx.freezeAt 0 rfl fun I2 m2 hI2 hm2 h2 => ?_
  have hS4 : Ints I2 A4 c4 (setsI L) := Vec.sliceOf hm2 h2
  have hsl := setsI_len L
  have hLl : L.length ≤ 64 := by rw [hpm.length_eq, allS_len]; have := Nat.pow_le_pow_right (n := 2) (by decide) hw6; simpa using this
  have hW2 := hW.mono hI2
  replace hPr := fun (B : Option Addr) (cb : Nat) (L : List Int) (I' : PH) (hle : PH.le I2 I') (hB : Ints I' B cb L) => hPr B cb L I' (hI2.trans hle) hB
  dsimp only at hPr
  refine Nx.p_loop (σ := Nat) (fun q => [(1, .slice Ae es.length ce), (3, .slice Aw w.length cw), (4, .slice Ap prot.length cp), (5, .int .i64 m), (6, .pointer (some ⟨b6, 0, none⟩)), (8, .pointer (some ⟨b8, 0, none⟩)), (50, .slice A4 (setsI L).length c4), (51, .int .i64 ((setsI L).length : Int)), (52, .int .i64 (q : Int))])
    (fun _ => [Blk b8 43 [.int .i64 num, .slice va v.length vc, .slice D vs.length cd], Blk b6 27 [.slice A l.length c], F]) (fun q => q ≤ L.length ∧ ∀ x ∈ L.take q, pb x.1 = false) (fun q => L.length - q) 0 rfl ⟨Nat.zero_le _, by simp⟩ ⟨rfl, rfl, rfl, rfl, rfl, rfl, rfl, rfl, rfl, trivial⟩ (by (exact Ent.auto)) ?_
  rintro q ⟨hq, hno⟩
  by_cases hql : q < L.length
  case neg =>
    rw [List.take_of_length_le (by omega)] at hno
    repeat' first
      | ((with_reducible refine Nx.is_wp ?_); first | refine Nx.wo ?_ | refine Nx.zp (fun hc => ?_) (fun hc => ?_))
      | (refine Nx.zo ?_; first | refine Nx.opr rfl rfl ?_ | refine Nx.so ?_ | refine Nx.sb (fun bx => ?_) | refine Nx.sa (fun A2 c2 => ?_))
      | ((with_reducible refine Nx.is_at ?_); first | refine Nx.a ?_ | refine Nx.zd ?_ | refine Nx.zs (fun hc => ?_) (fun hc => ?_))
      | ((with_reducible refine Nx.is_mix ?_); first | refine Nx.m ?_ | refine Nx.zm ?_ | refine Nx.zt (fun hc => ?_) (fun hc => ?_))
      | refine Nx.zx ?_ | fail
    exact Nx.imm_le hI2 (Nx.ret_fn rfl [_] ⟨none, none, 0, fun _ t ht => hno ⟨t, ht⟩ (hpm.mem_iff.2 (mem_allS _)), rfl, rfl⟩ ((Ent.vec_nil 3 1 _).trans (by (exact Ent.auto))))
  have htk : L.take (q + 1) = L.take q ++ [L.getD q default] := by rw [List.take_succ_eq_append_getElem hql, List.getD_eq_getElem?_getD, List.getElem?_eq_getElem hql]; rfl
  have hla := fun hp => least_at (pb := pb) hpm hps hql hno hp
  have hrd : ∀ (W : World) (R : List Res), Rd W I2 R ((ad A4).add (q * 1)) (.int .i64 ((L.getD q default).1 : Int)) := fun W R => by
    have := hS4.rd (W := W) (R := R) (k := q) (by omega)
    have e : (setsI L).getD q default = ((L.getD q default).1 : Int) := by
      unfold setsI
      rw [List.getD_eq_getElem?_getD, List.getElem?_map, List.getElem?_eq_getElem hql, List.getD_eq_getElem?_getD, List.getElem?_eq_getElem hql]; rfl
    rw [e] at this
    exact this
  have hs2 := (L.getD q default).2
  have hno2 : pb (L.getD q default).1 = false → ∀ x ∈ L.take (q + 1), pb x.1 = false := fun h x hx => by
    rw [htk] at hx
    rcases List.mem_append.1 hx with hx | hx
    · exact hno x hx
    · rw [List.mem_singleton.1 hx]; exact h
  generalize (L.getD q default).1 = s at hla hrd hs2 hno2
  clear htk
  have hs64 : s < 64 := Nat.lt_of_lt_of_le hs2 (by have := Nat.pow_le_pow_right (n := 2) (by decide) hw6; simpa using this)
  have h6 := bitsL_same hs2 (6 - w.length)
  rw [show w.length + (6 - w.length) = 6 by omega] at h6
  have hLs := list_spec s hs64 I2
  rw [h6] at hLs
  have hSm := sum_spec Aw cw w s I2 hW2 hWok hw6 hs2
  have hPs := fun (B : Option Addr) (cb : Nat) (m' I' : PH) (hle : PH.le I2 I') (hm : PH.le m' I') (hv' : Stars [iR B cb (bitsL s w.length)] m') => hPr B cb (bitsL s w.length) I' hle (by
    obtain ⟨q0, z0, y0⟩ := Stars.get 0 hv' rfl
    exact Vec.sliceOf (z0.trans hm) y0)
  have hpbs : pb s = ((protF l es ⟨num, va, vc, v, (D, cd, vs)⟩ (bitsL s w.length) prot m).1 && decide ((protF l es ⟨num, va, vc, v, (D, cd, vs)⟩ (bitsL s w.length) prot m).2 = 0)) := by rw [hpb]; rfl
  generalize protF l es ⟨num, va, vc, v, (D, cd, vs)⟩ (bitsL s w.length) prot m = fp at hPs hpbs
  obtain ⟨ok, e⟩ := fp
  dsimp only at hPs hpbs
  unfold rowV at hPs
  dsimp only at hPs
  by_cases hok : ok = true ∧ e = 0
  · obtain ⟨rfl, rfl⟩ := hok
    have hil := hla hpbs
    repeat' first
      | ((with_reducible refine Nx.is_wp ?_); first | refine Nx.wo ?_ | refine Nx.p_draw (id := 7) rfl [0, 1, 2, 4, 5, 3, 6, 7, 8, 9, 10, 11] [3, 6] _ rfl rfl (by kernel_rfl) (by kernel_rfl) rfl (by repeat first | exact PanicOk.fn | refine PanicOk.then_ ?_ | refine PanicOk.inB ?_) (Ent.refl _) ?_ | refine Nx.p_draw (id := 13) rfl [0, 1, 2, 3, 5, 6, 4, 7, 8, 9, 10, 11, 12] [4, 7] _ rfl rfl (by kernel_rfl) (by kernel_rfl) rfl (by repeat first | exact PanicOk.fn | refine PanicOk.then_ ?_ | refine PanicOk.inB ?_) (Ent.refl _) ?_ | refine Nx.zp (fun hc => ?_) (fun hc => ?_))
      | (refine Nx.zo ?_; first | refine Nx.opr rfl rfl ?_ | refine Nx.indexAddr_nat (A := A4) (i := q) (sz := 1) rfl rfl rfl rfl rfl (by omega) (hS4.isSome (by omega)) ?_ | refine Nx.load rfl rfl rfl (hrd _ _) ?_ | (refine Nx.call (Rpre := []) rfl rfl rfl (by kernel_rfl) rfl hLs (Ent.refl _) ?_; rintro _ _ ⟨A5, c5, rfl, rfl⟩) | (refine Nx.call rfl rfl rfl (by kernel_rfl) rfl (FnSpec.keep [iR _ _ (bitsL s w.length)] fun m' I' hle hm' hv => hPs _ _ m' I' hle hm' hv) (by (exact Ent.auto)) ?_; rintro _ _ ⟨_, ⟨rfl, rfl⟩, rfl⟩) | refine Nx.callv rfl rfl rfl (by kernel_rfl) rfl hSm ?_ | refine Nx.so ?_ | refine Nx.sb (fun bx => ?_) | refine Nx.sa (fun A2 c2 => ?_))
      | ((with_reducible refine Nx.is_at ?_); first | refine Nx.a ?_ | refine Nx.zd ?_ | refine Nx.zs (fun hc => ?_) (fun hc => ?_))
      | ((with_reducible refine Nx.is_mix ?_); first | refine Nx.m ?_ | refine Nx.zm ?_ | refine Nx.zt (fun hc => ?_) (fun hc => ?_))
      | refine Nx.zx ?_ | fail
    exact Nx.imm_le hI2 (Nx.ret_fn rfl [_] ⟨some s, A5, c5, fun _ => hil, rfl, rfl⟩ (by rw [lstR_some]; (exact Ent.auto)))
  · have hf : pb s = false := by
      rw [hpbs]
      cases ok with
      | false => rfl
      | true => rw [Bool.true_and]; exact decide_eq_false fun h => hok ⟨rfl, h⟩
    have hn2 := hno2 hf
    cases ok with
    | false =>
      repeat' first
        | ((with_reducible refine Nx.is_wp ?_); first | refine Nx.wo ?_ | refine Nx.p_draw (id := 7) rfl [0, 1, 2, 4, 5, 3, 6, 7, 8, 9, 10, 11] [3, 6] _ rfl rfl (by kernel_rfl) (by kernel_rfl) rfl (by repeat first | exact PanicOk.fn | refine PanicOk.then_ ?_ | refine PanicOk.inB ?_) (Ent.refl _) ?_ | refine Nx.p_draw (id := 13) rfl [0, 1, 2, 3, 5, 6, 4, 7, 8, 9, 10, 11, 12] [4, 7] _ rfl rfl (by kernel_rfl) (by kernel_rfl) rfl (by repeat first | exact PanicOk.fn | refine PanicOk.then_ ?_ | refine PanicOk.inB ?_) (Ent.refl _) ?_ | refine Nx.zp (fun hc => ?_) (fun hc => ?_))
        | (refine Nx.zo ?_; first | refine Nx.opr rfl rfl ?_ | refine Nx.indexAddr_nat (A := A4) (i := q) (sz := 1) rfl rfl rfl rfl rfl (by omega) (hS4.isSome (by omega)) ?_ | refine Nx.load rfl rfl rfl (hrd _ _) ?_ | (refine Nx.call (Rpre := []) rfl rfl rfl (by kernel_rfl) rfl hLs (Ent.refl _) ?_; rintro _ _ ⟨A5, c5, rfl, rfl⟩) | (refine Nx.call rfl rfl rfl (by kernel_rfl) rfl (FnSpec.keep [iR _ _ (bitsL s w.length)] fun m' I' hle hm' hv => hPs _ _ m' I' hle hm' hv) (by (exact Ent.auto)) ?_; rintro _ _ ⟨_, ⟨rfl, rfl⟩, rfl⟩) | refine Nx.so ?_ | refine Nx.sb (fun bx => ?_) | refine Nx.sa (fun A2 c2 => ?_))
        | ((with_reducible refine Nx.is_at ?_); first | refine Nx.a ?_ | refine Nx.zd ?_ | refine Nx.zs (fun hc => ?_) (fun hc => ?_))
        | ((with_reducible refine Nx.is_mix ?_); first | refine Nx.m ?_ | refine Nx.zm ?_ | refine Nx.zt (fun hc => ?_) (fun hc => ?_))
        | refine Nx.zx ?_ | fail
      exact Nx.again (q + 1) ⟨hql, hn2⟩ (by omega) ⟨rfl, rfl, rfl, rfl, rfl, rfl, rfl, rfl, rfl, trivial⟩ (by (exact Ent.auto))
    | true =>
      have he0 : e ≠ 0 := fun h => hok ⟨rfl, h⟩
      repeat' first
        | ((with_reducible refine Nx.is_wp ?_); first | refine Nx.wo ?_ | refine Nx.p_draw (id := 7) rfl [0, 1, 2, 4, 5, 3, 6, 7, 8, 9, 10, 11] [3, 6] _ rfl rfl (by kernel_rfl) (by kernel_rfl) rfl (by repeat first | exact PanicOk.fn | refine PanicOk.then_ ?_ | refine PanicOk.inB ?_) (Ent.refl _) ?_ | refine Nx.p_draw (id := 13) rfl [0, 1, 2, 3, 5, 6, 4, 7, 8, 9, 10, 11, 12] [4, 7] _ rfl rfl (by kernel_rfl) (by kernel_rfl) rfl (by repeat first | exact PanicOk.fn | refine PanicOk.then_ ?_ | refine PanicOk.inB ?_) (Ent.refl _) ?_ | refine Nx.zp (fun hc => ?_) (fun hc => ?_))
        | (refine Nx.zo ?_; first | refine Nx.opr rfl rfl ?_ | refine Nx.indexAddr_nat (A := A4) (i := q) (sz := 1) rfl rfl rfl rfl rfl (by omega) (hS4.isSome (by omega)) ?_ | refine Nx.load rfl rfl rfl (hrd _ _) ?_ | (refine Nx.call (Rpre := []) rfl rfl rfl (by kernel_rfl) rfl hLs (Ent.refl _) ?_; rintro _ _ ⟨A5, c5, rfl, rfl⟩) | (refine Nx.call rfl rfl rfl (by kernel_rfl) rfl (FnSpec.keep [iR _ _ (bitsL s w.length)] fun m' I' hle hm' hv => hPs _ _ m' I' hle hm' hv) (by (exact Ent.auto)) ?_; rintro _ _ ⟨_, ⟨rfl, rfl⟩, rfl⟩) | refine Nx.so ?_ | refine Nx.sb (fun bx => ?_) | refine Nx.sa (fun A2 c2 => ?_))
        | ((with_reducible refine Nx.is_at ?_); first | refine Nx.a ?_ | refine Nx.zd ?_ | refine Nx.zs (fun hc => ?_) (fun hc => ?_))
        | ((with_reducible refine Nx.is_mix ?_); first | refine Nx.m ?_ | refine Nx.zm ?_ | refine Nx.zt (fun hc => ?_) (fun hc => ?_))
        | refine Nx.zx ?_ | fail
      exact Nx.again (q + 1) ⟨hql, hn2⟩ (by omega) ⟨rfl, rfl, rfl, rfl, rfl, rfl, rfl, rfl, rfl, trivial⟩ (by (exact Ent.auto))
end Go.Proofs.YtjnhoemgceghlaaGreat
/- Contracts of functions of the given program, and lemmas about plain lists and numbers: what the laws of this seat lean on. -/
namespace Go.Proofs.YtjnhoemgceghlaaGreat
open Go.Eng Go.Sol
/-! Suppression of made releases: plain facts -/
/-- What Least answers, of a made story. -/
def LQ (l : List Int) (es : List Rel) (r : Rel) (w p : List Int) (m : Int) (x : List Int × Int × Int) : Prop := ∃ res, (lstE l es r w p m = 0 → IsLeast w (pbF l es r w.length p m) res) ∧ x = lstR w (lstE l es r w p m) res
/-! The list of more cells -/
end Go.Proofs.YtjnhoemgceghlaaGreat
/- Contracts of functions of the given program, and lemmas about plain lists and numbers: what the laws of this seat lean on. -/
namespace Go.Proofs.YtjnhoemgceghlaaGreat
open Go.Eng Go.Sol
/-! Counting through all tables of some cells -/
def InD : List Int → List Int → Prop
  | [], [] => True
  | s :: S, d :: D => (0 ≤ d ∧ d < s) ∧ InD S D
  | _, _ => False
theorem InD.len : ∀ {S D : List Int}, InD S D → D.length = S.length
  | [], [], _ => rfl
  | [], _ :: _, h => h.elim
  | _ :: _, [], h => h.elim
  | _ :: S, _ :: D, h => by rw [List.length_cons, List.length_cons, InD.len h.2]
theorem InD.at : ∀ {S D : List Int}, InD S D → ∀ {j : Nat}, j < S.length → 0 ≤ D.getD j 0 ∧ D.getD j 0 < S.getD j 0
  | _ :: S, _ :: D, h, 0, _ => h.1
  | _ :: S, _ :: D, h, j + 1, hj => InD.at h.2 (j := j) (by simpa using hj)
theorem InD.of : ∀ {S D : List Int}, D.length = S.length → (∀ j, j < S.length → 0 ≤ D.getD j 0 ∧ D.getD j 0 < S.getD j 0) → InD S D
  | [], [], _, _ => trivial
  | [], _ :: _, h, _ => by simp at h
  | _ :: _, [], h, _ => by simp at h
  | s :: S, d :: D, h, hj => ⟨hj 0 (by simp), InD.of (by simpa using h) fun j hjl => hj (j + 1) (by simpa using hjl)⟩
theorem mset_keys {xs : List (Int × Unit)} {k z : Int} : z ∈ (mset xs k ()).map (·.1) ↔ z = k ∨ z ∈ xs.map (·.1) := by
  induction xs with
  | nil => simp [mset]
  | cons p xs ih =>
    obtain ⟨q, u⟩ := p
    unfold mset
    by_cases h : k = q
    · rw [if_pos h, h]; simp
    · rw [if_neg h, List.map_cons, List.mem_cons, ih, List.map_cons, List.mem_cons]
      constructor
      · rintro (h | h | h)
        · exact .inr (.inl h)
        · exact .inl h
        · exact .inr (.inr h)
      · rintro (h | h | h)
        · exact .inr (.inl h)
        · exact .inl h
        · exact .inr (.inr h)
theorem mset_nodup {xs : List (Int × Unit)} {k : Int} (h : (xs.map (·.1)).Nodup) : ((mset xs k ()).map (·.1)).Nodup := by
  induction xs with
  | nil => simp [mset]
  | cons p xs ih =>
    obtain ⟨q, u⟩ := p
    unfold mset
    by_cases hk : k = q
    · rw [if_pos hk]; exact h
    · rw [if_neg hk]
      rw [List.map_cons, List.nodup_cons] at h ⊢
      exact ⟨fun hm => (mset_keys.1 hm).elim (fun e => hk e.symm) h.1, ih h.2⟩
end Go.Proofs.YtjnhoemgceghlaaGreat
/- Contracts of functions of the given program, and lemmas about plain lists and numbers: what the laws of this seat lean on. -/
namespace Go.Proofs.YtjnhoemgceghlaaGreat
open Go.Eng Go.Sol
attribute [local irreducible] opK wpList Code.wp Exit.then Exit.inBlock fnPost bodyPost Nx Calls Oper.wp Rd Rds Wr Ent Stars Blk Again Vec FnSpec wpMix QRun Stop Upto wpAt
/-! What each cell can be: all tables are tried -/
abbrev SeenE := Option (Nat × List (Int × Unit))
def CellOk (o : SeenE) (Q : Int → Prop) : Prop := match o with
  | none => ∀ z, ¬ Q z
  | some p => (p.2.map (·.1)).Nodup ∧ ∀ z, z ∈ p.2.map (·.1) ↔ Q z
theorem CellOk.congr {o : SeenE} {Q Q' : Int → Prop} (h : CellOk o Q) (hq : ∀ z, Q' z ↔ Q z) : CellOk o Q' := by
  cases o with
  | none => exact fun z hz => h z ((hq z).1 hz)
  | some p => exact ⟨h.1, fun z => (h.2 z).trans (hq z).symm⟩
theorem CellOk.fresh {Q Q' : Int → Prop} (b : Nat) {v : Int} (h : CellOk none Q) (hq : ∀ z, Q' z ↔ z = v ∨ Q z) : CellOk (some (b, mset [] v ())) Q' :=
  ⟨mset_nodup (by simp), fun z => by
    rw [mset_keys, hq]
    have := h z
    simp [this]⟩
theorem CellOk.more {Q Q' : Int → Prop} {b : Nat} {l : List (Int × Unit)} {v : Int} (h : CellOk (some (b, l)) Q) (hq : ∀ z, Q' z ↔ z = v ∨ Q z) : CellOk (some (b, mset l v ())) Q' :=
  ⟨mset_nodup h.1, fun z => by rw [mset_keys, hq, h.2]⟩
structure GoodS (n : Nat) (st : List SeenE) (fd : Bool) (V : List Int → Prop) : Prop where
  len : st.length = n
  cell : ∀ j, j < n → CellOk (st.getD j default) (fun z => ∃ t, V t ∧ t.getD j 0 = z)
  found : fd = true ↔ ∃ t, V t
theorem GoodS.congr {n : Nat} {st : List SeenE} {fd : Bool} {V V' : List Int → Prop} (h : GoodS n st fd V) (hv : ∀ t, V' t ↔ V t) : GoodS n st fd V' := by
  obtain rfl : V' = V := funext fun t => propext (hv t)
  exact h
theorem Rd.vecAt (k : Nat) {W : World} {I : PH} {R : List Res} {t : TypeId} {A : Option Addr} {n c : Nat} {l : List Int} {i : Nat} {v : Int} (hk : nthL R k = some (Vec t 1 A n c (l.map (Value.int .i64)))) (hi : i < l.length) (hv : l.getD i 0 = v) : Rd W I R ((ad A).add (i * 1)) (.int .i64 v) := by
  subst hv
  exact Rd.vecEl k (f := Value.int .i64) hk hi
end Go.Proofs.YtjnhoemgceghlaaGreat
/- Contracts of functions of the given program, and lemmas about plain lists and numbers: what the laws of this seat lean on. -/
namespace Go.Proofs.YtjnhoemgceghlaaGreat
open Go.Eng Go.Sol
attribute [local irreducible] opK wpList Code.wp Exit.then Exit.inBlock fnPost bodyPost Nx Calls Oper.wp Rd Rds Wr Ent Stars Blk Again Vec FnSpec wpMix QRun Stop Upto wpAt
/-! slices.DeleteFunc at ints, with a closure that reads frozen memory -/
theorem gx_at {l : List Int} {k : Nat} (h : k < l.length) : l.getD k default = l[k] := by rw [List.getD_eq_getElem?_getD, List.getElem?_eq_getElem h]; rfl
/-- A list while some are taken out of it. -/
structure DelI (p : Int → Bool) (l : List Int) (s : Nat × List Int) : Prop where
  le : s.1 ≤ l.length
  len : s.2.length = l.length
  head : s.2.take ((l.take s.1).filter fun x => !(p x)).length = (l.take s.1).filter fun x => !(p x)
  tail : ∀ j, s.1 ≤ j → s.2.getD j default = l.getD j default
  lt : ((l.take s.1).filter fun x => !(p x)).length < s.1
theorem take_snocF {l : List Int} {p : Int → Bool} {k : Nat} (h : k < l.length) : (l.take (k + 1)).filter (fun x => !(p x)) = (l.take k).filter (fun x => !(p x)) ++ (if p (l.getD k default) = true then [] else [l.getD k default]) := by
  rw [List.take_succ_eq_append_getElem h, List.filter_append, gx_at h]
  congr 1
  cases hp : p l[k] <;> simp [hp]
theorem DelI.keep {p : Int → Bool} {l xs : List Int} {k : Nat} (h : DelI p l (k, xs)) (hk : k < l.length) (hp : p (l.getD k default) = false) : DelI p l (k + 1, xs.set ((l.take k).filter fun x => !(p x)).length (l.getD k default)) := by
  have e := take_snocF (p := p) hk
  rw [if_neg (by rw [hp]; decide)] at e
  have hlt := h.lt
  have hlen := h.len
  have hh := h.head
  dsimp only at hlt hlen hh
  refine ⟨hk, by dsimp only; rw [List.length_set]; exact hlen, ?_, fun j hj => ?_, by dsimp only; rw [e]; simp only [List.length_append, List.length_singleton]; omega⟩
  · dsimp only
    rw [e, List.length_append, List.length_singleton, List.take_succ_eq_append_getElem (by rw [List.length_set]; omega), List.take_set_of_le (Nat.le_refl _), hh]
    simp
  · dsimp only at hj ⊢
    rw [List.getD_eq_getElem?_getD, List.getElem?_set_ne (by omega), ← List.getD_eq_getElem?_getD]
    exact h.tail j (by dsimp only; omega)
end Go.Proofs.YtjnhoemgceghlaaGreat
/- Contracts of functions of the given program, and lemmas about plain lists and numbers: what the laws of this seat lean on. -/
namespace Go.Proofs.YtjnhoemgceghlaaGreat
open Go.Eng Go.Sol
attribute [local irreducible] opK wpList Code.wp Exit.then Exit.inBlock fnPost bodyPost Nx Calls Oper.wp Rd Rds Wr Ent Stars Blk Again Vec FnSpec wpMix QRun Stop Upto wpAt
/-! The law: a greater margin or more protected cells -/
structure Given (I : PH) (B As Aw Bp : Option Addr) (c' ca cw cp : Nat) (s : List Int) (es : List Rel) (r : Rel) (w p : List Int) : Prop where
  z : Ints I B c' s
  es : Rels I As ca es
  v : RowsOf I r.va r.vc r.v
  d : Ints I r.val.1 r.val.2.1 r.val.2.2
  w : Ints I Aw cw w
  p : Ints I Bp cp p
theorem Given.mono {I I' : PH} {B As Aw Bp : Option Addr} {c' ca cw cp : Nat} {s : List Int} {es : List Rel} {r : Rel} {w p : List Int} (h : Given I B As Aw Bp c' ca cw cp s es r w p) (hle : PH.le I I') : Given I' B As Aw Bp c' ca cw cp s es r w p :=
  ⟨h.z.mono hle, h.es.mono hle, h.v.mono hle, h.d.mono hle, h.w.mono hle, h.p.mono hle⟩
end Go.Proofs.YtjnhoemgceghlaaGreat
/- Contracts of functions of the given program, and lemmas about plain lists and numbers: what the laws of this seat lean on. -/
namespace Go.Proofs.YtjnhoemgceghlaaGreat
open Go.Eng
attribute [local irreducible] opK wpList Code.wp Exit.then Exit.inBlock fnPost bodyPost Nx Calls Oper.wp Rd Rds Wr Ent Stars Blk Again Vec FnSpec wpMix QRun Stop Upto wpAt
attribute [local irreducible] strV
/-! Names -/
def chB (c : UInt8) : Bool := decide (97 ≤ c.toNat ∧ c.toNat ≤ 122 ∨ 48 ≤ c.toNat ∧ c.toNat ≤ 57 ∨ c.toNat = 95)
def words : List (List UInt8) := [[97, 108, 108], [97, 110, 100], [101, 118, 101, 110, 116], [102, 114, 111, 109], [109, 105, 115, 115, 105, 110, 103], [110, 111, 116], [111, 110], [111, 114], [116, 111], [117, 110, 100, 101, 114], [119, 104, 101, 114, 101]]
def headB (s : List UInt8) : Bool := decide (1 ≤ s.length ∧ s.length ≤ 16 ∧ 97 ≤ (s.getD 0 default).toNat ∧ (s.getD 0 default).toNat ≤ 122)
def nameB (s : List UInt8) : Bool := headB s && s.all chB && !(words.contains s)
theorem all_take {s : List UInt8} {k : Nat} (hk : k < s.length) : (s.take (k + 1)).all chB = ((s.take k).all chB && chB (s.getD k default)) := by
  rw [List.take_succ_eq_append_getElem hk, List.all_append, List.getD_eq_getElem?_getD, List.getElem?_eq_getElem hk]
  simp
theorem all_false {s : List UInt8} {k : Nat} (hk : k < s.length) (h : chB (s.getD k default) = false) : s.all chB = false := by
  rw [List.all_eq_false]
  exact ⟨s.getD k default, by rw [List.getD_eq_getElem?_getD, List.getElem?_eq_getElem hk]; exact List.getElem_mem _, by rw [h]; decide⟩
set_option maxHeartbeats 4000000 in
set_option maxRecDepth 10000 in
theorem Name_spec (s : List UInt8) (hs : 0 ≤ s.length) (I : PH) : FnSpec Tryz.prog 101 [strV s] I [] (fun v R' => v = .bool (nameB s) ∧ R' = []) := by
  by_cases hh : headB s = true
  · have hh' := of_decide_eq_true hh
    replace hs : s.length ≤ 34359738368 := by omega
    refine FnSpec.enterP Tryz.func101 rfl Tryz.ntmps101 rfl fun w F => ?_
    repeat' first
      | ((with_reducible refine Nx.is_wp ?_); first | refine Nx.wo ?_ | refine Nx.zp (fun hc => ?_) (fun hc => ?_))
      | (refine Nx.zo ?_; first | refine Nx.opr rfl rfl ?_ | refine Nx.len_strV rfl rfl rfl rfl ?_ | refine Nx.index_str (i := 0) rfl rfl rfl rfl (by omega) ?_ | refine Nx.str_bytes rfl rfl rfl rfl rfl hs (fun b cap h1 h2 => ?_) | refine Nx.so ?_ | refine Nx.sb (fun bx => ?_) | refine Nx.sa (fun A2 c2 => ?_))
      | ((with_reducible refine Nx.is_at ?_); first | refine Nx.a ?_ | refine Nx.zd ?_ | refine Nx.zs (fun hc => ?_) (fun hc => ?_))
      | ((with_reducible refine Nx.is_mix ?_); first | refine Nx.m ?_ | refine Nx.zm ?_ | refine Nx.zt (fun hc => ?_) (fun hc => ?_))
      | refine Nx.zx ?_ | fail
    refine Nx.freezeAt 0 rfl fun I1 m1 hI1 hm1 h1' => ?_
    have hb : SliceOf byteV I1 (some ⟨b, 0, none⟩) cap s := BlkZ.sliceOf hm1 h1' h1 h2
    repeat' first
      | ((with_reducible refine Nx.is_wp ?_); first | refine Nx.wo ?_ | refine Nx.zp (fun hc => ?_) (fun hc => ?_))
      | (refine Nx.zo ?_; first | refine Nx.opr rfl rfl ?_ | refine Nx.so ?_ | refine Nx.sb (fun bx => ?_) | refine Nx.sa (fun A2 c2 => ?_))
      | ((with_reducible refine Nx.is_at ?_); first | refine Nx.a ?_ | refine Nx.zd ?_ | refine Nx.zs (fun hc => ?_) (fun hc => ?_))
      | ((with_reducible refine Nx.is_mix ?_); first | refine Nx.m ?_ | refine Nx.zm ?_ | refine Nx.zt (fun hc => ?_) (fun hc => ?_))
      | refine Nx.zx ?_ | fail
    refine Nx.p_loop (σ := Nat) (fun k => [(0, strV s), (24, .slice (some ⟨b, 0, none⟩) s.length cap), (25, .int .i64 s.length), (26, .int .i64 (k : Int))])
      (fun _ => [F]) (fun k => k ≤ s.length ∧ (s.take k).all chB = true) (fun k => s.length - k) 0 rfl ⟨Nat.zero_le _, rfl⟩ ⟨rfl, rfl, rfl, rfl, trivial⟩ (by (exact Ent.auto)) ?_
    rintro k ⟨hk, hal⟩
    by_cases hlt : k < s.length
    · have ht := all_take hlt
      rw [hal, Bool.true_and] at ht
      have hf := all_false hlt
      by_cases hc : chB (s.getD k default) = true
      · rw [hc] at ht
        have hc' := of_decide_eq_true hc
        repeat' first
          | ((with_reducible refine Nx.is_wp ?_); first | refine Nx.wo ?_ | refine Nx.zp (fun hc => ?_) (fun hc => ?_))
          | (refine Nx.zo ?_; first | refine Nx.opr rfl rfl ?_ | refine Nx.indexAddr_nat rfl rfl rfl rfl rfl (by omega) rfl ?_ | refine Nx.load rfl rfl rfl (hb.rd (by omega)) ?_ | refine Nx.so ?_ | refine Nx.sb (fun bx => ?_) | refine Nx.sa (fun A2 c2 => ?_))
          | ((with_reducible refine Nx.is_at ?_); first | refine Nx.a ?_ | refine Nx.zd ?_ | refine Nx.zs (fun hc => ?_) (fun hc => ?_))
          | ((with_reducible refine Nx.is_mix ?_); first | refine Nx.m ?_ | refine Nx.zm ?_ | refine Nx.zt (fun hc => ?_) (fun hc => ?_))
          | refine Nx.zx ?_ | fail
        all_goals exact Nx.again (k + 1) ⟨hlt, ht⟩ (by omega) ⟨rfl, rfl, rfl, rfl, trivial⟩ (by (exact Ent.auto))
      · have hc0 : chB (s.getD k default) = false := by simpa using hc
        have hc' := of_decide_eq_false hc0
        have hn : nameB s = false := by unfold nameB; rw [hf hc0]; simp
        rw [hn]
        repeat' first
          | ((with_reducible refine Nx.is_wp ?_); first | refine Nx.wo ?_ | refine Nx.zp (fun hc => ?_) (fun hc => ?_))
          | (refine Nx.zo ?_; first | refine Nx.opr rfl rfl ?_ | refine Nx.indexAddr_nat rfl rfl rfl rfl rfl (by omega) rfl ?_ | refine Nx.load rfl rfl rfl (hb.rd (by omega)) ?_ | refine Nx.so ?_ | refine Nx.sb (fun bx => ?_) | refine Nx.sa (fun A2 c2 => ?_))
          | ((with_reducible refine Nx.is_at ?_); first | refine Nx.a ?_ | refine Nx.zd ?_ | refine Nx.zs (fun hc => ?_) (fun hc => ?_))
          | ((with_reducible refine Nx.is_mix ?_); first | refine Nx.m ?_ | refine Nx.zm ?_ | refine Nx.zt (fun hc => ?_) (fun hc => ?_))
          | refine Nx.zx ?_ | fail
        all_goals exact Nx.imm_le hI1 (Nx.ret_fn rfl [] ⟨rfl, rfl⟩ (by (exact Ent.auto)))
    · obtain rfl : k = s.length := by omega
      rw [List.take_length] at hal
      have hnb : nameB s = !(words.contains s) := by unfold nameB; rw [hh, hal]; rfl
      repeat' first
        | ((with_reducible refine Nx.is_wp ?_); first | refine Nx.p_bool_t rfl rfl (by assumption) ?_ | refine Nx.p_bool_f rfl rfl (by assumption) ?_ | refine Nx.wo ?_ | refine Nx.zp (fun hc => ?_) (fun hc => ?_))
        | (refine Nx.zo ?_; first | refine Nx.opr rfl rfl ?_ | refine Nx.binr rfl rfl run_eql_c rfl ?_ | refine Nx.so ?_ | refine Nx.sb (fun bx => ?_) | refine Nx.sa (fun A2 c2 => ?_))
        | ((with_reducible refine Nx.is_at ?_); first | refine Nx.a ?_ | refine Nx.zd ?_ | refine Nx.zs (fun hc => ?_) (fun hc => ?_))
        | ((with_reducible refine Nx.is_mix ?_); first | refine Nx.m ?_ | refine Nx.zm ?_ | refine Nx.zt (fun hc => ?_) (fun hc => ?_))
        | refine Nx.zx ?_ | fail
      all_goals
        refine Nx.imm_le hI1 (Nx.ret_fn rfl [] ⟨?_, rfl⟩ (by (exact Ent.auto)))
        rw [hnb]
        simp only [beq_iff_eq, beq_eq_false_iff_ne] at *
        simp [words, *]
  · have hh0 : headB s = false := by simpa using hh
    have hh' := of_decide_eq_false hh0
    have hn : nameB s = false := by unfold nameB; rw [hh0]; rfl
    rw [hn]
    by_cases h1 : 1 ≤ s.length
    · refine FnSpec.enterP Tryz.func101 rfl Tryz.ntmps101 rfl fun w F => ?_
      repeat' first
        | ((with_reducible refine Nx.is_wp ?_); first | refine Nx.wo ?_ | refine Nx.zp (fun hc => ?_) (fun hc => ?_))
        | (refine Nx.zo ?_; first | refine Nx.opr rfl rfl ?_ | refine Nx.len_strV rfl rfl rfl rfl ?_ | refine Nx.index_str (i := 0) rfl rfl rfl rfl (by omega) ?_ | refine Nx.so ?_ | refine Nx.sb (fun bx => ?_) | refine Nx.sa (fun A2 c2 => ?_))
        | ((with_reducible refine Nx.is_at ?_); first | refine Nx.a ?_ | refine Nx.zd ?_ | refine Nx.zs (fun hc => ?_) (fun hc => ?_))
        | ((with_reducible refine Nx.is_mix ?_); first | refine Nx.m ?_ | refine Nx.zm ?_ | refine Nx.zt (fun hc => ?_) (fun hc => ?_))
        | refine Nx.zx ?_ | fail
      all_goals exact Nx.ret_fn rfl [] ⟨rfl, rfl⟩ (by (exact Ent.auto))
    · refine FnSpec.enterP Tryz.func101 rfl Tryz.ntmps101 rfl fun w F => ?_
      repeat' first
        | ((with_reducible refine Nx.is_wp ?_); first | refine Nx.wo ?_ | refine Nx.zp (fun hc => ?_) (fun hc => ?_))
        | (refine Nx.zo ?_; first | refine Nx.opr rfl rfl ?_ | refine Nx.len_strV rfl rfl rfl rfl ?_ | refine Nx.so ?_ | refine Nx.sb (fun bx => ?_) | refine Nx.sa (fun A2 c2 => ?_))
        | ((with_reducible refine Nx.is_at ?_); first | refine Nx.a ?_ | refine Nx.zd ?_ | refine Nx.zs (fun hc => ?_) (fun hc => ?_))
        | ((with_reducible refine Nx.is_mix ?_); first | refine Nx.m ?_ | refine Nx.zm ?_ | refine Nx.zt (fun hc => ?_) (fun hc => ?_))
        | refine Nx.zx ?_ | fail
      all_goals exact Nx.ret_fn rfl [] ⟨rfl, rfl⟩ (by (exact Ent.auto))
end Go.Proofs.YtjnhoemgceghlaaGreat
/- Contracts of functions of the given program, and lemmas about plain lists and numbers: what the laws of this seat lean on. -/
namespace Go.Proofs.YtjnhoemgceghlaaGreat
open Go.Eng
attribute [local irreducible] opK wpList Code.wp Exit.then Exit.inBlock fnPost bodyPost Nx Calls Oper.wp Rd Rds Wr Ent Stars Blk Again Vec FnSpec wpMix QRun Stop Upto wpAt
/-! Shifts -/
abbrev Shift := List UInt8 × Int × Int
def shC (x : Shift) : List Value := [strV x.1, .int .i64 x.2.1, .int .i64 x.2.2]
def shV (x : Shift) : Value := .agg #[strV x.1, .int .i64 x.2.1, .int .i64 x.2.2]
def shOk (x : Shift) : Prop := 0 ≤ x.1.length ∧ I64 x.2.1 ∧ I64 x.2.2
theorem shOk.i {x : Shift} (h : shOk x) : -9223372036854775808 ≤ x.2.1 ∧ x.2.1 ≤ 9223372036854775807 ∧ -9223372036854775808 ≤ x.2.2 ∧ x.2.2 ≤ 9223372036854775807 := ⟨h.2.1.1, h.2.1.2, h.2.2.1, h.2.2.2⟩
abbrev Shifts := SliceN shC 3
def properB (x : Shift) : Bool := decide (0 ≤ x.2.1 ∧ x.2.1 < x.2.2 ∧ x.2.2 ≤ 1073741824)
def beforeB (a b : Shift) : Bool := decide (a.2.1 < b.2.1) || (decide (a.2.1 = b.2.1) && strLt a.1 b.1)
def meetB (y x : Shift) : Bool := (y.1 == x.1) && decide (y.2.1 < x.2.2 ∧ x.2.1 < y.2.2)
def meetsB (l : List Shift) (x : Shift) : Bool := l.any fun y => meetB y x
def rtcmpI (a b : Int) : Int := if a < b then -1 else if a > b then 1 else 0
def cmpS (a b : List UInt8) : Int := if strLt a b then -1 else if a == b then 0 else 1
def cmpSh (a b : Shift) : Int := if rtcmpI a.2.1 b.2.1 ≠ 0 then rtcmpI a.2.1 b.2.1 else cmpS a.1 b.1
set_option maxHeartbeats 8000000 in
set_option maxRecDepth 10000 in
theorem nanI_spec (a : Int) (I : PH) : FnSpec Tryz.prog 87 [.int .i64 a] I [] (fun v R' => v = .bool false ∧ R' = []) := by
  refine FnSpec.enterP Tryz.func87 rfl Tryz.ntmps87 rfl fun w F => ?_
  repeat' first
    | ((with_reducible refine Nx.is_wp ?_); first | refine Nx.wo ?_ | refine Nx.zp (fun hc => ?_) (fun hc => ?_))
    | (refine Nx.zo ?_; first | refine Nx.opr rfl rfl ?_ | refine Nx.so ?_ | refine Nx.sb (fun bx => ?_) | refine Nx.sa (fun A2 c2 => ?_))
    | ((with_reducible refine Nx.is_at ?_); first | refine Nx.a ?_ | refine Nx.zd ?_ | refine Nx.zs (fun hc => ?_) (fun hc => ?_))
    | ((with_reducible refine Nx.is_mix ?_); first | refine Nx.m ?_ | refine Nx.zm ?_ | refine Nx.zt (fun hc => ?_) (fun hc => ?_))
    | refine Nx.zx ?_ | fail
  exact Nx.ret_fn rfl [] ⟨by simp, rfl⟩ (by (exact Ent.auto))
set_option maxHeartbeats 8000000 in
set_option maxRecDepth 10000 in
theorem cmpI_spec (a b : Int) (I : PH) : FnSpec Tryz.prog 63 [.int .i64 a, .int .i64 b] I [] (fun v R' => v = .int .i64 (rtcmpI a b) ∧ R' = []) := by
  refine FnSpec.enterP Tryz.func63 rfl Tryz.ntmps63 rfl fun w F => ?_
  repeat' first
    | ((with_reducible refine Nx.is_wp ?_); first | refine Nx.wo ?_ | refine Nx.zp (fun hc => ?_) (fun hc => ?_))
    | (refine Nx.zo ?_; first | refine Nx.opr rfl rfl ?_ | refine Nx.callv rfl rfl rfl (by kernel_rfl) rfl (nanI_spec _ I) ?_ | refine Nx.so ?_ | refine Nx.sb (fun bx => ?_) | refine Nx.sa (fun A2 c2 => ?_))
    | ((with_reducible refine Nx.is_at ?_); first | refine Nx.a ?_ | refine Nx.zd ?_ | refine Nx.zs (fun hc => ?_) (fun hc => ?_))
    | ((with_reducible refine Nx.is_mix ?_); first | refine Nx.m ?_ | refine Nx.zm ?_ | refine Nx.zt (fun hc => ?_) (fun hc => ?_))
    | refine Nx.zx ?_ | fail
  all_goals
    refine Nx.ret_fn rfl [] ⟨?_, rfl⟩ (by (exact Ent.auto))
    unfold rtcmpI
    first | rw [if_pos (by assumption)] | rw [if_neg (by assumption), if_pos (by assumption)] | rw [if_neg (by assumption), if_neg (by assumption)]
set_option maxHeartbeats 8000000 in
set_option maxRecDepth 10000 in
theorem nanS_spec (a : List UInt8) (I : PH) : FnSpec Tryz.prog 126 [strV a] I [] (fun v R' => v = .bool false ∧ R' = []) := by
  refine FnSpec.enterP Tryz.func126 rfl Tryz.ntmps126 rfl fun w F => ?_
  repeat' first
    | ((with_reducible refine Nx.is_wp ?_); first | refine Nx.wo ?_ | refine Nx.zp (fun hc => ?_) (fun hc => ?_))
    | (refine Nx.zo ?_; first | refine Nx.opr rfl rfl ?_ | refine Nx.binr rfl rfl run_neq_s rfl ?_ | refine Nx.so ?_ | refine Nx.sb (fun bx => ?_) | refine Nx.sa (fun A2 c2 => ?_))
    | ((with_reducible refine Nx.is_at ?_); first | refine Nx.a ?_ | refine Nx.zd ?_ | refine Nx.zs (fun hc => ?_) (fun hc => ?_))
    | ((with_reducible refine Nx.is_mix ?_); first | refine Nx.m ?_ | refine Nx.zm ?_ | refine Nx.zt (fun hc => ?_) (fun hc => ?_))
    | refine Nx.zx ?_ | fail
  refine Nx.ret_fn rfl [] ⟨by simp, rfl⟩ (by (exact Ent.auto))
set_option maxHeartbeats 8000000 in
set_option maxRecDepth 10000 in
theorem cmpS_spec (a b : List UInt8) (I : PH) : FnSpec Tryz.prog 102 [strV a, strV b] I [] (fun v R' => v = .int .i64 (cmpS a b) ∧ R' = []) := by
  refine FnSpec.enterP Tryz.func102 rfl Tryz.ntmps102 rfl fun w F => ?_
  repeat' first
    | ((with_reducible refine Nx.is_wp ?_); first | refine Nx.wo ?_ | refine Nx.zp (fun hc => ?_) (fun hc => ?_))
    | (refine Nx.zo ?_; first | refine Nx.opr rfl rfl ?_ | refine Nx.callv rfl rfl rfl (by kernel_rfl) rfl (nanS_spec _ I) ?_ | refine Nx.binr rfl rfl run_lss_s rfl ?_ | refine Nx.binr rfl rfl run_gtr_s rfl ?_ | refine Nx.so ?_ | refine Nx.sb (fun bx => ?_) | refine Nx.sa (fun A2 c2 => ?_))
    | ((with_reducible refine Nx.is_at ?_); first | refine Nx.a ?_ | refine Nx.zd ?_ | refine Nx.zs (fun hc => ?_) (fun hc => ?_))
    | ((with_reducible refine Nx.is_mix ?_); first | refine Nx.m ?_ | refine Nx.zm ?_ | refine Nx.zt (fun hc => ?_) (fun hc => ?_))
    | refine Nx.zx ?_ | fail
  all_goals
    refine Nx.ret_fn rfl [] ⟨?_, rfl⟩ (by (exact Ent.auto))
    unfold cmpS strLt
    simp_all
set_option maxHeartbeats 8000000 in
set_option maxRecDepth 10000 in
set_option maxRecDepth 10000 in
/-- cmp.Or of two numbers. -/
theorem or_spec (b c : Nat) (p q : Int) (I : PH) (hI : Ints I (some ⟨b, 0, none⟩) c [p, q]) : FnSpec Tryz.prog 62 [.slice (some ⟨b, 0, none⟩) 2 c] I [] (fun v R' => v = .int .i64 (if p ≠ 0 then p else q) ∧ R' = []) := by
  refine FnSpec.enterP Tryz.func62 rfl Tryz.ntmps62 rfl fun w F => ?_
  repeat' first
    | ((with_reducible refine Nx.is_wp ?_); first | refine Nx.wo ?_ | refine Nx.zp (fun hc => ?_) (fun hc => ?_))
    | (refine Nx.zo ?_; first | refine Nx.opr rfl rfl ?_ | refine Nx.so ?_ | refine Nx.sb (fun bx => ?_) | refine Nx.sa (fun A2 c2 => ?_))
    | ((with_reducible refine Nx.is_at ?_); first | refine Nx.a ?_ | refine Nx.zd ?_ | refine Nx.zs (fun hc => ?_) (fun hc => ?_))
    | ((with_reducible refine Nx.is_mix ?_); first | refine Nx.m ?_ | refine Nx.zm ?_ | refine Nx.zt (fun hc => ?_) (fun hc => ?_))
    | refine Nx.zx ?_ | fail
  refine Nx.p_loop (σ := Nat) (fun k => [(3, .int .i64 0), (6, .slice (some ⟨b, 0, none⟩) 2 c), (7, .int .i64 2), (8, .int .i64 (k : Int))])
    (fun _ => [F]) (fun k => k ≤ 2 ∧ (1 ≤ k → p = 0) ∧ (2 ≤ k → q = 0)) (fun k => 2 - k) 0 rfl ⟨by omega, by omega, by omega⟩ ⟨rfl, rfl, rfl, rfl, trivial⟩ (by (exact Ent.auto)) ?_
  rintro k ⟨hk, hp, hq⟩
  by_cases h0 : k = 0
  · subst h0
    repeat' first
      | ((with_reducible refine Nx.is_wp ?_); first | refine Nx.wo ?_ | refine Nx.zp (fun hc => ?_) (fun hc => ?_))
      | (refine Nx.zo ?_; first | refine Nx.opr rfl rfl ?_ | refine Nx.indexAddr_nat (i := 0) rfl rfl rfl rfl rfl (by omega) rfl ?_ | refine Nx.load rfl rfl rfl (hI.rd (k := 0) (by simp)) ?_ | refine Nx.so ?_ | refine Nx.sb (fun bx => ?_) | refine Nx.sa (fun A2 c2 => ?_))
      | ((with_reducible refine Nx.is_at ?_); first | refine Nx.a ?_ | refine Nx.zd ?_ | refine Nx.zs (fun hc => ?_) (fun hc => ?_))
      | ((with_reducible refine Nx.is_mix ?_); first | refine Nx.m ?_ | refine Nx.zm ?_ | refine Nx.zt (fun hc => ?_) (fun hc => ?_))
      | refine Nx.zx ?_ | fail
    · exact Nx.ret_fn rfl [] ⟨by rw [if_pos (show p ≠ 0 from hc)]; rfl, rfl⟩ (by (exact Ent.auto))
    · exact Nx.again 1 ⟨by omega, fun _ => by simpa using hc, by omega⟩ (by omega) ⟨rfl, rfl, rfl, rfl, trivial⟩ (by (exact Ent.auto))
  · by_cases h1 : k = 1
    · subst h1
      have hp := hp (by omega)
      repeat' first
        | ((with_reducible refine Nx.is_wp ?_); first | refine Nx.wo ?_ | refine Nx.zp (fun hc => ?_) (fun hc => ?_))
        | (refine Nx.zo ?_; first | refine Nx.opr rfl rfl ?_ | refine Nx.indexAddr_nat (i := 1) rfl rfl rfl rfl rfl (by omega) rfl ?_ | refine Nx.load rfl rfl rfl (hI.rd (k := 1) (by simp)) ?_ | refine Nx.so ?_ | refine Nx.sb (fun bx => ?_) | refine Nx.sa (fun A2 c2 => ?_))
        | ((with_reducible refine Nx.is_at ?_); first | refine Nx.a ?_ | refine Nx.zd ?_ | refine Nx.zs (fun hc => ?_) (fun hc => ?_))
        | ((with_reducible refine Nx.is_mix ?_); first | refine Nx.m ?_ | refine Nx.zm ?_ | refine Nx.zt (fun hc => ?_) (fun hc => ?_))
        | refine Nx.zx ?_ | fail
      · exact Nx.ret_fn rfl [] ⟨by rw [if_neg (by omega)]; rfl, rfl⟩ (by (exact Ent.auto))
      · exact Nx.again 2 ⟨by omega, fun _ => hp, fun _ => by simpa using hc⟩ (by omega) ⟨rfl, rfl, rfl, rfl, trivial⟩ (by (exact Ent.auto))
    · have hk2 : k = 2 := by omega
      subst hk2
      have hp := hp (by omega)
      have hq := hq (by omega)
      repeat' first
        | ((with_reducible refine Nx.is_wp ?_); first | refine Nx.wo ?_ | refine Nx.zp (fun hc => ?_) (fun hc => ?_))
        | (refine Nx.zo ?_; first | refine Nx.opr rfl rfl ?_ | refine Nx.so ?_ | refine Nx.sb (fun bx => ?_) | refine Nx.sa (fun A2 c2 => ?_))
        | ((with_reducible refine Nx.is_at ?_); first | refine Nx.a ?_ | refine Nx.zd ?_ | refine Nx.zs (fun hc => ?_) (fun hc => ?_))
        | ((with_reducible refine Nx.is_mix ?_); first | refine Nx.m ?_ | refine Nx.zm ?_ | refine Nx.zt (fun hc => ?_) (fun hc => ?_))
        | refine Nx.zx ?_ | fail
      exact Nx.ret_fn rfl [] ⟨by rw [if_neg (by omega), hq], rfl⟩ (by (exact Ent.auto))
set_option maxHeartbeats 8000000 in
set_option maxRecDepth 10000 in
theorem compare_spec (x y : Shift) (I : PH) : FnSpec Tryz.prog 79 [shV x, shV y] I [] (fun v R' => v = .int .i64 (cmpSh x y) ∧ R' = []) := by
  refine FnSpec.enterP Tryz.func79 rfl Tryz.ntmps79 rfl fun w F => ?_
  repeat' first
    | ((with_reducible refine Nx.is_wp ?_); first | refine Nx.wo ?_ | refine Nx.p_drawF (id := 1) rfl [0, 1, 2, 3, 5, 6, 7, 8, 4] [4] [9, 10, 11, 12] _ rfl rfl (by kernel_rfl) (by kernel_rfl) rfl (by repeat first | exact PanicOk.fn | refine PanicOk.then_ ?_ | refine PanicOk.inB ?_) (Ent.refl _) ?_ | refine Nx.zp (fun hc => ?_) (fun hc => ?_))
    | (refine Nx.zo ?_; first | refine Nx.opr rfl rfl ?_ | refine Nx.callv rfl rfl rfl (by kernel_rfl) rfl (cmpI_spec _ _ I) ?_ | refine Nx.callv rfl rfl rfl (by kernel_rfl) rfl (cmpS_spec _ _ I) ?_ | (refine Nx.call_lendR 0 rfl rfl rfl (by kernel_rfl) rfl rfl (fun m I' hI hm h => or_spec _ _ _ _ I' (Blk.sliceOf (f := fun x : Int => Value.int .i64 x) (l := [rtcmpI x.2.1 y.2.1, cmpS x.1 y.1]) hm h (by simp [maxLen]))) ?_; rintro _ R' ⟨rfl, rfl⟩) | refine Nx.so ?_ | refine Nx.sb (fun bx => ?_) | refine Nx.sa (fun A2 c2 => ?_))
    | ((with_reducible refine Nx.is_at ?_); first | refine Nx.a ?_ | refine Nx.zd ?_ | refine Nx.zs (fun hc => ?_) (fun hc => ?_))
    | ((with_reducible refine Nx.is_mix ?_); first | refine Nx.m ?_ | refine Nx.zm ?_ | refine Nx.zt (fun hc => ?_) (fun hc => ?_))
    | refine Nx.zx ?_ | fail
  exact Nx.ret_fn rfl [] ⟨rfl, rfl⟩ (by (exact Ent.auto))
end Go.Proofs.YtjnhoemgceghlaaGreat
/- Contracts of functions of the given program, and lemmas about plain lists and numbers: what the laws of this seat lean on. -/
namespace Go.Proofs.YtjnhoemgceghlaaGreat
open Go.Eng
attribute [local irreducible] opK wpList Code.wp Exit.then Exit.inBlock fnPost bodyPost Nx Calls Oper.wp Rd Rds Wr Ent Stars Blk Again Vec FnSpec wpMix QRun Stop Upto wpAt
def singleE (x : Shift) : Int := if nameB x.1 = true then (if properB x = true then 0 else 43) else 3
set_option maxHeartbeats 8000000 in
set_option maxRecDepth 10000 in
theorem single_spec (x : Shift) (hx : shOk x) (I : PH) : FnSpec Tryz.prog 78 [shV x] I [] (fun v R' => v = .int .i64 (singleE x) ∧ R' = []) := by
  by_cases hn : nameB x.1 = true
  · by_cases hp : properB x = true
    · have hp' := of_decide_eq_true hp
      have e : singleE x = 0 := by unfold singleE; rw [if_pos hn, if_pos hp]
      rw [e]
      refine FnSpec.enterP Tryz.func78 rfl Tryz.ntmps78 rfl fun w F => ?_
      repeat' first
        | ((with_reducible refine Nx.is_wp ?_); first | refine Nx.wo ?_ | refine Nx.zp (fun hc => ?_) (fun hc => ?_))
        | (refine Nx.zo ?_; first | refine Nx.opr rfl rfl ?_ | refine Nx.callv rfl rfl rfl (by kernel_rfl) rfl (Name_spec x.1 hx.1 I) ?_ | refine Nx.so ?_ | refine Nx.sb (fun bx => ?_) | refine Nx.sa (fun A2 c2 => ?_))
        | ((with_reducible refine Nx.is_at ?_); first | refine Nx.a ?_ | refine Nx.zd ?_ | refine Nx.zs (fun hc => ?_) (fun hc => ?_))
        | ((with_reducible refine Nx.is_mix ?_); first | refine Nx.m ?_ | refine Nx.zm ?_ | refine Nx.zt (fun hc => ?_) (fun hc => ?_))
        | refine Nx.zx ?_ | fail
      all_goals first | exact Nx.ret_fn rfl [] ⟨rfl, rfl⟩ (by (exact Ent.auto)) | (exfalso; simp_all; done)
    · have hp0 : properB x = false := by simpa using hp
      have hp' := of_decide_eq_false hp0
      have e : singleE x = 43 := by unfold singleE; rw [if_pos hn, if_neg hp]
      rw [e]
      refine FnSpec.enterP Tryz.func78 rfl Tryz.ntmps78 rfl fun w F => ?_
      repeat' first
        | ((with_reducible refine Nx.is_wp ?_); first | refine Nx.wo ?_ | refine Nx.zp (fun hc => ?_) (fun hc => ?_))
        | (refine Nx.zo ?_; first | refine Nx.opr rfl rfl ?_ | refine Nx.callv rfl rfl rfl (by kernel_rfl) rfl (Name_spec x.1 hx.1 I) ?_ | refine Nx.so ?_ | refine Nx.sb (fun bx => ?_) | refine Nx.sa (fun A2 c2 => ?_))
        | ((with_reducible refine Nx.is_at ?_); first | refine Nx.a ?_ | refine Nx.zd ?_ | refine Nx.zs (fun hc => ?_) (fun hc => ?_))
        | ((with_reducible refine Nx.is_mix ?_); first | refine Nx.m ?_ | refine Nx.zm ?_ | refine Nx.zt (fun hc => ?_) (fun hc => ?_))
        | refine Nx.zx ?_ | fail
      all_goals first | exact Nx.ret_fn rfl [] ⟨rfl, rfl⟩ (by (exact Ent.auto)) | (exfalso; simp_all; done)
  · have e : singleE x = 3 := by unfold singleE; rw [if_neg hn]
    rw [e]
    refine FnSpec.enterP Tryz.func78 rfl Tryz.ntmps78 rfl fun w F => ?_
    repeat' first
      | ((with_reducible refine Nx.is_wp ?_); first | refine Nx.wo ?_ | refine Nx.zp (fun hc => ?_) (fun hc => ?_))
      | (refine Nx.zo ?_; first | refine Nx.opr rfl rfl ?_ | refine Nx.callv rfl rfl rfl (by kernel_rfl) rfl (Name_spec x.1 hx.1 I) ?_ | refine Nx.so ?_ | refine Nx.sb (fun bx => ?_) | refine Nx.sa (fun A2 c2 => ?_))
      | ((with_reducible refine Nx.is_at ?_); first | refine Nx.a ?_ | refine Nx.zd ?_ | refine Nx.zs (fun hc => ?_) (fun hc => ?_))
      | ((with_reducible refine Nx.is_mix ?_); first | refine Nx.m ?_ | refine Nx.zm ?_ | refine Nx.zt (fun hc => ?_) (fun hc => ?_))
      | refine Nx.zx ?_ | fail
    all_goals first | exact Nx.ret_fn rfl [] ⟨rfl, rfl⟩ (by (exact Ent.auto)) | (exfalso; simp_all; done)
set_option maxHeartbeats 8000000 in
set_option maxRecDepth 10000 in
theorem meet_spec (b : Nat) (x y : Shift) (I : PH) (hb : ∀ (W : World) (R : List Res) (k : Nat) (v : Value), nthL (shC x) k = some v → Rd W I R ⟨b, k, none⟩ v) :
    FnSpec Tryz.prog 104 [shV y, .pointer (some ⟨b, 0, none⟩)] I [] (fun v R' => v = .bool (meetB y x) ∧ R' = []) := by
  refine FnSpec.enterP Tryz.func104 rfl Tryz.ntmps104 rfl fun w F => ?_
  repeat' first
    | ((with_reducible refine Nx.is_wp ?_); first | refine Nx.wo ?_ | refine Nx.zp (fun hc => ?_) (fun hc => ?_))
    | (refine Nx.zo ?_; first | refine Nx.opr rfl rfl ?_ | refine Nx.load rfl rfl rfl (hb _ _ 0 _ rfl) ?_ | refine Nx.load rfl rfl rfl (hb _ _ 1 _ rfl) ?_ | refine Nx.load rfl rfl rfl (hb _ _ 2 _ rfl) ?_ | refine Nx.binr rfl rfl run_eql_s rfl ?_ | refine Nx.so ?_ | refine Nx.sb (fun bx => ?_) | refine Nx.sa (fun A2 c2 => ?_))
    | ((with_reducible refine Nx.is_at ?_); first | refine Nx.a ?_ | refine Nx.zd ?_ | refine Nx.zs (fun hc => ?_) (fun hc => ?_))
    | ((with_reducible refine Nx.is_mix ?_); first | refine Nx.m ?_ | refine Nx.zm ?_ | refine Nx.zt (fun hc => ?_) (fun hc => ?_))
    | refine Nx.zx ?_ | fail
  all_goals exact Nx.ret_fn rfl [] ⟨by unfold meetB; first | (simp_all; done) | (simp_all; omega), rfl⟩ (by (exact Ent.auto))
set_option maxHeartbeats 8000000 in
set_option maxRecDepth 10000 in
theorem IndexSh_spec (f : FuncId) (cap : List Value) (p : Shift → Bool) (A : Option Addr) (cp : Nat) (l : List Shift) (I : PH) (hl : Shifts I A cp l) (hcall : callable Tryz.prog f = true)
    (hp : ∀ x ∈ l, FnSpec Tryz.prog f (shV x :: cap) I [] (fun v R' => v = .bool (p x) ∧ R' = [])) :
    FnSpec Tryz.prog 127 [.slice A l.length cp, .func (.func f) #[] cap.toArray] I []
      (fun v R' => ∃ i : Int, v = .int .i64 i ∧ (decide (0 ≤ i) = l.any p) ∧ R' = []) := by
  refine FnSpec.enterP Tryz.func127 rfl Tryz.ntmps127 rfl fun w F => ?_
  repeat' first
    | ((with_reducible refine Nx.is_wp ?_); first | refine Nx.wo ?_ | refine Nx.zp (fun hc => ?_) (fun hc => ?_))
    | (refine Nx.zo ?_; first | refine Nx.opr rfl rfl ?_ | refine Nx.so ?_ | refine Nx.sb (fun bx => ?_) | refine Nx.sa (fun A2 c2 => ?_))
    | ((with_reducible refine Nx.is_at ?_); first | refine Nx.a ?_ | refine Nx.zd ?_ | refine Nx.zs (fun hc => ?_) (fun hc => ?_))
    | ((with_reducible refine Nx.is_mix ?_); first | refine Nx.m ?_ | refine Nx.zm ?_ | refine Nx.zt (fun hc => ?_) (fun hc => ?_))
    | refine Nx.zx ?_ | fail
  have hlen := hl.len
  refine Nx.p_loop (σ := Nat) (fun k => [(0, .slice A l.length cp), (1, .func (.func f) #[] cap.toArray), (7, .int .i64 l.length), (8, .int .i64 (k : Int))])
    (fun _ => [F]) (fun k => k ≤ l.length ∧ (l.take k).any p = false) (fun k => l.length - k) 0 rfl ⟨Nat.zero_le _, by simp⟩ ⟨rfl, rfl, rfl, rfl, trivial⟩ (Ent.refl _) ?_
  rintro k ⟨hk, hnone⟩
  by_cases hlt : k < l.length
  · have hmem : l.getD k default ∈ l := by rw [List.getD_eq_getElem?_getD, List.getElem?_eq_getElem hlt]; exact List.getElem_mem _
    repeat' first
      | ((with_reducible refine Nx.is_wp ?_); first | refine Nx.wo ?_ | refine Nx.zp (fun hc => ?_) (fun hc => ?_))
      | (refine Nx.zo ?_; first | refine Nx.opr rfl rfl ?_ | refine Nx.indexAddr_nat rfl rfl rfl rfl rfl (by omega) (hl.isSome (by omega) (by omega)) ?_ | refine Nx.loads rfl rfl rfl rfl (hl.rds (by omega)) rfl ?_ | refine Nx.callv rfl rfl (by simp; rfl) hcall rfl (hp _ hmem) ?_ | refine Nx.so ?_ | refine Nx.sb (fun bx => ?_) | refine Nx.sa (fun A2 c2 => ?_))
      | ((with_reducible refine Nx.is_at ?_); first | refine Nx.a ?_ | refine Nx.zd ?_ | refine Nx.zs (fun hc => ?_) (fun hc => ?_))
      | ((with_reducible refine Nx.is_mix ?_); first | refine Nx.m ?_ | refine Nx.zm ?_ | refine Nx.zt (fun hc => ?_) (fun hc => ?_))
      | refine Nx.zx ?_ | fail
    · refine Nx.ret_fn rfl [] ⟨_, rfl, ?_, rfl⟩ (Ent.refl _)
      rw [show decide ((0 : Int) ≤ k) = true by simp, Eq.comm, List.any_eq_true]
      exact ⟨l.getD k default, hmem, hc⟩
    · refine Nx.again (k + 1) ⟨by omega, ?_⟩ (by omega) ⟨rfl, rfl, rfl, rfl, trivial⟩ (Ent.refl _)
      rw [List.take_succ_eq_append_getElem (by omega), List.any_append, hnone]
      have : l[k]'(by omega) = l.getD k default := by rw [List.getD_eq_getElem?_getD, List.getElem?_eq_getElem (by omega)]; rfl
      simp only [this, List.any_cons, List.any_nil, hc, Bool.or_self]
  · obtain rfl : k = l.length := by omega
    repeat' first
      | ((with_reducible refine Nx.is_wp ?_); first | refine Nx.wo ?_ | refine Nx.zp (fun hc => ?_) (fun hc => ?_))
      | (refine Nx.zo ?_; first | refine Nx.opr rfl rfl ?_ | refine Nx.so ?_ | refine Nx.sb (fun bx => ?_) | refine Nx.sa (fun A2 c2 => ?_))
      | ((with_reducible refine Nx.is_at ?_); first | refine Nx.a ?_ | refine Nx.zd ?_ | refine Nx.zs (fun hc => ?_) (fun hc => ?_))
      | ((with_reducible refine Nx.is_mix ?_); first | refine Nx.m ?_ | refine Nx.zm ?_ | refine Nx.zt (fun hc => ?_) (fun hc => ?_))
      | refine Nx.zx ?_ | fail
    refine Nx.ret_fn rfl [] ⟨_, rfl, ?_, rfl⟩ (Ent.refl _)
    rw [List.take_length] at hnone
    rw [hnone]; rfl
set_option maxHeartbeats 8000000 in
set_option maxRecDepth 10000 in
theorem ContainsSh_spec (f : FuncId) (cap : List Value) (p : Shift → Bool) (A : Option Addr) (cp : Nat) (l : List Shift) (I : PH) (hl : Shifts I A cp l) (hcall : callable Tryz.prog f = true)
    (hp : ∀ x ∈ l, FnSpec Tryz.prog f (shV x :: cap) I [] (fun v R' => v = .bool (p x) ∧ R' = [])) :
    FnSpec Tryz.prog 103 [.slice A l.length cp, .func (.func f) #[] cap.toArray] I []
      (fun v R' => v = .bool (l.any p) ∧ R' = []) := by
  refine FnSpec.enterP Tryz.func103 rfl Tryz.ntmps103 rfl fun w F => ?_
  repeat' first
    | ((with_reducible refine Nx.is_wp ?_); first | refine Nx.wo ?_ | refine Nx.zp (fun hc => ?_) (fun hc => ?_))
    | (refine Nx.zo ?_; first | refine Nx.opr rfl rfl ?_ | refine Nx.so ?_ | refine Nx.sb (fun bx => ?_) | refine Nx.sa (fun A2 c2 => ?_))
    | ((with_reducible refine Nx.is_at ?_); first | refine Nx.a ?_ | refine Nx.zd ?_ | refine Nx.zs (fun hc => ?_) (fun hc => ?_))
    | ((with_reducible refine Nx.is_mix ?_); first | refine Nx.m ?_ | refine Nx.zm ?_ | refine Nx.zt (fun hc => ?_) (fun hc => ?_))
    | refine Nx.zx ?_ | fail
  refine Nx.at_op rfl rfl ?_
  refine Nx.call rfl rfl rfl (by kernel_rfl) rfl (IndexSh_spec f cap p A cp l I hl hcall hp) (Ent.refl _) ?_
  rintro v R' ⟨i, rfl, hi, rfl⟩
  repeat' first
    | ((with_reducible refine Nx.is_wp ?_); first | refine Nx.wo ?_ | refine Nx.zp (fun hc => ?_) (fun hc => ?_))
    | (refine Nx.zo ?_; first | refine Nx.opr rfl rfl ?_ | refine Nx.so ?_ | refine Nx.sb (fun bx => ?_) | refine Nx.sa (fun A2 c2 => ?_))
    | ((with_reducible refine Nx.is_at ?_); first | refine Nx.a ?_ | refine Nx.zd ?_ | refine Nx.zs (fun hc => ?_) (fun hc => ?_))
    | ((with_reducible refine Nx.is_mix ?_); first | refine Nx.m ?_ | refine Nx.zm ?_ | refine Nx.zt (fun hc => ?_) (fun hc => ?_))
    | refine Nx.zx ?_ | fail
  exact Nx.ret_fn rfl [] ⟨by rw [← hi], rfl⟩ (Ent.refl _)
set_option maxHeartbeats 8000000 in
set_option maxRecDepth 10000 in
theorem overlaps_spec (A : Option Addr) (c : Nat) (l : List Shift) (x : Shift) (I : PH) (hl : Shifts I A c l) :
    FnSpec Tryz.prog 80 [.slice A l.length c, shV x] I [] (fun v R' => v = .bool (meetsB l x) ∧ R' = []) := by
  refine FnSpec.enterP Tryz.func80 rfl Tryz.ntmps80 rfl fun w F => ?_
  repeat' first
    | ((with_reducible refine Nx.is_wp ?_); first | refine Nx.wo ?_ | refine Nx.zp (fun hc => ?_) (fun hc => ?_))
    | (refine Nx.zo ?_; first | refine Nx.opr rfl rfl ?_ | refine Nx.so ?_ | refine Nx.sb (fun bx => ?_) | refine Nx.sa (fun A2 c2 => ?_))
    | ((with_reducible refine Nx.is_at ?_); first | refine Nx.a ?_ | refine Nx.zd ?_ | refine Nx.zs (fun hc => ?_) (fun hc => ?_))
    | ((with_reducible refine Nx.is_mix ?_); first | refine Nx.m ?_ | refine Nx.zm ?_ | refine Nx.zt (fun hc => ?_) (fun hc => ?_))
    | refine Nx.zx ?_ | fail
  refine Nx.freezeAt 0 rfl fun I1 m1 hI1 hm1 h1 => ?_
  have hb : ∀ (W : World) (R : List Res) (k : Nat) (v : Value), nthL (shC x) k = some v → Rd W I1 R ⟨bx, k, none⟩ v := fun W R k v hk => by
    exact Rd.imm (cellH_mono hm1 (Blk.cell h1 hk))
  repeat' first
    | ((with_reducible refine Nx.is_wp ?_); first | refine Nx.wo ?_ | refine Nx.zp (fun hc => ?_) (fun hc => ?_))
    | (refine Nx.zo ?_; first | refine Nx.opr rfl rfl ?_ | refine Nx.callv rfl rfl rfl (by kernel_rfl) rfl (ContainsSh_spec 104 [.pointer (some ⟨bx, 0, none⟩)] (fun y => meetB y x) A c l I1 (hl.mono hI1) (by kernel_rfl) (fun y _ => meet_spec bx x y I1 hb)) ?_ | refine Nx.so ?_ | refine Nx.sb (fun bx => ?_) | refine Nx.sa (fun A2 c2 => ?_))
    | ((with_reducible refine Nx.is_at ?_); first | refine Nx.a ?_ | refine Nx.zd ?_ | refine Nx.zs (fun hc => ?_) (fun hc => ?_))
    | ((with_reducible refine Nx.is_mix ?_); first | refine Nx.m ?_ | refine Nx.zm ?_ | refine Nx.zt (fun hc => ?_) (fun hc => ?_))
    | refine Nx.zx ?_ | fail
  exact Nx.imm_le hI1 (Nx.ret_fn rfl [] ⟨rfl, rfl⟩ (by (exact Ent.auto)))
end Go.Proofs.YtjnhoemgceghlaaGreat
/- Contracts of functions of the given program, and lemmas about plain lists and numbers: what the laws of this seat lean on. -/
namespace Go.Proofs.YtjnhoemgceghlaaGreat
open Go.Eng
attribute [local irreducible] opK wpList Code.wp Exit.then Exit.inBlock fnPost bodyPost Nx Calls Oper.wp Rd Rds Wr Ent Stars Blk Again Vec FnSpec wpMix QRun Stop Upto wpAt
/-- The first error of a rota from number k on. -/
def checkAt (l : List Shift) (k : Nat) : Int :=
  if singleE (l.getD k default) ≠ 0 then singleE (l.getD k default)
  else if 0 < k ∧ beforeB (l.getD (k - 1) default) (l.getD k default) = false then 11
  else if meetsB (l.take k) (l.getD k default) = true then 46 else 0
def checkN (l : List Shift) : Nat → Int
  | 0 => 0
  | k + 1 => if checkN l k ≠ 0 then checkN l k else checkAt l k
def checkE (l : List Shift) : Int := if 60 < l.length then 1 else checkN l l.length
theorem checkN_stop {l : List Shift} {k : Nat} (h0 : checkN l k = 0) (h : checkAt l k ≠ 0) : ∀ n, k < n → checkN l n = checkAt l k
  | 0, hn => by omega
  | n + 1, hn => by
    unfold checkN
    by_cases hk : k = n
    · subst hk
      rw [if_neg (by omega)]
    · rw [checkN_stop h0 h n (by omega), if_pos h]
theorem cmpSh_before (a b : Shift) : decide (0 ≤ cmpSh a b) = !(beforeB a b) := by
  unfold cmpSh beforeB rtcmpI cmpS
  by_cases h1 : a.2.1 < b.2.1
  · simp [h1]
  · by_cases h2 : b.2.1 < a.2.1
    · have h3 : ¬ a.2.1 = b.2.1 := by omega
      simp [h1, h2, h3]
    · have h3 : a.2.1 = b.2.1 := by omega
      simp [h3]
      cases strLt a.1 b.1 <;> simp
      by_cases h4 : a.1 = b.1 <;> simp [h4]
theorem sh_mem {l : List Shift} {k : Nat} (h : k < l.length) : l.getD k default ∈ l := by
  rw [List.getD_eq_getElem?_getD, List.getElem?_eq_getElem h]; exact List.getElem_mem _
theorem shifts_take {α : Type} {f : α → List Value} {sz : Nat} {I : PH} {A : Option Addr} {c : Nat} {l : List α} (h : SliceN f sz I A c l) (k : Nat) : SliceN f sz I A c (l.take k) := by
  refine ⟨fun j u hj => ?_, by have := h.cap; rw [List.length_take]; omega, h.max, fun x hx => h.cells x (List.mem_of_mem_take hx)⟩
  refine h.arr j u ?_
  have e : l.flatMap f = (l.take k).flatMap f ++ (l.drop k).flatMap f := by rw [← List.flatMap_append, List.take_append_drop]
  rw [e, List.getElem?_append_left (List.getElem?_eq_some_iff.1 hj).1]
  exact hj
set_option maxHeartbeats 2000000 in
set_option maxRecDepth 10000 in
theorem rtCheck_spec (A : Option Addr) (c : Nat) (l : List Shift) (I : PH) (hl : Shifts I A c l) (ho : ∀ x ∈ l, shOk x) :
    FnSpec Tryz.prog 56 [.slice A l.length c] I [] (fun v R' => v = .int .i64 (checkE l) ∧ R' = []) := by
  have hlen := hl.len
  have hcap := hl.cap
  by_cases h60 : 60 < l.length
  · have e : checkE l = 1 := by unfold checkE; rw [if_pos h60]
    rw [e]
    refine FnSpec.enterP Tryz.func56 rfl Tryz.ntmps56 rfl fun w F => ?_
    repeat' first
      | ((with_reducible refine Nx.is_wp ?_); first | refine Nx.wo ?_ | refine Nx.zp (fun hc => ?_) (fun hc => ?_))
      | (refine Nx.zo ?_; first | refine Nx.opr rfl rfl ?_ | refine Nx.so ?_ | refine Nx.sb (fun bx => ?_) | refine Nx.sa (fun A2 c2 => ?_))
      | ((with_reducible refine Nx.is_at ?_); first | refine Nx.a ?_ | refine Nx.zd ?_ | refine Nx.zs (fun hc => ?_) (fun hc => ?_))
      | ((with_reducible refine Nx.is_mix ?_); first | refine Nx.m ?_ | refine Nx.zm ?_ | refine Nx.zt (fun hc => ?_) (fun hc => ?_))
      | refine Nx.zx ?_ | fail
    exact Nx.ret_fn rfl [] ⟨rfl, rfl⟩ (by (exact Ent.auto))
  · have e : checkE l = checkN l l.length := by unfold checkE; rw [if_neg h60]
    rw [e]
    refine FnSpec.enterP Tryz.func56 rfl Tryz.ntmps56 rfl fun w F => ?_
    repeat' first
      | ((with_reducible refine Nx.is_wp ?_); first | refine Nx.wo ?_ | refine Nx.zp (fun hc => ?_) (fun hc => ?_))
      | (refine Nx.zo ?_; first | refine Nx.opr rfl rfl ?_ | refine Nx.so ?_ | refine Nx.sb (fun bx => ?_) | refine Nx.sa (fun A2 c2 => ?_))
      | ((with_reducible refine Nx.is_at ?_); first | refine Nx.a ?_ | refine Nx.zd ?_ | refine Nx.zs (fun hc => ?_) (fun hc => ?_))
      | ((with_reducible refine Nx.is_mix ?_); first | refine Nx.m ?_ | refine Nx.zm ?_ | refine Nx.zt (fun hc => ?_) (fun hc => ?_))
      | refine Nx.zx ?_ | fail
    refine Nx.p_loop (σ := Nat) (fun k => [(0, .slice A l.length c), (9, .slice A l.length c), (10, .int .i64 l.length), (11, .int .i64 (k : Int))])
      (fun _ => [F]) (fun k => k ≤ l.length ∧ checkN l k = 0) (fun k => l.length - k) 0 rfl ⟨Nat.zero_le _, rfl⟩ ⟨rfl, rfl, rfl, rfl, trivial⟩ (by (exact Ent.auto)) ?_
    rintro k ⟨hk, h0⟩
    by_cases hlt : k < l.length
    · have hstop := fun h => checkN_stop h0 h l.length hlt
      have hgo : checkAt l k = 0 → checkN l (k + 1) = 0 := fun h => by
        show (if _ then _ else _) = _
        rw [h0, if_neg (by omega), h]
      have hx := ho _ (sh_mem hlt)
      have hxp := fun h : 0 < k => ho _ (sh_mem (l := l) (k := k - 1) (by omega))
      have htl : (l.take k).length = k := by rw [List.length_take]; omega
      have htk := shifts_take hl k
      repeat' first
        | ((with_reducible refine Nx.is_wp ?_); first | refine Nx.wo ?_ | refine Nx.zp (fun hc => ?_) (fun hc => ?_))
        | (refine Nx.zo ?_; first | refine Nx.opr rfl rfl ?_ | refine Nx.indexAddr_nat rfl rfl rfl rfl rfl (by omega) (hl.isSome (by omega) (by omega)) ?_ | refine Nx.loads rfl rfl rfl rfl (hl.rds (by omega)) rfl ?_ | refine Nx.callv rfl rfl rfl (by kernel_rfl) rfl (single_spec _ hx I) ?_ | refine Nx.so ?_ | refine Nx.sb (fun bx => ?_) | refine Nx.sa (fun A2 c2 => ?_))
        | ((with_reducible refine Nx.is_at ?_); first | refine Nx.a ?_ | refine Nx.zd ?_ | refine Nx.zs (fun hc => ?_) (fun hc => ?_))
        | ((with_reducible refine Nx.is_mix ?_); first | refine Nx.m ?_ | refine Nx.zm ?_ | refine Nx.zt (fun hc => ?_) (fun hc => ?_))
        | refine Nx.zx ?_ | fail
      · have hc' : singleE (l.getD k default) ≠ 0 := hc
        have hca : checkAt l k = singleE (l.getD k default) := by unfold checkAt; rw [if_pos hc']
        exact Nx.ret_fn rfl [] ⟨by rw [hstop (by rw [hca]; exact hc'), hca], rfl⟩ (by (exact Ent.auto))
      · have hs0 : singleE (l.getD k default) = 0 := by simpa using hc
        have hkn : 0 < k → ((k : Int) - 1).toNat = k - 1 := fun h => by omega
        have hov := overlaps_spec A c (l.take k) (l.getD k default) I htk
        rw [htl] at hov
        by_cases hbf : 0 < k ∧ beforeB (l.getD (k - 1) default) (l.getD k default) = false
        · have hca : checkAt l k = 11 := by unfold checkAt; rw [if_neg (by omega), if_pos hbf]
          have hcm : 0 ≤ cmpSh (l.getD ((k : Int) - 1).toNat default) (l.getD k default) := by
            rw [hkn hbf.1]
            have := cmpSh_before (l.getD (k - 1) default) (l.getD k default)
            rw [hbf.2] at this
            simpa using this
          have hk0 := hbf.1
          repeat' first
            | ((with_reducible refine Nx.is_wp ?_); first | refine Nx.wo ?_ | refine Nx.p_draw (id := 9) rfl [0, 1, 2, 3, 4, 5, 6, 7, 8, 9, 10, 11] [9] _ rfl rfl (by kernel_rfl) (by kernel_rfl) rfl (by repeat first | exact PanicOk.fn | refine PanicOk.then_ ?_ | refine PanicOk.inB ?_) (Ent.refl _) ?_ | refine Nx.p_draw (id := 11) rfl [0, 1, 2, 3, 4] [4] _ rfl rfl (by kernel_rfl) (by kernel_rfl) rfl (by repeat first | exact PanicOk.fn | refine PanicOk.then_ ?_ | refine PanicOk.inB ?_) (Ent.refl _) ?_ | refine Nx.zp (fun hc => ?_) (fun hc => ?_))
            | (refine Nx.zo ?_; first | refine Nx.opr rfl rfl ?_ | refine Nx.callv rfl rfl rfl (by kernel_rfl) rfl (compare_spec (l.getD ((k : Int) - 1).toNat default) (l.getD k default) I) ?_ | refine Nx.so ?_ | refine Nx.sb (fun bx => ?_) | refine Nx.sa (fun A2 c2 => ?_))
            | ((with_reducible refine Nx.is_at ?_); first | refine Nx.a ?_ | refine Nx.zd ?_ | refine Nx.zs (fun hc => ?_) (fun hc => ?_))
            | ((with_reducible refine Nx.is_mix ?_); first | refine Nx.m_quiet rfl rfl rfl rfl rfl (by first | exact QRun.opr rfl | exact QRun.idxi rfl rfl rfl rfl (by omega) (by omega) (hl.isSome (by omega) (by omega)) | exact QRun.loads rfl rfl rfl (hl.rds (k := ((k : Int) - 1).toNat) (by omega)) rfl | exact QRun.loads rfl rfl rfl (Rds.at_ 0 rfl) rfl) ?_ | refine Nx.m_quiet_do rfl rfl rfl rfl rfl rfl rfl (by first | exact QRun.opr rfl | exact QRun.idxi rfl rfl rfl rfl (by omega) (by omega) (hl.isSome (by omega) (by omega)) | exact QRun.loads rfl rfl rfl (hl.rds (k := ((k : Int) - 1).toNat) (by omega)) rfl | exact QRun.loads rfl rfl rfl (Rds.at_ 0 rfl) rfl) ?_ | refine Nx.m ?_ | refine Nx.zm ?_ | refine Nx.zt (fun hc => ?_) (fun hc => ?_))
            | refine Nx.zx ?_ | fail
          exact Nx.ret_fn rfl [] ⟨by rw [hstop (by rw [hca]; decide), hca], rfl⟩ (by (exact Ent.auto))
        · have hcm : 0 < k → cmpSh (l.getD ((k : Int) - 1).toNat default) (l.getD k default) < 0 := fun h => by
            rw [hkn h]
            have := cmpSh_before (l.getD (k - 1) default) (l.getD k default)
            have hb : beforeB (l.getD (k - 1) default) (l.getD k default) = true := by
              cases hb : beforeB (l.getD (k - 1) default) (l.getD k default) with
              | true => rfl
              | false => exact absurd ⟨h, hb⟩ hbf
            rw [hb] at this
            simpa using this
          by_cases hm : meetsB (l.take k) (l.getD k default) = true
          · have hca : checkAt l k = 46 := by unfold checkAt; rw [if_neg (by omega), if_neg hbf, if_pos hm]
            rw [hm] at hov
            by_cases hk0 : 0 < k
            · have hcm := hcm hk0
              repeat' first
                | ((with_reducible refine Nx.is_wp ?_); first | refine Nx.wo ?_ | refine Nx.p_draw (id := 9) rfl [0, 1, 2, 3, 4, 5, 6, 7, 8, 9, 10, 11] [9] _ rfl rfl (by kernel_rfl) (by kernel_rfl) rfl (by repeat first | exact PanicOk.fn | refine PanicOk.then_ ?_ | refine PanicOk.inB ?_) (Ent.refl _) ?_ | refine Nx.p_draw (id := 11) rfl [0, 1, 2, 3, 4] [4] _ rfl rfl (by kernel_rfl) (by kernel_rfl) rfl (by repeat first | exact PanicOk.fn | refine PanicOk.then_ ?_ | refine PanicOk.inB ?_) (Ent.refl _) ?_ | refine Nx.zp (fun hc => ?_) (fun hc => ?_))
                | (refine Nx.zo ?_; first | refine Nx.opr rfl rfl ?_ | refine Nx.callv rfl rfl rfl (by kernel_rfl) rfl (compare_spec (l.getD ((k : Int) - 1).toNat default) (l.getD k default) I) ?_ | refine Nx.callv rfl rfl rfl (by kernel_rfl) rfl hov ?_ | refine Nx.so ?_ | refine Nx.sb (fun bx => ?_) | refine Nx.sa (fun A2 c2 => ?_))
                | ((with_reducible refine Nx.is_at ?_); first | refine Nx.a ?_ | refine Nx.zd ?_ | refine Nx.zs (fun hc => ?_) (fun hc => ?_))
                | ((with_reducible refine Nx.is_mix ?_); first | refine Nx.m_quiet rfl rfl rfl rfl rfl (by first | exact QRun.opr rfl | exact QRun.idxi rfl rfl rfl rfl (by omega) (by omega) (hl.isSome (by omega) (by omega)) | exact QRun.loads rfl rfl rfl (hl.rds (k := ((k : Int) - 1).toNat) (by omega)) rfl | exact QRun.loads rfl rfl rfl (Rds.at_ 0 rfl) rfl | exact QRun.slice_hi rfl rfl rfl rfl (by omega)) ?_ | refine Nx.m_quiet_do rfl rfl rfl rfl rfl rfl rfl (by first | exact QRun.opr rfl | exact QRun.idxi rfl rfl rfl rfl (by omega) (by omega) (hl.isSome (by omega) (by omega)) | exact QRun.loads rfl rfl rfl (hl.rds (k := ((k : Int) - 1).toNat) (by omega)) rfl | exact QRun.loads rfl rfl rfl (Rds.at_ 0 rfl) rfl | exact QRun.slice_hi rfl rfl rfl rfl (by omega)) ?_ | refine Nx.m ?_ | refine Nx.zm ?_ | refine Nx.zt (fun hc => ?_) (fun hc => ?_))
                | refine Nx.zx ?_ | fail
              exact Nx.ret_fn rfl [] ⟨by rw [hstop (by rw [hca]; decide), hca], rfl⟩ (by (exact Ent.auto))
            · repeat' first
                | ((with_reducible refine Nx.is_wp ?_); first | refine Nx.wo ?_ | refine Nx.p_draw (id := 9) rfl [0, 1, 2, 3, 4, 5, 6, 7, 8, 9, 10, 11] [9] _ rfl rfl (by kernel_rfl) (by kernel_rfl) rfl (by repeat first | exact PanicOk.fn | refine PanicOk.then_ ?_ | refine PanicOk.inB ?_) (Ent.refl _) ?_ | refine Nx.p_draw (id := 11) rfl [0, 1, 2, 3, 4] [4] _ rfl rfl (by kernel_rfl) (by kernel_rfl) rfl (by repeat first | exact PanicOk.fn | refine PanicOk.then_ ?_ | refine PanicOk.inB ?_) (Ent.refl _) ?_ | refine Nx.zp (fun hc => ?_) (fun hc => ?_))
                | (refine Nx.zo ?_; first | refine Nx.opr rfl rfl ?_ | refine Nx.callv rfl rfl rfl (by kernel_rfl) rfl hov ?_ | refine Nx.so ?_ | refine Nx.sb (fun bx => ?_) | refine Nx.sa (fun A2 c2 => ?_))
                | ((with_reducible refine Nx.is_at ?_); first | refine Nx.a ?_ | refine Nx.zd ?_ | refine Nx.zs (fun hc => ?_) (fun hc => ?_))
                | ((with_reducible refine Nx.is_mix ?_); first | refine Nx.m_quiet rfl rfl rfl rfl rfl (by first | exact QRun.opr rfl | exact QRun.loads rfl rfl rfl (Rds.at_ 0 rfl) rfl | exact QRun.slice_hi rfl rfl rfl rfl (by omega)) ?_ | refine Nx.m_quiet_do rfl rfl rfl rfl rfl rfl rfl (by first | exact QRun.opr rfl | exact QRun.loads rfl rfl rfl (Rds.at_ 0 rfl) rfl | exact QRun.slice_hi rfl rfl rfl rfl (by omega)) ?_ | refine Nx.m ?_ | refine Nx.zm ?_ | refine Nx.zt (fun hc => ?_) (fun hc => ?_))
                | refine Nx.zx ?_ | fail
              exact Nx.ret_fn rfl [] ⟨by rw [hstop (by rw [hca]; decide), hca], rfl⟩ (by (exact Ent.auto))
          · have hm0 : meetsB (l.take k) (l.getD k default) = false := by simpa using hm
            have hca : checkAt l k = 0 := by unfold checkAt; rw [if_neg (by omega), if_neg hbf, if_neg hm]
            rw [hm0] at hov
            by_cases hk0 : 0 < k
            · have hcm := hcm hk0
              repeat' first
                | ((with_reducible refine Nx.is_wp ?_); first | refine Nx.wo ?_ | refine Nx.p_draw (id := 9) rfl [0, 1, 2, 3, 4, 5, 6, 7, 8, 9, 10, 11] [9] _ rfl rfl (by kernel_rfl) (by kernel_rfl) rfl (by repeat first | exact PanicOk.fn | refine PanicOk.then_ ?_ | refine PanicOk.inB ?_) (Ent.refl _) ?_ | refine Nx.p_draw (id := 11) rfl [0, 1, 2, 3, 4] [4] _ rfl rfl (by kernel_rfl) (by kernel_rfl) rfl (by repeat first | exact PanicOk.fn | refine PanicOk.then_ ?_ | refine PanicOk.inB ?_) (Ent.refl _) ?_ | refine Nx.zp (fun hc => ?_) (fun hc => ?_))
                | (refine Nx.zo ?_; first | refine Nx.opr rfl rfl ?_ | refine Nx.callv rfl rfl rfl (by kernel_rfl) rfl (compare_spec (l.getD ((k : Int) - 1).toNat default) (l.getD k default) I) ?_ | refine Nx.callv rfl rfl rfl (by kernel_rfl) rfl hov ?_ | refine Nx.so ?_ | refine Nx.sb (fun bx => ?_) | refine Nx.sa (fun A2 c2 => ?_))
                | ((with_reducible refine Nx.is_at ?_); first | refine Nx.a ?_ | refine Nx.zd ?_ | refine Nx.zs (fun hc => ?_) (fun hc => ?_))
                | ((with_reducible refine Nx.is_mix ?_); first | refine Nx.m_quiet rfl rfl rfl rfl rfl (by first | exact QRun.opr rfl | exact QRun.idxi rfl rfl rfl rfl (by omega) (by omega) (hl.isSome (by omega) (by omega)) | exact QRun.loads rfl rfl rfl (hl.rds (k := ((k : Int) - 1).toNat) (by omega)) rfl | exact QRun.loads rfl rfl rfl (Rds.at_ 0 rfl) rfl | exact QRun.slice_hi rfl rfl rfl rfl (by omega)) ?_ | refine Nx.m_quiet_do rfl rfl rfl rfl rfl rfl rfl (by first | exact QRun.opr rfl | exact QRun.idxi rfl rfl rfl rfl (by omega) (by omega) (hl.isSome (by omega) (by omega)) | exact QRun.loads rfl rfl rfl (hl.rds (k := ((k : Int) - 1).toNat) (by omega)) rfl | exact QRun.loads rfl rfl rfl (Rds.at_ 0 rfl) rfl | exact QRun.slice_hi rfl rfl rfl rfl (by omega)) ?_ | refine Nx.m ?_ | refine Nx.zm ?_ | refine Nx.zt (fun hc => ?_) (fun hc => ?_))
                | refine Nx.zx ?_ | fail
              exact Nx.again (k + 1) ⟨hlt, hgo hca⟩ (by omega) ⟨rfl, rfl, rfl, rfl, trivial⟩ (by (exact Ent.auto))
            · repeat' first
                | ((with_reducible refine Nx.is_wp ?_); first | refine Nx.wo ?_ | refine Nx.p_draw (id := 9) rfl [0, 1, 2, 3, 4, 5, 6, 7, 8, 9, 10, 11] [9] _ rfl rfl (by kernel_rfl) (by kernel_rfl) rfl (by repeat first | exact PanicOk.fn | refine PanicOk.then_ ?_ | refine PanicOk.inB ?_) (Ent.refl _) ?_ | refine Nx.p_draw (id := 11) rfl [0, 1, 2, 3, 4] [4] _ rfl rfl (by kernel_rfl) (by kernel_rfl) rfl (by repeat first | exact PanicOk.fn | refine PanicOk.then_ ?_ | refine PanicOk.inB ?_) (Ent.refl _) ?_ | refine Nx.zp (fun hc => ?_) (fun hc => ?_))
                | (refine Nx.zo ?_; first | refine Nx.opr rfl rfl ?_ | refine Nx.callv rfl rfl rfl (by kernel_rfl) rfl hov ?_ | refine Nx.so ?_ | refine Nx.sb (fun bx => ?_) | refine Nx.sa (fun A2 c2 => ?_))
                | ((with_reducible refine Nx.is_at ?_); first | refine Nx.a ?_ | refine Nx.zd ?_ | refine Nx.zs (fun hc => ?_) (fun hc => ?_))
                | ((with_reducible refine Nx.is_mix ?_); first | refine Nx.m_quiet rfl rfl rfl rfl rfl (by first | exact QRun.opr rfl | exact QRun.loads rfl rfl rfl (Rds.at_ 0 rfl) rfl | exact QRun.slice_hi rfl rfl rfl rfl (by omega)) ?_ | refine Nx.m_quiet_do rfl rfl rfl rfl rfl rfl rfl (by first | exact QRun.opr rfl | exact QRun.loads rfl rfl rfl (Rds.at_ 0 rfl) rfl | exact QRun.slice_hi rfl rfl rfl rfl (by omega)) ?_ | refine Nx.m ?_ | refine Nx.zm ?_ | refine Nx.zt (fun hc => ?_) (fun hc => ?_))
                | refine Nx.zx ?_ | fail
              exact Nx.again (k + 1) ⟨hlt, hgo hca⟩ (by omega) ⟨rfl, rfl, rfl, rfl, trivial⟩ (by (exact Ent.auto))
    · obtain rfl : k = l.length := by omega
      repeat' first
        | ((with_reducible refine Nx.is_wp ?_); first | refine Nx.wo ?_ | refine Nx.zp (fun hc => ?_) (fun hc => ?_))
        | (refine Nx.zo ?_; first | refine Nx.opr rfl rfl ?_ | refine Nx.so ?_ | refine Nx.sb (fun bx => ?_) | refine Nx.sa (fun A2 c2 => ?_))
        | ((with_reducible refine Nx.is_at ?_); first | refine Nx.a ?_ | refine Nx.zd ?_ | refine Nx.zs (fun hc => ?_) (fun hc => ?_))
        | ((with_reducible refine Nx.is_mix ?_); first | refine Nx.m ?_ | refine Nx.zm ?_ | refine Nx.zt (fun hc => ?_) (fun hc => ?_))
        | refine Nx.zx ?_ | fail
      exact Nx.ret_fn rfl [] ⟨by rw [h0], rfl⟩ (by (exact Ent.auto))
end Go.Proofs.YtjnhoemgceghlaaGreat
/- Contracts of functions of the given program, and lemmas about plain lists and numbers: what the laws of this seat lean on. -/
namespace Go.Proofs.YtjnhoemgceghlaaGreat
open Go.Eng
attribute [local irreducible] opK wpList Code.wp Exit.then Exit.inBlock fnPost bodyPost Nx Calls Oper.wp Rd Rds Wr Ent Stars Blk Again Vec FnSpec wpMix QRun Stop Upto wpAt
/-! Codes, from which all made values are drawn -/
set_option maxHeartbeats 8000000 in
set_option maxRecDepth 10000 in
theorem rtNew_spec (A : Option Addr) (c : Nat) (l : List Int) (I : PH) (hl : SliceOf (fun x : Int => Value.int .u8 x) I A c l) :
    FnSpec Tryz.prog 5 [.slice A l.length c] I [] (fun v R' => ∃ b, v = .pointer (some ⟨b, 0, none⟩) ∧ R' = [Blk b 58 [.slice A (l.take 400).length c, .int .i64 0]]) := by
  have hlen := hl.len
  have hcap := hl.cap
  have e1 : (min (l.length : Int) 400) = ((min l.length 400 : Nat) : Int) := by omega
  have e2 : (l.take 400).length = min l.length 400 := by rw [List.length_take]; omega
  refine FnSpec.enterP Tryz.func5 rfl Tryz.ntmps5 rfl fun w F => ?_
  repeat' first
    | ((with_reducible refine Nx.is_wp ?_); first | refine Nx.wo ?_ | refine Nx.zp (fun hc => ?_) (fun hc => ?_))
    | (refine Nx.zo ?_; first | refine Nx.opr rfl rfl ?_ | refine Nx.so ?_ | refine Nx.sb (fun bx => ?_) | refine Nx.sa (fun A2 c2 => ?_))
    | ((with_reducible refine Nx.is_at ?_); first | refine Nx.a ?_ | refine Nx.zd ?_ | refine Nx.zs (fun hc => ?_) (fun hc => ?_))
    | ((with_reducible refine Nx.is_mix ?_); first | refine Nx.m ?_ | refine Nx.zm ?_ | refine Nx.zt (fun hc => ?_) (fun hc => ?_))
    | refine Nx.zx ?_ | fail
  rw [e1]
  repeat' first
    | ((with_reducible refine Nx.is_wp ?_); first | refine Nx.wo ?_ | refine Nx.zp (fun hc => ?_) (fun hc => ?_))
    | (refine Nx.zo ?_; first | refine Nx.opr rfl rfl ?_ | refine Nx.slice_hi rfl rfl rfl rfl rfl (by omega) ?_ | refine Nx.so ?_ | refine Nx.sb (fun bx => ?_) | refine Nx.sa (fun A2 c2 => ?_))
    | ((with_reducible refine Nx.is_at ?_); first | refine Nx.a ?_ | refine Nx.zd ?_ | refine Nx.zs (fun hc => ?_) (fun hc => ?_))
    | ((with_reducible refine Nx.is_mix ?_); first | refine Nx.m ?_ | refine Nx.zm ?_ | refine Nx.zt (fun hc => ?_) (fun hc => ?_))
    | refine Nx.zx ?_ | fail
  rw [e2]
  exact Nx.ret_fn rfl [_] ⟨_, rfl, rfl⟩ (by (exact Ent.auto))
set_option maxHeartbeats 8000000 in
set_option maxRecDepth 10000 in
set_option maxRecDepth 10000 in
/-- Where a draw stands, and what it yields: any number below n. -/
theorem rtNext_spec (b : Nat) (A : Option Addr) (c : Nat) (l : List Int) (k : Nat) (n : Int) (I : PH) (hl : SliceOf (fun x : Int => Value.int .u8 x) I A c l) (hx : ∀ x ∈ l, 0 ≤ x ∧ x < 256) (hk : k ≤ l.length) (hn : 1 ≤ n ∧ n ≤ 1000000) :
    FnSpec Tryz.prog 12 [.pointer (some ⟨b, 0, none⟩), .int .i64 n] I [Blk b 58 [.slice A l.length c, .int .i64 (k : Int)]]
      (fun v R' => ∃ (r : Int) (k' : Nat), v = .int .i64 r ∧ (0 ≤ r ∧ r < n) ∧ k' ≤ l.length ∧ R' = [Blk b 58 [.slice A l.length c, .int .i64 (k' : Int)]]) := by
  have hlen := hl.len
  refine FnSpec.enterP Tryz.func12 rfl Tryz.ntmps12 rfl fun w F => ?_
  have hget : ∀ j : Nat, j < l.length → 0 ≤ l.getD j default ∧ l.getD j default < 256 := fun j h => hx _ (by rw [List.getD_eq_getElem?_getD, List.getElem?_eq_getElem h]; exact List.getElem_mem _)
  have hg1 : 0 < l.length - k → 0 ≤ l.getD ((k : Int) + 1 - 1).toNat default ∧ l.getD ((k : Int) + 1 - 1).toNat default < 256 := fun h => hget _ (by omega)
  have hg2 : 0 < l.length - (k + 1) → 0 ≤ l.getD ((k : Int) + 1).toNat default ∧ l.getD ((k : Int) + 1).toNat default < 256 := fun h => hget _ (by omega)
  repeat' first
    | ((with_reducible refine Nx.is_wp ?_); first | refine Nx.wo ?_ | refine Nx.p_draw (id := 1) rfl [0, 1, 2, 3, 4, 5, 6, 7, 8, 9, 10, 11, 12, 13] [] _ rfl rfl (by kernel_rfl) (by kernel_rfl) rfl (by repeat first | exact PanicOk.fn | refine PanicOk.then_ ?_ | refine PanicOk.inB ?_) (Ent.refl _) ?_ | refine Nx.p_draw (id := 4) rfl [0, 1, 2, 3, 4, 5, 6, 7, 8, 9, 10, 11, 12] [] _ rfl rfl (by kernel_rfl) (by kernel_rfl) rfl (by repeat first | exact PanicOk.fn | refine PanicOk.then_ ?_ | refine PanicOk.inB ?_) (Ent.refl _) ?_ | refine Nx.p_draw (id := 5) rfl [0, 1, 2, 3, 4, 5, 6, 7, 8, 9, 10, 11, 12, 13] [] _ rfl rfl (by kernel_rfl) (by kernel_rfl) rfl (by repeat first | exact PanicOk.fn | refine PanicOk.then_ ?_ | refine PanicOk.inB ?_) (Ent.refl _) ?_ | refine Nx.p_draw (id := 6) rfl [0, 1, 2, 3, 4, 5, 6, 7, 8, 9, 10, 11, 12, 13, 14] [] _ rfl rfl (by kernel_rfl) (by kernel_rfl) rfl (by repeat first | exact PanicOk.fn | refine PanicOk.then_ ?_ | refine PanicOk.inB ?_) (Ent.refl _) ?_ | refine Nx.zp (fun hc => ?_) (fun hc => ?_))
    | (refine Nx.zo ?_; first | refine Nx.opr rfl rfl ?_ | refine Nx.so ?_ | refine Nx.sb (fun bx => ?_) | refine Nx.sa (fun A2 c2 => ?_))
    | ((with_reducible refine Nx.is_at ?_); first | refine Nx.a ?_ | refine Nx.zd ?_ | refine Nx.zs (fun hc => ?_) (fun hc => ?_))
    | ((with_reducible refine Nx.is_mix ?_); first | refine Nx.m_quiet rfl rfl rfl rfl rfl (by first | exact QRun.opr rfl | exact QRun.idxi rfl rfl rfl rfl (by omega) (by omega) (hl.isSome (by omega)) | exact QRun.load rfl rfl (hl.rd (by omega))) ?_ | refine Nx.m_quiet_do rfl rfl rfl rfl rfl rfl rfl (by first | exact QRun.opr rfl | exact QRun.idxi rfl rfl rfl rfl (by omega) (by omega) (hl.isSome (by omega)) | exact QRun.load rfl rfl (hl.rd (by omega))) ?_ | refine Nx.m ?_ | refine Nx.zm ?_ | refine Nx.zt (fun hc => ?_) (fun hc => ?_))
    | refine Nx.zx ?_ | fail
  · exact Nx.ret_fn rfl [_] ⟨0, k, rfl, ⟨by omega, by omega⟩, hk, rfl⟩ (Ent.refl _)
  · exact Nx.ret_fn rfl [_] ⟨_, k + 2, rfl, ⟨Int.emod_nonneg _ (by omega), Int.emod_lt_of_pos _ (by omega)⟩, by omega, by rw [show ((k + 2 : Nat) : Int) = (k : Int) + 1 + 1 by omega]⟩ (by (exact Ent.auto))
  · exact Nx.ret_fn rfl [_] ⟨_, k + 1, rfl, ⟨Int.emod_nonneg _ (by omega), Int.emod_lt_of_pos _ (by omega)⟩, by omega, by rw [show ((k + 1 : Nat) : Int) = (k : Int) + 1 by omega]⟩ (by (exact Ent.auto))
  · exact Nx.ret_fn rfl [_] ⟨_, k + 1, rfl, ⟨Int.emod_nonneg _ (by omega), Int.emod_lt_of_pos _ (by omega)⟩, by omega, by rw [show ((k + 1 : Nat) : Int) = (k : Int) + 1 by omega]⟩ (by (exact Ent.auto))
end Go.Proofs.YtjnhoemgceghlaaGreat
