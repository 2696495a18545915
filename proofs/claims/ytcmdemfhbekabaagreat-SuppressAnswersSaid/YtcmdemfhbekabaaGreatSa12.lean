/- Contracts of functions of the given program, and lemmas about plain lists and numbers: what the laws of this seat lean on. -/
import Derived.Test.YtcmdemfhbekabaaGreatSa11
namespace Go.Proofs.YtcmdemfhbekabaaGreat
open Go.Eng Go.Sol
attribute [local irreducible] opK wpList Code.wp Exit.then Exit.inBlock fnPost bodyPost Nx Calls Oper.wp Rd Rds Wr Ent Stars Blk Again Vec FnSpec wpMix QRun Stop Upto wpAt
/-! The reference: whether a set protects -/
set_option maxRecDepth 10000 in
set_option maxHeartbeats 16000000 in
theorem RProtects_spec (A Ae B Ap : Option Addr) (c ce cb cp : Nat) (l : List Int) (es : List Rel) (r : Rel) (L prot : List Int) (m : Int) (I : PH) (hl : Ints I A c l) (hs : Sizes l) (he : Rels I Ae ce es) (hw : ∀ r ∈ es, Viewed l r.v) (h9 : es.length ≤ 1000)
    (hv : RowsOf I r.va r.vc r.v) (hd : Ints I r.val.1 r.val.2.1 r.val.2.2) (hwr : Viewed l r.v) (hd9 : r.val.2.2.length ≤ 1000) (hB : Ints I B cb L) (hp : Ints I Ap cp prot) :
    FnSpec Tryz.prog 50 [.agg #[.slice A l.length c], .slice Ae es.length ce, .agg #[.int .i64 r.num, .slice r.va r.v.length r.vc, .slice r.val.1 r.val.2.2.length r.val.2.1], .slice B L.length cb, .slice Ap prot.length cp, .int .i64 m] I []
      (fun u R' => u = .tuple #[.bool (protF l es r L prot m).1, .int .i64 (protF l es r L prot m).2] ∧ R' = []) := by
  have hH := HideR_spec B cb L r I hd hB hd9
  unfold HideRPost at hH
  unfold protF
  refine FnSpec.enterP Tryz.func50 rfl Tryz.ntmps50 rfl fun w F => ?_
  by_cases h0 : hideE r.val.2.2 L = 0
  case neg =>
    rw [if_pos h0]
    generalize hideE r.val.2.2 L = er at hH h0
    repeat' first
      | ((with_reducible refine Nx.is_wp ?_); first | refine Nx.wo ?_ | refine Nx.zp (fun hc => ?_) (fun hc => ?_))
      | (refine Nx.zo ?_; first | refine Nx.opr rfl rfl ?_ | (refine Nx.call (Rpre := []) rfl rfl rfl (by kernel_rfl) rfl hH (Ent.refl _) ?_; rintro _ _ ⟨r2, rfl, _, _, rfl⟩) | refine Nx.so ?_ | refine Nx.sb (fun bx => ?_) | refine Nx.sa (fun A2 c2 => ?_))
      | ((with_reducible refine Nx.is_at ?_); first | refine Nx.a ?_ | refine Nx.zd ?_ | refine Nx.zs (fun hc => ?_) (fun hc => ?_))
      | ((with_reducible refine Nx.is_mix ?_); first | refine Nx.m ?_ | refine Nx.zm ?_ | refine Nx.zt (fun hc => ?_) (fun hc => ?_))
      | refine Nx.zx ?_ | fail
    exact Nx.ret_fn rfl [] ⟨rfl, rfl⟩ (by (exact Ent.auto))
  rw [if_neg (by omega)]
  rw [h0] at hH
  have hH2 : FnSpec Tryz.prog 48 [.agg #[.int .i64 r.num, .slice r.va r.v.length r.vc, .slice r.val.1 r.val.2.2.length r.val.2.1], .slice B L.length cb] I [] (fun u R' => ∃ (D2 : Option Addr) (cd2 : Nat), u = .tuple #[.agg #[.int .i64 r.num, .slice r.va r.v.length r.vc, .slice D2 r.val.2.2.length cd2], .int .i64 0] ∧ R' = [iR D2 cd2 (hidL r.val.2.2 L)]) := by
    refine FnSpec.mono hH fun u R' hu => ?_
    obtain ⟨⟨num2, va2, vc2, v2, D2, cd2, x2⟩, rfl, h1, _, rfl⟩ := hu
    obtain ⟨e1, e2, e3, e4, e5⟩ := h1 rfl
    dsimp only at e1 e2 e3 e4 e5
    subst e1 e2 e3 e4 e5
    refine ⟨D2, cd2, ?_, rfl⟩
    unfold relC rowV
    dsimp only
    rw [hidL_len]
  have hSf := fun (I2 : PH) (D2 : Option Addr) (cd2 : Nat) (hle2 : PH.le I I2) (hd2 : Ints I2 D2 cd2 (hidL r.val.2.2 L)) (A3 : Option Addr) (c3 : Nat) (q I' : PH) (hle : PH.le I2 I') (hq : PH.le q I') (hvv : Stars [Vec 62 3 A3 (es.length + 1) c3 (es.flatMap relC ++ [.int .i64 r.num, .slice r.va r.v.length r.vc, .slice D2 r.val.2.2.length cd2])] q) => (by
    have hR := rels_app (r := ⟨r.num, r.va, r.vc, r.v, (D2, cd2, hidL r.val.2.2 L)⟩) (he.mono hle2) hle hq (by unfold relC rowV; dsimp only; rw [hidL_len]; exact hvv) (hv.mono hle2) hd2
    have := RSafe_spec A A3 Ap c c3 cp l (es ++ [⟨r.num, r.va, r.vc, r.v, (D2, cd2, hidL r.val.2.2 L)⟩]) prot m I' (hl.mono (hle2.trans hle)) hs hR (fun x hx => (List.mem_append.1 hx).elim (hw x) fun h => by rw [List.mem_singleton.1 h]; exact hwr) (hp.mono (hle2.trans hle))
    unfold safeB at this
    rw [prot_same (r := r) (r' := ⟨r.num, r.va, r.vc, r.v, (D2, cd2, hidL r.val.2.2 L)⟩) (L := L) rfl rfl rfl, show (es ++ [(⟨r.num, r.va, r.vc, r.v, (D2, cd2, hidL r.val.2.2 L)⟩ : Rel)]).length = es.length + 1 by rw [List.length_append]; rfl] at this
    exact this :
    FnSpec Tryz.prog 29 [.agg #[.slice A l.length c], .slice A3 (es.length + 1) c3, .slice Ap prot.length cp, .int .i64 m] I' [] (fun u R' => u = .tuple #[.bool (safeB l (es ++ [hidR r L]) prot m), .int .i64 (findD l (es ++ [hidR r L]) prot m).2] ∧ R' = []))
  generalize safeB l (es ++ [hidR r L]) prot m = sb at hSf
  generalize (findD l (es ++ [hidR r L]) prot m).2 = se at hSf
  dsimp only
  clear hH
  repeat' first
    | ((with_reducible refine Nx.is_wp ?_); first | refine Nx.p_stopr 4 rfl ?_ | refine Nx.wo ?_ | refine Nx.zp (fun hc => ?_) (fun hc => ?_))
    | (refine Nx.zo ?_; first | refine Nx.opr rfl rfl ?_ | (refine Nx.call (Rpre := []) rfl rfl rfl (by kernel_rfl) rfl hH2 (Ent.refl _) ?_; rintro _ _ ⟨D2, cd2, rfl, rfl⟩) | refine Nx.so ?_ | refine Nx.sb (fun bx => ?_) | refine Nx.sa (fun A2 c2 => ?_))
    | ((with_reducible refine Nx.is_at ?_); first | refine Nx.a ?_ | refine Nx.zd ?_ | refine Nx.zs (fun hc => ?_) (fun hc => ?_))
    | ((with_reducible refine Nx.is_mix ?_); first | refine Nx.m ?_ | refine Nx.zm ?_ | refine Nx.zt (fun hc => ?_) (fun hc => ?_))
    | refine Nx.zx ?_ | fail
  refine Nx.unstop ?_
  rename_i b6 b8
  revert bx; intro b14
  refine Nx.ent (R' := [iR D2 cd2 (hidL r.val.2.2 L), Blk b6 27 [.slice A l.length c], Blk b14 62 [.int .i64 r.num, .slice r.va r.v.length r.vc, .slice D2 r.val.2.2.length cd2], F]) (by (exact Ent.auto)) ?_
  refine Nx.freezeAt 0 rfl fun I2 m2 hI2 hm2 h2 => ?_
  have hd2 : Ints I2 D2 cd2 (hidL r.val.2.2 L) := Vec.sliceOf hm2 h2
  refine Nx.p_seq rfl ?_
  refine Nx.weak ?_ ?_ (protects4 A Ae Ap r.va D2 c ce cp l.length prot.length b6 b14 r.v.length r.vc r.val.2.2.length cd2 r.num es m sb se I2 (he.outer.mono hI2) h9 w (Stars []) F _ (by repeat first | exact PanicOk.fn | refine PanicOk.then_ ?_ | refine PanicOk.inB ?_) (fun A3 c3 q I' hle hq hvv => hSf I2 D2 cd2 hI2 hd2 A3 c3 q I' hle hq hvv) ?_)
  · exact ⟨rfl, rfl, rfl, rfl, rfl, trivial⟩
  · exact (Ent.stars_nil _).trans (by (exact Ent.auto))
  repeat' first
    | ((with_reducible refine Nx.is_wp ?_); first | refine Nx.wo ?_ | refine Nx.zp (fun hc => ?_) (fun hc => ?_))
    | (refine Nx.zo ?_; first | refine Nx.opr rfl rfl ?_ | refine Nx.so ?_ | refine Nx.sb (fun bx => ?_) | refine Nx.sa (fun A2 c2 => ?_))
    | ((with_reducible refine Nx.is_at ?_); first | refine Nx.a ?_ | refine Nx.zd ?_ | refine Nx.zs (fun hc => ?_) (fun hc => ?_))
    | ((with_reducible refine Nx.is_mix ?_); first | refine Nx.m ?_ | refine Nx.zm ?_ | refine Nx.zt (fun hc => ?_) (fun hc => ?_))
    | refine Nx.zx ?_ | fail
  exact Nx.imm_le hI2 (Nx.ret_fn rfl [] ⟨rfl, rfl⟩ (by (exact Ent.auto)))
end Go.Proofs.YtcmdemfhbekabaaGreat
/- Contracts of functions of the given program, and lemmas about plain lists and numbers: what the laws of this seat lean on. -/
namespace Go.Proofs.YtcmdemfhbekabaaGreat
open Go.Eng Go.Sol
attribute [local irreducible] opK wpList Code.wp Exit.then Exit.inBlock fnPost bodyPost Nx Calls Oper.wp Rd Rds Wr Ent Stars Blk Again Vec FnSpec wpMix QRun Stop Upto wpAt
/-! The least set that protects: the reference -/
def LeastK (w : List Int) (pb : Nat → Bool) (k : Nat) : Option Nat → Prop
  | some s => s < k ∧ pb s = true ∧ ∀ t, t < k → pb t = true → cfN w w.length s t ≤ 0
  | none => ∀ t, t < k → pb t = false
def bestL (n : Nat) : Option Nat → List Int
  | some s => bitsL s n
  | none => []
theorem leastK_end {w : List Int} {pb : Nat → Bool} {best : Option Nat} (h : LeastK w pb (2 ^ w.length) best) : IsLeast w pb best := by
  cases best with
  | none => exact h
  | some s => exact h
theorem leastK_skip {w : List Int} {pb : Nat → Bool} {k : Nat} {best : Option Nat} (h : LeastK w pb k best) (hp : pb k = false) : LeastK w pb (k + 1) best := by
  have hx : ∀ t, t < k + 1 → t < k ∨ t = k := fun t ht => by omega
  cases best with
  | none => exact fun t ht => (hx t ht).elim (h t) fun e => by rw [e]; exact hp
  | some s => exact ⟨by have := h.1; omega, h.2.1, fun t ht hpt => (hx t ht).elim (fun h2 => h.2.2 t h2 hpt) fun e => by rw [e, hp] at hpt; cases hpt⟩
theorem leastK_keep {w : List Int} {pb : Nat → Bool} {k s : Nat} (h : LeastK w pb k (some s)) (hc : ¬ cfN w w.length k s < 0) : LeastK w pb (k + 1) (some s) :=
  ⟨by have := h.1; omega, h.2.1, fun t ht hpt => by
    rcases Nat.lt_or_ge t k with h2 | h2
    · exact h.2.2 t h2 hpt
    · rw [show t = k by omega]
      have := (cfN_le w w.length).anti k s
      omega⟩
theorem leastK_take {w : List Int} {pb : Nat → Bool} {k : Nat} {best : Option Nat} (h : LeastK w pb k best) (hp : pb k = true) (hc : ∀ s, best = some s → cfN w w.length k s < 0) : LeastK w pb (k + 1) (some k) := by
  refine ⟨by omega, hp, fun t ht hpt => ?_⟩
  have hL := cfN_le w w.length
  rcases Nat.lt_or_ge t k with h2 | h2
  · cases best with
    | none => rw [h t h2] at hpt; cases hpt
    | some s =>
      have h3 := hc s rfl
      exact hL.tr k s t (by omega) (h.2.2 t h2 hpt)
  · rw [show t = k by omega]
    have := hL.anti k k
    omega
set_option maxRecDepth 10000 in
set_option maxHeartbeats 16000000 in
theorem LeastR_spec (A Ae Aw Ap : Option Addr) (c ce cw cp : Nat) (l : List Int) (es : List Rel) (r : Rel) (w prot : List Int) (m : Int) (I : PH) (hl : Ints I A c l) (hs : Sizes l) (he : Rels I Ae ce es) (hw : ∀ r ∈ es, Viewed l r.v) (h9 : es.length ≤ 1000)
    (hv : RowsOf I r.va r.vc r.v) (hd : Ints I r.val.1 r.val.2.1 r.val.2.2) (hwr : Viewed l r.v) (hd6 : r.val.2.2.length ≤ 6) (hW : Ints I Aw cw w) (hp : Ints I Ap cp prot) :
    FnSpec Tryz.prog 53 [.agg #[.slice A l.length c], .slice Ae es.length ce, .agg #[.int .i64 r.num, .slice r.va r.v.length r.vc, .slice r.val.1 r.val.2.2.length r.val.2.1], .slice Aw w.length cw, .slice Ap prot.length cp, .int .i64 m] I [] (LeastPost l es r w prot m) := by
  have hWl := hW.len
  have hPr := fun (B : Option Addr) (cb : Nat) (L : List Int) (I' : PH) (hle : PH.le I I') (hB : Ints I' B cb L) => RProtects_spec A Ae B Ap c ce cb cp l es r L prot m I' (hl.mono hle) hs (he.mono hle) hw h9 (hv.mono hle) (hd.mono hle) hwr (by omega) hB (hp.mono hle)
  have hP0 := hPr none 0 [] I (PH.le_refl _) SliceOf.nil
  have hpz : (protF l es r [] prot m).2 = (findD l (es ++ [r]) prot m).2 := by
    have h0 : hideE r.val.2.2 [] = 0 := rfl
    unfold protF
    rw [h0, if_neg (by decide)]
    dsimp only
    rw [prot_same (r := r) (r' := r) (L := []) rfl rfl rfl]
  generalize protF l es r [] prot m = f0 at hP0 hpz
  obtain ⟨ok0, e0⟩ := f0
  dsimp only at hP0 hpz
  obtain ⟨pb, hpb⟩ : ∃ pb, pb = pbF l es r w.length prot m := ⟨_, rfl⟩
  unfold LeastPost lstE
  rw [← hpb, ← hpz]
  obtain ⟨num, va, vc, v, D, cd, vs⟩ := r
  dsimp only at hd6 hPr hP0 ⊢
  rw [if_neg (c := 10 < vs.length) (by omega)]
  refine FnSpec.enterP Tryz.func53 rfl Tryz.ntmps53 rfl fun w0 F => ?_
  by_cases h1 : w.length = vs.length
  case neg =>
    rw [if_pos h1]
    repeat' first
      | ((with_reducible refine Nx.is_wp ?_); first | refine Nx.wo ?_ | refine Nx.zp (fun hc => ?_) (fun hc => ?_))
      | (refine Nx.zo ?_; first | refine Nx.opr rfl rfl ?_ | refine Nx.so ?_ | refine Nx.sb (fun bx => ?_) | refine Nx.sa (fun A2 c2 => ?_))
      | ((with_reducible refine Nx.is_at ?_); first | refine Nx.a ?_ | refine Nx.zd ?_ | refine Nx.zs (fun hc => ?_) (fun hc => ?_))
      | ((with_reducible refine Nx.is_mix ?_); first | refine Nx.m ?_ | refine Nx.zm ?_ | refine Nx.zt (fun hc => ?_) (fun hc => ?_))
      | refine Nx.zx ?_ | fail
    exact Nx.ret_fn rfl [_] ⟨none, none, 0, fun h => absurd h (by decide), rfl, rfl⟩ ((Ent.vec_nil 3 1 _).trans (by (exact Ent.auto)))
  rw [if_neg (c := w.length ≠ vs.length) (by omega)]
  obtain ⟨bw, hbw⟩ : ∃ bw, bw = w.any badW := ⟨_, rfl⟩
  rw [← hbw]
  repeat' first
    | ((with_reducible refine Nx.is_wp ?_); first | refine Nx.wo ?_ | refine Nx.zp (fun hc => ?_) (fun hc => ?_))
    | (refine Nx.zo ?_; first | refine Nx.opr rfl rfl ?_ | refine Nx.so ?_ | refine Nx.sb (fun bx => ?_) | refine Nx.sa (fun A2 c2 => ?_))
    | ((with_reducible refine Nx.is_at ?_); first | refine Nx.a ?_ | refine Nx.zd ?_ | refine Nx.zs (fun hc => ?_) (fun hc => ?_))
    | ((with_reducible refine Nx.is_mix ?_); first | refine Nx.m ?_ | refine Nx.zm ?_ | refine Nx.zt (fun hc => ?_) (fun hc => ?_))
    | refine Nx.zx ?_ | fail
  rename_i b6
  revert bx; intro b8
  refine Nx.p_loop (σ := Nat) (fun i => [(1, .slice Ae es.length ce), (3, .slice Aw w.length cw), (4, .slice Ap prot.length cp), (5, .int .i64 m), (6, .pointer (some ⟨b6, 0, none⟩)), (8, .pointer (some ⟨b8, 0, none⟩)), (35, .slice Aw w.length cw), (36, .int .i64 w.length), (37, .int .i64 (i : Int))])
    (fun _ => [Blk b8 62 [.int .i64 num, .slice va v.length vc, .slice D vs.length cd], Blk b6 27 [.slice A l.length c], F]) (fun i => i ≤ w.length ∧ bw = (w.drop i).any badW) (fun i => w.length - i) 0 rfl ⟨Nat.zero_le _, by rw [List.drop_zero]; exact hbw⟩ ⟨rfl, rfl, rfl, rfl, rfl, rfl, rfl, rfl, rfl, trivial⟩ (by (exact Ent.auto)) ?_
  rintro i ⟨hi, hbi⟩
  by_cases hiw : i < w.length
  · have hrd : ∀ (W : World) (R : List Res), Rd W I R ((ad Aw).add (i * 1)) (.int .i64 (w.getD i default)) := fun W R => hW.rd hiw
    rw [drop_atI hiw, List.any_cons] at hbi
    generalize w.getD i default = x at hrd hbi
    by_cases hx0 : x < 0
    · rw [show badW x = true from decide_eq_true (.inl hx0), Bool.true_or] at hbi
      rw [hbi, if_pos rfl]
      repeat' first
        | ((with_reducible refine Nx.is_wp ?_); first | refine Nx.wo ?_ | refine Nx.zp (fun hc => ?_) (fun hc => ?_))
        | (refine Nx.zo ?_; first | refine Nx.opr rfl rfl ?_ | refine Nx.indexAddr_nat (A := Aw) (i := i) (sz := 1) rfl rfl rfl rfl rfl hiw (hW.isSome (by omega)) ?_ | refine Nx.load rfl rfl rfl (hrd _ _) ?_ | refine Nx.so ?_ | refine Nx.sb (fun bx => ?_) | refine Nx.sa (fun A2 c2 => ?_))
        | ((with_reducible refine Nx.is_at ?_); first | refine Nx.a ?_ | refine Nx.zd ?_ | refine Nx.zs (fun hc => ?_) (fun hc => ?_))
        | ((with_reducible refine Nx.is_mix ?_); first | refine Nx.m ?_ | refine Nx.zm ?_ | refine Nx.zt (fun hc => ?_) (fun hc => ?_))
        | refine Nx.zx ?_ | fail
      exact Nx.ret_fn rfl [_] ⟨none, none, 0, fun h => absurd h (by decide), rfl, rfl⟩ ((Ent.vec_nil 3 1 _).trans (by (exact Ent.auto)))
    by_cases hx1 : 1000 < x
    · rw [show badW x = true from decide_eq_true (.inr hx1), Bool.true_or] at hbi
      rw [hbi, if_pos rfl]
      repeat' first
        | ((with_reducible refine Nx.is_wp ?_); first | refine Nx.wo ?_ | refine Nx.zp (fun hc => ?_) (fun hc => ?_))
        | (refine Nx.zo ?_; first | refine Nx.opr rfl rfl ?_ | refine Nx.indexAddr_nat (A := Aw) (i := i) (sz := 1) rfl rfl rfl rfl rfl hiw (hW.isSome (by omega)) ?_ | refine Nx.load rfl rfl rfl (hrd _ _) ?_ | refine Nx.so ?_ | refine Nx.sb (fun bx => ?_) | refine Nx.sa (fun A2 c2 => ?_))
        | ((with_reducible refine Nx.is_at ?_); first | refine Nx.a ?_ | refine Nx.zd ?_ | refine Nx.zs (fun hc => ?_) (fun hc => ?_))
        | ((with_reducible refine Nx.is_mix ?_); first | refine Nx.m ?_ | refine Nx.zm ?_ | refine Nx.zt (fun hc => ?_) (fun hc => ?_))
        | refine Nx.zx ?_ | fail
      exact Nx.ret_fn rfl [_] ⟨none, none, 0, fun h => absurd h (by decide), rfl, rfl⟩ ((Ent.vec_nil 3 1 _).trans (by (exact Ent.auto)))
    rw [show badW x = false from decide_eq_false (by omega), Bool.false_or] at hbi
    repeat' first
      | ((with_reducible refine Nx.is_wp ?_); first | refine Nx.wo ?_ | refine Nx.zp (fun hc => ?_) (fun hc => ?_))
      | (refine Nx.zo ?_; first | refine Nx.opr rfl rfl ?_ | refine Nx.indexAddr_nat (A := Aw) (i := i) (sz := 1) rfl rfl rfl rfl rfl hiw (hW.isSome (by omega)) ?_ | refine Nx.load rfl rfl rfl (hrd _ _) ?_ | refine Nx.so ?_ | refine Nx.sb (fun bx => ?_) | refine Nx.sa (fun A2 c2 => ?_))
      | ((with_reducible refine Nx.is_at ?_); first | refine Nx.a ?_ | refine Nx.zd ?_ | refine Nx.zs (fun hc => ?_) (fun hc => ?_))
      | ((with_reducible refine Nx.is_mix ?_); first | refine Nx.m ?_ | refine Nx.zm ?_ | refine Nx.zt (fun hc => ?_) (fun hc => ?_))
      | refine Nx.zx ?_ | fail
    exact Nx.again (i + 1) ⟨hiw, hbi⟩ (by omega) ⟨rfl, rfl, rfl, rfl, rfl, rfl, rfl, rfl, rfl, trivial⟩ (by (exact Ent.auto))
  rw [List.drop_eq_nil_of_le (by omega), List.any_nil] at hbi
  rw [hbi] at hbw ⊢
  rw [if_neg (by decide)]
  have hWok : WOk w := fun x hx => by
    have : ¬ badW x = true := fun h => by
      have := List.any_eq_true.2 ⟨x, hx, h⟩
      rw [← hbw] at this; cases this
    unfold badW at this
    rw [decide_eq_true_eq] at this
    omega
  by_cases h0 : e0 = 0
  case neg =>
    repeat' first
      | ((with_reducible refine Nx.is_wp ?_); first | refine Nx.wo ?_ | refine Nx.zp (fun hc => ?_) (fun hc => ?_))
      | (refine Nx.zo ?_; first | refine Nx.opr rfl rfl ?_ | refine Nx.callv rfl rfl rfl (by kernel_rfl) rfl hP0 ?_ | refine Nx.so ?_ | refine Nx.sb (fun bx => ?_) | refine Nx.sa (fun A2 c2 => ?_))
      | ((with_reducible refine Nx.is_at ?_); first | refine Nx.a ?_ | refine Nx.zd ?_ | refine Nx.zs (fun hc => ?_) (fun hc => ?_))
      | ((with_reducible refine Nx.is_mix ?_); first | refine Nx.m ?_ | refine Nx.zm ?_ | refine Nx.zt (fun hc => ?_) (fun hc => ?_))
      | refine Nx.zx ?_ | fail
    exact Nx.ret_fn rfl [_] ⟨none, none, 0, fun h => absurd h h0, by unfold lstR; rw [if_pos h0]; rfl, rfl⟩ (by unfold lstR; rw [if_pos h0]; exact (Ent.vec_nil 3 1 _).trans (by (exact Ent.auto)))
  subst h0
  obtain ⟨pw, hpw⟩ : ∃ pw, pw = 2 ^ w.length := ⟨_, rfl⟩
  have hpw64 : pw ≤ 64 := by rw [hpw]; have := Nat.pow_le_pow_right (n := 2) (by decide) (show w.length ≤ 6 by omega); simpa using this
  have hpr : pw = 2 ^ vs.length := by rw [hpw, h1]
  repeat' first
    | ((with_reducible refine Nx.is_wp ?_); first | refine Nx.wo ?_ | refine Nx.zp (fun hc => ?_) (fun hc => ?_))
    | (refine Nx.zo ?_; first | refine Nx.opr rfl rfl ?_ | refine Nx.callv rfl rfl rfl (by kernel_rfl) rfl hP0 ?_ | refine Nx.so ?_ | refine Nx.sb (fun bx => ?_) | refine Nx.sa (fun A2 c2 => ?_))
    | ((with_reducible refine Nx.is_at ?_); first | refine Nx.a ?_ | refine Nx.zd ?_ | refine Nx.zs (fun hc => ?_) (fun hc => ?_))
    | ((with_reducible refine Nx.is_mix ?_); first | refine Nx.m ?_ | refine Nx.zm ?_ | refine Nx.zt (fun hc => ?_) (fun hc => ?_))
    | refine Nx.zx ?_ | fail
  refine Nx.p_loop (σ := Nat × Option Nat × Option Addr × Nat) (fun q => [(1, .slice Ae es.length ce), (3, .slice Aw w.length cw), (4, .slice Ap prot.length cp), (5, .int .i64 m), (6, .pointer (some ⟨b6, 0, none⟩)), (8, .pointer (some ⟨b8, 0, none⟩)), (19, .slice q.2.2.1 (bestL vs.length q.2.1).length q.2.2.2), (20, .bool q.2.1.isSome), (21, .int .i64 (q.1 : Int))])
    (fun q => [iR q.2.2.1 q.2.2.2 (bestL vs.length q.2.1), Blk b8 62 [.int .i64 num, .slice va v.length vc, .slice D vs.length cd], Blk b6 27 [.slice A l.length c], F]) (fun q => q.1 ≤ pw ∧ LeastK w pb q.1 q.2.1) (fun q => pw - q.1) (0, none, none, 0) rfl ⟨Nat.zero_le _, fun t ht => absurd ht (Nat.not_lt_zero _)⟩ ⟨rfl, rfl, rfl, rfl, rfl, rfl, rfl, rfl, rfl, trivial⟩ ((Ent.vec_nil 3 1 _).trans (by (exact Ent.auto))) ?_
  rintro ⟨k, best, Ab, cb⟩ ⟨hk, hK⟩
  dsimp only at hk hK ⊢
  by_cases hkp : k < pw
  case neg =>
    obtain rfl : k = pw := by omega
    rw [hpw] at hK
    have hil := leastK_end hK
    cases best with
    | none =>
      repeat' first
        | ((with_reducible refine Nx.is_wp ?_); first | refine Nx.wo ?_ | refine Nx.zp (fun hc => ?_) (fun hc => ?_))
        | (refine Nx.zo ?_; first | refine Nx.opr rfl rfl ?_ | refine Nx.bin rfl rfl (run_shlK (.inl rfl) rfl hd6 hpr) rfl ?_ | refine Nx.so ?_ | refine Nx.sb (fun bx => ?_) | refine Nx.sa (fun A2 c2 => ?_))
        | ((with_reducible refine Nx.is_at ?_); first | refine Nx.a ?_ | refine Nx.zd ?_ | refine Nx.zs (fun hc => ?_) (fun hc => ?_))
        | ((with_reducible refine Nx.is_mix ?_); first | refine Nx.m ?_ | refine Nx.zm ?_ | refine Nx.zt (fun hc => ?_) (fun hc => ?_))
        | refine Nx.zx ?_ | fail
      exact Nx.ret_fn rfl [_] ⟨none, none, 0, fun _ => hil, rfl, rfl⟩ ((Ent.vec_nil 3 1 _).trans (by (exact Ent.auto)))
    | some s =>
      have hWt := fun (m' I' : PH) (hle : PH.le I I') (hm : PH.le m' I') (hv' : Stars [iR Ab cb (bestL vs.length (some s))] m') => Weight_spec Aw Ab cw cb w (bitsL s vs.length) I' (hW.mono hle) (by
        obtain ⟨q0, z0, y0⟩ := Stars.get 0 hv' rfl
        exact Vec.sliceOf (z0.trans hm) y0) hWok (fun x hx => by have := bitsL_in x hx; omega) (by have := bitsL_len s vs.length; omega)
      repeat' first
        | ((with_reducible refine Nx.is_wp ?_); first | refine Nx.wo ?_ | refine Nx.zp (fun hc => ?_) (fun hc => ?_))
        | (refine Nx.zo ?_; first | refine Nx.opr rfl rfl ?_ | refine Nx.bin rfl rfl (run_shlK (.inl rfl) rfl hd6 hpr) rfl ?_ | (refine Nx.call rfl rfl rfl (by kernel_rfl) rfl (FnSpec.keep [iR Ab cb (bestL vs.length (some s))] fun m' I' hle hm' hv => hWt m' I' hle hm' hv) (by (exact Ent.auto)) ?_; rintro _ _ ⟨_, ⟨rfl, rfl⟩, rfl⟩) | refine Nx.so ?_ | refine Nx.sb (fun bx => ?_) | refine Nx.sa (fun A2 c2 => ?_))
        | ((with_reducible refine Nx.is_at ?_); first | refine Nx.a ?_ | refine Nx.zd ?_ | refine Nx.zs (fun hc => ?_) (fun hc => ?_))
        | ((with_reducible refine Nx.is_mix ?_); first | refine Nx.m ?_ | refine Nx.zm ?_ | refine Nx.zt (fun hc => ?_) (fun hc => ?_))
        | refine Nx.zx ?_ | fail
      exact Nx.ret_fn rfl [_] ⟨some s, Ab, cb, fun _ => hil, by rw [lstR_some, h1]; rfl, rfl⟩ (by rw [lstR_some, h1]; (exact Ent.auto))
  have hSet := Set_spec k vs.length (by omega) hd6 I
  have hPs := fun (B : Option Addr) (cb : Nat) (m' I' : PH) (hle : PH.le I I') (hm : PH.le m' I') (hv' : Stars [iR B cb (bitsL k vs.length)] m') => hPr B cb (bitsL k vs.length) I' hle (by
    obtain ⟨q0, z0, y0⟩ := Stars.get 0 hv' rfl
    exact Vec.sliceOf (z0.trans hm) y0)
  have hpbs : pb k = ((protF l es ⟨num, va, vc, v, (D, cd, vs)⟩ (bitsL k vs.length) prot m).1 && decide ((protF l es ⟨num, va, vc, v, (D, cd, vs)⟩ (bitsL k vs.length) prot m).2 = 0)) := by rw [hpb, ← h1]; rfl
  generalize protF l es ⟨num, va, vc, v, (D, cd, vs)⟩ (bitsL k vs.length) prot m = fp at hPs hpbs
  obtain ⟨ok, e⟩ := fp
  dsimp only at hPs hpbs
  cases best with
  | none =>
    by_cases hok : ok = true ∧ e = 0
    · obtain ⟨rfl, rfl⟩ := hok
      have hn := leastK_take hK hpbs (fun s h => by cases h)
      repeat' first
        | ((with_reducible refine Nx.is_wp ?_); first | refine Nx.wo ?_ | refine Nx.zp (fun hc => ?_) (fun hc => ?_))
        | (refine Nx.zo ?_; first | refine Nx.opr rfl rfl ?_ | refine Nx.bin rfl rfl (run_shlK (.inl rfl) rfl hd6 hpr) rfl ?_ | (refine Nx.call (Rpre := []) rfl rfl rfl (by kernel_rfl) rfl hSet (Ent.refl _) ?_; rintro _ _ ⟨A2, c2, rfl, rfl⟩) | (refine Nx.call rfl rfl rfl (by kernel_rfl) rfl (FnSpec.keep [iR _ _ (bitsL k vs.length)] fun m' I' hle hm' hv => hPs _ _ m' I' hle hm' hv) (by (exact Ent.auto)) ?_; rintro _ _ ⟨_, ⟨rfl, rfl⟩, rfl⟩) | refine Nx.so ?_ | refine Nx.sb (fun bx => ?_) | refine Nx.sa (fun A2 c2 => ?_))
        | ((with_reducible refine Nx.is_at ?_); first | refine Nx.a ?_ | refine Nx.zd ?_ | refine Nx.zs (fun hc => ?_) (fun hc => ?_))
        | ((with_reducible refine Nx.is_mix ?_); first | refine Nx.m ?_ | refine Nx.zm ?_ | refine Nx.zt (fun hc => ?_) (fun hc => ?_))
        | refine Nx.zx ?_ | fail
      exact Nx.again (k + 1, some k, A2, c2) ⟨hkp, hn⟩ (by dsimp only; omega) ⟨rfl, rfl, rfl, rfl, rfl, rfl, rfl, rfl, rfl, trivial⟩ (by (exact Ent.auto))
    have hn := leastK_skip hK (by
      rw [hpbs]
      cases ok with
      | false => rfl
      | true => rw [Bool.true_and]; exact decide_eq_false fun h => hok ⟨rfl, h⟩)
    cases ok with
    | false =>
      repeat' first
        | ((with_reducible refine Nx.is_wp ?_); first | refine Nx.wo ?_ | refine Nx.zp (fun hc => ?_) (fun hc => ?_))
        | (refine Nx.zo ?_; first | refine Nx.opr rfl rfl ?_ | refine Nx.bin rfl rfl (run_shlK (.inl rfl) rfl hd6 hpr) rfl ?_ | (refine Nx.call (Rpre := []) rfl rfl rfl (by kernel_rfl) rfl hSet (Ent.refl _) ?_; rintro _ _ ⟨A2, c2, rfl, rfl⟩) | (refine Nx.call rfl rfl rfl (by kernel_rfl) rfl (FnSpec.keep [iR _ _ (bitsL k vs.length)] fun m' I' hle hm' hv => hPs _ _ m' I' hle hm' hv) (by (exact Ent.auto)) ?_; rintro _ _ ⟨_, ⟨rfl, rfl⟩, rfl⟩) | refine Nx.so ?_ | refine Nx.sb (fun bx => ?_) | refine Nx.sa (fun A2 c2 => ?_))
        | ((with_reducible refine Nx.is_at ?_); first | refine Nx.a ?_ | refine Nx.zd ?_ | refine Nx.zs (fun hc => ?_) (fun hc => ?_))
        | ((with_reducible refine Nx.is_mix ?_); first | refine Nx.m ?_ | refine Nx.zm ?_ | refine Nx.zt (fun hc => ?_) (fun hc => ?_))
        | refine Nx.zx ?_ | fail
      exact Nx.again (k + 1, none, Ab, cb) ⟨hkp, hn⟩ (by dsimp only; omega) ⟨rfl, rfl, rfl, rfl, rfl, rfl, rfl, rfl, rfl, trivial⟩ (by (exact Ent.auto))
    | true =>
      have he0 : e ≠ 0 := fun h => hok ⟨rfl, h⟩
      repeat' first
        | ((with_reducible refine Nx.is_wp ?_); first | refine Nx.wo ?_ | refine Nx.zp (fun hc => ?_) (fun hc => ?_))
        | (refine Nx.zo ?_; first | refine Nx.opr rfl rfl ?_ | refine Nx.bin rfl rfl (run_shlK (.inl rfl) rfl hd6 hpr) rfl ?_ | (refine Nx.call (Rpre := []) rfl rfl rfl (by kernel_rfl) rfl hSet (Ent.refl _) ?_; rintro _ _ ⟨A2, c2, rfl, rfl⟩) | (refine Nx.call rfl rfl rfl (by kernel_rfl) rfl (FnSpec.keep [iR _ _ (bitsL k vs.length)] fun m' I' hle hm' hv => hPs _ _ m' I' hle hm' hv) (by (exact Ent.auto)) ?_; rintro _ _ ⟨_, ⟨rfl, rfl⟩, rfl⟩) | refine Nx.so ?_ | refine Nx.sb (fun bx => ?_) | refine Nx.sa (fun A2 c2 => ?_))
        | ((with_reducible refine Nx.is_at ?_); first | refine Nx.a ?_ | refine Nx.zd ?_ | refine Nx.zs (fun hc => ?_) (fun hc => ?_))
        | ((with_reducible refine Nx.is_mix ?_); first | refine Nx.m ?_ | refine Nx.zm ?_ | refine Nx.zt (fun hc => ?_) (fun hc => ?_))
        | refine Nx.zx ?_ | fail
      exact Nx.again (k + 1, none, Ab, cb) ⟨hkp, hn⟩ (by dsimp only; omega) ⟨rfl, rfl, rfl, rfl, rfl, rfl, rfl, rfl, rfl, trivial⟩ (by (exact Ent.auto))
  | some s =>
    have hLs := fun (A2 : Option Addr) (c2 : Nat) (m' I' : PH) (hle : PH.le I I') (hm : PH.le m' I') (hv' : Stars [iR A2 c2 (bitsL k vs.length), iR Ab cb (bestL vs.length (some s))] m') => Less_spec Aw A2 Ab cw c2 cb w (bitsL k vs.length) (bitsL s vs.length) I' (hW.mono hle) (by
      obtain ⟨q0, z0, y0⟩ := Stars.get 0 hv' rfl
      exact Vec.sliceOf (z0.trans hm) y0) (by
      obtain ⟨q0, z0, y0⟩ := Stars.get 1 hv' rfl
      exact Vec.sliceOf (z0.trans hm) y0) hWok (fun x hx => by have := bitsL_in x hx; omega) (fun x hx => by have := bitsL_in x hx; omega) (by have := bitsL_len k vs.length; omega) (by have := bitsL_len s vs.length; omega)
    rw [show cfL w (bitsL k vs.length) (bitsL s vs.length) = cfN w w.length k s by rw [h1]; rfl] at hLs
    by_cases hcf : cfN w w.length k s < 0
    · rw [decide_eq_true hcf] at hLs
      by_cases hok : ok = true ∧ e = 0
      · obtain ⟨rfl, rfl⟩ := hok
        have hn := leastK_take hK hpbs (fun s2 h => by cases h; exact hcf)
        repeat' first
          | ((with_reducible refine Nx.is_wp ?_); first | refine Nx.wo ?_ | refine Nx.zp (fun hc => ?_) (fun hc => ?_))
          | (refine Nx.zo ?_; first | refine Nx.opr rfl rfl ?_ | refine Nx.bin rfl rfl (run_shlK (.inl rfl) rfl hd6 hpr) rfl ?_ | (refine Nx.call (Rpre := []) rfl rfl rfl (by kernel_rfl) rfl hSet (Ent.refl _) ?_; rintro _ _ ⟨A2, c2, rfl, rfl⟩) | (refine Nx.call rfl rfl rfl (by kernel_rfl) rfl (FnSpec.keep [iR _ _ (bitsL k vs.length), iR Ab cb (bestL vs.length (some s))] fun m' I' hle hm' hv => hLs _ _ m' I' hle hm' hv) (by (exact Ent.auto)) ?_; rintro _ _ ⟨_, ⟨rfl, rfl⟩, rfl⟩) | (refine Nx.call rfl rfl rfl (by kernel_rfl) rfl (FnSpec.keep [iR _ _ (bitsL k vs.length)] fun m' I' hle hm' hv => hPs _ _ m' I' hle hm' hv) (by (exact Ent.auto)) ?_; rintro _ _ ⟨_, ⟨rfl, rfl⟩, rfl⟩) | refine Nx.so ?_ | refine Nx.sb (fun bx => ?_) | refine Nx.sa (fun A2 c2 => ?_))
          | ((with_reducible refine Nx.is_at ?_); first | refine Nx.a ?_ | refine Nx.zd ?_ | refine Nx.zs (fun hc => ?_) (fun hc => ?_))
          | ((with_reducible refine Nx.is_mix ?_); first | refine Nx.m ?_ | refine Nx.zm ?_ | refine Nx.zt (fun hc => ?_) (fun hc => ?_))
          | refine Nx.zx ?_ | fail
        exact Nx.again (k + 1, some k, A2, c2) ⟨hkp, hn⟩ (by dsimp only; omega) ⟨rfl, rfl, rfl, rfl, rfl, rfl, rfl, rfl, rfl, trivial⟩ (by (exact Ent.auto))
      have hn := leastK_skip hK (by
        rw [hpbs]
        cases ok with
        | false => rfl
        | true => rw [Bool.true_and]; exact decide_eq_false fun h => hok ⟨rfl, h⟩)
      cases ok with
      | false =>
        repeat' first
          | ((with_reducible refine Nx.is_wp ?_); first | refine Nx.wo ?_ | refine Nx.zp (fun hc => ?_) (fun hc => ?_))
          | (refine Nx.zo ?_; first | refine Nx.opr rfl rfl ?_ | refine Nx.bin rfl rfl (run_shlK (.inl rfl) rfl hd6 hpr) rfl ?_ | (refine Nx.call (Rpre := []) rfl rfl rfl (by kernel_rfl) rfl hSet (Ent.refl _) ?_; rintro _ _ ⟨A2, c2, rfl, rfl⟩) | (refine Nx.call rfl rfl rfl (by kernel_rfl) rfl (FnSpec.keep [iR _ _ (bitsL k vs.length), iR Ab cb (bestL vs.length (some s))] fun m' I' hle hm' hv => hLs _ _ m' I' hle hm' hv) (by (exact Ent.auto)) ?_; rintro _ _ ⟨_, ⟨rfl, rfl⟩, rfl⟩) | (refine Nx.call rfl rfl rfl (by kernel_rfl) rfl (FnSpec.keep [iR _ _ (bitsL k vs.length)] fun m' I' hle hm' hv => hPs _ _ m' I' hle hm' hv) (by (exact Ent.auto)) ?_; rintro _ _ ⟨_, ⟨rfl, rfl⟩, rfl⟩) | refine Nx.so ?_ | refine Nx.sb (fun bx => ?_) | refine Nx.sa (fun A2 c2 => ?_))
          | ((with_reducible refine Nx.is_at ?_); first | refine Nx.a ?_ | refine Nx.zd ?_ | refine Nx.zs (fun hc => ?_) (fun hc => ?_))
          | ((with_reducible refine Nx.is_mix ?_); first | refine Nx.m ?_ | refine Nx.zm ?_ | refine Nx.zt (fun hc => ?_) (fun hc => ?_))
          | refine Nx.zx ?_ | fail
        exact Nx.again (k + 1, some s, Ab, cb) ⟨hkp, hn⟩ (by dsimp only; omega) ⟨rfl, rfl, rfl, rfl, rfl, rfl, rfl, rfl, rfl, trivial⟩ (by (exact Ent.auto))
      | true =>
        have he0 : e ≠ 0 := fun h => hok ⟨rfl, h⟩
        repeat' first
          | ((with_reducible refine Nx.is_wp ?_); first | refine Nx.wo ?_ | refine Nx.zp (fun hc => ?_) (fun hc => ?_))
          | (refine Nx.zo ?_; first | refine Nx.opr rfl rfl ?_ | refine Nx.bin rfl rfl (run_shlK (.inl rfl) rfl hd6 hpr) rfl ?_ | (refine Nx.call (Rpre := []) rfl rfl rfl (by kernel_rfl) rfl hSet (Ent.refl _) ?_; rintro _ _ ⟨A2, c2, rfl, rfl⟩) | (refine Nx.call rfl rfl rfl (by kernel_rfl) rfl (FnSpec.keep [iR _ _ (bitsL k vs.length), iR Ab cb (bestL vs.length (some s))] fun m' I' hle hm' hv => hLs _ _ m' I' hle hm' hv) (by (exact Ent.auto)) ?_; rintro _ _ ⟨_, ⟨rfl, rfl⟩, rfl⟩) | (refine Nx.call rfl rfl rfl (by kernel_rfl) rfl (FnSpec.keep [iR _ _ (bitsL k vs.length)] fun m' I' hle hm' hv => hPs _ _ m' I' hle hm' hv) (by (exact Ent.auto)) ?_; rintro _ _ ⟨_, ⟨rfl, rfl⟩, rfl⟩) | refine Nx.so ?_ | refine Nx.sb (fun bx => ?_) | refine Nx.sa (fun A2 c2 => ?_))
          | ((with_reducible refine Nx.is_at ?_); first | refine Nx.a ?_ | refine Nx.zd ?_ | refine Nx.zs (fun hc => ?_) (fun hc => ?_))
          | ((with_reducible refine Nx.is_mix ?_); first | refine Nx.m ?_ | refine Nx.zm ?_ | refine Nx.zt (fun hc => ?_) (fun hc => ?_))
          | refine Nx.zx ?_ | fail
        exact Nx.again (k + 1, some s, Ab, cb) ⟨hkp, hn⟩ (by dsimp only; omega) ⟨rfl, rfl, rfl, rfl, rfl, rfl, rfl, rfl, rfl, trivial⟩ (by (exact Ent.auto))
    · rw [decide_eq_false hcf] at hLs
      have hn := leastK_keep hK hcf
      repeat' first
        | ((with_reducible refine Nx.is_wp ?_); first | refine Nx.wo ?_ | refine Nx.zp (fun hc => ?_) (fun hc => ?_))
        | (refine Nx.zo ?_; first | refine Nx.opr rfl rfl ?_ | refine Nx.bin rfl rfl (run_shlK (.inl rfl) rfl hd6 hpr) rfl ?_ | (refine Nx.call (Rpre := []) rfl rfl rfl (by kernel_rfl) rfl hSet (Ent.refl _) ?_; rintro _ _ ⟨A2, c2, rfl, rfl⟩) | (refine Nx.call rfl rfl rfl (by kernel_rfl) rfl (FnSpec.keep [iR _ _ (bitsL k vs.length), iR Ab cb (bestL vs.length (some s))] fun m' I' hle hm' hv => hLs _ _ m' I' hle hm' hv) (by (exact Ent.auto)) ?_; rintro _ _ ⟨_, ⟨rfl, rfl⟩, rfl⟩) | refine Nx.so ?_ | refine Nx.sb (fun bx => ?_) | refine Nx.sa (fun A2 c2 => ?_))
        | ((with_reducible refine Nx.is_at ?_); first | refine Nx.a ?_ | refine Nx.zd ?_ | refine Nx.zs (fun hc => ?_) (fun hc => ?_))
        | ((with_reducible refine Nx.is_mix ?_); first | refine Nx.m ?_ | refine Nx.zm ?_ | refine Nx.zt (fun hc => ?_) (fun hc => ?_))
        | refine Nx.zx ?_ | fail
      exact Nx.again (k + 1, some s, Ab, cb) ⟨hkp, hn⟩ (by dsimp only; omega) ⟨rfl, rfl, rfl, rfl, rfl, rfl, rfl, rfl, rfl, trivial⟩ (by (exact Ent.auto))
end Go.Proofs.YtcmdemfhbekabaaGreat
/- Contracts of functions of the given program, and lemmas about plain lists and numbers: what the laws of this seat lean on. -/
namespace Go.Proofs.YtcmdemfhbekabaaGreat
open Go.Eng Go.Sol
attribute [local irreducible] opK wpList Code.wp Exit.then Exit.inBlock fnPost bodyPost Nx Calls Oper.wp Rd Rds Wr Ent Stars Blk Again Vec FnSpec wpMix QRun Stop Upto wpAt
/-! Releases that say the same -/
set_option maxHeartbeats 8000000 in
set_option maxRecDepth 10000 in
theorem SameG_spec (B D : Option Addr) (cu cv : Nat) (u v : List Row) (I : PH) (hu : RowsOf I B cu u) (hv : RowsOf I D cv v) (hl : u.length = v.length) (he : ∀ i, i < u.length → (u.getD i default).2.2 = (v.getD i default).2.2) :
    FnSpec Tryz.prog 97 [.agg #[.slice B u.length cu], .agg #[.slice D v.length cv]] I [] (fun r R' => r = .bool true ∧ R' = []) := by
  have hul := hu.outer.len
  refine FnSpec.enterP Tryz.func97 rfl Tryz.ntmps97 rfl fun w F => ?_
  repeat' first
    | ((with_reducible refine Nx.is_wp ?_); first | refine Nx.wo ?_ | refine Nx.zp (fun hc => ?_) (fun hc => ?_))
    | (refine Nx.zo ?_; first | refine Nx.opr rfl rfl ?_ | refine Nx.so ?_ | refine Nx.sb (fun bx => ?_) | refine Nx.sa (fun A2 c2 => ?_))
    | ((with_reducible refine Nx.is_at ?_); first | refine Nx.a ?_ | refine Nx.zd ?_ | refine Nx.zs (fun hc => ?_) (fun hc => ?_))
    | ((with_reducible refine Nx.is_mix ?_); first | refine Nx.m ?_ | refine Nx.zm ?_ | refine Nx.zt (fun hc => ?_) (fun hc => ?_))
    | refine Nx.zx ?_ | fail
  rename_i b2
  revert bx; intro b3
  refine Nx.p_loop (σ := Nat) (fun i => [(2, .pointer (some ⟨b2, 0, none⟩)), (3, .pointer (some ⟨b3, 0, none⟩)), (15, .int .i64 u.length), (16, .int .i64 (i : Int))])
    (fun _ => [Blk b2 60 [.slice B u.length cu], Blk b3 60 [.slice D v.length cv], F]) (fun i => i ≤ u.length) (fun i => u.length - i) 0 rfl (Nat.zero_le _) ⟨rfl, rfl, rfl, rfl, trivial⟩ (by (exact Ent.auto)) ?_
  intro i hi
  by_cases hlt : i < u.length
  · have he := he i hlt
    have hIn := Ints_spec _ _ _ _ _ _ _ (hu.at (k := i) (by omega)) (hv.at (k := i) (by omega))
    rw [decide_eq_true he] at hIn
    repeat' first
      | ((with_reducible refine Nx.is_wp ?_); first | refine Nx.wo ?_ | refine Nx.p_draw (id := 6) rfl [0, 1, 2, 3, 4, 5, 6, 7, 8, 9, 10, 11] [10] _ rfl rfl (by kernel_rfl) (by kernel_rfl) rfl (by repeat first | exact PanicOk.fn | refine PanicOk.then_ ?_ | refine PanicOk.inB ?_) (Ent.refl _) ?_ | refine Nx.zp (fun hc => ?_) (fun hc => ?_))
      | (refine Nx.zo ?_; first | refine Nx.opr rfl rfl ?_ | refine Nx.callv rfl rfl rfl (by kernel_rfl) rfl hIn ?_ | refine Nx.so ?_ | refine Nx.sb (fun bx => ?_) | refine Nx.sa (fun A2 c2 => ?_))
      | ((with_reducible refine Nx.is_at ?_); first | refine Nx.a ?_ | refine Nx.zd ?_ | refine Nx.zs (fun hc => ?_) (fun hc => ?_))
      | ((with_reducible refine Nx.is_mix ?_); first | refine Nx.m_quiet rfl rfl rfl rfl rfl (by first | exact QRun.opr rfl | exact QRun.idx rfl rfl rfl rfl (by omega) (hu.outer.isSome (by omega)) | exact QRun.load rfl rfl (hu.outer.rd (by omega)) | exact QRun.idx rfl rfl rfl rfl (by omega) (hv.outer.isSome (by omega)) | exact QRun.load rfl rfl (hv.outer.rd (by omega))) ?_ | refine Nx.m_quiet_do rfl rfl rfl rfl rfl rfl rfl (by first | exact QRun.opr rfl | exact QRun.idx rfl rfl rfl rfl (by omega) (hu.outer.isSome (by omega)) | exact QRun.load rfl rfl (hu.outer.rd (by omega)) | exact QRun.idx rfl rfl rfl rfl (by omega) (hv.outer.isSome (by omega)) | exact QRun.load rfl rfl (hv.outer.rd (by omega))) ?_ | refine Nx.m ?_ | refine Nx.zm ?_ | refine Nx.zt (fun hc => ?_) (fun hc => ?_))
      | refine Nx.zx ?_ | fail
    exact Nx.again (i + 1) hlt (by omega) ⟨rfl, rfl, rfl, rfl, trivial⟩ (by (exact Ent.auto))
  · repeat' first
      | ((with_reducible refine Nx.is_wp ?_); first | refine Nx.wo ?_ | refine Nx.zp (fun hc => ?_) (fun hc => ?_))
      | (refine Nx.zo ?_; first | refine Nx.opr rfl rfl ?_ | refine Nx.so ?_ | refine Nx.sb (fun bx => ?_) | refine Nx.sa (fun A2 c2 => ?_))
      | ((with_reducible refine Nx.is_at ?_); first | refine Nx.a ?_ | refine Nx.zd ?_ | refine Nx.zs (fun hc => ?_) (fun hc => ?_))
      | ((with_reducible refine Nx.is_mix ?_); first | refine Nx.m ?_ | refine Nx.zm ?_ | refine Nx.zt (fun hc => ?_) (fun hc => ?_))
      | refine Nx.zx ?_ | fail
    exact Nx.ret_fn rfl [] ⟨rfl, rfl⟩ (by (exact Ent.auto))
set_option maxRecDepth 10000 in
set_option maxHeartbeats 4000000 in
theorem Releases_spec (a b : Rel) (I : PH) (hav : RowsOf I a.va a.vc a.v) (had : Ints I a.val.1 a.val.2.1 a.val.2.2) (hbv : RowsOf I b.va b.vc b.v) (hbd : Ints I b.val.1 b.val.2.1 b.val.2.2) (hn : a.num = b.num) (hs : vStrip a.v = vStrip b.v) (hd : a.val.2.2 = b.val.2.2) :
    FnSpec Tryz.prog 51 [.agg (relC a).toArray, .agg (relC b).toArray] I [] (fun r R' => r = .bool true ∧ R' = []) := by
  have hSm := SameG_spec a.va b.va a.vc b.vc a.v b.v I hav hbv (by rw [← vStrip_len a.v, hs, vStrip_len]) (fun i _ => by rw [← vStrip_at a.v i, hs, vStrip_at])
  have hIn := Ints_spec a.val.1 b.val.1 a.val.2.1 b.val.2.1 a.val.2.2 b.val.2.2 I had hbd
  rw [decide_eq_true hd] at hIn
  obtain ⟨n1, va1, vc1, v1, D1, cd1, x1⟩ := a
  obtain ⟨n2, va2, vc2, v2, D2, cd2, x2⟩ := b
  dsimp only at hn hSm hIn
  subst hn
  change FnSpec Tryz.prog 51 [.agg #[.int .i64 n1, .slice va1 v1.length vc1, .slice D1 x1.length cd1], .agg #[.int .i64 n1, .slice va2 v2.length vc2, .slice D2 x2.length cd2]] I [] (fun r R' => r = .bool true ∧ R' = [])
  refine FnSpec.enterP Tryz.func51 rfl Tryz.ntmps51 rfl fun w F => ?_
  repeat' first
    | ((with_reducible refine Nx.is_wp ?_); first | refine Nx.wo ?_ | refine Nx.zp (fun hc => ?_) (fun hc => ?_))
    | (refine Nx.zo ?_; first | refine Nx.opr rfl rfl ?_ | refine Nx.loads rfl rfl rfl rfl (Rds.cut 0 1 rfl rfl) rfl ?_ | refine Nx.loads rfl rfl rfl rfl (Rds.cut 1 1 rfl rfl) rfl ?_ | refine Nx.callv rfl rfl rfl (by kernel_rfl) rfl hSm ?_ | refine Nx.callv rfl rfl rfl (by kernel_rfl) rfl hIn ?_ | refine Nx.so ?_ | refine Nx.sb (fun bx => ?_) | refine Nx.sa (fun A2 c2 => ?_))
    | ((with_reducible refine Nx.is_at ?_); first | refine Nx.a ?_ | refine Nx.zd ?_ | refine Nx.zs (fun hc => ?_) (fun hc => ?_))
    | ((with_reducible refine Nx.is_mix ?_); first | refine Nx.m ?_ | refine Nx.zm ?_ | refine Nx.zt (fun hc => ?_) (fun hc => ?_))
    | refine Nx.zx ?_ | fail
  exact Nx.ret_fn rfl [] ⟨rfl, rfl⟩ (by (exact Ent.auto))
end Go.Proofs.YtcmdemfhbekabaaGreat
/- Contracts of functions of the given program, and lemmas about plain lists and numbers: what the laws of this seat lean on. -/
namespace Go.Proofs.YtcmdemfhbekabaaGreat
open Go.Eng Go.Sol
attribute [local irreducible] opK wpList Code.wp Exit.then Exit.inBlock fnPost bodyPost Nx Calls Oper.wp Rd Rds Wr Ent Stars Blk Again Vec FnSpec wpMix QRun Stop Upto wpAt
/-! The law of answers: the loops over margins, lists and cells -/
theorem tmod_modI (k : Int) {n : Int} (hn : 0 < n) : (k.tmod n < 0 → k.tmod n + n = k % n) ∧ (¬ k.tmod n < 0 → k.tmod n = k % n) := by
  have h1 := Int.mul_tdiv_add_tmod k n
  have h2 : (k.tmod n).natAbs < n.natAbs := by rw [Int.natAbs_tmod]; exact Nat.mod_lt _ (by omega)
  refine ⟨fun h => ?_, fun h => ?_⟩
  · refine ((Int.ediv_emod_unique hn).2 ⟨?_, ?_, ?_⟩ : k / n = k.tdiv n - 1 ∧ k % n = k.tmod n + n).2.symm
    · rw [Int.mul_sub]; omega
    · omega
    · omega
  · refine ((Int.ediv_emod_unique hn).2 ⟨?_, ?_, ?_⟩ : k / n = k.tdiv n ∧ k % n = k.tmod n).2.symm
    · omega
    · omega
    · omega
set_option maxHeartbeats 8000000 in
set_option maxRecDepth 10000 in
theorem ModI_spec (k n : Int) (_ : I64 k) (hn : 1 ≤ n ∧ n ≤ 1000000) (I : PH) : FnSpec Tryz.prog 27 [.int .i64 k, .int .i64 n] I [] (fun v R' => v = .int .i64 (k % n) ∧ R' = []) := by
  obtain ⟨e1, e2⟩ := tmod_modI k (by omega : 0 < n)
  have hb : (k.tmod n).natAbs < n.natAbs := by rw [Int.natAbs_tmod]; exact Nat.mod_lt _ (by omega)
  refine FnSpec.enterP Tryz.func27 rfl Tryz.ntmps27 rfl fun w F => ?_
  repeat' first
    | ((with_reducible refine Nx.is_wp ?_); first | refine Nx.wo ?_ | refine Nx.zp (fun hc => ?_) (fun hc => ?_))
    | (refine Nx.zo ?_; first | refine Nx.opr rfl rfl ?_ | refine Nx.bin rfl rfl (run_remT (by omega)) rfl ?_ | refine Nx.so ?_ | refine Nx.sb (fun bx => ?_) | refine Nx.sa (fun A2 c2 => ?_))
    | ((with_reducible refine Nx.is_at ?_); first | refine Nx.a ?_ | refine Nx.zd ?_ | refine Nx.zs (fun hc => ?_) (fun hc => ?_))
    | ((with_reducible refine Nx.is_mix ?_); first | refine Nx.m ?_ | refine Nx.zm ?_ | refine Nx.zt (fun hc => ?_) (fun hc => ?_))
    | refine Nx.zx ?_ | fail
  all_goals first
    | exact Nx.ret_fn rfl [] ⟨by rw [e1 (by assumption)], rfl⟩ (Ent.refl _)
    | exact Nx.ret_fn rfl [] ⟨by rw [e2 (by assumption)], rfl⟩ (Ent.refl _)
theorem memRw {X : List Row} {k : Nat} (h : k < X.length) : X.getD k default ∈ X := by
  rw [List.getD_eq_getElem?_getD, List.getElem?_eq_getElem h]; exact List.getElem_mem _
end Go.Proofs.YtcmdemfhbekabaaGreat
/- Contracts of functions of the given program, and lemmas about plain lists and numbers: what the laws of this seat lean on. -/
namespace Go.Proofs.YtcmdemfhbekabaaGreat
open Go.Eng Go.Sol
attribute [local irreducible] opK wpList Code.wp Exit.then Exit.inBlock fnPost bodyPost Nx Calls Oper.wp Rd Rds Wr Ent Stars Blk Again Vec FnSpec wpMix QRun Stop Upto wpAt
/-! The law of answers on suppression: both sides compared -/
theorem lq_unique {l : List Int} {es : List Rel} {r : Rel} {w p : List Int} {m : Int} {x y : List Int × Int × Int} (hx : LQ l es r w p m x) (hy : LQ l es r w p m y) : x = y := by
  obtain ⟨a, h1, rfl⟩ := hx
  obtain ⟨b, h2, rfl⟩ := hy
  by_cases h0 : lstE l es r w p m = 0
  case neg => unfold lstR; rw [if_pos h0, if_pos h0]
  have h1 := h1 h0
  have h2 := h2 h0
  rw [h0]
  cases a with
  | none =>
    cases b with
    | none => rfl
    | some t => have := h1 t h2.1; rw [h2.2.1] at this; cases this
  | some s =>
    cases b with
    | none => have := h2 s h1.1; rw [h1.2.1] at this; cases this
    | some t =>
      have g1 := h1.2.2 t h2.1 h2.2.1
      have g2 := h2.2.2 s h1.1 h1.2.1
      have g3 := (cfN_le w w.length).anti s t
      have g4 : cfN w w.length s t = 0 := by omega
      have g5 : bitsL s w.length = bitsL t w.length := by
        unfold cfN orC at g4
        dsimp only at g4
        split at g4
        · exact absurd g4 (by assumption)
        · split at g4
          · exact absurd g4 (by assumption)
          · exact cmpL_zero g4
      rw [lstR_some, lstR_some, g5]
structure GivenA (I : PH) (B As Aw Bp Ao : Option Addr) (c' ca cw cp co : Nat) (s : List Int) (es : List Rel) (r : Rel) (w p odd : List Int) : Prop where
  z : Ints I B c' s
  es : Rels I As ca es
  v : RowsOf I r.va r.vc r.v
  d : Ints I r.val.1 r.val.2.1 r.val.2.2
  w : Ints I Aw cw w
  p : Ints I Bp cp p
  o : Ints I Ao co odd
theorem GivenA.mono {I I' : PH} {B As Aw Bp Ao : Option Addr} {c' ca cw cp co : Nat} {s : List Int} {es : List Rel} {r : Rel} {w p odd : List Int} (h : GivenA I B As Aw Bp Ao c' ca cw cp co s es r w p odd) (hle : PH.le I I') : GivenA I' B As Aw Bp Ao c' ca cw cp co s es r w p odd :=
  ⟨h.z.mono hle, h.es.mono hle, h.v.mono hle, h.d.mono hle, h.w.mono hle, h.p.mono hle, h.o.mono hle⟩
set_option maxRecDepth 10000 in
set_option maxHeartbeats 32000000 in
theorem ans_tail (w0 : World) (F : Res) (b12 b14 : Nat) (B As Aw Bp Ao : Option Addr) (c' ca cw cp co : Nat) (s : List Int) (es : List Rel) (r : Rel) (w p odd : List Int) (by' m : Int) (hby : I64 by') (I0 I1 : PH) (hle0 : PH.le I0 I1) (hG : GivenA I1 B As Aw Bp Ao c' ca cw cp co s es r w p odd)
    (hs : Sizes s) (hw : ∀ x ∈ es, Viewed s x.v) (hwr : Viewed s r.v) (h9 : es.length ≤ 1000) (h6 : r.val.2.2.length ≤ 6) (hp9 : p.length ≤ 1000) :
    Nx ⟨Tryz.prog, 201, w0⟩ [(1, .slice Ao odd.length co), (4, .int .i64 by'), (12, .pointer (some ⟨b12, 0, none⟩)), (13, .slice As es.length ca), (14, .pointer (some ⟨b14, 0, none⟩)), (15, .slice Aw w.length cw), (16, .slice Bp p.length cp), (17, .int .i64 m)] I1 [Blk b12 27 [.slice B s.length c'], Blk b14 62 [.int .i64 r.num, .slice r.va r.v.length r.vc, .slice r.val.1 r.val.2.2.length r.val.2.1], F]
      (Code.wp Tryz.prog (cr (cr (cr (cr (cr (cr (bodyOf Tryz.f8))))))) (fnPost Tryz.prog Tryz.f8 I0 F w0 (fun v R' => v = .bool true ∧ R' = []))) := by
  have hMd := ModI_spec by' 64 hby (by omega) I1
  have hb64 := Int.emod_nonneg by' (show (64 : Int) ≠ 0 by decide)
  have hb64' := Int.emod_lt_of_pos by' (show (0 : Int) < 64 by decide)
  generalize by' % 64 = z64 at hMd hb64 hb64'
  obtain ⟨zz, rfl⟩ : ∃ zz : Nat, z64 = zz := ⟨z64.toNat, by omega⟩
  have hSet := Set_spec zz r.val.2.2.length (by omega) h6 I1
  repeat' first
    | ((with_reducible refine Nx.is_wp ?_); first | refine Nx.wo ?_ | refine Nx.p_draw (id := 14) rfl [0, 1, 2, 3, 4, 5, 7, 6, 8, 9, 10, 11] [6, 8, 11] _ rfl rfl (by kernel_rfl) (by kernel_rfl) rfl (by repeat first | exact PanicOk.fn | refine PanicOk.then_ ?_ | refine PanicOk.inB ?_) (Ent.refl _) ?_ | refine Nx.p_draw (id := 21) rfl [0, 1, 3, 4, 5, 9, 2, 6, 7, 8] [2, 6, 7] _ rfl rfl (by kernel_rfl) (by kernel_rfl) rfl (by repeat first | exact PanicOk.fn | refine PanicOk.then_ ?_ | refine PanicOk.inB ?_) (Ent.refl _) ?_ | refine Nx.zp (fun hc => ?_) (fun hc => ?_))
    | (refine Nx.zo ?_; first | refine Nx.opr rfl rfl ?_ | refine Nx.callv rfl rfl rfl (by kernel_rfl) rfl hMd ?_ | (refine Nx.call (Rpre := []) rfl rfl rfl (by kernel_rfl) rfl hSet (Ent.refl _) ?_; rintro _ _ ⟨A2, c2, rfl, rfl⟩) | refine Nx.so ?_ | refine Nx.sb (fun bx => ?_) | refine Nx.sa (fun A2 c2 => ?_))
    | ((with_reducible refine Nx.is_at ?_); first | refine Nx.a ?_ | refine Nx.zd ?_ | refine Nx.zs (fun hc => ?_) (fun hc => ?_))
    | ((with_reducible refine Nx.is_mix ?_); first | refine Nx.m ?_ | refine Nx.zm ?_ | refine Nx.zt (fun hc => ?_) (fun hc => ?_))
    | refine Nx.zx ?_ | fail
  revert bx; intro b105
  generalize bitsL zz r.val.2.2.length = st
  refine Nx.ent (R' := [iR A2 c2 st, Blk b105 25 [.slice Ao odd.length co, .slice A2 st.length c2], Blk b12 27 [.slice B s.length c'], Blk b14 62 [.int .i64 r.num, .slice r.va r.v.length r.vc, .slice r.val.1 r.val.2.2.length r.val.2.1], F]) (by (exact Ent.auto)) ?_
  refine Nx.freezeAt 0 rfl fun I2 m2 hI2 hm2 h2 => ?_
  refine Nx.freezeAt 0 rfl fun I3 m3 hI3 hm3 h3 => ?_
  have hst : Ints I3 A2 c2 st := SliceOf.mono hI3 (Vec.sliceOf hm2 h2)
  have hle3 := hle0.trans (hI2.trans hI3)
  replace hG := hG.mono (hI2.trans hI3)
  have hps : SliceOf rowV I3 (some ⟨b105, 0, none⟩) 2 [(Ao, co, odd), (A2, c2, st)] := Blk.sliceOf (t := 25) (l := [((Ao, co, odd) : Row), (A2, c2, st)]) hm3 h3 (by unfold maxLen; simp)
  have hpx : ∀ x ∈ ([(Ao, co, odd), (A2, c2, st)] : List Row), Ints I3 x.1 x.2.1 x.2.2 := fun x hx => by
    simp only [List.mem_cons, List.not_mem_nil, or_false] at hx
    rcases hx with rfl | rfl
    · exact hG.o
    · exact hst
  have hpsl : ([(Ao, co, odd), (A2, c2, st)] : List Row).length = 2 := rfl
  generalize ([(Ao, co, odd), (A2, c2, st)] : List Row) = ps at hps hpx hpsl
  have hv4 := (hwr.szsOk hs).1
  have hrow : ∀ x ∈ r.v, x.2.2.length ≤ 1000 := fun x hx => by
    obtain ⟨k, hk, rfl⟩ := List.mem_iff_getElem.1 hx
    have h1 := (hwr.each k (by rw [← hwr.len]; exact hk)).1
    have h2 := hs.at (k := k) (by rw [← hwr.len]; exact hk)
    rw [List.getD_eq_getElem?_getD, List.getElem?_eq_getElem hk, Option.getD_some] at h1
    omega
  refine Nx.p_loop (σ := Nat) (fun j => [(12, .pointer (some ⟨b12, 0, none⟩)), (13, .slice As es.length ca), (14, .pointer (some ⟨b14, 0, none⟩)), (15, .slice Aw w.length cw), (16, .slice Bp p.length cp), (17, .int .i64 m), (105, .slice (some ⟨b105, 0, none⟩) 2 2), (106, .int .i64 ((2 : Nat) : Int)), (107, .int .i64 (j : Int))])
    (fun _ => [Blk b12 27 [.slice B s.length c'], Blk b14 62 [.int .i64 r.num, .slice r.va r.v.length r.vc, .slice r.val.1 r.val.2.2.length r.val.2.1], F]) (fun j => j ≤ 2) (fun j => 2 - j) 0 rfl (Nat.zero_le _) ⟨rfl, rfl, rfl, rfl, rfl, rfl, rfl, rfl, rfl, trivial⟩ (by (exact Ent.auto)) ?_
  intro j hj
  have hj : j ≤ 2 := hj
  by_cases hj2 : j < 2
  · have hxi := hpx _ (memRw (show j < ps.length by omega))
    have hxr : ∀ (W : World) (R : List Res), Rd W I3 R ((ad (some (⟨b105, 0, none⟩ : Addr))).add (j * 1)) (rowV (ps.getD j default)) := fun W R => hps.rd (by omega)
    generalize ps.getD j default = xq at hxi hxr
    obtain ⟨Ax, cx, xs⟩ := xq
    dsimp only at hxi
    replace hxr : ∀ (W : World) (R : List Res), Rd W I3 R ((ad (some (⟨b105, 0, none⟩ : Addr))).add (j * 1)) (.slice Ax xs.length cx) := hxr
    have hH1 := HideP_spec Ax cx xs r I3 hG.v hG.d hxi (by omega) hrow (by omega)
    have hH2 := HideR_spec Ax cx xs r I3 hG.d hxi (by omega)
    have hP1 := Protects_spec B As Ax Bp c' ca cx cp s es r xs p m I3 hG.z hs hG.es hw h9 hG.v hG.d hwr (by omega) hxi hG.p (by omega)
    have hP2 := RProtects_spec B As Ax Bp c' ca cx cp s es r xs p m I3 hG.z hs hG.es hw h9 hG.v hG.d hwr (by omega) hxi hG.p
    unfold HidePost at hH1
    unfold HideRPost at hH2
    unfold rowV at hH1 hP1
    generalize protF s es r xs p m = fp at hP1 hP2
    obtain ⟨ok, e⟩ := fp
    generalize hideE r.val.2.2 xs = he at hH1 hH2
    dsimp only at hP1 hP2
    have hbb : (!(ok == ok)) = false := by cases ok <;> rfl
    repeat' first
      | ((with_reducible refine Nx.is_wp ?_); first | refine Nx.p_stopr 28 rfl ?_ | refine Nx.wo ?_ | refine Nx.zp (fun hc => ?_) (fun hc => ?_))
      | (refine Nx.zo ?_; first | refine Nx.opr rfl rfl ?_ | refine Nx.indexAddr_nat (A := some ⟨b105, 0, none⟩) (i := j) (sz := 1) rfl rfl rfl rfl rfl hj2 rfl ?_ | refine Nx.load rfl rfl rfl (hxr _ _) ?_ | (refine Nx.call (Rpre := []) rfl rfl rfl (by kernel_rfl) rfl hH1 (Ent.refl _) ?_; rintro _ _ ⟨r1, rfl, h1, h1', rfl⟩) | (refine Nx.call (Rpre := []) rfl rfl rfl (by kernel_rfl) rfl hH2 (Ent.refl _) ?_; rintro _ _ ⟨r2, rfl, h2, h2', rfl⟩) | refine Nx.callv rfl rfl rfl (by kernel_rfl) rfl hP1 ?_ | refine Nx.callv rfl rfl rfl (by kernel_rfl) rfl hP2 ?_ | refine Nx.so ?_ | refine Nx.sb (fun bx => ?_) | refine Nx.sa (fun A2 c2 => ?_))
      | ((with_reducible refine Nx.is_at ?_); first | refine Nx.a ?_ | refine Nx.zd ?_ | refine Nx.zs (fun hc => ?_) (fun hc => ?_))
      | ((with_reducible refine Nx.is_mix ?_); first | refine Nx.m ?_ | refine Nx.zm ?_ | refine Nx.zt (fun hc => ?_) (fun hc => ?_))
      | refine Nx.zx ?_ | fail
    refine Nx.unstop ?_
    rename_i b20
    revert bx; intro b22
    refine Nx.weak (e' := [(12, .pointer (some ⟨b12, 0, none⟩)), (13, .slice As es.length ca), (14, .pointer (some ⟨b14, 0, none⟩)), (15, .slice Aw w.length cw), (16, .slice Bp p.length cp), (17, .int .i64 m), (105, .slice (some ⟨b105, 0, none⟩) 2 2), (106, .int .i64 ((2 : Nat) : Int)), (107, .int .i64 (j : Int)), (20, .pointer (some ⟨b20, 0, none⟩)), (22, .pointer (some ⟨b22, 0, none⟩)), (21, .int .i64 he), (23, .int .i64 he), (24, .bool ok), (25, .int .i64 e), (26, .bool ok), (27, .int .i64 e)]) (R' := [relR r1, rowR r2.val, Blk b20 62 [.int .i64 r1.num, .slice r1.va r1.v.length r1.vc, rowV r1.val], Blk b22 62 [.int .i64 r2.num, .slice r2.va r2.v.length r2.vc, rowV r2.val], Blk b12 27 [.slice B s.length c'], Blk b14 62 [.int .i64 r.num, .slice r.va r.v.length r.vc, .slice r.val.1 r.val.2.2.length r.val.2.1], F]) ⟨rfl, rfl, rfl, rfl, rfl, rfl, rfl, rfl, rfl, rfl, rfl, rfl, rfl, rfl, rfl, rfl, rfl, trivial⟩ (by (exact Ent.auto)) ?_
    refine Nx.freezeAt 0 rfl fun I4 m4 hI4 hm4 h4 => ?_
    refine Nx.freezeAt 0 rfl fun I5 m5 hI5 hm5 h5 => ?_
    obtain ⟨u0, v0, w0'⟩ := Stars.get 0 h4 rfl
    obtain ⟨u1, v1, w1'⟩ := Stars.get 1 h4 rfl
    have hav : RowsOf I5 r1.va r1.vc r1.v := (ViewR.rows (v0.trans hm4) w0').mono hI5
    have had : Ints I5 r1.val.1 r1.val.2.1 r1.val.2.2 := SliceOf.mono hI5 (Vec.sliceOf (v1.trans hm4) w1')
    have hbd : Ints I5 r2.val.1 r2.val.2.1 r2.val.2.2 := Vec.sliceOf hm5 h5
    have hall : RowsOf I5 r2.va r2.vc r2.v ∧ r1.num = r2.num ∧ vStrip r1.v = vStrip r2.v ∧ r1.val.2.2 = r2.val.2.2 := by
      by_cases hz : he = 0
      · obtain ⟨a1, a2, a3⟩ := h1 hz
        obtain ⟨b1, b2, b3, b4, b5⟩ := h2 hz
        rw [b2, b3, b4, a1, b1, a2, a3, b5]
        exact ⟨hG.v.mono (hI4.trans hI5), rfl, rfl, rfl⟩
      · obtain rfl := h1' hz
        obtain rfl := h2' hz
        exact ⟨hav, rfl, rfl, rfl⟩
    have hRel : FnSpec Tryz.prog 51 [.agg #[.int .i64 r1.num, .slice r1.va r1.v.length r1.vc, rowV r1.val], .agg #[.int .i64 r2.num, .slice r2.va r2.v.length r2.vc, rowV r2.val]] I5 [] (fun r R' => r = .bool true ∧ R' = []) := Releases_spec r1 r2 I5 hav had hall.1 hbd hall.2.1 hall.2.2.1 hall.2.2.2
    clear hH1 hH2 hP1 hP2 h1 h2 h1' h2'
    repeat' first
      | ((with_reducible refine Nx.is_wp ?_); first | refine Nx.wo ?_ | refine Nx.zp (fun hc => ?_) (fun hc => ?_))
      | (refine Nx.zo ?_; first | (refine Nx.binr rfl rfl (run_boolne2 Tryz.underlying4 ok ok false hbb) rfl ?_) | refine Nx.opr rfl rfl ?_ | refine Nx.callv rfl rfl rfl (by kernel_rfl) rfl hRel ?_ | refine Nx.so ?_ | refine Nx.sb (fun bx => ?_) | refine Nx.sa (fun A2 c2 => ?_))
      | ((with_reducible refine Nx.is_at ?_); first | refine Nx.a ?_ | refine Nx.zd ?_ | refine Nx.zs (fun hc => ?_) (fun hc => ?_))
      | ((with_reducible refine Nx.is_mix ?_); first | refine Nx.m ?_ | refine Nx.zm ?_ | refine Nx.zt (fun hc => ?_) (fun hc => ?_))
      | refine Nx.zx ?_ | fail
    exact Nx.imm_le (hI4.trans hI5) (Nx.again (j + 1) hj2 (by omega) ⟨rfl, rfl, rfl, rfl, rfl, rfl, rfl, rfl, rfl, trivial⟩ (by (exact Ent.auto)))
  have hL1 : FnSpec Tryz.prog 52 [.agg #[.slice B s.length c'], .slice As es.length ca, .agg #[.int .i64 r.num, .slice r.va r.v.length r.vc, .slice r.val.1 r.val.2.2.length r.val.2.1], .slice Aw w.length cw, .slice Bp p.length cp, .int .i64 m] I3 [] (fun u R' => ∃ (x : List Int × Int × Int) (A' : Option Addr) (c' : Nat), LQ s es r w p m x ∧ u = .tuple #[.slice A' x.1.length c', .int .i64 x.2.1, .int .i64 x.2.2] ∧ R' = [iR A' c' x.1]) := by
    refine FnSpec.mono (LeastP_spec B As Aw Bp c' ca cw cp s es r w p m I3 hG.z hs hG.es hw h9 hG.v hG.d hwr h6 hG.w hG.p (by omega)) fun u R' hu => ?_
    obtain ⟨res, A', c2, hil, rfl, rfl⟩ := hu
    exact ⟨_, A', c2, ⟨res, hil, rfl⟩, rfl, rfl⟩
  have hL2 : FnSpec Tryz.prog 53 [.agg #[.slice B s.length c'], .slice As es.length ca, .agg #[.int .i64 r.num, .slice r.va r.v.length r.vc, .slice r.val.1 r.val.2.2.length r.val.2.1], .slice Aw w.length cw, .slice Bp p.length cp, .int .i64 m] I3 [] (fun u R' => ∃ (x : List Int × Int × Int) (A' : Option Addr) (c' : Nat), LQ s es r w p m x ∧ u = .tuple #[.slice A' x.1.length c', .int .i64 x.2.1, .int .i64 x.2.2] ∧ R' = [iR A' c' x.1]) := by
    refine FnSpec.mono (LeastR_spec B As Aw Bp c' ca cw cp s es r w p m I3 hG.z hs hG.es hw h9 hG.v hG.d hwr h6 hG.w hG.p) fun u R' hu => ?_
    obtain ⟨res, A', c2, hil, rfl, rfl⟩ := hu
    exact ⟨_, A', c2, ⟨res, hil, rfl⟩, rfl, rfl⟩
  repeat' first
    | ((with_reducible refine Nx.is_wp ?_); first | refine Nx.p_stopr 33 rfl ?_ | refine Nx.wo ?_ | refine Nx.zp (fun hc => ?_) (fun hc => ?_))
    | (refine Nx.zo ?_; first | refine Nx.opr rfl rfl ?_ | (refine Nx.call (Rpre := []) rfl rfl rfl (by kernel_rfl) rfl hL1 (Ent.refl _) ?_; rintro _ _ ⟨⟨x1, a, e⟩, A5, c5, hQ1, rfl, rfl⟩) | (refine Nx.call (Rpre := []) rfl rfl rfl (by kernel_rfl) rfl hL2 (Ent.refl _) ?_; rintro _ _ ⟨⟨x2, a2, e2⟩, A6, c6, hQ2, rfl, rfl⟩) | refine Nx.so ?_ | refine Nx.sb (fun bx => ?_) | refine Nx.sa (fun A2 c2 => ?_))
    | ((with_reducible refine Nx.is_at ?_); first | refine Nx.a ?_ | refine Nx.zd ?_ | refine Nx.zs (fun hc => ?_) (fun hc => ?_))
    | ((with_reducible refine Nx.is_mix ?_); first | refine Nx.m ?_ | refine Nx.zm ?_ | refine Nx.zt (fun hc => ?_) (fun hc => ?_))
    | refine Nx.zx ?_ | fail
  refine Nx.unstop ?_
  have hu := lq_unique hQ1 hQ2
  simp only [Prod.mk.injEq] at hu
  obtain ⟨rfl, rfl, rfl⟩ := hu
  refine Nx.weak (e' := [(28, .slice A5 x1.length c5), (29, .int .i64 a), (30, .int .i64 e), (31, .slice A6 x1.length c6), (32, .int .i64 a), (33, .int .i64 e)]) (R' := [Stars [iR A5 c5 x1, iR A6 c6 x1], F]) ⟨rfl, rfl, rfl, rfl, rfl, rfl, trivial⟩ (Ent.trans (R' := [iR A5 c5 x1, iR A6 c6 x1] ++ [F]) (by (exact Ent.auto)) Ent.stars) ?_
  refine Nx.freezeAt 0 rfl fun I5 m5 hI5 hm5 h5 => ?_
  obtain ⟨k0, l0, c0⟩ := Stars.get 0 h5 rfl
  obtain ⟨k1, l1, c1⟩ := Stars.get 1 h5 rfl
  have hIn := Ints_spec A5 A6 c5 c6 x1 x1 I5 (Vec.sliceOf (l0.trans hm5) c0) (Vec.sliceOf (l1.trans hm5) c1)
  rw [decide_eq_true rfl] at hIn
  repeat' first
    | ((with_reducible refine Nx.is_wp ?_); first | refine Nx.wo ?_ | refine Nx.zp (fun hc => ?_) (fun hc => ?_))
    | (refine Nx.zo ?_; first | refine Nx.opr rfl rfl ?_ | refine Nx.callv rfl rfl rfl (by kernel_rfl) rfl hIn ?_ | refine Nx.callv rfl rfl rfl (by kernel_rfl) rfl (awakeS_spec _) ?_ | refine Nx.so ?_ | refine Nx.sb (fun bx => ?_) | refine Nx.sa (fun A2 c2 => ?_))
    | ((with_reducible refine Nx.is_at ?_); first | refine Nx.a ?_ | refine Nx.zd ?_ | refine Nx.zs (fun hc => ?_) (fun hc => ?_))
    | ((with_reducible refine Nx.is_mix ?_); first | refine Nx.m ?_ | refine Nx.zm ?_ | refine Nx.zt (fun hc => ?_) (fun hc => ?_))
    | refine Nx.zx ?_ | fail
  exact Nx.imm_le (hle3.trans hI5) (Nx.ret_fn rfl [] ⟨rfl, rfl⟩ (by (exact Ent.auto)))
end Go.Proofs.YtcmdemfhbekabaaGreat
/- Contracts of functions of the given program, and lemmas about plain lists and numbers: what the laws of this seat lean on. -/
namespace Go.Proofs.YtcmdemfhbekabaaGreat
open Go.Eng Go.Sol
attribute [local irreducible] opK wpList Code.wp Exit.then Exit.inBlock fnPost bodyPost Nx Calls Oper.wp Rd Rds Wr Ent Stars Blk Again Vec FnSpec wpMix QRun Stop Upto wpAt
/-! The law of answers on suppression: what is changed -/
theorem Nx.giveHalf {C : Cx} {e : Env} {I : PH} {R : List Res} {K : Act → World → Prop} {B At As Bp : Option Addr} {c' ct ca cp : Nat} {s t : List Int} {es : List Rel} {r : Rel} {p : List Int} {RR : List Res}
    (hR : Ent R (Stars [Stars (toldR B c' s At ct t As ca es), ViewR r.va r.vc r.v, iR Bp cp p] :: RR)) (h : ∀ I', PH.le I I' → Ints I' B c' s → Rels I' As ca es → RowsOf I' r.va r.vc r.v → Ints I' Bp cp p → Nx C e I' RR K) : Nx C e I R K := by
  refine Nx.ent hR ?_
  refine Nx.freezeAt 0 rfl fun I1 m1 hI1 hm1 h1 => ?_
  obtain ⟨a0, ha0, b0⟩ := Stars.get 0 h1 rfl
  obtain ⟨a1, ha1, b1⟩ := Stars.get 1 h1 rfl
  obtain ⟨a3, ha3, b3⟩ := Stars.get 2 h1 rfl
  obtain ⟨q0, x0, y0⟩ := Stars.get 0 b0 rfl
  obtain ⟨q2, x2, y2⟩ := Stars.get 2 b0 rfl
  obtain ⟨q3, x3, y3⟩ := Stars.get 3 b0 rfl
  exact h I1 hI1 (Vec.sliceOf ((x0.trans ha0).trans hm1) y0) (rels_of hm1 y2 (x2.trans ha0) y3 (x3.trans ha0)) (ViewR.rows (ha1.trans hm1) b1) (Vec.sliceOf (ha3.trans hm1) b3)
set_option maxHeartbeats 8000000 in
theorem ans_end (w0 : World) (F : Res) (b12 b14 : Nat) (B As Aw Bp Ao : Option Addr) (c' ca cw cp co : Nat) (s : List Int) (es : List Rel) (r : Rel) (D : Option Addr) (cd : Nat) (vs : List Int) (w p odd : List Int) (by' m : Int) (hby : I64 by') (I0 I1 : PH) (hle0 : PH.le I0 I1) (hz : Ints I1 B c' s) (hes : Rels I1 As ca es) (hv : RowsOf I1 r.va r.vc r.v) (hdd : ∀ I', Ints I' D cd vs → Ints I' r.val.1 r.val.2.1 r.val.2.2) (hp : Ints I1 Bp cp p) (ho : Ints I1 Ao co odd)
    (hs : Sizes s) (hw : ∀ x ∈ es, Viewed s x.v) (hwr : Viewed s r.v) (h9 : es.length ≤ 1000) (h6 : r.val.2.2.length ≤ 6) (hp9 : p.length ≤ 1000) :
    Nx ⟨Tryz.prog, 201, w0⟩ [(1, .slice Ao odd.length co), (4, .int .i64 by'), (12, .pointer (some ⟨b12, 0, none⟩)), (13, .slice As es.length ca), (14, .pointer (some ⟨b14, 0, none⟩)), (15, .slice Aw w.length cw), (16, .slice Bp p.length cp), (17, .int .i64 m)] I1 [iR D cd vs, iR Aw cw w, Blk b12 27 [.slice B s.length c'], Blk b14 62 [.int .i64 r.num, .slice r.va r.v.length r.vc, .slice r.val.1 r.val.2.2.length r.val.2.1], F]
      (Code.wp Tryz.prog (cr (cr (cr (cr (cr (cr (bodyOf Tryz.f8))))))) (fnPost Tryz.prog Tryz.f8 I0 F w0 (fun v R' => v = .bool true ∧ R' = []))) := by
  refine Nx.freezeAt 0 rfl fun I2 m2 hI2 hm2 h2 => ?_
  refine Nx.freezeAt 0 rfl fun I3 m3 hI3 hm3 h3 => ?_
  have hle := hI2.trans hI3
  have hG : GivenA I3 B As Aw Bp Ao c' ca cw cp co s es r w p odd := ⟨hz.mono hle, hes.mono hle, hv.mono hle, SliceOf.mono hI3 (hdd I2 (Vec.sliceOf hm2 h2)), Vec.sliceOf hm3 h3, hp.mono hle, ho.mono hle⟩
  exact ans_tail w0 F b12 b14 B As Aw Bp Ao c' ca cw cp co s es r w p odd by' m hby I0 I3 (hle0.trans hle) hG hs hw hwr h9 h6 hp9
set_option maxRecDepth 10000 in
set_option maxHeartbeats 32000000 in
theorem SuppressAnswers_spec (A : Option Addr) (c : Nat) (l : List Int) (Ao : Option Addr) (co : Nat) (odd : List Int) (mg what by' : Int) (I : PH) (hl : Bytes I A c l) (hx : ∀ x ∈ l, 0 ≤ x ∧ x < 256) (ho : Ints I Ao co odd) (hmg : I64 mg) (hwh : I64 what) (hby : I64 by') :
    FnSpec Tryz.prog 8 [.slice A l.length c, .slice Ao odd.length co, .int .i64 mg, .int .i64 what, .int .i64 by'] I [] (fun v R' => v = .bool true ∧ R' = []) := by
  have hL := bytes_take hl hx
  have hol := ho.len
  have hSt := fun b => Story_made b A c _ 0 I hL (Nat.zero_le _)
  unfold StoryPost at hSt
  refine FnSpec.enterP Tryz.func8 rfl Tryz.ntmps8 rfl fun w0 F => ?_
  by_cases h20 : odd.length ≤ 20
  case neg =>
    repeat' first
      | ((with_reducible refine Nx.is_wp ?_); first | refine Nx.wo ?_ | refine Nx.zp (fun hc => ?_) (fun hc => ?_))
      | (refine Nx.zo ?_; first | refine Nx.opr rfl rfl ?_ | refine Nx.callv rfl rfl rfl (by kernel_rfl) rfl (awakeS_spec _) ?_ | refine Nx.so ?_ | refine Nx.sb (fun bx => ?_) | refine Nx.sa (fun A2 c2 => ?_))
      | ((with_reducible refine Nx.is_at ?_); first | refine Nx.a ?_ | refine Nx.zd ?_ | refine Nx.zs (fun hc => ?_) (fun hc => ?_))
      | ((with_reducible refine Nx.is_mix ?_); first | refine Nx.m ?_ | refine Nx.zm ?_ | refine Nx.zt (fun hc => ?_) (fun hc => ?_))
      | refine Nx.zx ?_ | fail
    exact Nx.ret_fn rfl [] ⟨rfl, rfl⟩ (by (exact Ent.auto))
  have hM3 := ModI_spec mg 3 hmg (by omega) I
  repeat' first
    | ((with_reducible refine Nx.is_wp ?_); first | refine Nx.p_stopr 5 rfl ?_ | refine Nx.wo ?_ | refine Nx.zp (fun hc => ?_) (fun hc => ?_))
    | (refine Nx.zo ?_; first | refine Nx.opr rfl rfl ?_ | (refine Nx.call (Rpre := []) rfl rfl rfl (by kernel_rfl) rfl (New_codes A c l I hl) (Ent.refl _) ?_; rintro _ _ ⟨b, rfl, rfl⟩) | (refine Nx.call rfl rfl rfl (by kernel_rfl) rfl (hSt b) (by (exact Ent.auto)) ?_; rintro _ _ ⟨B, c', s, At, ct, t, As, ca, es, r, Aw, cw, w, Bp, cp, p, k1, rfl, hS, hk1, rfl⟩) | refine Nx.so ?_ | refine Nx.sb (fun bx => ?_) | refine Nx.sa (fun A2 c2 => ?_))
    | ((with_reducible refine Nx.is_at ?_); first | refine Nx.a ?_ | refine Nx.zd ?_ | refine Nx.zs (fun hc => ?_) (fun hc => ?_))
    | ((with_reducible refine Nx.is_mix ?_); first | refine Nx.m ?_ | refine Nx.zm ?_ | refine Nx.zt (fun hc => ?_) (fun hc => ?_))
    | refine Nx.zx ?_ | fail
  refine Nx.unstop ?_
  rename_i b12
  revert bx; intro b14
  refine Nx.ent (R' := [relR r, Stars (toldR B c' s At ct t As ca es), iR Aw cw w, iR Bp cp p, Blk b12 27 [.slice B s.length c'], Blk b14 62 [.int .i64 r.num, .slice r.va r.v.length r.vc, .slice r.val.1 r.val.2.2.length r.val.2.1], F]) (by (exact Ent.auto)) ?_
  refine Nx.ent Ent.unstars ?_
  refine Nx.giveHalf (B := B) (c' := c') (s := s) (At := At) (ct := ct) (t := t) (As := As) (ca := ca) (es := es) (r := r) (Bp := Bp) (cp := cp) (p := p) (RR := [rowR r.val, iR Aw cw w, Blk b12 27 [.slice B s.length c'], Blk b14 62 [.int .i64 r.num, .slice r.va r.v.length r.vc, .slice r.val.1 r.val.2.2.length r.val.2.1], F]) (by refine Ent.trans ?_ Ent.stars; (exact Ent.auto)) fun I1 hI1 hz hes hv hp => ?_
  have hfew := hS.few
  have hwv := views_of hS.rels
  have hwr := hS.rel.view
  have hs := hS.sizes
  have hp48 := hS.plen
  have hvl : 0 < r.val.2.2.length ∧ r.val.2.2.length ≤ 6 := by
    have h1 := hS.rel.len
    have h2 := (hS.rel.view.sizes hs).bound (k := (szs r.v).length) (Nat.le_refl _)
    rw [List.take_length] at h2
    have h3 := hS.six
    constructor <;> omega
  have hwl : w.length = r.val.2.2.length := hS.wlen
  clear hSt hS hL
  replace ho := ho.mono hI1
  replace hM3 := ModI_spec mg 3 hmg (by omega) I1
  have hM9 := ModI_spec what 9 hwh (by omega) I1
  have hM30 := ModI_spec by' 30 hby (by omega) I1
  have hM5 := ModI_spec by' 5 hby (by omega) I1
  have hMk := ModI_spec by' r.val.2.2.length hby (by omega) I1
  obtain ⟨kk, hkk, hkl⟩ : ∃ kk : Nat, by' % (r.val.2.2.length : Int) = kk ∧ kk < r.val.2.2.length := by
    have h1 := Int.emod_nonneg by' (show (r.val.2.2.length : Int) ≠ 0 by omega)
    have h2 := Int.emod_lt_of_pos by' (show (0 : Int) < r.val.2.2.length by omega)
    exact ⟨(by' % (r.val.2.2.length : Int)).toNat, by omega, by omega⟩
  rw [hkk] at hMk
  have hd3 := Int.emod_nonneg mg (show (3 : Int) ≠ 0 by decide)
  have hd3' := Int.emod_lt_of_pos mg (show (0 : Int) < 3 by decide)
  have hd9 := Int.emod_nonneg what (show (9 : Int) ≠ 0 by decide)
  have hb30 := Int.emod_nonneg by' (show (30 : Int) ≠ 0 by decide)
  have hb30' := Int.emod_lt_of_pos by' (show (0 : Int) < 30 by decide)
  have hb5 := Int.emod_nonneg by' (show (5 : Int) ≠ 0 by decide)
  have hb5' := Int.emod_lt_of_pos by' (show (0 : Int) < 5 by decide)
  generalize mg % 3 = z3 at hM3 hd3 hd3'
  generalize what % 9 = d at hM9 hd9
  generalize by' % 30 = z30 at hM30 hb30 hb30'
  generalize by' % 5 = z5 at hM5 hb5 hb5'
  clear hkk
  obtain ⟨num, va, vc, v, D, cd, vs⟩ := r
  dsimp only at hv hwr hvl hwl hMk hkl ⊢
  rw [← hwl] at hMk hkl hvl
  refine Nx.ent (R' := [iR D cd vs, iR Aw cw w, Blk b12 27 [.slice B s.length c'], Blk b14 62 [.int .i64 num, .slice va v.length vc, .slice D vs.length cd], F]) (by (exact Ent.auto)) ?_
  refine Nx.vec_fact fun _ hcd hmd hD => ?_
  have hD := hD (by omega)
  by_cases d0 : d = 0
  · subst d0
    repeat' first
      | ((with_reducible refine Nx.is_wp ?_); first | refine Nx.p_stops 21 rfl ?_ | refine Nx.wo ?_ | refine Nx.zp (fun hc => ?_) (fun hc => ?_))
      | (refine Nx.zo ?_; first | refine Nx.opr rfl rfl ?_ | refine Nx.callv rfl rfl rfl (by kernel_rfl) rfl hM3 ?_ | refine Nx.callv rfl rfl rfl (by kernel_rfl) rfl hM9 ?_ | refine Nx.append_lit 1 rfl rfl rfl rfl (by kernel_rfl) rfl rfl rfl rfl (by omega) (fun A8 c8 => ?_) | refine Nx.so ?_ | refine Nx.sb (fun bx => ?_) | refine Nx.sa (fun A2 c2 => ?_))
      | ((with_reducible refine Nx.is_at ?_); first | refine Nx.a ?_ | refine Nx.zd ?_ | refine Nx.zs (fun hc => ?_) (fun hc => ?_))
      | ((with_reducible refine Nx.is_mix ?_); first | refine Nx.m ?_ | refine Nx.zm ?_ | refine Nx.zt (fun hc => ?_) (fun hc => ?_))
      | refine Nx.zx ?_ | fail
    exact Nx.unstop (Nx.weak (by rw [show w.length + 1 = (w ++ [1]).length by rw [List.length_append]; rfl]; exact ⟨rfl, rfl, rfl, rfl, rfl, rfl, rfl, rfl, trivial⟩) (by unfold iR; rw [List.length_append (bs := [_]), List.map_append]; (exact Ent.auto)) (ans_end w0 F b12 b14 B As A8 Bp Ao c' ca c8 cp co s es ⟨num, va, vc, v, (D, cd, vs)⟩ D cd vs (w ++ [1]) p odd by' (1 + z3) hby I I1 hI1 hz hes hv (fun _ h => h) hp ho hs hwv hwr (by omega) (by dsimp only; omega) (by omega)))
  by_cases d1 : d = 1
  · subst d1
    refine Nx.ent (R' := [iR Aw cw w, rowR (D, cd, vs), Blk b12 27 [.slice B s.length c'], Blk b14 62 [.int .i64 num, .slice va v.length vc, .slice D vs.length cd], F]) (by (exact Ent.auto)) ?_
    refine Nx.vec_fact fun _ _ _ hAw => ?_
    have hAw := hAw (by omega)
    repeat' first
      | ((with_reducible refine Nx.is_wp ?_); first | refine Nx.p_stops 21 rfl ?_ | refine Nx.wo ?_ | refine Nx.zp (fun hc => ?_) (fun hc => ?_))
      | (refine Nx.zo ?_; first | refine Nx.opr rfl rfl ?_ | refine Nx.callv rfl rfl rfl (by kernel_rfl) rfl hM3 ?_ | refine Nx.callv rfl rfl rfl (by kernel_rfl) rfl hM9 ?_ | refine Nx.callv rfl rfl rfl (by kernel_rfl) rfl hMk ?_ | refine Nx.indexAddr_nat (A := Aw) (i := kk) (sz := 1) rfl rfl rfl rfl rfl hkl hAw ?_ | refine Nx.store_ints 0 (A := Aw) (i := kk) (l := w) rfl rfl rfl rfl (by omega) ?_ | refine Nx.so ?_ | refine Nx.sb (fun bx => ?_) | refine Nx.sa (fun A2 c2 => ?_))
      | ((with_reducible refine Nx.is_at ?_); first | refine Nx.a ?_ | refine Nx.zd ?_ | refine Nx.zs (fun hc => ?_) (fun hc => ?_))
      | ((with_reducible refine Nx.is_mix ?_); first | refine Nx.m ?_ | refine Nx.zm ?_ | refine Nx.zt (fun hc => ?_) (fun hc => ?_))
      | refine Nx.zx ?_ | fail
    exact Nx.unstop (Nx.weak (by rw [show w.length = (w.set kk by').length by rw [List.length_set]]; exact ⟨rfl, rfl, rfl, rfl, rfl, rfl, rfl, rfl, trivial⟩) (by unfold iR; rw [List.length_set]; (exact Ent.auto)) (ans_end w0 F b12 b14 B As Aw Bp Ao c' ca cw cp co s es ⟨num, va, vc, v, (D, cd, vs)⟩ D cd vs (w.set kk by') p odd by' (1 + z3) hby I I1 hI1 hz hes hv (fun _ h => h) hp ho hs hwv hwr (by omega) (by dsimp only; omega) (by omega)))
  by_cases d2 : d = 2
  · subst d2
    repeat' first
      | ((with_reducible refine Nx.is_wp ?_); first | refine Nx.p_stops 21 rfl ?_ | refine Nx.wo ?_ | refine Nx.zp (fun hc => ?_) (fun hc => ?_))
      | (refine Nx.zo ?_; first | refine Nx.opr rfl rfl ?_ | refine Nx.callv rfl rfl rfl (by kernel_rfl) rfl hM3 ?_ | refine Nx.callv rfl rfl rfl (by kernel_rfl) rfl hM9 ?_ | refine Nx.callv rfl rfl rfl (by kernel_rfl) rfl hM30 ?_ | refine Nx.so ?_ | refine Nx.sb (fun bx => ?_) | refine Nx.sa (fun A2 c2 => ?_))
      | ((with_reducible refine Nx.is_at ?_); first | refine Nx.a ?_ | refine Nx.zd ?_ | refine Nx.zs (fun hc => ?_) (fun hc => ?_))
      | ((with_reducible refine Nx.is_mix ?_); first | refine Nx.m ?_ | refine Nx.zm ?_ | refine Nx.zt (fun hc => ?_) (fun hc => ?_))
      | refine Nx.zx ?_ | fail
    exact Nx.unstop (Nx.weak (by exact ⟨rfl, rfl, rfl, rfl, rfl, rfl, rfl, rfl, trivial⟩) (by (exact Ent.auto)) (ans_end w0 F b12 b14 B As Aw Bp Ao c' ca cw cp co s es ⟨z30 - 2, va, vc, v, (D, cd, vs)⟩ D cd vs w p odd by' (1 + z3) hby I I1 hI1 hz hes hv (fun _ h => h) hp ho hs hwv hwr (by omega) (by dsimp only; omega) (by omega)))
  by_cases d3 : d = 3
  · subst d3
    rw [hwl] at hMk
    repeat' first
      | ((with_reducible refine Nx.is_wp ?_); first | refine Nx.p_stops 21 rfl ?_ | refine Nx.wo ?_ | refine Nx.p_drawF (id := 14) rfl [0, 1, 2, 3, 4, 5, 7, 6, 8, 9, 10] [6, 8] [11] _ rfl rfl (by kernel_rfl) (by kernel_rfl) rfl (by repeat first | exact PanicOk.fn | refine PanicOk.then_ ?_ | refine PanicOk.inB ?_) (Ent.refl _) ?_ | refine Nx.p_drawF (id := 21) rfl [0, 1, 3, 4, 5, 9, 2, 6, 7, 8] [2, 6, 7] [] _ rfl rfl (by kernel_rfl) (by kernel_rfl) rfl (by repeat first | exact PanicOk.fn | refine PanicOk.then_ ?_ | refine PanicOk.inB ?_) (Ent.refl _) ?_ | refine Nx.zp (fun hc => ?_) (fun hc => ?_))
      | (refine Nx.zo ?_; first | refine Nx.opr rfl rfl ?_ | refine Nx.callv rfl rfl rfl (by kernel_rfl) rfl hM3 ?_ | refine Nx.callv rfl rfl rfl (by kernel_rfl) rfl hM9 ?_ | refine Nx.callv rfl rfl rfl (by kernel_rfl) rfl hMk ?_ | refine Nx.callv rfl rfl rfl (by kernel_rfl) rfl hM5 ?_ | refine Nx.store_ints 0 (A := D) (i := kk) (l := vs) rfl rfl rfl rfl (by omega) ?_ | refine Nx.so ?_ | refine Nx.sb (fun bx => ?_) | refine Nx.sa (fun A2 c2 => ?_))
      | ((with_reducible refine Nx.is_at ?_); first | refine Nx.a ?_ | refine Nx.zd ?_ | refine Nx.zs (fun hc => ?_) (fun hc => ?_))
      | ((with_reducible refine Nx.is_mix ?_); first | refine Nx.m_quiet rfl rfl rfl rfl rfl (by first | exact QRun.opr rfl | exact QRun.idx (A := D) (i := kk) (sz := 1) rfl rfl rfl rfl (by omega) hD) ?_ | refine Nx.m_quiet_do rfl rfl rfl rfl rfl rfl rfl (by first | exact QRun.opr rfl | exact QRun.idx (A := D) (i := kk) (sz := 1) rfl rfl rfl rfl (by omega) hD) ?_ | refine Nx.m ?_ | refine Nx.zm ?_ | refine Nx.zt (fun hc => ?_) (fun hc => ?_))
      | refine Nx.zx ?_ | fail
    exact Nx.unstop (Nx.weak (by exact ⟨rfl, rfl, rfl, rfl, rfl, rfl, rfl, rfl, trivial⟩) (by unfold iR; rw [List.length_set]; (exact Ent.auto)) (ans_end w0 F b12 b14 B As Aw Bp Ao c' ca cw cp co s es ⟨num, va, vc, v, (D, cd, vs.set kk (z5 - 2))⟩ D cd (vs.set kk (z5 - 2)) w p odd by' (1 + z3) hby I I1 hI1 hz hes hv (fun _ h => h) hp ho hs hwv hwr (by omega) (by dsimp only; rw [List.length_set]; omega) (by omega)))
  by_cases d4 : d = 4
  · subst d4
    repeat' first
      | ((with_reducible refine Nx.is_wp ?_); first | refine Nx.p_stops 21 rfl ?_ | refine Nx.wo ?_ | refine Nx.zp (fun hc => ?_) (fun hc => ?_))
      | (refine Nx.zo ?_; first | refine Nx.opr rfl rfl ?_ | refine Nx.callv rfl rfl rfl (by kernel_rfl) rfl hM3 ?_ | refine Nx.callv rfl rfl rfl (by kernel_rfl) rfl hM9 ?_ | refine Nx.so ?_ | refine Nx.sb (fun bx => ?_) | refine Nx.sa (fun A2 c2 => ?_))
      | ((with_reducible refine Nx.is_at ?_); first | refine Nx.a ?_ | refine Nx.zd ?_ | refine Nx.zs (fun hc => ?_) (fun hc => ?_))
      | ((with_reducible refine Nx.is_mix ?_); first | refine Nx.m ?_ | refine Nx.zm ?_ | refine Nx.zt (fun hc => ?_) (fun hc => ?_))
      | refine Nx.zx ?_ | fail
    exact Nx.unstop (Nx.weak (by exact ⟨rfl, rfl, rfl, rfl, rfl, rfl, rfl, rfl, trivial⟩) (by (exact Ent.auto)) (ans_end w0 F b12 b14 B As Aw Ao Ao c' ca cw co co s es ⟨num, va, vc, v, (D, cd, vs)⟩ D cd vs w odd odd by' (1 + z3) hby I I1 hI1 hz hes hv (fun _ h => h) ho ho hs hwv hwr (by omega) (by dsimp only; omega) (by omega)))
  by_cases d5 : d = 5
  · subst d5
    repeat' first
      | ((with_reducible refine Nx.is_wp ?_); first | refine Nx.p_stops 21 rfl ?_ | refine Nx.wo ?_ | refine Nx.zp (fun hc => ?_) (fun hc => ?_))
      | (refine Nx.zo ?_; first | refine Nx.opr rfl rfl ?_ | refine Nx.callv rfl rfl rfl (by kernel_rfl) rfl hM3 ?_ | refine Nx.callv rfl rfl rfl (by kernel_rfl) rfl hM9 ?_ | refine Nx.so ?_ | refine Nx.sb (fun bx => ?_) | refine Nx.sa (fun A2 c2 => ?_))
      | ((with_reducible refine Nx.is_at ?_); first | refine Nx.a ?_ | refine Nx.zd ?_ | refine Nx.zs (fun hc => ?_) (fun hc => ?_))
      | ((with_reducible refine Nx.is_mix ?_); first | refine Nx.m ?_ | refine Nx.zm ?_ | refine Nx.zt (fun hc => ?_) (fun hc => ?_))
      | refine Nx.zx ?_ | fail
    exact Nx.unstop (Nx.weak (by exact ⟨rfl, rfl, rfl, rfl, rfl, rfl, rfl, rfl, trivial⟩) (by (exact Ent.auto)) (ans_end w0 F b12 b14 B As Aw Bp Ao c' ca cw cp co s es ⟨num, va, vc, v, (D, cd, vs)⟩ D cd vs w p odd by' mg hby I I1 hI1 hz hes hv (fun _ h => h) hp ho hs hwv hwr (by omega) (by dsimp only; omega) (by omega)))
  by_cases d6 : d = 6
  · subst d6
    repeat' first
      | ((with_reducible refine Nx.is_wp ?_); first | refine Nx.p_stops 21 rfl ?_ | refine Nx.wo ?_ | refine Nx.zp (fun hc => ?_) (fun hc => ?_))
      | (refine Nx.zo ?_; first | refine Nx.opr rfl rfl ?_ | refine Nx.callv rfl rfl rfl (by kernel_rfl) rfl hM3 ?_ | refine Nx.callv rfl rfl rfl (by kernel_rfl) rfl hM9 ?_ | refine Nx.slice_lo (l := 1) rfl rfl rfl rfl rfl (by omega) ?_ | refine Nx.so ?_ | refine Nx.sb (fun bx => ?_) | refine Nx.sa (fun A2 c2 => ?_))
      | ((with_reducible refine Nx.is_at ?_); first | refine Nx.a ?_ | refine Nx.zd ?_ | refine Nx.zs (fun hc => ?_) (fun hc => ?_))
      | ((with_reducible refine Nx.is_mix ?_); first | refine Nx.m ?_ | refine Nx.zm ?_ | refine Nx.zt (fun hc => ?_) (fun hc => ?_))
      | refine Nx.zx ?_ | fail
    exact Nx.unstop (Nx.weak (by exact ⟨rfl, rfl, rfl, rfl, rfl, rfl, rfl, rfl, trivial⟩) (by dsimp only; rw [List.length_drop]; (exact Ent.auto)) (ans_end w0 F b12 b14 B As Aw Bp Ao c' ca cw cp co s es ⟨num, va, vc, v, (offA D cd 1 1, cd - 1, vs.drop 1)⟩ D cd vs w p odd by' (1 + z3) hby I I1 hI1 hz hes hv (fun _ h => SliceOf.drop h (by omega)) hp ho hs hwv hwr (by omega) (by dsimp only; rw [List.length_drop]; omega) (by omega)))
  repeat' first
    | ((with_reducible refine Nx.is_wp ?_); first | refine Nx.p_stops 21 rfl ?_ | refine Nx.wo ?_ | refine Nx.zp (fun hc => ?_) (fun hc => ?_))
    | (refine Nx.zo ?_; first | refine Nx.opr rfl rfl ?_ | refine Nx.callv rfl rfl rfl (by kernel_rfl) rfl hM3 ?_ | refine Nx.callv rfl rfl rfl (by kernel_rfl) rfl hM9 ?_ | refine Nx.so ?_ | refine Nx.sb (fun bx => ?_) | refine Nx.sa (fun A2 c2 => ?_))
    | ((with_reducible refine Nx.is_at ?_); first | refine Nx.a ?_ | refine Nx.zd ?_ | refine Nx.zs (fun hc => ?_) (fun hc => ?_))
    | ((with_reducible refine Nx.is_mix ?_); first | refine Nx.m ?_ | refine Nx.zm ?_ | refine Nx.zt (fun hc => ?_) (fun hc => ?_))
    | refine Nx.zx ?_ | fail
  exact Nx.unstop (Nx.weak (by exact ⟨rfl, rfl, rfl, rfl, rfl, rfl, rfl, rfl, trivial⟩) (by (exact Ent.auto)) (ans_end w0 F b12 b14 B As Aw Bp Ao c' ca cw cp co s es ⟨num, va, vc, v, (D, cd, vs)⟩ D cd vs w p odd by' (1 + z3) hby I I1 hI1 hz hes hv (fun _ h => h) hp ho hs hwv hwr (by omega) (by dsimp only; omega) (by omega)))
end Go.Proofs.YtcmdemfhbekabaaGreat
