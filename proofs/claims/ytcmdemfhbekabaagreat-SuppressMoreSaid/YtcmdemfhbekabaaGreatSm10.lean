/- Contracts of functions of the given program, and lemmas about plain lists and numbers: what the laws of this seat lean on. -/
import Derived.Test.YtcmdemfhbekabaaGreatSm9
namespace Go.Proofs.YtcmdemfhbekabaaGreat
open Go.Eng Go.Sol
attribute [local irreducible] opK wpList Code.wp Exit.then Exit.inBlock fnPost bodyPost Nx Calls Oper.wp Rd Rds Wr Ent Stars Blk Again Vec FnSpec wpMix QRun Stop Upto wpAt
/-! The law: a greater margin or more protected cells -/
structure Given (I : PH) (B As Aw Bp : Option Addr) (c' ca cw cp : Nat) (s : List Int) (es : List Rel) (r : Rel) (w p : List Int) : Prop where
  z : Ints I B c' s
  es : Rels I As ca es
  v : RowsOf I r.va r.vc r.v
  d : Ints I r.val.1 r.val.2.1 r.val.2.2
  w : Ints I Aw cw w
  p : Ints I Bp cp p
theorem Given.mono {I I' : PH} {B As Aw Bp : Option Addr} {c' ca cw cp : Nat} {s : List Int} {es : List Rel} {r : Rel} {w p : List Int} (h : Given I B As Aw Bp c' ca cw cp s es r w p) (hle : PH.le I I') : Given I' B As Aw Bp c' ca cw cp s es r w p :=
  ⟨h.z.mono hle, h.es.mono hle, h.v.mono hle, h.d.mono hle, h.w.mono hle, h.p.mono hle⟩
theorem Nx.giveStory {C : Cx} {e : Env} {I : PH} {R : List Res} {K : Act → World → Prop} {B At As Aw Bp : Option Addr} {c' ct ca cw cp : Nat} {s t : List Int} {es : List Rel} {r : Rel} {w p : List Int} {RR : List Res}
    (hR : Ent R (Stars [Stars (toldR B c' s At ct t As ca es), relR r, iR Aw cw w, iR Bp cp p] :: RR)) (h : ∀ I', PH.le I I' → Given I' B As Aw Bp c' ca cw cp s es r w p → Nx C e I' RR K) : Nx C e I R K := by
  refine Nx.ent hR ?_
  refine Nx.freezeAt 0 rfl fun I1 m1 hI1 hm1 h1 => ?_
  obtain ⟨a0, ha0, b0⟩ := Stars.get 0 h1 rfl
  obtain ⟨a1, ha1, b1⟩ := Stars.get 1 h1 rfl
  obtain ⟨a2, ha2, b2⟩ := Stars.get 2 h1 rfl
  obtain ⟨a3, ha3, b3⟩ := Stars.get 3 h1 rfl
  obtain ⟨q0, x0, y0⟩ := Stars.get 0 b0 rfl
  obtain ⟨q2, x2, y2⟩ := Stars.get 2 b0 rfl
  obtain ⟨q3, x3, y3⟩ := Stars.get 3 b0 rfl
  obtain ⟨u0, v0, w0⟩ := Stars.get 0 b1 rfl
  obtain ⟨u1, v1, w1⟩ := Stars.get 1 b1 rfl
  exact h I1 hI1 ⟨Vec.sliceOf ((x0.trans ha0).trans hm1) y0, rels_of hm1 y2 (x2.trans ha0) y3 (x3.trans ha0), ViewR.rows ((v0.trans ha1).trans hm1) w0, Vec.sliceOf ((v1.trans ha1).trans hm1) w1, Vec.sliceOf (ha2.trans hm1) b2, Vec.sliceOf (ha3.trans hm1) b3⟩
set_option maxHeartbeats 8000000 in
theorem LeastQ {I : PH} {B As Aw Bp : Option Addr} {c' ca cw cp : Nat} {s t : List Int} {es : List Rel} {r : Rel} {w p : List Int} (hG : Given I B As Aw Bp c' ca cw cp s es r w p) (hS : StoryOk s t es r w p) (Ap : Option Addr) (cq : Nat) (p' : List Int) (m : Int) (hp : Ints I Ap cq p') (h9 : p'.length ≤ 1000) :
    FnSpec Tryz.prog 52 [.agg #[.slice B s.length c'], .slice As es.length ca, .agg #[.int .i64 r.num, .slice r.va r.v.length r.vc, .slice r.val.1 r.val.2.2.length r.val.2.1], .slice Aw w.length cw, .slice Ap p'.length cq, .int .i64 m] I []
      (fun u R' => ∃ (x : List Int × Int × Int) (A' : Option Addr) (c' : Nat), LQ s es r w p' m x ∧ u = .tuple #[.slice A' x.1.length c', .int .i64 x.2.1, .int .i64 x.2.2] ∧ R' = [iR A' c' x.1]) := by
  have h := LeastP_spec B As Aw Ap c' ca cw cq s es r w p' m I hG.z hS.sizes hG.es (views_of hS.rels) (by have := hS.few; omega) hG.v hG.d hS.rel.view hS.six hG.w hp (by omega)
  refine FnSpec.mono h fun u R' hu => ?_
  obtain ⟨res, A', c2, hil, rfl, rfl⟩ := hu
  exact ⟨_, A', c2, ⟨res, hil, rfl⟩, rfl, rfl⟩
set_option maxRecDepth 10000 in
set_option maxHeartbeats 16000000 in
theorem SuppressMore_spec (A : Option Addr) (c : Nat) (l : List Int) (mg : Int) (I : PH) (hl : Bytes I A c l) (hx : ∀ x ∈ l, 0 ≤ x ∧ x < 256) (hmg : 0 ≤ mg ∧ mg < 256) :
    FnSpec Tryz.prog 11 [.slice A l.length c, .int .u8 mg] I [] (fun v R' => v = .bool true ∧ R' = []) := by
  have hL := bytes_take hl hx
  have hSt := fun b => Story_made b A c _ 0 I hL (Nat.zero_le _)
  unfold StoryPost at hSt
  refine FnSpec.enterP Tryz.func11 rfl Tryz.ntmps11 rfl fun w0 F => ?_
  repeat' first
    | ((with_reducible refine Nx.is_wp ?_); first | refine Nx.p_stopr 3 rfl ?_ | refine Nx.wo ?_ | refine Nx.zp (fun hc => ?_) (fun hc => ?_))
    | (refine Nx.zo ?_; first | refine Nx.opr rfl rfl ?_ | (refine Nx.call (Rpre := []) rfl rfl rfl (by kernel_rfl) rfl (New_codes A c l I hl) (Ent.refl _) ?_; rintro _ _ ⟨b, rfl, rfl⟩) | (refine Nx.call rfl rfl rfl (by kernel_rfl) rfl (hSt b) (by (exact Ent.auto)) ?_; rintro _ _ ⟨B, c', s, At, ct, t, As, ca, es, r, Aw, cw, w, Bp, cp, p, k1, rfl, hS, hk1, rfl⟩) | refine Nx.so ?_ | refine Nx.sb (fun bx => ?_) | refine Nx.sa (fun A2 c2 => ?_))
    | ((with_reducible refine Nx.is_at ?_); first | refine Nx.a ?_ | refine Nx.zd ?_ | refine Nx.zs (fun hc => ?_) (fun hc => ?_))
    | ((with_reducible refine Nx.is_mix ?_); first | refine Nx.m ?_ | refine Nx.zm ?_ | refine Nx.zt (fun hc => ?_) (fun hc => ?_))
    | refine Nx.zx ?_ | fail
  refine Nx.unstop ?_
  rename_i b6
  revert bx; intro b8
  refine Nx.giveStory (B := B) (c' := c') (s := s) (At := At) (ct := ct) (t := t) (As := As) (ca := ca) (es := es) (r := r) (Aw := Aw) (cw := cw) (w := w) (Bp := Bp) (cp := cp) (p := p) (RR := [Blk b6 27 [.slice B s.length c'], Blk b8 62 [.int .i64 r.num, .slice r.va r.v.length r.vc, .slice r.val.1 r.val.2.2.length r.val.2.1], F]) (by refine Ent.trans ?_ Ent.stars; (exact Ent.auto)) fun I1 hI1 hG => ?_
  have hzs := size_ok hS.sizes
  have hCt := RCount_spec B c' s I1 hG.z hS.sizes
  rw [← hzs.2.2] at hCt
  obtain ⟨N, hN⟩ : ∃ N, N = (prod s).toNat := ⟨_, rfl⟩
  rw [← hN] at hCt hzs
  have hpin : ∀ x ∈ p, 0 ≤ x ∧ x < (N : Int) := fun x hx => by rw [hzs.2.2]; exact hS.inp x hx
  obtain ⟨q0, hq0⟩ : ∃ q0, q0 = mg % (N : Int) := ⟨_, rfl⟩
  have hp48 := hS.plen
  repeat' first
    | ((with_reducible refine Nx.is_wp ?_); first | refine Nx.wo ?_ | refine Nx.zp (fun hc => ?_) (fun hc => ?_))
    | (refine Nx.zo ?_; first | refine Nx.opr rfl rfl ?_ | refine Nx.callv rfl rfl rfl (by kernel_rfl) rfl hCt ?_ | refine Nx.so ?_ | refine Nx.sb (fun bx => ?_) | refine Nx.sa (fun A2 c2 => ?_))
    | ((with_reducible refine Nx.is_at ?_); first | refine Nx.a ?_ | refine Nx.zd ?_ | refine Nx.zs (fun hc => ?_) (fun hc => ?_))
    | ((with_reducible refine Nx.is_mix ?_); first | refine Nx.m ?_ | refine Nx.zm ?_ | refine Nx.zt (fun hc => ?_) (fun hc => ?_))
    | refine Nx.zx ?_ | fail
  refine Nx.p_loop (σ := Nat × Option Addr × Nat) (fun q => [(1, .int .u8 mg), (6, .pointer (some ⟨b6, 0, none⟩)), (7, .slice As es.length ca), (8, .pointer (some ⟨b8, 0, none⟩)), (9, .slice Aw w.length cw), (10, .slice Bp p.length cp), (11, .int .i64 (N : Int)), (12, .slice q.2.1 (moreK p q0 q.1).length q.2.2), (13, .int .i64 (q.1 : Int))])
    (fun q => [iR q.2.1 q.2.2 (moreK p q0 q.1), Blk b6 27 [.slice B s.length c'], Blk b8 62 [.int .i64 r.num, .slice r.va r.v.length r.vc, .slice r.val.1 r.val.2.2.length r.val.2.1], F]) (fun q => q.1 ≤ N) (fun q => N - q.1) (0, none, 0) rfl (Nat.zero_le _) ⟨rfl, rfl, rfl, rfl, rfl, rfl, rfl, rfl, rfl, trivial⟩ ((Ent.vec_nil 3 1 _).trans (by (exact Ent.auto))) ?_
  rintro ⟨k, A3, c3⟩ hk
  dsimp only at hk ⊢
  by_cases hkN : k < N
  · have hml := moreK_len p q0 k
    have hms := moreK_succ p q0 k
    have hi0 : isK p q0 k 0 = decide ((k : Int) = q0) := by unfold isK; rw [List.take_zero, List.any_nil, Bool.or_false]
    generalize moreK p q0 k = mk at hml hms
    repeat' first
      | ((with_reducible refine Nx.is_wp ?_); first | refine Nx.wo ?_ | refine Nx.zp (fun hc => ?_) (fun hc => ?_))
      | (refine Nx.zo ?_; first | refine Nx.opr rfl rfl ?_ | refine Nx.rem rfl rfl (by omega) (by omega) rfl ?_ | refine Nx.so ?_ | refine Nx.sb (fun bx => ?_) | refine Nx.sa (fun A2 c2 => ?_))
      | ((with_reducible refine Nx.is_at ?_); first | refine Nx.a ?_ | refine Nx.zd ?_ | refine Nx.zs (fun hc => ?_) (fun hc => ?_))
      | ((with_reducible refine Nx.is_mix ?_); first | refine Nx.m ?_ | refine Nx.zm ?_ | refine Nx.zt (fun hc => ?_) (fun hc => ?_))
      | refine Nx.zx ?_ | fail
    rw [← hq0]
    refine Nx.p_loop (σ := Nat) (fun i => [(1, .int .u8 mg), (6, .pointer (some ⟨b6, 0, none⟩)), (7, .slice As es.length ca), (8, .pointer (some ⟨b8, 0, none⟩)), (9, .slice Aw w.length cw), (10, .slice Bp p.length cp), (11, .int .i64 (N : Int)), (12, .slice A3 mk.length c3), (13, .int .i64 (k : Int)), (14, .bool (isK p q0 k i)), (49, .slice Bp p.length cp), (50, .int .i64 p.length), (51, .int .i64 (i : Int))])
      (fun _ => [iR A3 c3 mk, Blk b6 27 [.slice B s.length c'], Blk b8 62 [.int .i64 r.num, .slice r.va r.v.length r.vc, .slice r.val.1 r.val.2.2.length r.val.2.1], F]) (fun i => i ≤ p.length) (fun i => p.length - i) 0 rfl (Nat.zero_le _) ⟨rfl, rfl, rfl, rfl, rfl, rfl, rfl, rfl, rfl, by rw [hi0]; rfl, rfl, rfl, rfl, trivial⟩ (by (exact Ent.auto)) ?_
    intro i hi
    have hi : i ≤ p.length := hi
    by_cases hip : i < p.length
    · have hrd : ∀ (W : World) (R : List Res), Rd W I1 R ((ad Bp).add (i * 1)) (.int .i64 (p.getD i default)) := fun W R => hG.p.rd hip
      have hsu := isK_succ (q := q0) (k := k) hip
      obtain ⟨nx, hnx⟩ : ∃ nx, nx = isK p q0 k (i + 1) := ⟨_, rfl⟩
      rw [← hnx] at hsu
      generalize p.getD i default = x at hrd hsu
      generalize isK p q0 k i = cur at hsu
      cases cur with
      | true =>
        rw [Bool.true_or] at hsu
        repeat' first
          | ((with_reducible refine Nx.is_wp ?_); first | refine Nx.wo ?_ | refine Nx.zp (fun hc => ?_) (fun hc => ?_))
          | (refine Nx.zo ?_; first | refine Nx.opr rfl rfl ?_ | refine Nx.indexAddr_nat (A := Bp) (i := i) (sz := 1) rfl rfl rfl rfl rfl hip (hG.p.isSome (by omega)) ?_ | refine Nx.load rfl rfl rfl (hrd _ _) ?_ | refine Nx.so ?_ | refine Nx.sb (fun bx => ?_) | refine Nx.sa (fun A2 c2 => ?_))
          | ((with_reducible refine Nx.is_at ?_); first | refine Nx.a ?_ | refine Nx.zd ?_ | refine Nx.zs (fun hc => ?_) (fun hc => ?_))
          | ((with_reducible refine Nx.is_mix ?_); first | refine Nx.m ?_ | refine Nx.zm ?_ | refine Nx.zt (fun hc => ?_) (fun hc => ?_))
          | refine Nx.zx ?_ | fail
        exact Nx.again (i + 1) hip (by omega) ⟨rfl, rfl, rfl, rfl, rfl, rfl, rfl, rfl, rfl, by rw [← hnx, hsu]; rfl, rfl, rfl, rfl, trivial⟩ (by (exact Ent.auto))
      | false =>
        rw [Bool.false_or] at hsu
        repeat' first
          | ((with_reducible refine Nx.is_wp ?_); first | refine Nx.wo ?_ | refine Nx.zp (fun hc => ?_) (fun hc => ?_))
          | (refine Nx.zo ?_; first | refine Nx.opr rfl rfl ?_ | refine Nx.indexAddr_nat (A := Bp) (i := i) (sz := 1) rfl rfl rfl rfl rfl hip (hG.p.isSome (by omega)) ?_ | refine Nx.load rfl rfl rfl (hrd _ _) ?_ | refine Nx.so ?_ | refine Nx.sb (fun bx => ?_) | refine Nx.sa (fun A2 c2 => ?_))
          | ((with_reducible refine Nx.is_at ?_); first | refine Nx.a ?_ | refine Nx.zd ?_ | refine Nx.zs (fun hc => ?_) (fun hc => ?_))
          | ((with_reducible refine Nx.is_mix ?_); first | refine Nx.m ?_ | refine Nx.zm ?_ | refine Nx.zt (fun hc => ?_) (fun hc => ?_))
          | refine Nx.zx ?_ | fail
        exact Nx.again (i + 1) hip (by omega) ⟨rfl, rfl, rfl, rfl, rfl, rfl, rfl, rfl, rfl, by rw [← hnx, hsu]; rfl, rfl, rfl, rfl, trivial⟩ (by (exact Ent.auto))
    obtain rfl : i = p.length := by omega
    generalize isK p q0 k p.length = isv at hms
    cases isv with
    | true =>
      rw [if_pos rfl] at hms
      repeat' first
        | ((with_reducible refine Nx.is_wp ?_); first | refine Nx.wo ?_ | refine Nx.zp (fun hc => ?_) (fun hc => ?_))
        | (refine Nx.zo ?_; first | refine Nx.opr rfl rfl ?_ | refine Nx.so ?_ | refine Nx.sb (fun bx => ?_) | refine Nx.sa (fun A2 c2 => ?_))
        | ((with_reducible refine Nx.is_at ?_); first | refine Nx.a ?_ | refine Nx.zd ?_ | refine Nx.zs (fun hc => ?_) (fun hc => ?_))
        | ((with_reducible refine Nx.is_mix ?_); first | refine Nx.m ?_ | refine Nx.zm ?_ | refine Nx.zt (fun hc => ?_) (fun hc => ?_))
        | refine Nx.zx ?_ | fail
      exact Nx.again (k + 1, A2, c2) hkN (by dsimp only; omega) ⟨rfl, rfl, rfl, rfl, rfl, rfl, rfl, by dsimp only; rw [hms, List.length_append]; rfl, rfl, trivial⟩ (by dsimp only; rw [hms]; unfold iR; rw [List.length_append, List.map_append]; (exact Ent.auto))
    | false =>
      rw [if_neg (by decide), List.append_nil] at hms
      repeat' first
        | ((with_reducible refine Nx.is_wp ?_); first | refine Nx.wo ?_ | refine Nx.zp (fun hc => ?_) (fun hc => ?_))
        | (refine Nx.zo ?_; first | refine Nx.opr rfl rfl ?_ | refine Nx.so ?_ | refine Nx.sb (fun bx => ?_) | refine Nx.sa (fun A2 c2 => ?_))
        | ((with_reducible refine Nx.is_at ?_); first | refine Nx.a ?_ | refine Nx.zd ?_ | refine Nx.zs (fun hc => ?_) (fun hc => ?_))
        | ((with_reducible refine Nx.is_mix ?_); first | refine Nx.m ?_ | refine Nx.zm ?_ | refine Nx.zt (fun hc => ?_) (fun hc => ?_))
        | refine Nx.zx ?_ | fail
      exact Nx.again (k + 1, A3, c3) hkN (by dsimp only; omega) ⟨rfl, rfl, rfl, rfl, rfl, rfl, rfl, by dsimp only; rw [hms]; rfl, rfl, trivial⟩ (by dsimp only; rw [hms]; (exact Ent.auto))
  obtain rfl : k = N := by omega
  have hma := moreK_asc p q0 k
  have hmi : ∀ x ∈ moreK p q0 k, 0 ≤ x ∧ x < prod s := fun x hx => by have := moreK_in x hx; omega
  have hmsb := moreK_sub (q := q0) hpin
  have hml := moreK_len p q0 k
  generalize moreK p q0 k = mk at hma hmi hmsb hml
  refine Nx.freezeAt 0 rfl fun I2 m2 hI2 hm2 h2 => ?_
  have hmk : Ints I2 A3 c3 mk := Vec.sliceOf hm2 h2
  replace hG := hG.mono hI2
  have hL1 := LeastQ hG hS Bp cp p 1 hG.p (by omega)
  have hL2 := LeastQ hG hS Bp cp p 2 hG.p (by omega)
  have hL3 := LeastQ hG hS A3 c3 mk 1 hmk (by omega)
  have hw12 := fun {x x'} (h : LQ s es r w p 1 x) (h' : LQ s es r w p 2 x') => more_law hS hS.asc hS.inp hS.asc hS.inp (by omega) (fun x hx => hx) h h'
  have hw13 := fun {x x'} (h : LQ s es r w p 1 x) (h' : LQ s es r w mk 1 x') => more_law hS hS.asc hS.inp hma hmi (by omega) hmsb h h'
  repeat' first
    | ((with_reducible refine Nx.is_wp ?_); first | refine Nx.p_stopr 19 rfl ?_ | refine Nx.wo ?_ | refine Nx.zp (fun hc => ?_) (fun hc => ?_))
    | (refine Nx.zo ?_; first | refine Nx.opr rfl rfl ?_ | (refine Nx.call (Rpre := []) rfl rfl rfl (by kernel_rfl) rfl hL1 (Ent.refl _) ?_; rintro _ _ ⟨⟨x1, a, e⟩, A5, c5, hQ1, rfl, rfl⟩) | (refine Nx.call (Rpre := []) rfl rfl rfl (by kernel_rfl) rfl hL2 (Ent.refl _) ?_; rintro _ _ ⟨⟨x2, b', g⟩, A6, c6, hQ2, rfl, rfl⟩) | (refine Nx.call (Rpre := []) rfl rfl rfl (by kernel_rfl) rfl hL3 (Ent.refl _) ?_; rintro _ _ ⟨⟨x3, d, h⟩, A7, c7, hQ3, rfl, rfl⟩) | refine Nx.so ?_ | refine Nx.sb (fun bx => ?_) | refine Nx.sa (fun A2 c2 => ?_))
    | ((with_reducible refine Nx.is_at ?_); first | refine Nx.a ?_ | refine Nx.zd ?_ | refine Nx.zs (fun hc => ?_) (fun hc => ?_))
    | ((with_reducible refine Nx.is_mix ?_); first | refine Nx.m ?_ | refine Nx.zm ?_ | refine Nx.zt (fun hc => ?_) (fun hc => ?_))
    | refine Nx.zx ?_ | fail
  refine Nx.unstop ?_
  obtain ⟨f1, f2⟩ := hw12 hQ1 hQ2
  obtain ⟨f3, f4⟩ := hw13 hQ1 hQ3
  dsimp only at f1 f2 f3 f4
  clear hw12 hw13 hQ1 hQ2 hQ3 hL1 hL2 hL3
  refine Nx.weak (e' := [(18, .int .i64 a), (19, .int .i64 e), (21, .int .i64 b'), (22, .int .i64 g), (24, .int .i64 d), (25, .int .i64 h)]) (R' := [F]) ⟨rfl, rfl, rfl, rfl, rfl, rfl, trivial⟩ (by (exact Ent.auto)) ?_
  have hAw := awakeS_spec I2
  refine Nx.imm_le (hI1.trans hI2) ?_
  replace hAw := awakeS_spec I
  by_cases he : e = 0
  · by_cases hg : g = 0
    · by_cases hh : h = 0
      · have h1 : a ≤ b' := by omega
        have h2 : a ≤ d := by omega
        repeat' first
          | ((with_reducible refine Nx.is_wp ?_); first | refine Nx.wo ?_ | refine Nx.zp (fun hc => ?_) (fun hc => ?_))
          | (refine Nx.zo ?_; first | refine Nx.opr rfl rfl ?_ | refine Nx.callv rfl rfl rfl (by kernel_rfl) rfl hAw ?_ | refine Nx.so ?_ | refine Nx.sb (fun bx => ?_) | refine Nx.sa (fun A2 c2 => ?_))
          | ((with_reducible refine Nx.is_at ?_); first | refine Nx.a ?_ | refine Nx.zd ?_ | refine Nx.zs (fun hc => ?_) (fun hc => ?_))
          | ((with_reducible refine Nx.is_mix ?_); first | refine Nx.m ?_ | refine Nx.zm ?_ | refine Nx.zt (fun hc => ?_) (fun hc => ?_))
          | refine Nx.zx ?_ | fail
        exact Nx.ret_fn rfl [] ⟨rfl, rfl⟩ (by (exact Ent.auto))
      · have h1 : a ≤ b' := by omega
        repeat' first
          | ((with_reducible refine Nx.is_wp ?_); first | refine Nx.wo ?_ | refine Nx.zp (fun hc => ?_) (fun hc => ?_))
          | (refine Nx.zo ?_; first | refine Nx.opr rfl rfl ?_ | refine Nx.callv rfl rfl rfl (by kernel_rfl) rfl hAw ?_ | refine Nx.so ?_ | refine Nx.sb (fun bx => ?_) | refine Nx.sa (fun A2 c2 => ?_))
          | ((with_reducible refine Nx.is_at ?_); first | refine Nx.a ?_ | refine Nx.zd ?_ | refine Nx.zs (fun hc => ?_) (fun hc => ?_))
          | ((with_reducible refine Nx.is_mix ?_); first | refine Nx.m ?_ | refine Nx.zm ?_ | refine Nx.zt (fun hc => ?_) (fun hc => ?_))
          | refine Nx.zx ?_ | fail
        exact Nx.ret_fn rfl [] ⟨rfl, rfl⟩ (by (exact Ent.auto))
    · by_cases hh : h = 0
      · have h2 : a ≤ d := by omega
        repeat' first
          | ((with_reducible refine Nx.is_wp ?_); first | refine Nx.wo ?_ | refine Nx.zp (fun hc => ?_) (fun hc => ?_))
          | (refine Nx.zo ?_; first | refine Nx.opr rfl rfl ?_ | refine Nx.callv rfl rfl rfl (by kernel_rfl) rfl hAw ?_ | refine Nx.so ?_ | refine Nx.sb (fun bx => ?_) | refine Nx.sa (fun A2 c2 => ?_))
          | ((with_reducible refine Nx.is_at ?_); first | refine Nx.a ?_ | refine Nx.zd ?_ | refine Nx.zs (fun hc => ?_) (fun hc => ?_))
          | ((with_reducible refine Nx.is_mix ?_); first | refine Nx.m ?_ | refine Nx.zm ?_ | refine Nx.zt (fun hc => ?_) (fun hc => ?_))
          | refine Nx.zx ?_ | fail
        exact Nx.ret_fn rfl [] ⟨rfl, rfl⟩ (by (exact Ent.auto))
      · repeat' first
          | ((with_reducible refine Nx.is_wp ?_); first | refine Nx.wo ?_ | refine Nx.zp (fun hc => ?_) (fun hc => ?_))
          | (refine Nx.zo ?_; first | refine Nx.opr rfl rfl ?_ | refine Nx.callv rfl rfl rfl (by kernel_rfl) rfl hAw ?_ | refine Nx.so ?_ | refine Nx.sb (fun bx => ?_) | refine Nx.sa (fun A2 c2 => ?_))
          | ((with_reducible refine Nx.is_at ?_); first | refine Nx.a ?_ | refine Nx.zd ?_ | refine Nx.zs (fun hc => ?_) (fun hc => ?_))
          | ((with_reducible refine Nx.is_mix ?_); first | refine Nx.m ?_ | refine Nx.zm ?_ | refine Nx.zt (fun hc => ?_) (fun hc => ?_))
          | refine Nx.zx ?_ | fail
        exact Nx.ret_fn rfl [] ⟨rfl, rfl⟩ (by (exact Ent.auto))
  · by_cases he1 : e = 51
    · have h1 : g = e := by omega
      have h2 : h = e := by omega
      repeat' first
        | ((with_reducible refine Nx.is_wp ?_); first | refine Nx.wo ?_ | refine Nx.zp (fun hc => ?_) (fun hc => ?_))
        | (refine Nx.zo ?_; first | refine Nx.opr rfl rfl ?_ | refine Nx.callv rfl rfl rfl (by kernel_rfl) rfl hAw ?_ | refine Nx.so ?_ | refine Nx.sb (fun bx => ?_) | refine Nx.sa (fun A2 c2 => ?_))
        | ((with_reducible refine Nx.is_at ?_); first | refine Nx.a ?_ | refine Nx.zd ?_ | refine Nx.zs (fun hc => ?_) (fun hc => ?_))
        | ((with_reducible refine Nx.is_mix ?_); first | refine Nx.m ?_ | refine Nx.zm ?_ | refine Nx.zt (fun hc => ?_) (fun hc => ?_))
        | refine Nx.zx ?_ | fail
      exact Nx.ret_fn rfl [] ⟨rfl, rfl⟩ (by (exact Ent.auto))
    · repeat' first
        | ((with_reducible refine Nx.is_wp ?_); first | refine Nx.wo ?_ | refine Nx.zp (fun hc => ?_) (fun hc => ?_))
        | (refine Nx.zo ?_; first | refine Nx.opr rfl rfl ?_ | refine Nx.callv rfl rfl rfl (by kernel_rfl) rfl hAw ?_ | refine Nx.so ?_ | refine Nx.sb (fun bx => ?_) | refine Nx.sa (fun A2 c2 => ?_))
        | ((with_reducible refine Nx.is_at ?_); first | refine Nx.a ?_ | refine Nx.zd ?_ | refine Nx.zs (fun hc => ?_) (fun hc => ?_))
        | ((with_reducible refine Nx.is_mix ?_); first | refine Nx.m ?_ | refine Nx.zm ?_ | refine Nx.zt (fun hc => ?_) (fun hc => ?_))
        | refine Nx.zx ?_ | fail
      exact Nx.ret_fn rfl [] ⟨rfl, rfl⟩ (by (exact Ent.auto))
end Go.Proofs.YtcmdemfhbekabaaGreat
