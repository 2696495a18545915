/- Contracts of functions of the given program, and lemmas about plain lists and numbers: what the laws of this seat lean on. -/
import Derived.Test.YtcmdemfhbekabaaGreatSn11
namespace Go.Proofs.YtcmdemfhbekabaaGreat
open Go.Eng Go.Sol
attribute [local irreducible] opK wpList Code.wp Exit.then Exit.inBlock fnPost bodyPost Nx Calls Oper.wp Rd Rds Wr Ent Stars Blk Again Vec FnSpec wpMix QRun Stop Upto wpAt
/-! The law: nothing hidden, everything hidden -/
set_option maxHeartbeats 8000000 in
theorem safe_behind {I : PH} {B As Aw Bp : Option Addr} {c' ca cw cp : Nat} {s t : List Int} {es : List Rel} {r r2 : Rel} {w p : List Int} (hG : Given I B As Aw Bp c' ca cw cp s es r w p) (hS : StoryOk s t es r w p) (m : Int) (hv2 : RowsOf I r2.va r2.vc r2.v) (hd2 : Ints I r2.val.1 r2.val.2.1 r2.val.2.2) (hw2 : Viewed s r2.v) :
    ∀ A3 c3 q I', PH.le I I' → PH.le q I' → Stars [Vec 62 3 A3 (es.length + 1) c3 (es.flatMap relC ++ [.int .i64 r2.num, .slice r2.va r2.v.length r2.vc, .slice r2.val.1 r2.val.2.2.length r2.val.2.1])] q → FnSpec Tryz.prog 29 [.agg #[.slice B s.length c'], .slice A3 (es.length + 1) c3, .slice Bp p.length cp, .int .i64 m] I' [] (fun u R' => u = .tuple #[.bool (safeB s (es ++ [r2]) p m), .int .i64 (findD s (es ++ [r2]) p m).2] ∧ R' = []) := fun A3 c3 q I' hle hq hv => by
  have hR := rels_app (r := r2) hG.es hle hq hv hv2 hd2
  have := RSafe_spec B A3 Bp c' c3 cp s (es ++ [r2]) p m I' (hG.z.mono hle) hS.sizes hR (fun x hx => (List.mem_append.1 hx).elim (views_of hS.rels x) fun h => by rw [List.mem_singleton.1 h]; exact hw2) (hG.p.mono hle)
  rw [show (es ++ [r2]).length = es.length + 1 by rw [List.length_append]; rfl] at this
  exact this
set_option maxRecDepth 10000 in
set_option maxHeartbeats 16000000 in
theorem SuppressNothing_spec (A : Option Addr) (c : Nat) (l : List Int) (mg : Int) (I : PH) (hl : Bytes I A c l) (hx : ∀ x ∈ l, 0 ≤ x ∧ x < 256) (hmg : 0 ≤ mg ∧ mg < 256) :
    FnSpec Tryz.prog 10 [.slice A l.length c, .int .u8 mg] I [] (fun v R' => v = .bool true ∧ R' = []) := by
  have hL := bytes_take hl hx
  have hSt := fun b => Story_made b A c _ 0 I hL (Nat.zero_le _)
  unfold StoryPost at hSt
  obtain ⟨m, hmd, hm⟩ : ∃ m, m = 1 + mg % 2 ∧ 1 ≤ m ∧ m ≤ 100 := ⟨_, rfl, by omega, by omega⟩
  refine FnSpec.enterP Tryz.func10 rfl Tryz.ntmps10 rfl fun w0 F => ?_
  repeat' first
    | ((with_reducible refine Nx.is_wp ?_); first | refine Nx.p_stopr 4 rfl ?_ | refine Nx.wo ?_ | refine Nx.zp (fun hc => ?_) (fun hc => ?_))
    | (refine Nx.zo ?_; first | refine Nx.opr rfl rfl ?_ | (refine Nx.call (Rpre := []) rfl rfl rfl (by kernel_rfl) rfl (New_codes A c l I hl) (Ent.refl _) ?_; rintro _ _ ⟨b, rfl, rfl⟩) | (refine Nx.call rfl rfl rfl (by kernel_rfl) rfl (hSt b) (by (exact Ent.auto)) ?_; rintro _ _ ⟨B, c', s, At, ct, t, As, ca, es, r, Aw, cw, w, Bp, cp, p, k1, rfl, hS, hk1, rfl⟩) | refine Nx.rem rfl rfl (by omega) (by omega) rfl ?_ | refine Nx.so ?_ | refine Nx.sb (fun bx => ?_) | refine Nx.sa (fun A2 c2 => ?_))
    | ((with_reducible refine Nx.is_at ?_); first | refine Nx.a ?_ | refine Nx.zd ?_ | refine Nx.zs (fun hc => ?_) (fun hc => ?_))
    | ((with_reducible refine Nx.is_mix ?_); first | refine Nx.m ?_ | refine Nx.zm ?_ | refine Nx.zt (fun hc => ?_) (fun hc => ?_))
    | refine Nx.zx ?_ | fail
  refine Nx.unstop ?_
  rw [← hmd]
  rename_i b6
  revert bx; intro b8
  refine Nx.giveStory (B := B) (c' := c') (s := s) (At := At) (ct := ct) (t := t) (As := As) (ca := ca) (es := es) (r := r) (Aw := Aw) (cw := cw) (w := w) (Bp := Bp) (cp := cp) (p := p) (RR := [Blk b6 27 [.slice B s.length c'], Blk b8 62 [.int .i64 r.num, .slice r.va r.v.length r.vc, .slice r.val.1 r.val.2.2.length r.val.2.1], F]) (by refine Ent.trans ?_ Ent.stars; (exact Ent.auto)) fun I1 hI1 hG => ?_
  have hsp := safe_behind hG hS m hG.v hG.d hS.rel.view
  have hfew := hS.few
  have hL1 := LeastQ hG hS Bp cp p m hG.p (by have := hS.plen; omega)
  have hS2 := RSafe_spec B As Bp c' ca cp s es p m I1 hG.z hS.sizes hG.es (views_of hS.rels) hG.p
  have hwn : w.length ≤ 6 := by have := hS.six; have := hS.wlen; omega
  obtain ⟨pw, hpw⟩ : ∃ pw, pw = 2 ^ w.length := ⟨_, rfl⟩
  have hpw1 : 1 ≤ pw := by rw [hpw]; exact Nat.two_pow_pos _
  have hpw64 : pw ≤ 64 := by rw [hpw]; have := Nat.pow_le_pow_right (n := 2) (by decide) hwn; simpa using this
  have hSet := Set_spec (pw - 1) w.length (by omega) hwn I1
  rw [show ((pw - 1 : Nat) : Int) = (pw : Int) - 1 by omega] at hSet
  have hPr := fun (A2 : Option Addr) (c2 : Nat) (m' I' : PH) (hle : PH.le I1 I') (hm' : PH.le m' I') (hv : Stars [iR A2 c2 (bitsL (pw - 1) w.length)] m') => Protects_spec B As A2 Bp c' ca c2 cp s es r (bitsL (pw - 1) w.length) p m I' (hG.z.mono hle) hS.sizes (hG.es.mono hle) (views_of hS.rels) (by omega) (hG.v.mono hle) (hG.d.mono hle) hS.rel.view (by have := hS.six; omega) (by
    obtain ⟨q0, z0, y0⟩ := Stars.get 0 hv rfl
    exact Vec.sliceOf (z0.trans hm') y0) (hG.p.mono hle) (by have := hS.plen; omega)
  have hlaw := fun {x} (h : LQ s es r w p m x) => nothing_law hS hm h
  have hpf := fun {x} (h : LQ s es r w p m x) => (nothing_law hS hm h).2.2
  generalize safeB s (es ++ [r]) p m = ok at hsp hlaw
  generalize (findD s (es ++ [r]) p m).2 = e at hsp hlaw
  generalize safeB s es p m = bf at hS2 hlaw hpf
  generalize (findD s es p m).2 = he at hS2 hlaw hpf
  unfold rowV at hPr
  have hwl := hS.wlen
  refine Nx.p_seq rfl ?_
  refine Nx.weak ?_ ?_ (nothing4 B As Bp r.va r.val.1 c' ca cp s.length p.length b6 b8 r.v.length r.vc r.val.2.2.length r.val.2.1 r.num es m (.slice Aw w.length cw) ok e I1 hG.es.outer (by omega) w0 (Stars []) F _ (by repeat first | exact PanicOk.fn | refine PanicOk.then_ ?_ | refine PanicOk.inB ?_) hsp ?_)
  · exact ⟨rfl, rfl, rfl, rfl, rfl, rfl, trivial⟩
  · exact (Ent.stars_nil _).trans (by (exact Ent.auto))
  repeat' first
    | ((with_reducible refine Nx.is_wp ?_); first | refine Nx.p_stopr 6 rfl ?_ | refine Nx.wo ?_ | refine Nx.zp (fun hc => ?_) (fun hc => ?_))
    | (refine Nx.zo ?_; first | refine Nx.opr rfl rfl ?_ | (refine Nx.call (Rpre := []) rfl rfl rfl (by kernel_rfl) rfl hL1 (Ent.refl _) ?_; rintro _ _ ⟨⟨x1, wt, g⟩, A5, c5, hQ1, rfl, rfl⟩) | refine Nx.so ?_ | refine Nx.sb (fun bx => ?_) | refine Nx.sa (fun A2 c2 => ?_))
    | ((with_reducible refine Nx.is_at ?_); first | refine Nx.a ?_ | refine Nx.zd ?_ | refine Nx.zs (fun hc => ?_) (fun hc => ?_))
    | ((with_reducible refine Nx.is_mix ?_); first | refine Nx.m ?_ | refine Nx.zm ?_ | refine Nx.zt (fun hc => ?_) (fun hc => ?_))
    | refine Nx.zx ?_ | fail
  refine Nx.unstop ?_
  obtain ⟨f1, f2, _⟩ := hlaw hQ1
  have f3 := hpf hQ1
  dsimp only at f1 f2
  clear hlaw hpf hQ1 hL1
  rw [← hpw] at f3
  rw [f3] at hPr
  refine Nx.weak (e' := [(6, .pointer (some ⟨b6, 0, none⟩)), (7, .slice As es.length ca), (8, .pointer (some ⟨b8, 0, none⟩)), (10, .slice Bp p.length cp), (11, .int .i64 m), (12, .bool ok), (13, .int .i64 e), (14, .slice A5 x1.length c5), (15, .int .i64 wt), (16, .int .i64 g)]) (R' := [Blk b6 27 [.slice B s.length c'], Blk b8 62 [.int .i64 r.num, .slice r.va r.v.length r.vc, .slice r.val.1 r.val.2.2.length r.val.2.1], F]) ⟨rfl, rfl, rfl, rfl, rfl, rfl, rfl, rfl, rfl, rfl, trivial⟩ (by (exact Ent.auto)) ?_
  clear f3 hsp hSt
  have hAw := awakeS_spec I1
  simp only [hwl] at hPr
  rw [hwl] at hSet hpw hwn
  by_cases he0 : e = 0
  · cases ok with
    | true =>
      obtain ⟨h1, h2, h3⟩ := f1 he0 rfl
      cases bf with
      | false =>
        clear f1 f2
        · repeat' first
            | ((with_reducible refine Nx.is_wp ?_); first | refine Nx.wo ?_ | refine Nx.p_draw (id := 9) rfl [0, 1, 2, 3, 4, 5, 6, 7, 8, 9, 10, 12, 13, 11, 14, 15, 16, 17, 18, 19] [11, 14] _ rfl rfl (by kernel_rfl) (by kernel_rfl) rfl (by repeat first | exact PanicOk.fn | refine PanicOk.then_ ?_ | refine PanicOk.inB ?_) (Ent.refl _) ?_ | refine Nx.zp (fun hc => ?_) (fun hc => ?_))
            | (refine Nx.zo ?_; first | (refine Nx.binr rfl rfl (run_booleq2 Tryz.underlying4 false false true (by rfl)) rfl ?_) | refine Nx.opr rfl rfl ?_ | refine Nx.callv rfl rfl rfl (by kernel_rfl) rfl hS2 ?_ | (refine Nx.call (Rpre := []) rfl rfl rfl (by kernel_rfl) rfl hSet (Ent.refl _) ?_; rintro _ _ ⟨A2, c2, rfl, rfl⟩) | (refine Nx.call rfl rfl rfl (by kernel_rfl) rfl (FnSpec.keep [iR _ _ (bitsL (pw - 1) r.val.2.2.length)] fun m' I' hle hm' hv => hPr _ _ m' I' hle hm' hv) (by (exact Ent.auto)) ?_; rintro _ _ ⟨_, ⟨rfl, rfl⟩, rfl⟩) | refine Nx.callv rfl rfl rfl (by kernel_rfl) rfl hAw ?_ | refine Nx.so ?_ | refine Nx.sb (fun bx => ?_) | refine Nx.sa (fun A2 c2 => ?_))
            | ((with_reducible refine Nx.is_at ?_); first | refine Nx.a ?_ | refine Nx.zd ?_ | refine Nx.zs (fun hc => ?_) (fun hc => ?_))
            | ((with_reducible refine Nx.is_mix ?_); first | refine Nx.m_quiet rfl rfl rfl rfl rfl (by first | exact QRun.opr rfl | exact QRun.bin rfl rfl (run_shlK (.inl rfl) rfl hwn hpw)) ?_ | refine Nx.m_quiet_do rfl rfl rfl rfl rfl rfl rfl (by first | exact QRun.opr rfl | exact QRun.bin rfl rfl (run_shlK (.inl rfl) rfl hwn hpw)) ?_ | refine Nx.m ?_ | refine Nx.zm ?_ | refine Nx.zt (fun hc => ?_) (fun hc => ?_))
            | refine Nx.zx ?_ | fail
          exact Nx.imm_le hI1 (Nx.ret_fn rfl [] ⟨rfl, rfl⟩ (by (exact Ent.auto)))
      | true =>
        clear f1 f2
        by_cases hhe : he = 0
        · repeat' first
            | ((with_reducible refine Nx.is_wp ?_); first | refine Nx.wo ?_ | refine Nx.p_draw (id := 9) rfl [0, 1, 2, 3, 4, 5, 6, 7, 8, 9, 10, 12, 13, 11, 14, 15, 16, 17, 18, 19] [11, 14] _ rfl rfl (by kernel_rfl) (by kernel_rfl) rfl (by repeat first | exact PanicOk.fn | refine PanicOk.then_ ?_ | refine PanicOk.inB ?_) (Ent.refl _) ?_ | refine Nx.zp (fun hc => ?_) (fun hc => ?_))
            | (refine Nx.zo ?_; first | (refine Nx.binr rfl rfl (run_booleq2 Tryz.underlying4 true true true (by rfl)) rfl ?_) | refine Nx.opr rfl rfl ?_ | refine Nx.callv rfl rfl rfl (by kernel_rfl) rfl hS2 ?_ | (refine Nx.call (Rpre := []) rfl rfl rfl (by kernel_rfl) rfl hSet (Ent.refl _) ?_; rintro _ _ ⟨A2, c2, rfl, rfl⟩) | (refine Nx.call rfl rfl rfl (by kernel_rfl) rfl (FnSpec.keep [iR _ _ (bitsL (pw - 1) r.val.2.2.length)] fun m' I' hle hm' hv => hPr _ _ m' I' hle hm' hv) (by (exact Ent.auto)) ?_; rintro _ _ ⟨_, ⟨rfl, rfl⟩, rfl⟩) | refine Nx.callv rfl rfl rfl (by kernel_rfl) rfl hAw ?_ | refine Nx.so ?_ | refine Nx.sb (fun bx => ?_) | refine Nx.sa (fun A2 c2 => ?_))
            | ((with_reducible refine Nx.is_at ?_); first | refine Nx.a ?_ | refine Nx.zd ?_ | refine Nx.zs (fun hc => ?_) (fun hc => ?_))
            | ((with_reducible refine Nx.is_mix ?_); first | refine Nx.m_quiet rfl rfl rfl rfl rfl (by first | exact QRun.opr rfl | exact QRun.bin rfl rfl (run_shlK (.inl rfl) rfl hwn hpw)) ?_ | refine Nx.m_quiet_do rfl rfl rfl rfl rfl rfl rfl (by first | exact QRun.opr rfl | exact QRun.bin rfl rfl (run_shlK (.inl rfl) rfl hwn hpw)) ?_ | refine Nx.m ?_ | refine Nx.zm ?_ | refine Nx.zt (fun hc => ?_) (fun hc => ?_))
            | refine Nx.zx ?_ | fail
          exact Nx.imm_le hI1 (Nx.ret_fn rfl [] ⟨rfl, rfl⟩ (by (exact Ent.auto)))
        · repeat' first
            | ((with_reducible refine Nx.is_wp ?_); first | refine Nx.wo ?_ | refine Nx.p_draw (id := 9) rfl [0, 1, 2, 3, 4, 5, 6, 7, 8, 9, 10, 12, 13, 11, 14, 15, 16, 17, 18, 19] [11, 14] _ rfl rfl (by kernel_rfl) (by kernel_rfl) rfl (by repeat first | exact PanicOk.fn | refine PanicOk.then_ ?_ | refine PanicOk.inB ?_) (Ent.refl _) ?_ | refine Nx.zp (fun hc => ?_) (fun hc => ?_))
            | (refine Nx.zo ?_; first | (refine Nx.binr rfl rfl (run_booleq2 Tryz.underlying4 true true true (by rfl)) rfl ?_) | refine Nx.opr rfl rfl ?_ | refine Nx.callv rfl rfl rfl (by kernel_rfl) rfl hS2 ?_ | (refine Nx.call (Rpre := []) rfl rfl rfl (by kernel_rfl) rfl hSet (Ent.refl _) ?_; rintro _ _ ⟨A2, c2, rfl, rfl⟩) | (refine Nx.call rfl rfl rfl (by kernel_rfl) rfl (FnSpec.keep [iR _ _ (bitsL (pw - 1) r.val.2.2.length)] fun m' I' hle hm' hv => hPr _ _ m' I' hle hm' hv) (by (exact Ent.auto)) ?_; rintro _ _ ⟨_, ⟨rfl, rfl⟩, rfl⟩) | refine Nx.callv rfl rfl rfl (by kernel_rfl) rfl hAw ?_ | refine Nx.so ?_ | refine Nx.sb (fun bx => ?_) | refine Nx.sa (fun A2 c2 => ?_))
            | ((with_reducible refine Nx.is_at ?_); first | refine Nx.a ?_ | refine Nx.zd ?_ | refine Nx.zs (fun hc => ?_) (fun hc => ?_))
            | ((with_reducible refine Nx.is_mix ?_); first | refine Nx.m_quiet rfl rfl rfl rfl rfl (by first | exact QRun.opr rfl | exact QRun.bin rfl rfl (run_shlK (.inl rfl) rfl hwn hpw)) ?_ | refine Nx.m_quiet_do rfl rfl rfl rfl rfl rfl rfl (by first | exact QRun.opr rfl | exact QRun.bin rfl rfl (run_shlK (.inl rfl) rfl hwn hpw)) ?_ | refine Nx.m ?_ | refine Nx.zm ?_ | refine Nx.zt (fun hc => ?_) (fun hc => ?_))
            | refine Nx.zx ?_ | fail
          exact Nx.imm_le hI1 (Nx.ret_fn rfl [] ⟨rfl, rfl⟩ (by (exact Ent.auto)))
    | false =>
      cases bf with
      | false =>
        clear f1 f2
        · repeat' first
            | ((with_reducible refine Nx.is_wp ?_); first | refine Nx.wo ?_ | refine Nx.p_draw (id := 9) rfl [0, 1, 2, 3, 4, 5, 6, 7, 8, 9, 10, 12, 13, 11, 14, 15, 16, 17, 18, 19] [11, 14] _ rfl rfl (by kernel_rfl) (by kernel_rfl) rfl (by repeat first | exact PanicOk.fn | refine PanicOk.then_ ?_ | refine PanicOk.inB ?_) (Ent.refl _) ?_ | refine Nx.zp (fun hc => ?_) (fun hc => ?_))
            | (refine Nx.zo ?_; first | (refine Nx.binr rfl rfl (run_booleq2 Tryz.underlying4 false false true (by rfl)) rfl ?_) | refine Nx.opr rfl rfl ?_ | refine Nx.callv rfl rfl rfl (by kernel_rfl) rfl hS2 ?_ | (refine Nx.call (Rpre := []) rfl rfl rfl (by kernel_rfl) rfl hSet (Ent.refl _) ?_; rintro _ _ ⟨A2, c2, rfl, rfl⟩) | (refine Nx.call rfl rfl rfl (by kernel_rfl) rfl (FnSpec.keep [iR _ _ (bitsL (pw - 1) r.val.2.2.length)] fun m' I' hle hm' hv => hPr _ _ m' I' hle hm' hv) (by (exact Ent.auto)) ?_; rintro _ _ ⟨_, ⟨rfl, rfl⟩, rfl⟩) | refine Nx.callv rfl rfl rfl (by kernel_rfl) rfl hAw ?_ | refine Nx.so ?_ | refine Nx.sb (fun bx => ?_) | refine Nx.sa (fun A2 c2 => ?_))
            | ((with_reducible refine Nx.is_at ?_); first | refine Nx.a ?_ | refine Nx.zd ?_ | refine Nx.zs (fun hc => ?_) (fun hc => ?_))
            | ((with_reducible refine Nx.is_mix ?_); first | refine Nx.m_quiet rfl rfl rfl rfl rfl (by first | exact QRun.opr rfl | exact QRun.bin rfl rfl (run_shlK (.inl rfl) rfl hwn hpw)) ?_ | refine Nx.m_quiet_do rfl rfl rfl rfl rfl rfl rfl (by first | exact QRun.opr rfl | exact QRun.bin rfl rfl (run_shlK (.inl rfl) rfl hwn hpw)) ?_ | refine Nx.m ?_ | refine Nx.zm ?_ | refine Nx.zt (fun hc => ?_) (fun hc => ?_))
            | refine Nx.zx ?_ | fail
          exact Nx.imm_le hI1 (Nx.ret_fn rfl [] ⟨rfl, rfl⟩ (by (exact Ent.auto)))
      | true =>
        by_cases hhe : he = 0
        · have h1 := f2 he0 rfl hhe
          clear f1 f2
          · repeat' first
              | ((with_reducible refine Nx.is_wp ?_); first | refine Nx.wo ?_ | refine Nx.p_draw (id := 9) rfl [0, 1, 2, 3, 4, 5, 6, 7, 8, 9, 10, 12, 13, 11, 14, 15, 16, 17, 18, 19] [11, 14] _ rfl rfl (by kernel_rfl) (by kernel_rfl) rfl (by repeat first | exact PanicOk.fn | refine PanicOk.then_ ?_ | refine PanicOk.inB ?_) (Ent.refl _) ?_ | refine Nx.zp (fun hc => ?_) (fun hc => ?_))
              | (refine Nx.zo ?_; first | (refine Nx.binr rfl rfl (run_booleq2 Tryz.underlying4 true true true (by rfl)) rfl ?_) | refine Nx.opr rfl rfl ?_ | refine Nx.callv rfl rfl rfl (by kernel_rfl) rfl hS2 ?_ | (refine Nx.call (Rpre := []) rfl rfl rfl (by kernel_rfl) rfl hSet (Ent.refl _) ?_; rintro _ _ ⟨A2, c2, rfl, rfl⟩) | (refine Nx.call rfl rfl rfl (by kernel_rfl) rfl (FnSpec.keep [iR _ _ (bitsL (pw - 1) r.val.2.2.length)] fun m' I' hle hm' hv => hPr _ _ m' I' hle hm' hv) (by (exact Ent.auto)) ?_; rintro _ _ ⟨_, ⟨rfl, rfl⟩, rfl⟩) | refine Nx.callv rfl rfl rfl (by kernel_rfl) rfl hAw ?_ | refine Nx.so ?_ | refine Nx.sb (fun bx => ?_) | refine Nx.sa (fun A2 c2 => ?_))
              | ((with_reducible refine Nx.is_at ?_); first | refine Nx.a ?_ | refine Nx.zd ?_ | refine Nx.zs (fun hc => ?_) (fun hc => ?_))
              | ((with_reducible refine Nx.is_mix ?_); first | refine Nx.m_quiet rfl rfl rfl rfl rfl (by first | exact QRun.opr rfl | exact QRun.bin rfl rfl (run_shlK (.inl rfl) rfl hwn hpw)) ?_ | refine Nx.m_quiet_do rfl rfl rfl rfl rfl rfl rfl (by first | exact QRun.opr rfl | exact QRun.bin rfl rfl (run_shlK (.inl rfl) rfl hwn hpw)) ?_ | refine Nx.m ?_ | refine Nx.zm ?_ | refine Nx.zt (fun hc => ?_) (fun hc => ?_))
              | refine Nx.zx ?_ | fail
            exact Nx.imm_le hI1 (Nx.ret_fn rfl [] ⟨rfl, rfl⟩ (by (exact Ent.auto)))
        · clear f1 f2
          · repeat' first
              | ((with_reducible refine Nx.is_wp ?_); first | refine Nx.wo ?_ | refine Nx.p_draw (id := 9) rfl [0, 1, 2, 3, 4, 5, 6, 7, 8, 9, 10, 12, 13, 11, 14, 15, 16, 17, 18, 19] [11, 14] _ rfl rfl (by kernel_rfl) (by kernel_rfl) rfl (by repeat first | exact PanicOk.fn | refine PanicOk.then_ ?_ | refine PanicOk.inB ?_) (Ent.refl _) ?_ | refine Nx.zp (fun hc => ?_) (fun hc => ?_))
              | (refine Nx.zo ?_; first | (refine Nx.binr rfl rfl (run_booleq2 Tryz.underlying4 true true true (by rfl)) rfl ?_) | refine Nx.opr rfl rfl ?_ | refine Nx.callv rfl rfl rfl (by kernel_rfl) rfl hS2 ?_ | (refine Nx.call (Rpre := []) rfl rfl rfl (by kernel_rfl) rfl hSet (Ent.refl _) ?_; rintro _ _ ⟨A2, c2, rfl, rfl⟩) | (refine Nx.call rfl rfl rfl (by kernel_rfl) rfl (FnSpec.keep [iR _ _ (bitsL (pw - 1) r.val.2.2.length)] fun m' I' hle hm' hv => hPr _ _ m' I' hle hm' hv) (by (exact Ent.auto)) ?_; rintro _ _ ⟨_, ⟨rfl, rfl⟩, rfl⟩) | refine Nx.callv rfl rfl rfl (by kernel_rfl) rfl hAw ?_ | refine Nx.so ?_ | refine Nx.sb (fun bx => ?_) | refine Nx.sa (fun A2 c2 => ?_))
              | ((with_reducible refine Nx.is_at ?_); first | refine Nx.a ?_ | refine Nx.zd ?_ | refine Nx.zs (fun hc => ?_) (fun hc => ?_))
              | ((with_reducible refine Nx.is_mix ?_); first | refine Nx.m_quiet rfl rfl rfl rfl rfl (by first | exact QRun.opr rfl | exact QRun.bin rfl rfl (run_shlK (.inl rfl) rfl hwn hpw)) ?_ | refine Nx.m_quiet_do rfl rfl rfl rfl rfl rfl rfl (by first | exact QRun.opr rfl | exact QRun.bin rfl rfl (run_shlK (.inl rfl) rfl hwn hpw)) ?_ | refine Nx.m ?_ | refine Nx.zm ?_ | refine Nx.zt (fun hc => ?_) (fun hc => ?_))
              | refine Nx.zx ?_ | fail
            exact Nx.imm_le hI1 (Nx.ret_fn rfl [] ⟨rfl, rfl⟩ (by (exact Ent.auto)))
  · clear f1 f2
    · repeat' first
        | ((with_reducible refine Nx.is_wp ?_); first | refine Nx.wo ?_ | refine Nx.p_draw (id := 9) rfl [0, 1, 2, 3, 4, 5, 6, 7, 8, 9, 10, 12, 13, 11, 14, 15, 16, 17, 18, 19] [11, 14] _ rfl rfl (by kernel_rfl) (by kernel_rfl) rfl (by repeat first | exact PanicOk.fn | refine PanicOk.then_ ?_ | refine PanicOk.inB ?_) (Ent.refl _) ?_ | refine Nx.zp (fun hc => ?_) (fun hc => ?_))
        | (refine Nx.zo ?_; first | (refine Nx.binr rfl rfl (run_booleq2 Tryz.underlying4 bf bf true (by cases bf <;> rfl)) rfl ?_) | refine Nx.opr rfl rfl ?_ | refine Nx.callv rfl rfl rfl (by kernel_rfl) rfl hS2 ?_ | (refine Nx.call (Rpre := []) rfl rfl rfl (by kernel_rfl) rfl hSet (Ent.refl _) ?_; rintro _ _ ⟨A2, c2, rfl, rfl⟩) | (refine Nx.call rfl rfl rfl (by kernel_rfl) rfl (FnSpec.keep [iR _ _ (bitsL (pw - 1) r.val.2.2.length)] fun m' I' hle hm' hv => hPr _ _ m' I' hle hm' hv) (by (exact Ent.auto)) ?_; rintro _ _ ⟨_, ⟨rfl, rfl⟩, rfl⟩) | refine Nx.callv rfl rfl rfl (by kernel_rfl) rfl hAw ?_ | refine Nx.so ?_ | refine Nx.sb (fun bx => ?_) | refine Nx.sa (fun A2 c2 => ?_))
        | ((with_reducible refine Nx.is_at ?_); first | refine Nx.a ?_ | refine Nx.zd ?_ | refine Nx.zs (fun hc => ?_) (fun hc => ?_))
        | ((with_reducible refine Nx.is_mix ?_); first | refine Nx.m_quiet rfl rfl rfl rfl rfl (by first | exact QRun.opr rfl | exact QRun.bin rfl rfl (run_shlK (.inl rfl) rfl hwn hpw)) ?_ | refine Nx.m_quiet_do rfl rfl rfl rfl rfl rfl rfl (by first | exact QRun.opr rfl | exact QRun.bin rfl rfl (run_shlK (.inl rfl) rfl hwn hpw)) ?_ | refine Nx.m ?_ | refine Nx.zm ?_ | refine Nx.zt (fun hc => ?_) (fun hc => ?_))
        | refine Nx.zx ?_ | fail
      exact Nx.imm_le hI1 (Nx.ret_fn rfl [] ⟨rfl, rfl⟩ (by (exact Ent.auto)))
end Go.Proofs.YtcmdemfhbekabaaGreat
