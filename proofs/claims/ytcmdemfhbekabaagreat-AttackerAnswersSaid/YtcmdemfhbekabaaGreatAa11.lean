/- Contracts of functions of the given program, and lemmas about plain lists and numbers: what the laws of this seat lean on. -/
import Derived.Test.YtcmdemfhbekabaaGreatAa10
namespace Go.Proofs.YtcmdemfhbekabaaGreat
open Go.Eng Go.Sol
attribute [local irreducible] opK wpList Code.wp Exit.then Exit.inBlock fnPost bodyPost Nx Calls Oper.wp Rd Rds Wr Ent Stars Blk Again Vec FnSpec wpMix QRun Stop Upto wpAt
/-! Learns -/
theorem certF_len {n : Nat} {L : List Eqn} : (certF n L).1.length ≤ n := by
  unfold certF
  split
  · exact Nat.zero_le _
  · exact Nat.le_trans (certU_len _) (touch_len n L)
set_option maxRecDepth 10000 in
set_option maxHeartbeats 16000000 in
theorem Learns_spec (A As : Option Addr) (c cs : Nat) (l : List Int) (rs : List Rel) (r : Rel) (I : PH) (hl : Ints I A c l) (hs : Sizes l) (hr : Rels I As cs rs) (hw : ∀ x ∈ rs, Viewed l x.v) (h9 : rs.length ≤ 1000) (hv : RowsOf I r.va r.vc r.v) (hd : Ints I r.val.1 r.val.2.1 r.val.2.2) (hrw : Viewed l r.v) :
    FnSpec Tryz.prog 42 [.agg #[.slice A l.length c], .slice As rs.length cs, .agg #[.int .i64 r.num, .slice r.va r.v.length r.vc, .slice r.val.1 r.val.2.2.length r.val.2.1]] I [] (fun u R' => ∃ (A' : Option Addr) (c' : Nat), u = .tuple #[.slice A' (lrnD l rs r).1.length c', .int .i64 (lrnD l rs r).2] ∧ R' = [iR A' c' (lrnD l rs r).1]) := by
  have hw2 : ∀ x ∈ rs ++ [r], Viewed l x.v := fun x hx => (List.mem_append.1 hx).elim (hw x) fun h => by rw [List.mem_singleton.1 h]; exact hrw
  have spec : ∀ A3 c3 q I', PH.le I I' → PH.le q I' → Stars [Vec 62 3 A3 (rs.length + 1) c3 (rs.flatMap relC ++ [.int .i64 r.num, .slice r.va r.v.length r.vc, .slice r.val.1 r.val.2.2.length r.val.2.1])] q → FnSpec Tryz.prog 71 [.agg #[.slice A l.length c], .slice A3 (rs.length + 1) c3] I' [] (ToldPost l (rs ++ [r])) := fun A3 c3 q I' hle hq hvq => by
    have hra := rels_app (r := r) hr hle hq hvq hv hd
    have := atold_spec A A3 c c3 l (rs ++ [r]) I' (hl.mono hle) hs hra hw2
    rw [show (rs ++ [r]).length = rs.length + 1 by rw [List.length_append]; rfl] at this
    exact this
  have hT := fun I' (hle : PH.le I I') => atold_spec A As c cs l rs I' (hl.mono hle) hs (hr.mono hle) hw
  unfold ToldPost at hT
  have hz := size_ok hs
  have hq1 := fun qs (h0 : tolE l (rs ++ [r]) = 0) => told_q (qs := qs) hs hw2 h0
  have hq2 := fun qs (h0 : tolE l rs = 0) => told_q (qs := qs) hs hw h0
  refine FnSpec.enterP Tryz.func42 rfl Tryz.ntmps42 rfl fun w F => ?_
  repeat' first
    | ((with_reducible refine Nx.is_wp ?_); first | refine Nx.p_stopr 1 rfl ?_ | refine Nx.wo ?_ | refine Nx.zp (fun hc => ?_) (fun hc => ?_))
    | (refine Nx.zo ?_; first | refine Nx.opr rfl rfl ?_ | refine Nx.so ?_ | refine Nx.sb (fun bx => ?_) | refine Nx.sa (fun A2 c2 => ?_))
    | ((with_reducible refine Nx.is_at ?_); first | refine Nx.a ?_ | refine Nx.zd ?_ | refine Nx.zs (fun hc => ?_) (fun hc => ?_))
    | ((with_reducible refine Nx.is_mix ?_); first | refine Nx.m ?_ | refine Nx.zm ?_ | refine Nx.zt (fun hc => ?_) (fun hc => ?_))
    | refine Nx.zx ?_ | fail
  refine Nx.unstop ?_
  rename_i b3
  revert bx; intro b5
  refine Nx.p_seq rfl ?_
  refine Nx.weak ?_ ?_ (learn1 A As r.va r.val.1 c cs l.length b3 b5 r.v.length r.vc r.val.2.2.length r.val.2.1 r.num rs l (rs ++ [r]) I hr.outer h9 w F _ (by repeat first | exact PanicOk.fn | refine PanicOk.then_ ?_ | refine PanicOk.inB ?_) spec ?_)
  · exact ⟨rfl, rfl, rfl, trivial⟩
  · (exact Ent.auto)
  intro Am cm qs hqs
  unfold lrnD
  by_cases h1 : tolE l (rs ++ [r]) = 0
  case neg =>
    rw [if_pos h1]
    rw [if_neg h1]
    generalize tolE l (rs ++ [r]) = er at h1
    repeat' first
      | ((with_reducible refine Nx.is_wp ?_); first | refine Nx.wo ?_ | refine Nx.zp (fun hc => ?_) (fun hc => ?_))
      | (refine Nx.zo ?_; first | refine Nx.opr rfl rfl ?_ | refine Nx.so ?_ | refine Nx.sb (fun bx => ?_) | refine Nx.sa (fun A2 c2 => ?_))
      | ((with_reducible refine Nx.is_at ?_); first | refine Nx.a ?_ | refine Nx.zd ?_ | refine Nx.zs (fun hc => ?_) (fun hc => ?_))
      | ((with_reducible refine Nx.is_mix ?_); first | refine Nx.m ?_ | refine Nx.zm ?_ | refine Nx.zt (fun hc => ?_) (fun hc => ?_))
      | refine Nx.zx ?_ | fail
    exact Nx.ret_fn rfl [_] ⟨none, 0, rfl, rfl⟩ ((Ent.vec_nil 3 1 _).trans (by (exact Ent.auto)))
  obtain ⟨hg1, ha1, he1⟩ := hq1 qs h1 (hqs h1)
  rw [if_neg (show ¬ tolE l (rs ++ [r]) ≠ 0 from fun h => h h1), if_pos h1, h1]
  refine Nx.giveE (A := Am) (c := cm) (qs := qs) (RR := [Blk b3 27 [.slice A l.length c], Blk b5 62 [.int .i64 r.num, .slice r.va r.v.length r.vc, .slice r.val.1 r.val.2.2.length r.val.2.1], F]) (by (exact Ent.auto)) fun I1 hI1 hE1 => ?_
  have hT1 := hT I1 hI1
  by_cases h2 : tolE l rs = 0
  case neg =>
    rw [if_pos h2]
    rw [if_neg h2] at hT1
    generalize tolE l rs = er at h2 hT1
    repeat' first
      | ((with_reducible refine Nx.is_wp ?_); first | refine Nx.wo ?_ | refine Nx.zp (fun hc => ?_) (fun hc => ?_))
      | (refine Nx.zo ?_; first | refine Nx.opr rfl rfl ?_ | (refine Nx.call (Rpre := []) rfl rfl rfl (by kernel_rfl) rfl hT1 (Ent.refl _) ?_; rintro _ _ ⟨Am2, cm2, qs2, rfl, -, hqs2, rfl⟩) | refine Nx.so ?_ | refine Nx.sb (fun bx => ?_) | refine Nx.sa (fun A2 c2 => ?_))
      | ((with_reducible refine Nx.is_at ?_); first | refine Nx.a ?_ | refine Nx.zd ?_ | refine Nx.zs (fun hc => ?_) (fun hc => ?_))
      | ((with_reducible refine Nx.is_mix ?_); first | refine Nx.m ?_ | refine Nx.zm ?_ | refine Nx.zt (fun hc => ?_) (fun hc => ?_))
      | refine Nx.zx ?_ | fail
    exact Nx.imm_le hI1 (Nx.ret_fn rfl [_] ⟨none, 0, rfl, rfl⟩ ((Ent.vec_nil 3 1 _).trans (by (exact Ent.auto))))
  rw [h2] at hT1
  rw [if_neg (show ¬ tolE l rs ≠ 0 from fun h => h h2)]
  rw [if_pos rfl] at hT1
  repeat' first
    | ((with_reducible refine Nx.is_wp ?_); first | refine Nx.p_stopr 7 rfl ?_ | refine Nx.wo ?_ | refine Nx.zp (fun hc => ?_) (fun hc => ?_))
    | (refine Nx.zo ?_; first | refine Nx.opr rfl rfl ?_ | (refine Nx.call (Rpre := []) rfl rfl rfl (by kernel_rfl) rfl hT1 (Ent.refl _) ?_; rintro _ _ ⟨Am2, cm2, qs2, rfl, hqs2, -, rfl⟩) | refine Nx.so ?_ | refine Nx.sb (fun bx => ?_) | refine Nx.sa (fun A2 c2 => ?_))
    | ((with_reducible refine Nx.is_at ?_); first | refine Nx.a ?_ | refine Nx.zd ?_ | refine Nx.zs (fun hc => ?_) (fun hc => ?_))
    | ((with_reducible refine Nx.is_mix ?_); first | refine Nx.m ?_ | refine Nx.zm ?_ | refine Nx.zt (fun hc => ?_) (fun hc => ?_))
    | refine Nx.zx ?_ | fail
  refine Nx.unstop ?_
  obtain ⟨hg2, ha2, he2⟩ := hq2 qs2 h2 (hqs2 rfl)
  refine Nx.giveE (A := Am2) (c := cm2) (qs := qs2) (RR := [F]) (by (exact Ent.auto)) fun I2 hI2 hE2 => ?_
  have hC1 := certain_spec Am cm qs (prod l).toNat I2 (hE1.mono hI2) hg1 hz.1 (by omega) (by omega)
  have hC2 := fun I' (hle : PH.le I2 I') => certain_spec Am2 cm2 qs2 (prod l).toNat I' (hE2.mono hle) hg2 hz.1 (by omega) (by omega)
  rw [he1, hz.2.2] at hC1
  rw [he2, hz.2.2] at hC2
  unfold cerD
  rw [if_pos h1, if_pos h2]
  have hlb := certF_len (n := (prod l).toNat) (L := eqns (qsOf l (rs ++ [r])))
  have hn48 := hz.2.1
  generalize certF (prod l).toNat (eqns (qsOf l (rs ++ [r]))) = fb at hC1 hlb
  generalize certF (prod l).toNat (eqns (qsOf l rs)) = fa at hC2
  generalize (prod l).toNat = N at hlb hn48
  obtain ⟨xb, eb⟩ := fb
  obtain ⟨xa, ea⟩ := fa
  dsimp only at hC1 hC2 hlb
  dsimp only
  by_cases h3 : eb = 0
  case neg =>
    rw [if_pos h3]
    repeat' first
      | ((with_reducible refine Nx.is_wp ?_); first | refine Nx.wo ?_ | refine Nx.zp (fun hc => ?_) (fun hc => ?_))
      | (refine Nx.zo ?_; first | refine Nx.opr rfl rfl ?_ | (refine Nx.call (Rpre := []) rfl rfl rfl (by kernel_rfl) rfl hC1 (Ent.refl _) ?_; rintro _ _ ⟨A13, c13, rfl, rfl⟩) | refine Nx.so ?_ | refine Nx.sb (fun bx => ?_) | refine Nx.sa (fun A2 c2 => ?_))
      | ((with_reducible refine Nx.is_at ?_); first | refine Nx.a ?_ | refine Nx.zd ?_ | refine Nx.zs (fun hc => ?_) (fun hc => ?_))
      | ((with_reducible refine Nx.is_mix ?_); first | refine Nx.m ?_ | refine Nx.zm ?_ | refine Nx.zt (fun hc => ?_) (fun hc => ?_))
      | refine Nx.zx ?_ | fail
    exact Nx.imm_le (hI1.trans hI2) (Nx.ret_fn rfl [_] ⟨none, 0, rfl, rfl⟩ ((Ent.vec_nil 3 1 _).trans (by (exact Ent.auto))))
  subst h3
  rw [if_neg (show ¬ (0 : Int) ≠ 0 from fun h => h rfl)]
  by_cases h4 : ea = 0
  case neg =>
    rw [if_pos h4]
    repeat' first
      | ((with_reducible refine Nx.is_wp ?_); first | refine Nx.wo ?_ | refine Nx.zp (fun hc => ?_) (fun hc => ?_))
      | (refine Nx.zo ?_; first | refine Nx.opr rfl rfl ?_ | (refine Nx.call (Rpre := []) rfl rfl rfl (by kernel_rfl) rfl hC1 (Ent.refl _) ?_; rintro _ _ ⟨A13, c13, rfl, rfl⟩) | (refine Nx.call (Rpre := []) rfl rfl rfl (by kernel_rfl) rfl (hC2 I2 (PH.le_refl _)) (Ent.refl _) ?_; rintro _ _ ⟨A12, c12, rfl, rfl⟩) | refine Nx.so ?_ | refine Nx.sb (fun bx => ?_) | refine Nx.sa (fun A2 c2 => ?_))
      | ((with_reducible refine Nx.is_at ?_); first | refine Nx.a ?_ | refine Nx.zd ?_ | refine Nx.zs (fun hc => ?_) (fun hc => ?_))
      | ((with_reducible refine Nx.is_mix ?_); first | refine Nx.m ?_ | refine Nx.zm ?_ | refine Nx.zt (fun hc => ?_) (fun hc => ?_))
      | refine Nx.zx ?_ | fail
    exact Nx.imm_le (hI1.trans hI2) (Nx.ret_fn rfl [_] ⟨none, 0, rfl, rfl⟩ ((Ent.vec_nil 3 1 _).trans (by (exact Ent.auto))))
  subst h4
  rw [if_neg (show ¬ (0 : Int) ≠ 0 from fun h => h rfl)]
  repeat' first
    | ((with_reducible refine Nx.is_wp ?_); first | refine Nx.p_stopr 13 rfl ?_ | refine Nx.wo ?_ | refine Nx.zp (fun hc => ?_) (fun hc => ?_))
    | (refine Nx.zo ?_; first | refine Nx.opr rfl rfl ?_ | (refine Nx.call (Rpre := []) rfl rfl rfl (by kernel_rfl) rfl hC1 (Ent.refl _) ?_; rintro _ _ ⟨A13, c13, rfl, rfl⟩) | (refine Nx.call (Rpre := []) rfl rfl rfl (by kernel_rfl) rfl (hC2 I2 (PH.le_refl _)) (Ent.refl _) ?_; rintro _ _ ⟨A12, c12, rfl, rfl⟩) | refine Nx.so ?_ | refine Nx.sb (fun bx => ?_) | refine Nx.sa (fun A2 c2 => ?_))
    | ((with_reducible refine Nx.is_at ?_); first | refine Nx.a ?_ | refine Nx.zd ?_ | refine Nx.zs (fun hc => ?_) (fun hc => ?_))
    | ((with_reducible refine Nx.is_mix ?_); first | refine Nx.m ?_ | refine Nx.zm ?_ | refine Nx.zt (fun hc => ?_) (fun hc => ?_))
    | refine Nx.zx ?_ | fail
  refine Nx.unstop ?_
  revert bx; intro b14
  refine Nx.ent (R' := [iR A12 c12 xa, Blk b14 25 [.slice A12 xa.length c12], iR A13 c13 xb, F]) (by (exact Ent.auto)) ?_
  refine Nx.freezeAt 0 rfl fun I3 m3 hI3 hm3 h3 => ?_
  refine Nx.freezeAt 0 rfl fun I4 m4 hI4 hm4 h4 => ?_
  have hxa : Ints I4 A12 c12 xa := (Vec.sliceOf hm3 h3).mono hI4
  have hD := DeleteFI_spec 93 [.pointer (some ⟨b14, 0, none⟩)] (fun x => decide (x ∈ xa)) A13 c13 xb I4 (by kernel_rfl) (by omega) fun I' hI' x => known_spec b14 A12 c12 xa I' (fun _ _ => Rd.imm (cellH_mono (hm4.trans hI') (Blk.cell h4 rfl))) (hxa.mono hI') x
  repeat' first
    | ((with_reducible refine Nx.is_wp ?_); first | refine Nx.wo ?_ | refine Nx.zp (fun hc => ?_) (fun hc => ?_))
    | (refine Nx.zo ?_; first | refine Nx.opr rfl rfl ?_ | (refine Nx.call rfl rfl rfl (by kernel_rfl) rfl hD (by (exact Ent.auto)) ?_; rintro _ _ ⟨rfl, rfl⟩) | refine Nx.so ?_ | refine Nx.sb (fun bx => ?_) | refine Nx.sa (fun A2 c2 => ?_))
    | ((with_reducible refine Nx.is_at ?_); first | refine Nx.a ?_ | refine Nx.zd ?_ | refine Nx.zs (fun hc => ?_) (fun hc => ?_))
    | ((with_reducible refine Nx.is_mix ?_); first | refine Nx.m ?_ | refine Nx.zm ?_ | refine Nx.zt (fun hc => ?_) (fun hc => ?_))
    | refine Nx.zx ?_ | fail
  exact Nx.imm_le (((hI1.trans hI2).trans hI3).trans hI4) (Nx.ret_fn rfl [_] ⟨A13, c13, rfl, rfl⟩ (by (exact Ent.auto)))
end Go.Proofs.YtcmdemfhbekabaaGreat
/- Contracts of functions of the given program, and lemmas about plain lists and numbers: what the laws of this seat lean on. -/
namespace Go.Proofs.YtcmdemfhbekabaaGreat
open Go.Eng Go.Sol
attribute [local irreducible] opK wpList Code.wp Exit.then Exit.inBlock fnPost bodyPost Nx Calls Oper.wp Rd Rds Wr Ent Stars Blk Again Vec FnSpec wpMix QRun Stop Upto wpAt
attribute [local irreducible] wpFork
/-! The reference's Learns: a release behind others (written by mkV25.py) -/
set_option maxRecDepth 10000 in
set_option maxHeartbeats 8000000 in
theorem rlearn1 (B As va D : Option Addr) (c' ca sn b3 b5 vn vc dn cd : Nat) (num : Int) (es : List Rel) (I : PH) (hes : SliceN relC 3 I As ca es) (h9 : es.length ≤ 1000) (w : World) (F : Res) (Q : Exit → Act → World → Prop) (hQ : PanicOk Q)
    (h : ∀ (A3 : Option Addr) (c3 : Nat), Nx ⟨Tryz.prog, 82, w⟩ [(8, .slice A3 (es.length + 1) c3), (1, .slice As es.length ca), (3, .pointer (some ⟨b3, 0, none⟩)), (5, .pointer (some ⟨b5, 0, none⟩))] I [Vec 62 3 A3 (es.length + 1) c3 (es.flatMap relC ++ [.int .i64 num, .slice va vn vc, .slice D dn cd]), Blk b3 27 [.slice B sn c'], Blk b5 62 [.int .i64 num, .slice va vn vc, .slice D dn cd], F] (Q .normal)) :
    Nx ⟨Tryz.prog, 82, w⟩ [(1, .slice As es.length ca), (3, .pointer (some ⟨b3, 0, none⟩)), (5, .pointer (some ⟨b5, 0, none⟩))] I [Blk b3 27 [.slice B sn c'], Blk b5 62 [.int .i64 num, .slice va vn vc, .slice D dn cd], F] (Code.wp Tryz.prog (cl (cr (bodyOf Tryz.f43))) Q) := by
  have hcap := hes.cap
  refine Nx.p_fork (id := 1) rfl [1, 3] [6] [0, 2, 4, 5] [Blk b3 27 [.slice B sn c'], Blk b5 62 [.int .i64 num, .slice va vn vc, .slice D dn cd]] 5 rfl rfl (by kernel_rfl) (by kernel_rfl) (by kernel_rfl) hQ (by (exact Ent.auto)) ?_
  repeat' first
    | ((with_reducible refine Nx.is_wp ?_); first | refine Nx.wo ?_ | refine Nx.zp (fun hc => ?_) (fun hc => ?_))
    | (refine Nx.zo ?_; first | refine Nx.opr rfl rfl ?_ | refine Nx.so ?_ | refine Nx.sb (fun bx => ?_) | refine Nx.sa (fun A2 c2 => ?_))
    | ((with_reducible refine Nx.is_at ?_); first | refine Nx.a ?_ | refine Nx.zd ?_ | refine Nx.zs (fun hc => ?_) (fun hc => ?_))
    | ((with_reducible refine Nx.is_mix ?_); first | refine Nx.m ?_ | refine Nx.zm ?_ | refine Nx.zt (fun hc => ?_) (fun hc => ?_))
    | refine Nx.zx ?_ | fail
  refine Nx.fork2 (i := 0) (j := 4) (by kernel_rfl) rfl rfl rfl rfl ?_ ?_
  · refine Nx.sb (fun b1 => ?_)
    refine Nx.mix_S (by (exact Ent.auto)) ?_
    refine Nx.fork2 (i := 2) (j := 4) (by kernel_rfl) rfl rfl rfl rfl ?_ ?_
    · refine Nx.blk_vec 0 0 3 rfl rfl (by omega) ?_
      refine Nx.append rfl rfl rfl rfl (by kernel_rfl) rfl (Src.arr hes.arr (flat_len relC_len es) (by omega) (rel_one es)) (by omega) fun A2 c2 => ?_
      rw [Nat.zero_add, List.nil_append]
      refine Nx.mix_S (by (exact Ent.auto)) ?_
      refine Nx.fork1 (i := 4) (by kernel_rfl) rfl rfl ?_
      refine Nx.sb (fun b4 => ?_)
      refine Nx.mix_S (by (exact Ent.auto)) ?_
      refine Nx.fork1 (i := 5) (by kernel_rfl) rfl rfl ?_
      refine Nx.ent (R' := [Blk b4 62 [.int .i64 num, .slice va vn vc, .slice D dn cd], Vec 62 3 A2 es.length c2 (es.flatMap relC), Blk b3 27 [.slice B sn c'], Blk b5 62 [.int .i64 num, .slice va vn vc, .slice D dn cd], F]) (by (exact Ent.auto)) ?_
      refine Nx.append_lit 0 rfl rfl rfl rfl (by kernel_rfl) rfl rfl rfl rfl (by omega) fun A3 c3 => ?_
      refine Nx.mix_S (by (exact Ent.auto)) ?_
      refine Nx.fork_fin (by kernel_rfl) rfl ?_
      repeat' first
        | ((with_reducible refine Nx.is_wp ?_); first | refine Nx.wo ?_ | refine Nx.zp (fun hc => ?_) (fun hc => ?_))
        | (refine Nx.zo ?_; first | refine Nx.opr rfl rfl ?_ | refine Nx.so ?_ | refine Nx.sb (fun bx => ?_) | refine Nx.sa (fun A2 c2 => ?_))
        | ((with_reducible refine Nx.is_at ?_); first | refine Nx.a ?_ | refine Nx.zd ?_ | refine Nx.zs (fun hc => ?_) (fun hc => ?_))
        | ((with_reducible refine Nx.is_mix ?_); first | refine Nx.m ?_ | refine Nx.zm ?_ | refine Nx.zt (fun hc => ?_) (fun hc => ?_))
        | refine Nx.zx ?_ | fail
      refine Nx.weak ?_ ?_ (h A3 c3)
      · exact ⟨rfl, rfl, rfl, rfl, trivial⟩
      · (exact Ent.auto)
    · refine Nx.sb (fun b4 => ?_)
      refine Nx.mix_S (by (exact Ent.auto)) ?_
      refine Nx.fork1 (i := 2) (by kernel_rfl) rfl rfl ?_
      refine Nx.blk_vec 1 0 3 rfl rfl (by omega) ?_
      refine Nx.append rfl rfl rfl rfl (by kernel_rfl) rfl (Src.arr hes.arr (flat_len relC_len es) (by omega) (rel_one es)) (by omega) fun A2 c2 => ?_
      rw [Nat.zero_add, List.nil_append]
      refine Nx.mix_S (by (exact Ent.auto)) ?_
      refine Nx.fork1 (i := 5) (by kernel_rfl) rfl rfl ?_
      refine Nx.ent (R' := [Blk b4 62 [.int .i64 num, .slice va vn vc, .slice D dn cd], Vec 62 3 A2 es.length c2 (es.flatMap relC), Blk b3 27 [.slice B sn c'], Blk b5 62 [.int .i64 num, .slice va vn vc, .slice D dn cd], F]) (by (exact Ent.auto)) ?_
      refine Nx.append_lit 0 rfl rfl rfl rfl (by kernel_rfl) rfl rfl rfl rfl (by omega) fun A3 c3 => ?_
      refine Nx.mix_S (by (exact Ent.auto)) ?_
      refine Nx.fork_fin (by kernel_rfl) rfl ?_
      repeat' first
        | ((with_reducible refine Nx.is_wp ?_); first | refine Nx.wo ?_ | refine Nx.zp (fun hc => ?_) (fun hc => ?_))
        | (refine Nx.zo ?_; first | refine Nx.opr rfl rfl ?_ | refine Nx.so ?_ | refine Nx.sb (fun bx => ?_) | refine Nx.sa (fun A2 c2 => ?_))
        | ((with_reducible refine Nx.is_at ?_); first | refine Nx.a ?_ | refine Nx.zd ?_ | refine Nx.zs (fun hc => ?_) (fun hc => ?_))
        | ((with_reducible refine Nx.is_mix ?_); first | refine Nx.m ?_ | refine Nx.zm ?_ | refine Nx.zt (fun hc => ?_) (fun hc => ?_))
        | refine Nx.zx ?_ | fail
      refine Nx.weak ?_ ?_ (h A3 c3)
      · exact ⟨rfl, rfl, rfl, rfl, trivial⟩
      · (exact Ent.auto)
  · refine Nx.sb (fun b4 => ?_)
    refine Nx.mix_S (by (exact Ent.auto)) ?_
    refine Nx.fork1 (i := 0) (by kernel_rfl) rfl rfl ?_
    refine Nx.sb (fun b1 => ?_)
    refine Nx.mix_S (by (exact Ent.auto)) ?_
    refine Nx.fork1 (i := 2) (by kernel_rfl) rfl rfl ?_
    refine Nx.blk_vec 0 0 3 rfl rfl (by omega) ?_
    refine Nx.append rfl rfl rfl rfl (by kernel_rfl) rfl (Src.arr hes.arr (flat_len relC_len es) (by omega) (rel_one es)) (by omega) fun A2 c2 => ?_
    rw [Nat.zero_add, List.nil_append]
    refine Nx.mix_S (by (exact Ent.auto)) ?_
    refine Nx.fork1 (i := 5) (by kernel_rfl) rfl rfl ?_
    refine Nx.ent (R' := [Blk b4 62 [.int .i64 num, .slice va vn vc, .slice D dn cd], Vec 62 3 A2 es.length c2 (es.flatMap relC), Blk b3 27 [.slice B sn c'], Blk b5 62 [.int .i64 num, .slice va vn vc, .slice D dn cd], F]) (by (exact Ent.auto)) ?_
    refine Nx.append_lit 0 rfl rfl rfl rfl (by kernel_rfl) rfl rfl rfl rfl (by omega) fun A3 c3 => ?_
    refine Nx.mix_S (by (exact Ent.auto)) ?_
    refine Nx.fork_fin (by kernel_rfl) rfl ?_
    repeat' first
      | ((with_reducible refine Nx.is_wp ?_); first | refine Nx.wo ?_ | refine Nx.zp (fun hc => ?_) (fun hc => ?_))
      | (refine Nx.zo ?_; first | refine Nx.opr rfl rfl ?_ | refine Nx.so ?_ | refine Nx.sb (fun bx => ?_) | refine Nx.sa (fun A2 c2 => ?_))
      | ((with_reducible refine Nx.is_at ?_); first | refine Nx.a ?_ | refine Nx.zd ?_ | refine Nx.zs (fun hc => ?_) (fun hc => ?_))
      | ((with_reducible refine Nx.is_mix ?_); first | refine Nx.m ?_ | refine Nx.zm ?_ | refine Nx.zt (fun hc => ?_) (fun hc => ?_))
      | refine Nx.zx ?_ | fail
    refine Nx.weak ?_ ?_ (h A3 c3)
    · exact ⟨rfl, rfl, rfl, rfl, trivial⟩
    · (exact Ent.auto)
end Go.Proofs.YtcmdemfhbekabaaGreat
/- Contracts of functions of the given program, and lemmas about plain lists and numbers: what the laws of this seat lean on. -/
namespace Go.Proofs.YtcmdemfhbekabaaGreat
open Go.Eng Go.Sol
attribute [local irreducible] opK wpList Code.wp Exit.then Exit.inBlock fnPost bodyPost Nx Calls Oper.wp Rd Rds Wr Ent Stars Blk Again Vec FnSpec wpMix QRun Stop Upto wpAt
/-! The reference's Learns -/
def butL (a b : List Int) : List Int := b.filter fun x => !decide (x ∈ a)
theorem but_snoc {a b : List Int} {k : Nat} (hk : k < b.length) : butL a (b.take (k + 1)) = butL a (b.take k) ++ if b.getD k default ∈ a then [] else [b.getD k default] := by
  unfold butL
  rw [List.take_succ_eq_append_getElem hk, List.filter_append, gx_at hk]
  congr 1
  by_cases h : b[k] ∈ a
  · rw [if_pos h, List.filter_cons_of_neg (by rw [decide_eq_true h]; decide)]; rfl
  · rw [if_neg h, List.filter_cons_of_pos (by rw [decide_eq_false h]; rfl)]; rfl
theorem but_len (a b : List Int) : (butL a b).length ≤ b.length := List.length_filter_le _ _
set_option maxRecDepth 10000 in
set_option maxHeartbeats 32000000 in
theorem RLearns_spec (A As : Option Addr) (c cs : Nat) (l : List Int) (rs : List Rel) (r : Rel) (I : PH) (hl : Ints I A c l) (hs : Sizes l) (hr : Rels I As cs rs) (hw : ∀ x ∈ rs, Viewed l x.v) (h9 : rs.length ≤ 1000) (hv : RowsOf I r.va r.vc r.v) (hd : Ints I r.val.1 r.val.2.1 r.val.2.2) (hrw : Viewed l r.v) :
    FnSpec Tryz.prog 43 [.agg #[.slice A l.length c], .slice As rs.length cs, .agg #[.int .i64 r.num, .slice r.va r.v.length r.vc, .slice r.val.1 r.val.2.2.length r.val.2.1]] I [] (fun u R' => ∃ (A' : Option Addr) (c' : Nat), u = .tuple #[.slice A' (lrnD l rs r).1.length c', .int .i64 (lrnD l rs r).2] ∧ R' = [iR A' c' (lrnD l rs r).1]) := by
  have hw2 : ∀ x ∈ rs ++ [r], Viewed l x.v := fun x hx => (List.mem_append.1 hx).elim (hw x) fun h => by rw [List.mem_singleton.1 h]; exact hrw
  have hl1 : (rs ++ [r]).length = rs.length + 1 := by rw [List.length_append]; rfl
  have hf1 := fun h0 => tol_few (rs := rs ++ [r]) hs hw2 h0
  have hf0 := fun h0 => tol_few (rs := rs) hs hw h0
  refine FnSpec.enterP Tryz.func43 rfl Tryz.ntmps43 rfl fun w F => ?_
  repeat' first
    | ((with_reducible refine Nx.is_wp ?_); first | refine Nx.p_stopr 1 rfl ?_ | refine Nx.wo ?_ | refine Nx.zp (fun hc => ?_) (fun hc => ?_))
    | (refine Nx.zo ?_; first | refine Nx.opr rfl rfl ?_ | refine Nx.so ?_ | refine Nx.sb (fun bx => ?_) | refine Nx.sa (fun A2 c2 => ?_))
    | ((with_reducible refine Nx.is_at ?_); first | refine Nx.a ?_ | refine Nx.zd ?_ | refine Nx.zs (fun hc => ?_) (fun hc => ?_))
    | ((with_reducible refine Nx.is_mix ?_); first | refine Nx.m ?_ | refine Nx.zm ?_ | refine Nx.zt (fun hc => ?_) (fun hc => ?_))
    | refine Nx.zx ?_ | fail
  refine Nx.unstop ?_
  rename_i b3
  revert bx; intro b5
  refine Nx.p_seq rfl ?_
  refine Nx.weak ?_ ?_ (rlearn1 A As r.va r.val.1 c cs l.length b3 b5 r.v.length r.vc r.val.2.2.length r.val.2.1 r.num rs I hr.outer h9 w F _ (by repeat first | exact PanicOk.fn | refine PanicOk.then_ ?_ | refine PanicOk.inB ?_) ?_)
  · exact ⟨rfl, rfl, rfl, trivial⟩
  · (exact Ent.auto)
  intro A3 c3
  refine Nx.ent (R' := [Stars [Vec 62 3 A3 (rs.length + 1) c3 (rs.flatMap relC ++ [.int .i64 r.num, .slice r.va r.v.length r.vc, .slice r.val.1 r.val.2.2.length r.val.2.1])], Blk b3 27 [.slice A l.length c], F]) (Ent.trans (R' := [Vec 62 3 A3 (rs.length + 1) c3 (rs.flatMap relC ++ [.int .i64 r.num, .slice r.va r.v.length r.vc, .slice r.val.1 r.val.2.2.length r.val.2.1])] ++ [Blk b3 27 [.slice A l.length c], F]) (by (exact Ent.auto)) Ent.stars) ?_
  refine Nx.freezeAt 0 rfl fun I1 m1 hI1 hm1 h1 => ?_
  have hra := rels_app (r := r) hr hI1 hm1 h1 hv hd
  have hT1 := rtables_spec A A3 c c3 l (rs ++ [r]) 65536 (by decide) I1 (hl.mono hI1) hs hra hw2
  have hT0 := fun I' (hle : PH.le I1 I') => rtables_spec A As c cs l rs 65536 (by decide) I' (hl.mono (hI1.trans hle)) hs (hr.mono (hI1.trans hle)) hw
  have hU1 := fun I' (hle : PH.le I1 I') (h0 : tolE l (rs ++ [r]) = 0) => rtouched_spec A A3 c c3 l (rs ++ [r]) I' (hl.mono (hI1.trans hle)) hs (hra.mono hle) hw2 (tolE_ok h0).1
  have hU0 := fun I' (hle : PH.le I1 I') (h0 : tolE l rs = 0) => rtouched_spec A As c cs l rs I' (hl.mono (hI1.trans hle)) hs (hr.mono (hI1.trans hle)) hw (tolE_ok h0).1
  rw [hl1] at hT1 hU1
  unfold RTabs at hT1 hT0
  rw [show ((65536 : Nat) : Int) = 65536 from rfl] at hT1 hT0
  unfold lrnD
  by_cases h1 : tolE l (rs ++ [r]) = 0
  case neg =>
    rw [if_pos h1]
    rw [if_neg h1] at hT1
    generalize tolE l (rs ++ [r]) = er at h1 hT1
    repeat' first
      | ((with_reducible refine Nx.is_wp ?_); first | refine Nx.wo ?_ | refine Nx.zp (fun hc => ?_) (fun hc => ?_))
      | (refine Nx.zo ?_; first | refine Nx.opr rfl rfl ?_ | (refine Nx.call (Rpre := []) rfl rfl rfl (by kernel_rfl) rfl hT1 (Ent.refl _) ?_; rintro _ _ ⟨A9, c9, o, rfl, ho, rfl⟩) | refine Nx.so ?_ | refine Nx.sb (fun bx => ?_) | refine Nx.sa (fun A2 c2 => ?_))
      | ((with_reducible refine Nx.is_at ?_); first | refine Nx.a ?_ | refine Nx.zd ?_ | refine Nx.zs (fun hc => ?_) (fun hc => ?_))
      | ((with_reducible refine Nx.is_mix ?_); first | refine Nx.m ?_ | refine Nx.zm ?_ | refine Nx.zt (fun hc => ?_) (fun hc => ?_))
      | refine Nx.zx ?_ | fail
    exact Nx.imm_le hI1 (Nx.ret_fn rfl [_] ⟨none, 0, rfl, rfl⟩ ((Ent.vec_nil 3 1 _).trans (by (exact Ent.auto))))
  obtain ⟨hg1, hfe1, h91, hsl1, hUn1, hU91⟩ := hf1 h1
  rw [if_neg (show ¬ tolE l (rs ++ [r]) ≠ 0 from fun h => h h1)]
  rw [if_pos h1, h1, hfe1] at hT1
  have hne01 := fun hne => sols_less_ne (l := l) (rs := rs) (r := r) hg1 hne
  have hU1 := fun I' hle => hU1 I' hle h1
  have hc1 : cerD l (rs ++ [r]) = certF (prod l).toNat (eqns (qsOf l (rs ++ [r]))) := by unfold cerD; rw [if_pos h1]
  by_cases h2 : tolE l rs = 0
  case neg =>
    rw [if_pos h2]
    have hT0 := hT0 I1 (PH.le_refl _)
    rw [if_neg h2] at hT0
    generalize tolE l rs = er at h2 hT0
    repeat' first
      | ((with_reducible refine Nx.is_wp ?_); first | refine Nx.wo ?_ | refine Nx.zp (fun hc => ?_) (fun hc => ?_))
      | (refine Nx.zo ?_; first | refine Nx.opr rfl rfl ?_ | (refine Nx.call (Rpre := []) rfl rfl rfl (by kernel_rfl) rfl hT1 (Ent.refl _) ?_; rintro _ _ ⟨A9, c9, o, rfl, ho, rfl⟩) | (refine Nx.call (Rpre := []) rfl rfl rfl (by kernel_rfl) rfl hT0 (Ent.refl _) ?_; rintro _ _ ⟨A8, c8, o8, rfl, ho8, rfl⟩) | refine Nx.so ?_ | refine Nx.sb (fun bx => ?_) | refine Nx.sa (fun A2 c2 => ?_))
      | ((with_reducible refine Nx.is_at ?_); first | refine Nx.a ?_ | refine Nx.zd ?_ | refine Nx.zs (fun hc => ?_) (fun hc => ?_))
      | ((with_reducible refine Nx.is_mix ?_); first | refine Nx.m ?_ | refine Nx.zm ?_ | refine Nx.zt (fun hc => ?_) (fun hc => ?_))
      | refine Nx.zx ?_ | fail
    exact Nx.imm_le hI1 (Nx.ret_fn rfl [_] ⟨none, 0, rfl, rfl⟩ ((Ent.vec_nil 3 1 _).trans (by (exact Ent.auto))))
  obtain ⟨hg0, hfe0, h90, hsl0, hUn0, hU90⟩ := hf0 h2
  rw [if_neg (show ¬ tolE l rs ≠ 0 from fun h => h h2)]
  rw [if_pos h2, h2, hfe0] at hT0
  have hU0 := fun I' hle => hU0 I' hle h2
  have hc0 : cerD l rs = certF (prod l).toNat (eqns (qsOf l rs)) := by unfold cerD; rw [if_pos h2]
  rw [hc1, hc0]
  unfold certF certL
  have hci1 := fun hne => certS_is (n := (prod l).toNat) (L := eqns (qsOf l (rs ++ [r]))) hne (touch (prod l).toNat (eqns (qsOf l (rs ++ [r]))))
  have hci0 := fun hne => certS_is (n := (prod l).toNat) (L := eqns (qsOf l rs)) hne (touch (prod l).toNat (eqns (qsOf l rs)))
  clear hf1 hf0 hg1 hg0 hfe1 hfe0 hc1 hc0
  generalize (prod l).toNat = n at *
  generalize eqns (qsOf l (rs ++ [r])) = L1 at *
  generalize eqns (qsOf l rs) = L0 at *
  by_cases hne1 : solsOf n L1 = []
  · rw [hne1] at hT1
    rw [if_pos hne1, if_pos (by decide)]
    have hT0 := hT0 I1 (PH.le_refl _)
    repeat' first
      | ((with_reducible refine Nx.is_wp ?_); first | refine Nx.wo ?_ | refine Nx.zp (fun hc => ?_) (fun hc => ?_))
      | (refine Nx.zo ?_; first | refine Nx.opr rfl rfl ?_ | (refine Nx.call (Rpre := []) rfl rfl rfl (by kernel_rfl) rfl hT1 (Ent.refl _) ?_; rintro _ _ ⟨A9, c9, o, rfl, ho, rfl⟩; obtain rfl := map_nil ho) | (refine Nx.call (Rpre := []) rfl rfl rfl (by kernel_rfl) rfl hT0 (Ent.refl _) ?_; rintro _ _ ⟨A8, c8, o8, rfl, ho8, rfl⟩) | refine Nx.so ?_ | refine Nx.sb (fun bx => ?_) | refine Nx.sa (fun A2 c2 => ?_))
      | ((with_reducible refine Nx.is_at ?_); first | refine Nx.a ?_ | refine Nx.zd ?_ | refine Nx.zs (fun hc => ?_) (fun hc => ?_))
      | ((with_reducible refine Nx.is_mix ?_); first | refine Nx.m ?_ | refine Nx.zm ?_ | refine Nx.zt (fun hc => ?_) (fun hc => ?_))
      | refine Nx.zx ?_ | fail
    exact Nx.imm_le hI1 (Nx.ret_fn rfl [_] ⟨none, 0, rfl, rfl⟩ ((Ent.vec_nil 3 1 _).trans (by (exact Ent.auto))))
  have hne0 := hne01 hne1
  rw [if_neg hne1, if_neg hne0]
  rw [if_neg (fun h => h rfl), if_neg (fun h => h rfl)]
  have hci1 := hci1 hne1
  have hci0 := hci0 hne0
  have hp1 : 0 < (solsOf n L1).length := List.length_pos_iff.2 hne1
  have hp0 : 0 < (solsOf n L0).length := List.length_pos_iff.2 hne0
  have hxl := certU_len (n := n) (L := L1) (touch n L1)
  clear hne01
  generalize touch n L1 = U1 at *
  generalize touch n L0 = U0 at *
  show Nx _ _ _ _ _
  have hbut : ((certU n L1 U1).filter fun x => !decide (x ∈ certU n L0 U0)) = butL (certU n L0 U0) (certU n L1 U1) := rfl
  rw [hbut]
  clear hbut
  generalize certU n L1 U1 = xb at *
  generalize certU n L0 U0 = xa at *
  generalize solsOf n L1 = S1 at *
  generalize solsOf n L0 = S0 at *
  repeat' first
    | ((with_reducible refine Nx.is_wp ?_); first | refine Nx.p_stopr 3 rfl ?_ | refine Nx.wo ?_ | refine Nx.zp (fun hc => ?_) (fun hc => ?_))
    | (refine Nx.zo ?_; first | refine Nx.opr rfl rfl ?_ | (refine Nx.call (Rpre := []) rfl rfl rfl (by kernel_rfl) rfl hT1 (Ent.refl _) ?_; rintro _ _ ⟨A9, c9, o, rfl, ho, rfl⟩) | refine Nx.so ?_ | refine Nx.sb (fun bx => ?_) | refine Nx.sa (fun A2 c2 => ?_))
    | ((with_reducible refine Nx.is_at ?_); first | refine Nx.a ?_ | refine Nx.zd ?_ | refine Nx.zs (fun hc => ?_) (fun hc => ?_))
    | ((with_reducible refine Nx.is_mix ?_); first | refine Nx.m ?_ | refine Nx.zm ?_ | refine Nx.zt (fun hc => ?_) (fun hc => ?_))
    | refine Nx.zx ?_ | fail
  refine Nx.unstop ?_
  refine Nx.giveRows (A := A9) (c := c9) (o := o) (RR := [Blk b3 27 [.slice A l.length c], F]) (by refine Ent.trans (R' := rowsR A9 c9 o ++ [Blk b3 27 [.slice A l.length c], F]) ?_ Ent.stars; (exact Ent.auto)) fun I2 hI2 hro => ?_
  have hTb1 := tabs_of hro ho hsl1
  have hso1 := hTb1.size
  repeat' first
    | ((with_reducible refine Nx.is_wp ?_); first | refine Nx.p_stopr 6 rfl ?_ | refine Nx.wo ?_ | refine Nx.zp (fun hc => ?_) (fun hc => ?_))
    | (refine Nx.zo ?_; first | refine Nx.opr rfl rfl ?_ | (refine Nx.call (Rpre := []) rfl rfl rfl (by kernel_rfl) rfl (hT0 I2 hI2) (Ent.refl _) ?_; rintro _ _ ⟨A8, c8, o8, rfl, ho8, rfl⟩) | refine Nx.so ?_ | refine Nx.sb (fun bx => ?_) | refine Nx.sa (fun A2 c2 => ?_))
    | ((with_reducible refine Nx.is_at ?_); first | refine Nx.a ?_ | refine Nx.zd ?_ | refine Nx.zs (fun hc => ?_) (fun hc => ?_))
    | ((with_reducible refine Nx.is_mix ?_); first | refine Nx.m ?_ | refine Nx.zm ?_ | refine Nx.zt (fun hc => ?_) (fun hc => ?_))
    | refine Nx.zx ?_ | fail
  refine Nx.unstop ?_
  refine Nx.giveRows (A := A8) (c := c8) (o := o8) (RR := [Blk b3 27 [.slice A l.length c], F]) (by refine Ent.trans (R' := rowsR A8 c8 o8 ++ [Blk b3 27 [.slice A l.length c], F]) ?_ Ent.stars; (exact Ent.auto)) fun I3 hI3 hro8 => ?_
  have hTb0 := tabs_of hro8 ho8 hsl0
  have hso0 := hTb0.size
  replace hTb1 := hTb1.mono hI3
  have hle3 := hI2.trans hI3
  have hCe0 := fun (A6 : Option Addr) (c6 : Nat) (m I' : PH) (hle : PH.le I3 I') (hm : PH.le m I') (hv : Stars [iR A6 c6 (natI U0)] m) => (by
    obtain ⟨q1, z1, y1⟩ := Stars.get 0 hv rfl
    have := rcertain_spec A8 A6 c8 c6 n S0 o8 U0 I' (hTb0.mono hle) (by omega) (Vec.sliceOf (z1.trans hm) y1) hUn0 (by omega)
    rw [hci0] at this
    exact this :
    FnSpec Tryz.prog 91 [.slice A8 o8.length c8, .slice A6 U0.length c6] I' [] (fun v R' => ∃ (A' : Option Addr) (c' : Nat), v = .slice A' xa.length c' ∧ R' = [iR A' c' xa]))
  repeat' first
    | ((with_reducible refine Nx.is_wp ?_); first | refine Nx.p_stopr 11 rfl ?_ | refine Nx.wo ?_ | refine Nx.zp (fun hc => ?_) (fun hc => ?_))
    | (refine Nx.zo ?_; first | refine Nx.opr rfl rfl ?_ | (refine Nx.call (Rpre := []) rfl rfl rfl (by kernel_rfl) rfl (hU0 I3 hle3) (Ent.refl _) ?_; rintro _ _ ⟨A6, c6, rfl, rfl⟩) | (refine Nx.call rfl rfl rfl (by kernel_rfl) rfl (FnSpec.keep [iR _ _ (natI U0)] fun m I' hle hm' hv => hCe0 _ _ m I' hle hm' hv) (by (exact Ent.auto)) ?_; rintro _ _ ⟨_, ⟨A12, c12, rfl, rfl⟩, rfl⟩) | refine Nx.so ?_ | refine Nx.sb (fun bx => ?_) | refine Nx.sa (fun A2 c2 => ?_))
    | ((with_reducible refine Nx.is_at ?_); first | refine Nx.a ?_ | refine Nx.zd ?_ | refine Nx.zs (fun hc => ?_) (fun hc => ?_))
    | ((with_reducible refine Nx.is_mix ?_); first | refine Nx.m ?_ | refine Nx.zm ?_ | refine Nx.zt (fun hc => ?_) (fun hc => ?_))
    | refine Nx.zx ?_ | fail
  refine Nx.unstop ?_
  refine Nx.ent (R' := [iR A12 c12 xa, Blk b3 27 [.slice A l.length c], F]) (by (exact Ent.auto)) ?_
  refine Nx.freezeAt 0 rfl fun I4 m4 hI4 hm4 h4 => ?_
  have hxa : Ints I4 A12 c12 xa := Vec.sliceOf hm4 h4
  replace hTb1 := hTb1.mono hI4
  have hle4 := hle3.trans hI4
  have hCe1 := fun (A6 : Option Addr) (c6 : Nat) (m I' : PH) (hle : PH.le I4 I') (hm : PH.le m I') (hv : Stars [iR A6 c6 (natI U1)] m) => (by
    obtain ⟨q1, z1, y1⟩ := Stars.get 0 hv rfl
    have := rcertain_spec A9 A6 c9 c6 n S1 o U1 I' (hTb1.mono hle) (by omega) (Vec.sliceOf (z1.trans hm) y1) hUn1 (by omega)
    rw [hci1] at this
    exact this :
    FnSpec Tryz.prog 91 [.slice A9 o.length c9, .slice A6 U1.length c6] I' [] (fun v R' => ∃ (A' : Option Addr) (c' : Nat), v = .slice A' xb.length c' ∧ R' = [iR A' c' xb]))
  repeat' first
    | ((with_reducible refine Nx.is_wp ?_); first | refine Nx.wo ?_ | refine Nx.zp (fun hc => ?_) (fun hc => ?_))
    | (refine Nx.zo ?_; first | refine Nx.opr rfl rfl ?_ | (refine Nx.call (Rpre := []) rfl rfl rfl (by kernel_rfl) rfl (hU1 I4 hle4) (Ent.refl _) ?_; rintro _ _ ⟨A6, c6, rfl, rfl⟩) | (refine Nx.call rfl rfl rfl (by kernel_rfl) rfl (FnSpec.keep [iR _ _ (natI U1)] fun m I' hle hm' hv => hCe1 _ _ m I' hle hm' hv) (by (exact Ent.auto)) ?_; rintro _ _ ⟨_, ⟨A13, c13, rfl, rfl⟩, rfl⟩) | refine Nx.so ?_ | refine Nx.sb (fun bx => ?_) | refine Nx.sa (fun A2 c2 => ?_))
    | ((with_reducible refine Nx.is_at ?_); first | refine Nx.a ?_ | refine Nx.zd ?_ | refine Nx.zs (fun hc => ?_) (fun hc => ?_))
    | ((with_reducible refine Nx.is_mix ?_); first | refine Nx.m ?_ | refine Nx.zm ?_ | refine Nx.zt (fun hc => ?_) (fun hc => ?_))
    | refine Nx.zx ?_ | fail
  refine Nx.ent (R' := [iR A13 c13 xb, F]) (by (exact Ent.auto)) ?_
  refine Nx.freezeAt 0 rfl fun I5 m5 hI5 hm5 h5 => ?_
  have hxb : Ints I5 A13 c13 xb := Vec.sliceOf hm5 h5
  replace hxa := hxa.mono hI5
  have hxal := hxa.len
  have hle5 := hI1.trans (hle4.trans hI5)
  refine Nx.p_loop (σ := Nat × Option Addr × Nat) (fun s => [(12, .slice A12 xa.length c12), (13, .slice s.2.1 (butL xa (xb.take s.1)).length s.2.2), (55, .slice A13 xb.length c13), (56, .int .i64 xb.length), (57, .int .i64 (s.1 : Int))])
    (fun s => [iR s.2.1 s.2.2 (butL xa (xb.take s.1)), F]) (fun s => s.1 ≤ xb.length) (fun s => xb.length - s.1) (0, none, 0) rfl (Nat.zero_le _) ⟨rfl, rfl, rfl, rfl, rfl, trivial⟩ ((Ent.vec_nil 3 1 _).trans (by (exact Ent.auto))) ?_
  rintro ⟨k, A', c'⟩ hk
  dsimp only at hk ⊢
  by_cases hkl : k < xb.length
  case neg =>
    rw [List.take_of_length_le (by omega)]
    repeat' first
      | ((with_reducible refine Nx.is_wp ?_); first | refine Nx.wo ?_ | refine Nx.zp (fun hc => ?_) (fun hc => ?_))
      | (refine Nx.zo ?_; first | refine Nx.opr rfl rfl ?_ | refine Nx.so ?_ | refine Nx.sb (fun bx => ?_) | refine Nx.sa (fun A2 c2 => ?_))
      | ((with_reducible refine Nx.is_at ?_); first | refine Nx.a ?_ | refine Nx.zd ?_ | refine Nx.zs (fun hc => ?_) (fun hc => ?_))
      | ((with_reducible refine Nx.is_mix ?_); first | refine Nx.m ?_ | refine Nx.zm ?_ | refine Nx.zt (fun hc => ?_) (fun hc => ?_))
      | refine Nx.zx ?_ | fail
    exact Nx.imm_le hle5 (Nx.ret_fn rfl [_] ⟨A', c', rfl, rfl⟩ (by (exact Ent.auto)))
  have hsn := but_snoc (a := xa) hkl
  have hbl := but_len xa (xb.take k)
  rw [List.length_take] at hbl
  have hcr : ∀ (W : World) (R : List Res), Rd W I5 R ((ad A13).add (k * 1)) (.int .i64 (xb.getD k default)) := fun W R => hxb.rd hkl
  have hA13 := hxb.isSome (by omega)
  generalize xb.getD k default = y at hsn hcr
  generalize butL xa (xb.take k) = ac at hsn hbl ⊢
  repeat' first
    | ((with_reducible refine Nx.is_wp ?_); first | refine Nx.wo ?_ | refine Nx.zp (fun hc => ?_) (fun hc => ?_))
    | (refine Nx.zo ?_; first | refine Nx.opr rfl rfl ?_ | refine Nx.indexAddr_nat (A := A13) (i := k) (sz := 1) rfl rfl rfl rfl rfl hkl hA13 ?_ | refine Nx.load rfl rfl rfl (hcr _ _) ?_ | refine Nx.so ?_ | refine Nx.sb (fun bx => ?_) | refine Nx.sa (fun A2 c2 => ?_))
    | ((with_reducible refine Nx.is_at ?_); first | refine Nx.a ?_ | refine Nx.zd ?_ | refine Nx.zs (fun hc => ?_) (fun hc => ?_))
    | ((with_reducible refine Nx.is_mix ?_); first | refine Nx.m ?_ | refine Nx.zm ?_ | refine Nx.zt (fun hc => ?_) (fun hc => ?_))
    | refine Nx.zx ?_ | fail
  refine Nx.p_loop (σ := Nat × Bool) (fun q => [(12, .slice A12 xa.length c12), (13, .slice A' ac.length c'), (15, .int .i64 y), (16, .bool q.2), (55, .slice A13 xb.length c13), (56, .int .i64 xb.length), (57, .int .i64 (k : Int)), (61, .slice A12 xa.length c12), (62, .int .i64 xa.length), (63, .int .i64 (q.1 : Int))])
    (fun _ => [iR A' c' ac, F]) (fun q => q.1 ≤ xa.length ∧ (q.2 = true ↔ ∃ j, j < q.1 ∧ xa.getD j default = y)) (fun q => xa.length - q.1) (0, false) rfl ⟨Nat.zero_le _, ⟨(fun h => nomatch h), (fun ⟨j, hj, _⟩ => absurd hj (Nat.not_lt_zero _))⟩⟩ ⟨rfl, rfl, rfl, rfl, rfl, rfl, rfl, rfl, rfl, rfl, trivial⟩ (by (exact Ent.auto)) ?_
  rintro ⟨j, f⟩ ⟨hj, hff⟩
  dsimp only at hj hff ⊢
  by_cases hjl : j < xa.length
  · have hnew : ∀ f' : Bool, (f' = true ↔ f = true ∨ xa.getD j default = y) → (f' = true ↔ ∃ i, i < j + 1 ∧ xa.getD i default = y) := fun f' h => by
      rw [h, hff]
      constructor
      · rintro (⟨i, hi, h6⟩ | h6)
        · exact ⟨i, by omega, h6⟩
        · exact ⟨j, by omega, h6⟩
      · rintro ⟨i, hi, h6⟩
        rcases Nat.lt_or_ge i j with hij | hij
        · exact .inl ⟨i, hij, h6⟩
        · rw [show i = j by omega] at h6
          exact .inr h6
    have hrd : ∀ (W : World) (R : List Res), Rd W I5 R ((ad A12).add (j * 1)) (.int .i64 (xa.getD j default)) := fun W R => hxa.rd hjl
    have hA12 := hxa.isSome (by omega)
    generalize xa.getD j default = z at hnew hrd
    cases f with
    | true =>
      repeat' first
        | ((with_reducible refine Nx.is_wp ?_); first | refine Nx.wo ?_ | refine Nx.zp (fun hc => ?_) (fun hc => ?_))
        | (refine Nx.zo ?_; first | refine Nx.opr rfl rfl ?_ | refine Nx.indexAddr_nat (A := A12) (i := j) (sz := 1) rfl rfl rfl rfl rfl hjl hA12 ?_ | refine Nx.load rfl rfl rfl (hrd _ _) ?_ | refine Nx.so ?_ | refine Nx.sb (fun bx => ?_) | refine Nx.sa (fun A2 c2 => ?_))
        | ((with_reducible refine Nx.is_at ?_); first | refine Nx.a ?_ | refine Nx.zd ?_ | refine Nx.zs (fun hc => ?_) (fun hc => ?_))
        | ((with_reducible refine Nx.is_mix ?_); first | refine Nx.m ?_ | refine Nx.zm ?_ | refine Nx.zt (fun hc => ?_) (fun hc => ?_))
        | refine Nx.zx ?_ | fail
      exact Nx.again (j + 1, true) ⟨hjl, hnew true ⟨fun _ => .inl rfl, fun _ => rfl⟩⟩ (by dsimp only; omega) ⟨rfl, rfl, rfl, rfl, rfl, rfl, rfl, rfl, rfl, rfl, trivial⟩ (by (exact Ent.auto))
    | false =>
      repeat' first
        | ((with_reducible refine Nx.is_wp ?_); first | refine Nx.wo ?_ | refine Nx.zp (fun hc => ?_) (fun hc => ?_))
        | (refine Nx.zo ?_; first | refine Nx.opr rfl rfl ?_ | refine Nx.indexAddr_nat (A := A12) (i := j) (sz := 1) rfl rfl rfl rfl rfl hjl hA12 ?_ | refine Nx.load rfl rfl rfl (hrd _ _) ?_ | refine Nx.so ?_ | refine Nx.sb (fun bx => ?_) | refine Nx.sa (fun A2 c2 => ?_))
        | ((with_reducible refine Nx.is_at ?_); first | refine Nx.a ?_ | refine Nx.zd ?_ | refine Nx.zs (fun hc => ?_) (fun hc => ?_))
        | ((with_reducible refine Nx.is_mix ?_); first | refine Nx.m ?_ | refine Nx.zm ?_ | refine Nx.zt (fun hc => ?_) (fun hc => ?_))
        | refine Nx.zx ?_ | fail
      exact Nx.again (j + 1, decide (z = y)) ⟨hjl, hnew _ ⟨fun h => .inr (of_decide_eq_true h), fun h => decide_eq_true (h.elim (fun h => nomatch h) id)⟩⟩ (by dsimp only; omega) ⟨rfl, rfl, rfl, rfl, rfl, rfl, rfl, rfl, rfl, rfl, trivial⟩ (by (exact Ent.auto))
  obtain rfl : j = xa.length := by omega
  have hfm : f = true ↔ y ∈ xa := hff.trans ⟨fun ⟨i, hi, he⟩ => he ▸ getD_memI hi, fun h => mem_getDI h⟩
  cases f with
  | true =>
    rw [if_pos (hfm.1 rfl), List.append_nil] at hsn
    repeat' first
      | ((with_reducible refine Nx.is_wp ?_); first | refine Nx.wo ?_ | refine Nx.zp (fun hc => ?_) (fun hc => ?_))
      | (refine Nx.zo ?_; first | refine Nx.opr rfl rfl ?_ | refine Nx.so ?_ | refine Nx.sb (fun bx => ?_) | refine Nx.sa (fun A2 c2 => ?_))
      | ((with_reducible refine Nx.is_at ?_); first | refine Nx.a ?_ | refine Nx.zd ?_ | refine Nx.zs (fun hc => ?_) (fun hc => ?_))
      | ((with_reducible refine Nx.is_mix ?_); first | refine Nx.m ?_ | refine Nx.zm ?_ | refine Nx.zt (fun hc => ?_) (fun hc => ?_))
      | refine Nx.zx ?_ | fail
    exact Nx.again (k + 1, A', c') hkl (by dsimp only; omega) ⟨rfl, by dsimp only; rw [hsn]; rfl, rfl, rfl, rfl, trivial⟩ (by dsimp only; rw [hsn]; (exact Ent.auto))
  | false =>
    rw [if_neg (fun h => nomatch hfm.2 h)] at hsn
    repeat' first
      | ((with_reducible refine Nx.is_wp ?_); first | refine Nx.wo ?_ | refine Nx.zp (fun hc => ?_) (fun hc => ?_))
      | (refine Nx.zo ?_; first | refine Nx.opr rfl rfl ?_ | refine Nx.so ?_ | refine Nx.sb (fun bx => ?_) | refine Nx.sa (fun A2 c2 => ?_))
      | ((with_reducible refine Nx.is_at ?_); first | refine Nx.a ?_ | refine Nx.zd ?_ | refine Nx.zs (fun hc => ?_) (fun hc => ?_))
      | ((with_reducible refine Nx.is_mix ?_); first | refine Nx.m ?_ | refine Nx.zm ?_ | refine Nx.zt (fun hc => ?_) (fun hc => ?_))
      | refine Nx.zx ?_ | fail
    refine Nx.again (k + 1, A2, c2) hkl (by dsimp only; omega) ⟨rfl, by dsimp only; rw [hsn, List.length_append]; rfl, rfl, rfl, rfl, trivial⟩ ?_
    dsimp only
    rw [hsn]
    unfold iR
    rw [List.length_append (bs := [_]), List.length_singleton, List.map_append]
    (exact Ent.auto)
end Go.Proofs.YtcmdemfhbekabaaGreat
/- Contracts of functions of the given program, and lemmas about plain lists and numbers: what the laws of this seat lean on. -/
namespace Go.Proofs.YtcmdemfhbekabaaGreat
open Go.Eng Go.Sol
attribute [local irreducible] opK wpList Code.wp Exit.then Exit.inBlock fnPost bodyPost Nx Calls Oper.wp Rd Rds Wr Ent Stars Blk Again Vec FnSpec wpMix QRun Stop Upto wpAt
/-! The example of the chapter on an attacker -/
def exA (v1 g1 x1 : Nat) : List Rel := [⟨0, some ⟨v1, 0, none⟩, 1, [(some ⟨g1, 0, none⟩, 2, [0, 0])], (some ⟨x1, 0, none⟩, 1, [1])⟩]
def exB (v2 g2 x2 : Nat) : Rel := ⟨1, some ⟨v2, 0, none⟩, 1, [(some ⟨g2, 0, none⟩, 2, [0, 1])], (some ⟨x2, 0, none⟩, 2, [0, -1])⟩
theorem exQ1 (v1 g1 x1 : Nat) : eqns (qsOf [2] (exA v1 g1 x1)) = [([0, 1], 1)] := by kernel_rfl
theorem exQ2 (v1 g1 x1 v2 g2 x2 : Nat) : eqns (qsOf [2] (exA v1 g1 x1 ++ [exB v2 g2 x2])) = [([0, 1], 1), ([0], 0)] := by kernel_rfl
theorem exT1 (v1 g1 x1 : Nat) : tolE [2] (exA v1 g1 x1) = 0 := by kernel_rfl
theorem exT2 (v1 g1 x1 v2 g2 x2 : Nat) : tolE [2] (exA v1 g1 x1 ++ [exB v2 g2 x2]) = 0 := by kernel_rfl
theorem exO1 : solsOf 2 [([0, 1], 1)] = [[0, 1], [1, 0]] := by kernel_rfl
theorem exO2 : solsOf 2 [([0, 1], 1), ([0], 0)] = [[0, 1]] := by kernel_rfl
theorem exU1 : touch 2 [([0, 1], 1)] = [0, 1] := by kernel_rfl
theorem exU2 : touch 2 [([0, 1], 1), ([0], 0)] = [0, 1] := by kernel_rfl
theorem vals_of {n k : Nat} {L : List Eqn} {S : List (List Int)} {r : List Int} (hS : solsOf n L = S) (hr : r.Pairwise (· < ·)) (h : ∀ z, z ∈ r ↔ z ∈ S.map fun s => s.getD k 0) : valsOf n L k = r :=
  (vals_set n L k).same (q := fun z => z ∈ r) ⟨hr, fun _ => Iff.rfl⟩ fun z => by rw [h, hS, List.mem_map]
theorem exV10 : valsOf 2 [([0, 1], 1)] 0 = [0, 1] := vals_of exO1 (by decide) fun _ => Iff.rfl
theorem exV11 : valsOf 2 [([0, 1], 1)] 1 = [0, 1] := vals_of exO1 (by decide) fun z => by simp [or_comm]
theorem exV20 : valsOf 2 [([0, 1], 1), ([0], 0)] 0 = [0] := vals_of exO2 (by decide) fun _ => Iff.rfl
theorem exV21 : valsOf 2 [([0, 1], 1), ([0], 0)] 1 = [1] := vals_of exO2 (by decide) fun _ => Iff.rfl
theorem exC1 : certF 2 [([0, 1], 1)] = ([], 0) := by
  unfold certF certL certU
  rw [exO1, exU1, if_neg (by decide), List.filter_cons_of_neg (by rw [exV10]; decide), List.filter_cons_of_neg (by rw [exV11]; decide)]
  rfl
theorem exC2 : certF 2 [([0, 1], 1), ([0], 0)] = ([0, 1], 0) := by
  unfold certF certL certU
  rw [exO2, exU2, if_neg (by decide), List.filter_cons_of_pos (by rw [exV20]; decide), List.filter_cons_of_pos (by rw [exV21]; decide)]
  rfl
theorem exAC (v1 g1 x1 : Nat) : cerD [2] (exA v1 g1 x1) = ([], 0) := by
  unfold cerD
  rw [exT1, if_pos rfl, exQ1]
  exact exC1
theorem exAC2 (v1 g1 x1 v2 g2 x2 : Nat) : cerD [2] (exA v1 g1 x1 ++ [exB v2 g2 x2]) = ([0, 1], 0) := by
  unfold cerD
  rw [exT2, if_pos rfl, exQ2]
  exact exC2
theorem exAV (v1 g1 x1 : Nat) : valD [2] (exA v1 g1 x1) 0 = ([0, 1], 0) := by
  unfold valD
  rw [exT1, if_pos rfl, exQ1]
  show valF 2 [([0, 1], 1)] 0 = _
  unfold valF
  rw [if_neg (by decide), exO1, if_neg (by decide), show (0 : Int).toNat = 0 from rfl, exU1, if_pos (by decide), exV10]
theorem exAL (v1 g1 x1 v2 g2 x2 : Nat) : lrnD [2] (exA v1 g1 x1) (exB v2 g2 x2) = ([0, 1], 0) := by
  unfold lrnD
  rw [exT1, exT2, exAC, exAC2, if_neg (by decide), if_neg (by decide), if_neg (by decide), if_neg (by decide)]
  rfl
theorem exS2 : Sizes [2] := ⟨by decide, by decide, by decide⟩
set_option maxRecDepth 10000 in
set_option maxHeartbeats 16000000 in
theorem awakeA_spec (I : PH) : FnSpec Tryz.prog 24 [] I [] (fun v R' => v = .bool true ∧ R' = []) := by
  refine FnSpec.enterP Tryz.func24 rfl Tryz.ntmps24 rfl fun w F => ?_
  repeat' first
    | ((with_reducible refine Nx.is_wp ?_); first | refine Nx.p_stopr 3 rfl ?_ | refine Nx.wo ?_ | refine Nx.zp (fun hc => ?_) (fun hc => ?_))
    | (refine Nx.zo ?_; first | refine Nx.opr rfl rfl ?_ | refine Nx.so ?_ | refine Nx.sb (fun bx => ?_) | refine Nx.sa (fun A2 c2 => ?_))
    | ((with_reducible refine Nx.is_at ?_); first | refine Nx.a ?_ | refine Nx.zd ?_ | refine Nx.zs (fun hc => ?_) (fun hc => ?_))
    | ((with_reducible refine Nx.is_mix ?_); first | refine Nx.m ?_ | refine Nx.zm ?_ | refine Nx.zt (fun hc => ?_) (fun hc => ?_))
    | refine Nx.zx ?_ | fail
  refine Nx.unstop ?_
  rename_i bsz b1 g1 v1 x1
  revert bx; intro brl
  refine Nx.ent (R' := Stars [Blk brl 62 [.int .i64 0, .slice (some ⟨v1, 0, none⟩) 1 1, .slice (some ⟨x1, 0, none⟩) 1 1], Blk x1 3 [.int .i64 1], Blk v1 25 [.slice (some ⟨g1, 0, none⟩) 2 2], Blk g1 3 [.int .i64 0, .int .i64 0], Blk bsz 3 [.int .i64 2]] :: [Blk b1 27 [.slice (some ⟨bsz, 0, none⟩) 1 1], F]) (Ent.trans (R' := [Blk brl 62 [.int .i64 0, .slice (some ⟨v1, 0, none⟩) 1 1, .slice (some ⟨x1, 0, none⟩) 1 1], Blk x1 3 [.int .i64 1], Blk v1 25 [.slice (some ⟨g1, 0, none⟩) 2 2], Blk g1 3 [.int .i64 0, .int .i64 0], Blk bsz 3 [.int .i64 2]] ++ [Blk b1 27 [.slice (some ⟨bsz, 0, none⟩) 1 1], F]) (by (exact Ent.auto)) Ent.stars) ?_
  refine Nx.freezeAt 0 rfl fun I1 m1 hI1 hm1 h1 => ?_
  obtain ⟨k0, l0, c0⟩ := Stars.get 0 h1 rfl
  obtain ⟨k1, l1, c1⟩ := Stars.get 1 h1 rfl
  obtain ⟨k2, l2, c2⟩ := Stars.get 2 h1 rfl
  obtain ⟨k3, l3, c3⟩ := Stars.get 3 h1 rfl
  obtain ⟨k4, l4, c4⟩ := Stars.get 4 h1 rfl
  have hsz : Ints I1 (some ⟨bsz, 0, none⟩) 1 [2] := Blk.sliceOf (t := 3) (l := [2]) (l4.trans hm1) c4 (by decide)
  have hG1 : Ints I1 (some ⟨g1, 0, none⟩) 2 [0, 0] := Blk.sliceOf (t := 3) (l := [0, 0]) (l3.trans hm1) c3 (by decide)
  have hR1 : RowsOf I1 (some ⟨v1, 0, none⟩) 1 [(some ⟨g1, 0, none⟩, 2, [0, 0])] := ⟨Blk.sliceOf (t := 25) (l := [((some ⟨g1, 0, none⟩, 2, [0, 0]) : Row)]) (l2.trans hm1) c2 (by unfold maxLen; simp), fun r hr => by rw [List.mem_singleton.1 hr]; exact hG1⟩
  have hX1 : Ints I1 (some ⟨x1, 0, none⟩) 1 [1] := Blk.sliceOf (t := 3) (l := [1]) (l1.trans hm1) c1 (by decide)
  have hRs : Rels I1 (some ⟨brl, 0, none⟩) 1 (exA v1 g1 x1) := ⟨Blk.sliceN (t := 62) (l := exA v1 g1 x1) (l0.trans hm1) c0 (fun _ _ => rfl) (by unfold maxLen exA; simp), fun r hr => by
      rw [List.mem_singleton.1 hr]
      exact hR1, fun r hr => by
      rw [List.mem_singleton.1 hr]
      exact hX1⟩
  have hw1 : Viewed [2] [(some ⟨g1, 0, none⟩, 2, [0, 0])] := ⟨rfl, fun k hk => by
    obtain rfl : k = 0 := by simpa using hk
    exact ⟨rfl, rfl⟩⟩
  have hw : ∀ r ∈ exA v1 g1 x1, Viewed [2] r.v := fun r hr => by
    rw [List.mem_singleton.1 hr]
    exact hw1
  have hh1 : (exA v1 g1 x1).length ≤ 1000 := show 1 ≤ 1000 by decide
  have hC : FnSpec Tryz.prog 23 [.agg #[.slice (some ⟨bsz, 0, none⟩) 1 1], .slice (some ⟨brl, 0, none⟩) 1 1] I1 [] (fun u R' => ∃ (A' : Option Addr) (c' : Nat), u = .tuple #[.slice A' 0 c', .int .i64 0] ∧ R' = [iR A' c' []]) := by
    have h := Certain_spec (some ⟨bsz, 0, none⟩) (some ⟨brl, 0, none⟩) 1 1 [2] (exA v1 g1 x1) I1 hsz exS2 hRs hw
    rw [exAC] at h
    exact h
  have hV : FnSpec Tryz.prog 25 [.agg #[.slice (some ⟨bsz, 0, none⟩) 1 1], .slice (some ⟨brl, 0, none⟩) 1 1, .int .i64 0] I1 [] (fun u R' => ∃ (A' : Option Addr) (c' : Nat), u = .tuple #[.slice A' 2 c', .int .i64 0] ∧ R' = [iR A' c' [0, 1]]) := by
    have h := Values_spec (some ⟨bsz, 0, none⟩) (some ⟨brl, 0, none⟩) 1 1 [2] (exA v1 g1 x1) 0 I1 hsz exS2 hRs hw
    rw [exAV] at h
    exact h
  have hL := fun (v2 g2 x2 : Nat) (m I' : PH) (hle : PH.le I1 I') (hm : PH.le m I') (hv : Stars [Blk g2 3 [.int .i64 0, .int .i64 1], Blk v2 25 [.slice (some ⟨g2, 0, none⟩) 2 2], Blk x2 3 [.int .i64 0, .int .i64 (-1)]] m) => (by
    obtain ⟨q1, z1, y1⟩ := Stars.get 0 hv rfl
    obtain ⟨q2, z2, y2⟩ := Stars.get 1 hv rfl
    obtain ⟨q3, z3, y3⟩ := Stars.get 2 hv rfl
    have hG2 : Ints I' (some ⟨g2, 0, none⟩) 2 [0, 1] := Blk.sliceOf (t := 3) (l := [0, 1]) (z1.trans hm) y1 (by decide)
    have hR2 : RowsOf I' (some ⟨v2, 0, none⟩) 1 [(some ⟨g2, 0, none⟩, 2, [0, 1])] := ⟨Blk.sliceOf (t := 25) (l := [((some ⟨g2, 0, none⟩, 2, [0, 1]) : Row)]) (z2.trans hm) y2 (by unfold maxLen; simp), fun r hr => by rw [List.mem_singleton.1 hr]; exact hG2⟩
    have hX2 : Ints I' (some ⟨x2, 0, none⟩) 2 [0, -1] := Blk.sliceOf (t := 3) (l := [0, -1]) (z3.trans hm) y3 (by decide)
    have hw2 : Viewed [2] [(some ⟨g2, 0, none⟩, 2, [0, 1])] := ⟨rfl, fun k hk => by
      obtain rfl : k = 0 := by simpa using hk
      exact ⟨rfl, rfl⟩⟩
    have h := Learns_spec (some ⟨bsz, 0, none⟩) (some ⟨brl, 0, none⟩) 1 1 [2] (exA v1 g1 x1) (exB v2 g2 x2) I' (hsz.mono hle) exS2 (hRs.mono hle) hw hh1 hR2 hX2 hw2
    rw [exAL] at h
    exact h :
    FnSpec Tryz.prog 42 [.agg #[.slice (some ⟨bsz, 0, none⟩) 1 1], .slice (some ⟨brl, 0, none⟩) 1 1, .agg #[.int .i64 1, .slice (some ⟨v2, 0, none⟩) 1 1, .slice (some ⟨x2, 0, none⟩) 2 2]] I' [] (fun u R' => ∃ (A' : Option Addr) (c' : Nat), u = .tuple #[.slice A' 2 c', .int .i64 0] ∧ R' = [iR A' c' [0, 1]]))
  have hIn := fun (A' : Option Addr) (c' bq : Nat) (m I' : PH) (_ : PH.le I1 I') (hm : PH.le m I') (hv : Stars [iR A' c' [0, 1], Blk bq 3 [.int .i64 0, .int .i64 1]] m) => (by
    obtain ⟨q1, z1, y1⟩ := Stars.get 0 hv rfl
    obtain ⟨q2, z2, y2⟩ := Stars.get 1 hv rfl
    have h := Ints_spec A' (some ⟨bq, 0, none⟩) c' 2 [0, 1] [0, 1] I' (Vec.sliceOf (z1.trans hm) y1) (Blk.sliceOf (t := 3) (l := [0, 1]) (z2.trans hm) y2 (by decide))
    rw [decide_eq_true rfl] at h
    exact h :
    FnSpec Tryz.prog 34 [.slice A' 2 c', .slice (some ⟨bq, 0, none⟩) 2 2] I' [] (fun u R' => u = .bool true ∧ R' = []))
  repeat' first
    | ((with_reducible refine Nx.is_wp ?_); first | refine Nx.wo ?_ | refine Nx.zp (fun hc => ?_) (fun hc => ?_))
    | (refine Nx.zo ?_; first | refine Nx.opr rfl rfl ?_ | (refine Nx.call (Rpre := []) rfl rfl rfl (by kernel_rfl) rfl hC (Ent.refl _) ?_; rintro _ _ ⟨Ac, cc, rfl, rfl⟩) | (refine Nx.call (Rpre := []) rfl rfl rfl (by kernel_rfl) rfl hV (Ent.refl _) ?_; rintro _ _ ⟨Av, cv, rfl, rfl⟩) | (rename_i g2 v2; refine Nx.call rfl rfl rfl (by kernel_rfl) rfl (FnSpec.keep [Blk g2 3 [.int .i64 0, .int .i64 1], Blk v2 25 [.slice (some ⟨g2, 0, none⟩) 2 2], Blk bx 3 [.int .i64 0, .int .i64 (-1)]] fun m I' hle hm' hv => hL v2 g2 bx m I' hle hm' hv) (by (exact Ent.auto)) ?_; rintro _ _ ⟨_, ⟨Al, cl, rfl, rfl⟩, rfl⟩) | (refine Nx.call rfl rfl rfl (by kernel_rfl) rfl (FnSpec.keep [iR _ _ [0, 1], Blk _ 3 [.int .i64 0, .int .i64 1]] fun m I' hle hm' hv => hIn _ _ _ m I' hle hm' hv) (by (exact Ent.auto)) ?_; rintro _ _ ⟨_, ⟨rfl, rfl⟩, rfl⟩) | refine Nx.so ?_ | refine Nx.sb (fun bx => ?_) | refine Nx.sa (fun A2 c2 => ?_))
    | ((with_reducible refine Nx.is_at ?_); first | refine Nx.a ?_ | refine Nx.zd ?_ | refine Nx.zs (fun hc => ?_) (fun hc => ?_))
    | ((with_reducible refine Nx.is_mix ?_); first | refine Nx.m ?_ | refine Nx.zm ?_ | refine Nx.zt (fun hc => ?_) (fun hc => ?_))
    | refine Nx.zx ?_ | fail
  exact Nx.imm_le hI1 (Nx.ret_fn rfl [] ⟨rfl, rfl⟩ (by (exact Ent.auto)))
end Go.Proofs.YtcmdemfhbekabaaGreat
/-
  The proof engine, part AT: a part of an owned list as what is appended.
-/
namespace Go.Eng
theorem Src.part {W : World} {I : PH} {R : List Res} {el : TypeId} {A : Option Addr} {n c sz i k : Nat} {xs ys : List Value} (q : Nat) (hq : nthL R q = some (Vec el sz A n c xs)) (hA : 0 < k → A.isSome = true) (hik : 0 < k → i < c) (hy : (xs.drop (i * sz)).take (k * sz) = ys) (hl : ys.length = k * sz) (h1 : ∀ u ∈ xs, u.oneCell' = true) : Src W I R (offA A c i sz) k sz ys := by
  refine ⟨hl, fun b hb => ?_, fun hb => ?_, fun u hu => ?_⟩
  · rcases Nat.eq_zero_or_pos k with h0 | h0
    · subst h0
      rw [Nat.zero_mul] at hl
      have := List.eq_nil_of_length_eq_zero hl
      rw [this]
      intro j u hj
      cases hj
    · have hc := hik h0
      unfold offA at hb
      rw [if_neg (by omega)] at hb
      obtain ⟨a, rfl⟩ := Option.isSome_iff_exists.1 (hA h0)
      cases hb
      intro j u hj
      rw [Addr.add_add]
      subst hy
      rw [List.getElem?_take] at hj
      split at hj
      · rw [List.getElem?_drop] at hj
        exact Rd.vecAt q hq (by rw [nthL_eq]; exact hj)
      · cases hj
  · rcases Nat.eq_zero_or_pos k with h0 | h0
    · exact h0
    · exfalso
      have hc := hik h0
      unfold offA at hb
      rw [if_neg (by omega)] at hb
      obtain ⟨a, rfl⟩ := Option.isSome_iff_exists.1 (hA h0)
      cases hb
  · subst hy
    exact h1 u (List.mem_of_mem_drop (List.mem_of_mem_take hu))
end Go.Eng
/- Contracts of functions of the given program, and lemmas about plain lists and numbers: what the laws of this seat lean on. -/
namespace Go.Proofs.YtcmdemfhbekabaaGreat
open Go.Eng Go.Sol
attribute [local irreducible] opK wpList Code.wp Exit.then Exit.inBlock fnPost bodyPost Nx Calls Oper.wp Rd Rds Wr Ent Stars Blk Again Vec FnSpec wpMix QRun Stop Upto wpAt
/-! The law of answers: the loops over margins, lists and cells -/
theorem tmod_modI (k : Int) {n : Int} (hn : 0 < n) : (k.tmod n < 0 → k.tmod n + n = k % n) ∧ (¬ k.tmod n < 0 → k.tmod n = k % n) := by
  have h1 := Int.mul_tdiv_add_tmod k n
  have h2 : (k.tmod n).natAbs < n.natAbs := by rw [Int.natAbs_tmod]; exact Nat.mod_lt _ (by omega)
  refine ⟨fun h => ?_, fun h => ?_⟩
  · refine ((Int.ediv_emod_unique hn).2 ⟨?_, ?_, ?_⟩ : k / n = k.tdiv n - 1 ∧ k % n = k.tmod n + n).2.symm
    · rw [Int.mul_sub]; omega
    · omega
    · omega
  · refine ((Int.ediv_emod_unique hn).2 ⟨?_, ?_, ?_⟩ : k / n = k.tdiv n ∧ k % n = k.tmod n).2.symm
    · omega
    · omega
    · omega
set_option maxHeartbeats 8000000 in
set_option maxRecDepth 10000 in
theorem ModI_spec (k n : Int) (_ : I64 k) (hn : 1 ≤ n ∧ n ≤ 1000000) (I : PH) : FnSpec Tryz.prog 27 [.int .i64 k, .int .i64 n] I [] (fun v R' => v = .int .i64 (k % n) ∧ R' = []) := by
  obtain ⟨e1, e2⟩ := tmod_modI k (by omega : 0 < n)
  have hb : (k.tmod n).natAbs < n.natAbs := by rw [Int.natAbs_tmod]; exact Nat.mod_lt _ (by omega)
  refine FnSpec.enterP Tryz.func27 rfl Tryz.ntmps27 rfl fun w F => ?_
  repeat' first
    | ((with_reducible refine Nx.is_wp ?_); first | refine Nx.wo ?_ | refine Nx.zp (fun hc => ?_) (fun hc => ?_))
    | (refine Nx.zo ?_; first | refine Nx.opr rfl rfl ?_ | refine Nx.bin rfl rfl (run_remT (by omega)) rfl ?_ | refine Nx.so ?_ | refine Nx.sb (fun bx => ?_) | refine Nx.sa (fun A2 c2 => ?_))
    | ((with_reducible refine Nx.is_at ?_); first | refine Nx.a ?_ | refine Nx.zd ?_ | refine Nx.zs (fun hc => ?_) (fun hc => ?_))
    | ((with_reducible refine Nx.is_mix ?_); first | refine Nx.m ?_ | refine Nx.zm ?_ | refine Nx.zt (fun hc => ?_) (fun hc => ?_))
    | refine Nx.zx ?_ | fail
  all_goals first
    | exact Nx.ret_fn rfl [] ⟨by rw [e1 (by assumption)], rfl⟩ (Ent.refl _)
    | exact Nx.ret_fn rfl [] ⟨by rw [e2 (by assumption)], rfl⟩ (Ent.refl _)
end Go.Proofs.YtcmdemfhbekabaaGreat
/- Contracts of functions of the given program, and lemmas about plain lists and numbers: what the laws of this seat lean on. -/
namespace Go.Proofs.YtcmdemfhbekabaaGreat
open Go.Eng Go.Sol
attribute [local irreducible] opK wpList Code.wp Exit.then Exit.inBlock fnPost bodyPost Nx Calls Oper.wp Rd Rds Wr Ent Stars Blk Again Vec FnSpec wpMix QRun Stop Upto wpAt
/-! The law of answers: what is changed, and the law -/
theorem mem_setR {rs : List Rel} {k : Nat} {r x : Rel} (h : x ∈ rs.set k r) : x = r ∨ x ∈ rs := by
  rcases List.mem_or_eq_of_mem_set h with h | h
  · exact .inr h
  · exact .inl h
end Go.Proofs.YtcmdemfhbekabaaGreat
/- Contracts of functions of the given program, and lemmas about plain lists and numbers: what the laws of this seat lean on. -/
namespace Go.Proofs.YtcmdemfhbekabaaGreat
open Go.Eng Go.Sol
attribute [local irreducible] opK wpList Code.wp Exit.then Exit.inBlock fnPost bodyPost Nx Calls Oper.wp Rd Rds Wr Ent Stars Blk Again Vec FnSpec wpMix QRun Stop Upto wpAt
/-! The law of answers on the attacker: the loops -/
set_option maxRecDepth 10000 in
set_option maxHeartbeats 32000000 in
theorem aa_rest (w : World) (F : Res) (b12 b19 : Nat) (A As : Option Addr) (c cs : Nat) (l : List Int) (rs : List Rel) (r : Rel) (most cell : Int) (hmost : I64 most) (hcell : I64 cell) (I0 I : PH) (hle0 : PH.le I0 I)
    (hl : Ints I A c l) (hs : Sizes l) (hr : Rels I As cs rs) (hw : ∀ x ∈ rs, Viewed l x.v) (h9 : rs.length ≤ 1000) (hv : RowsOf I r.va r.vc r.v) (hd : Ints I r.val.1 r.val.2.1 r.val.2.2) (hrw : Viewed l r.v) :
    Nx ⟨Tryz.prog, 234, w⟩ [(1, .int .i64 most), (2, .int .i64 cell), (12, .pointer (some ⟨b12, 0, none⟩)), (14, .slice As rs.length cs), (19, .pointer (some ⟨b19, 0, none⟩))] I [Blk b19 62 [.int .i64 r.num, .slice r.va r.v.length r.vc, .slice r.val.1 r.val.2.2.length r.val.2.1], Blk b12 27 [.slice A l.length c], F]
      (Code.wp Tryz.prog (cr (cr (cr (cr (cr (cr (cr (cr (bodyOf Tryz.f7))))))))) (fnPost Tryz.prog Tryz.f7 I0 F w (fun v R' => v = .bool true ∧ R' = []))) := by
  have hMd := ModI_spec most 20 hmost (by omega) I
  repeat' first
    | ((with_reducible refine Nx.is_wp ?_); first | refine Nx.wo ?_ | refine Nx.zp (fun hc => ?_) (fun hc => ?_))
    | (refine Nx.zo ?_; first | refine Nx.opr rfl rfl ?_ | refine Nx.callv rfl rfl rfl (by kernel_rfl) rfl hMd ?_ | refine Nx.so ?_ | refine Nx.sb (fun bx => ?_) | refine Nx.sa (fun A2 c2 => ?_))
    | ((with_reducible refine Nx.is_at ?_); first | refine Nx.a ?_ | refine Nx.zd ?_ | refine Nx.zs (fun hc => ?_) (fun hc => ?_))
    | ((with_reducible refine Nx.is_mix ?_); first | refine Nx.m ?_ | refine Nx.zm ?_ | refine Nx.zt (fun hc => ?_) (fun hc => ?_))
    | refine Nx.zx ?_ | fail
  revert bx; intro b124
  refine Nx.freezeAt 0 rfl fun I3 m3 hI3 hm3 h3 => ?_
  have hms : Ints I3 (some ⟨b124, 0, none⟩) 2 [most, most % 20] := Blk.sliceOf (t := 3) (l := [most, most % 20]) hm3 h3 (by unfold maxLen; simp)
  have hml : ([most, most % 20] : List Int).length = 2 := rfl
  generalize ([most, most % 20] : List Int) = ms at hms hml
  replace hl := hl.mono hI3
  replace hr := hr.mono hI3
  replace hv := hv.mono hI3
  replace hd := hd.mono hI3
  refine Nx.p_loop (σ := Nat) (fun i => [(2, .int .i64 cell), (12, .pointer (some ⟨b12, 0, none⟩)), (14, .slice As rs.length cs), (19, .pointer (some ⟨b19, 0, none⟩)), (124, .slice (some ⟨b124, 0, none⟩) 2 2), (125, .int .i64 ((2 : Nat) : Int)), (126, .int .i64 (i : Int))])
    (fun _ => [Blk b19 62 [.int .i64 r.num, .slice r.va r.v.length r.vc, .slice r.val.1 r.val.2.2.length r.val.2.1], Blk b12 27 [.slice A l.length c], F]) (fun i => i ≤ 2) (fun i => 2 - i) 0 rfl (Nat.zero_le _) ⟨rfl, rfl, rfl, rfl, rfl, rfl, rfl, trivial⟩ (by (exact Ent.auto)) ?_
  intro i hi
  have hi : i ≤ 2 := hi
  by_cases hi2 : i < 2
  · have hmr : ∀ (W : World) (R : List Res), Rd W I3 R ((ad (some (⟨b124, 0, none⟩ : Addr))).add (i * 1)) (.int .i64 (ms.getD i default)) := fun W R => hms.rd (by omega)
    generalize ms.getD i default = m at hmr
    have hT1 := Tables_spec A As c cs l rs m I3 hl hs hr hw
    have hT2 := RTables_spec A As c cs l rs m I3 hl hs hr hw
    unfold TabsQ at hT1 hT2
    generalize tbsD l rs m = fe at hT1 hT2
    obtain ⟨S, er⟩ := fe
    dsimp only at hT1 hT2
    repeat' first
      | ((with_reducible refine Nx.is_wp ?_); first | refine Nx.p_stopr 23 rfl ?_ | refine Nx.wo ?_ | refine Nx.zp (fun hc => ?_) (fun hc => ?_))
      | (refine Nx.zo ?_; first | refine Nx.opr rfl rfl ?_ | refine Nx.indexAddr_nat (A := some ⟨b124, 0, none⟩) (i := i) (sz := 1) rfl rfl rfl rfl rfl hi2 rfl ?_ | refine Nx.load rfl rfl rfl (hmr _ _) ?_ | (refine Nx.call (Rpre := []) rfl rfl rfl (by kernel_rfl) rfl hT1 (Ent.refl _) ?_; rintro _ _ ⟨Au, cu, o1, rfl, ho1, rfl⟩) | (refine Nx.call (Rpre := []) rfl rfl rfl (by kernel_rfl) rfl hT2 (Ent.refl _) ?_; rintro _ _ ⟨Av, cv, o2, rfl, ho2, rfl⟩) | refine Nx.so ?_ | refine Nx.sb (fun bx => ?_) | refine Nx.sa (fun A2 c2 => ?_))
      | ((with_reducible refine Nx.is_at ?_); first | refine Nx.a ?_ | refine Nx.zd ?_ | refine Nx.zs (fun hc => ?_) (fun hc => ?_))
      | ((with_reducible refine Nx.is_mix ?_); first | refine Nx.m ?_ | refine Nx.zm ?_ | refine Nx.zt (fun hc => ?_) (fun hc => ?_))
      | refine Nx.zx ?_ | fail
    refine Nx.unstop ?_
    refine Nx.giveRows (A := Au) (c := cu) (o := o1) (RR := rowsR Av cv o2 ++ [Blk b19 62 [.int .i64 r.num, .slice r.va r.v.length r.vc, .slice r.val.1 r.val.2.2.length r.val.2.1], Blk b12 27 [.slice A l.length c], F]) (by refine Ent.trans (R' := rowsR Au cu o1 ++ (rowsR Av cv o2 ++ [Blk b19 62 [.int .i64 r.num, .slice r.va r.v.length r.vc, .slice r.val.1 r.val.2.2.length r.val.2.1], Blk b12 27 [.slice A l.length c], F])) ?_ Ent.stars; (exact Ent.auto)) fun I4 hI4 hro1 => ?_
    refine Nx.giveRows (A := Av) (c := cv) (o := o2) (RR := [Blk b19 62 [.int .i64 r.num, .slice r.va r.v.length r.vc, .slice r.val.1 r.val.2.2.length r.val.2.1], Blk b12 27 [.slice A l.length c], F]) Ent.stars fun I5 hI5 hro2 => ?_
    have hSm := SameT_spec Au Av cu cv o1 o2 I5 (hro1.mono hI5) hro2
    rw [ho1, ho2, decide_eq_true rfl] at hSm
    repeat' first
      | ((with_reducible refine Nx.is_wp ?_); first | refine Nx.wo ?_ | refine Nx.zp (fun hc => ?_) (fun hc => ?_))
      | (refine Nx.zo ?_; first | refine Nx.opr rfl rfl ?_ | refine Nx.callv rfl rfl rfl (by kernel_rfl) rfl hSm ?_ | refine Nx.so ?_ | refine Nx.sb (fun bx => ?_) | refine Nx.sa (fun A2 c2 => ?_))
      | ((with_reducible refine Nx.is_at ?_); first | refine Nx.a ?_ | refine Nx.zd ?_ | refine Nx.zs (fun hc => ?_) (fun hc => ?_))
      | ((with_reducible refine Nx.is_mix ?_); first | refine Nx.m ?_ | refine Nx.zm ?_ | refine Nx.zt (fun hc => ?_) (fun hc => ?_))
      | refine Nx.zx ?_ | fail
    exact Nx.imm_le (hI4.trans hI5) (Nx.again (i + 1) hi2 (by omega) ⟨rfl, rfl, rfl, rfl, rfl, rfl, rfl, trivial⟩ (by (exact Ent.auto)))
  have hMc := ModI_spec cell 9 hcell (by omega) I3
  repeat' first
    | ((with_reducible refine Nx.is_wp ?_); first | refine Nx.wo ?_ | refine Nx.zp (fun hc => ?_) (fun hc => ?_))
    | (refine Nx.zo ?_; first | refine Nx.opr rfl rfl ?_ | refine Nx.callv rfl rfl rfl (by kernel_rfl) rfl hMc ?_ | refine Nx.so ?_ | refine Nx.sb (fun bx => ?_) | refine Nx.sa (fun A2 c2 => ?_))
    | ((with_reducible refine Nx.is_at ?_); first | refine Nx.a ?_ | refine Nx.zd ?_ | refine Nx.zs (fun hc => ?_) (fun hc => ?_))
    | ((with_reducible refine Nx.is_mix ?_); first | refine Nx.m ?_ | refine Nx.zm ?_ | refine Nx.zt (fun hc => ?_) (fun hc => ?_))
    | refine Nx.zx ?_ | fail
  revert bx; intro b157
  refine Nx.freezeAt 0 rfl fun I6 m6 hI6 hm6 h6 => ?_
  have hys : Ints I6 (some ⟨b157, 0, none⟩) 2 [cell, cell % 9] := Blk.sliceOf (t := 3) (l := [cell, cell % 9]) hm6 h6 (by unfold maxLen; simp)
  have hyl : ([cell, cell % 9] : List Int).length = 2 := rfl
  generalize ([cell, cell % 9] : List Int) = ys at hys hyl
  replace hl := hl.mono hI6
  replace hr := hr.mono hI6
  replace hv := hv.mono hI6
  replace hd := hd.mono hI6
  refine Nx.p_loop (σ := Nat) (fun q => [(12, .pointer (some ⟨b12, 0, none⟩)), (14, .slice As rs.length cs), (19, .pointer (some ⟨b19, 0, none⟩)), (157, .slice (some ⟨b157, 0, none⟩) 2 2), (158, .int .i64 ((2 : Nat) : Int)), (159, .int .i64 (q : Int))])
    (fun _ => [Blk b19 62 [.int .i64 r.num, .slice r.va r.v.length r.vc, .slice r.val.1 r.val.2.2.length r.val.2.1], Blk b12 27 [.slice A l.length c], F]) (fun q => q ≤ 2) (fun q => 2 - q) 0 rfl (Nat.zero_le _) ⟨rfl, rfl, rfl, rfl, rfl, rfl, trivial⟩ (by (exact Ent.auto)) ?_
  intro q hq
  have hq : q ≤ 2 := hq
  by_cases hq2 : q < 2
  · have hyr : ∀ (W : World) (R : List Res), Rd W I6 R ((ad (some (⟨b157, 0, none⟩ : Addr))).add (q * 1)) (.int .i64 (ys.getD q default)) := fun W R => hys.rd (by omega)
    generalize ys.getD q default = y at hyr
    have hV1 := Values_spec A As c cs l rs y I6 hl hs hr hw
    have hV2 := RValues_spec A As c cs l rs y I6 hl hs hr hw
    generalize valD l rs y = fe at hV1 hV2
    obtain ⟨xs, er⟩ := fe
    dsimp only at hV1 hV2
    repeat' first
      | ((with_reducible refine Nx.is_wp ?_); first | refine Nx.p_stopr 31 rfl ?_ | refine Nx.wo ?_ | refine Nx.zp (fun hc => ?_) (fun hc => ?_))
      | (refine Nx.zo ?_; first | refine Nx.opr rfl rfl ?_ | refine Nx.indexAddr_nat (A := some ⟨b157, 0, none⟩) (i := q) (sz := 1) rfl rfl rfl rfl rfl hq2 rfl ?_ | refine Nx.load rfl rfl rfl (hyr _ _) ?_ | (refine Nx.call (Rpre := []) rfl rfl rfl (by kernel_rfl) rfl hV1 (Ent.refl _) ?_; rintro _ _ ⟨Au, cu, rfl, rfl⟩) | (refine Nx.call (Rpre := []) rfl rfl rfl (by kernel_rfl) rfl hV2 (Ent.refl _) ?_; rintro _ _ ⟨Av, cv, rfl, rfl⟩) | refine Nx.so ?_ | refine Nx.sb (fun bx => ?_) | refine Nx.sa (fun A2 c2 => ?_))
      | ((with_reducible refine Nx.is_at ?_); first | refine Nx.a ?_ | refine Nx.zd ?_ | refine Nx.zs (fun hc => ?_) (fun hc => ?_))
      | ((with_reducible refine Nx.is_mix ?_); first | refine Nx.m ?_ | refine Nx.zm ?_ | refine Nx.zt (fun hc => ?_) (fun hc => ?_))
      | refine Nx.zx ?_ | fail
    refine Nx.unstop ?_
    refine Nx.ent (R' := [Stars [iR Au cu xs, iR Av cv xs], Blk b19 62 [.int .i64 r.num, .slice r.va r.v.length r.vc, .slice r.val.1 r.val.2.2.length r.val.2.1], Blk b12 27 [.slice A l.length c], F]) (Ent.trans (R' := [iR Au cu xs, iR Av cv xs] ++ [Blk b19 62 [.int .i64 r.num, .slice r.va r.v.length r.vc, .slice r.val.1 r.val.2.2.length r.val.2.1], Blk b12 27 [.slice A l.length c], F]) (by (exact Ent.auto)) Ent.stars) ?_
    refine Nx.freezeAt 0 rfl fun I7 m7 hI7 hm7 h7 => ?_
    obtain ⟨k0, l0, c0⟩ := Stars.get 0 h7 rfl
    obtain ⟨k1, l1, c1⟩ := Stars.get 1 h7 rfl
    have hIn := Ints_spec Au Av cu cv xs xs I7 (Vec.sliceOf (l0.trans hm7) c0) (Vec.sliceOf (l1.trans hm7) c1)
    rw [decide_eq_true rfl] at hIn
    repeat' first
      | ((with_reducible refine Nx.is_wp ?_); first | refine Nx.wo ?_ | refine Nx.zp (fun hc => ?_) (fun hc => ?_))
      | (refine Nx.zo ?_; first | refine Nx.opr rfl rfl ?_ | refine Nx.callv rfl rfl rfl (by kernel_rfl) rfl hIn ?_ | refine Nx.so ?_ | refine Nx.sb (fun bx => ?_) | refine Nx.sa (fun A2 c2 => ?_))
      | ((with_reducible refine Nx.is_at ?_); first | refine Nx.a ?_ | refine Nx.zd ?_ | refine Nx.zs (fun hc => ?_) (fun hc => ?_))
      | ((with_reducible refine Nx.is_mix ?_); first | refine Nx.m ?_ | refine Nx.zm ?_ | refine Nx.zt (fun hc => ?_) (fun hc => ?_))
      | refine Nx.zx ?_ | fail
    exact Nx.imm_le hI7 (Nx.again (q + 1) hq2 (by omega) ⟨rfl, rfl, rfl, rfl, rfl, rfl, trivial⟩ (by (exact Ent.auto)))
  have hC1 := Certain_spec A As c cs l rs I6 hl hs hr hw
  have hC2 := RCertain_spec A As c cs l rs I6 hl hs hr hw
  have hL1 := Learns_spec A As c cs l rs r I6 hl hs hr hw h9 hv hd hrw
  have hL2 := RLearns_spec A As c cs l rs r I6 hl hs hr hw h9 hv hd hrw
  generalize cerD l rs = fc at hC1 hC2
  generalize lrnD l rs r = fl at hL1 hL2
  obtain ⟨xs, er⟩ := fc
  obtain ⟨ys', eq⟩ := fl
  dsimp only at hC1 hC2 hL1 hL2
  repeat' first
    | ((with_reducible refine Nx.is_wp ?_); first | refine Nx.p_stopr 38 rfl ?_ | refine Nx.wo ?_ | refine Nx.zp (fun hc => ?_) (fun hc => ?_))
    | (refine Nx.zo ?_; first | refine Nx.opr rfl rfl ?_ | (refine Nx.call (Rpre := []) rfl rfl rfl (by kernel_rfl) rfl hC1 (Ent.refl _) ?_; rintro _ _ ⟨Au, cu, rfl, rfl⟩) | (refine Nx.call (Rpre := []) rfl rfl rfl (by kernel_rfl) rfl hC2 (Ent.refl _) ?_; rintro _ _ ⟨Av, cv, rfl, rfl⟩) | (refine Nx.call (Rpre := []) rfl rfl rfl (by kernel_rfl) rfl hL1 (Ent.refl _) ?_; rintro _ _ ⟨Ax, cx, rfl, rfl⟩) | (refine Nx.call (Rpre := []) rfl rfl rfl (by kernel_rfl) rfl hL2 (Ent.refl _) ?_; rintro _ _ ⟨Ay, cy, rfl, rfl⟩) | refine Nx.so ?_ | refine Nx.sb (fun bx => ?_) | refine Nx.sa (fun A2 c2 => ?_))
    | ((with_reducible refine Nx.is_at ?_); first | refine Nx.a ?_ | refine Nx.zd ?_ | refine Nx.zs (fun hc => ?_) (fun hc => ?_))
    | ((with_reducible refine Nx.is_mix ?_); first | refine Nx.m ?_ | refine Nx.zm ?_ | refine Nx.zt (fun hc => ?_) (fun hc => ?_))
    | refine Nx.zx ?_ | fail
  refine Nx.unstop ?_
  refine Nx.ent (R' := [Stars [iR Au cu xs, iR Av cv xs, iR Ax cx ys', iR Ay cy ys'], F]) (Ent.trans (R' := [iR Au cu xs, iR Av cv xs, iR Ax cx ys', iR Ay cy ys'] ++ [F]) (by (exact Ent.auto)) Ent.stars) ?_
  refine Nx.freezeAt 0 rfl fun I7 m7 hI7 hm7 h7 => ?_
  obtain ⟨k0, l0, c0⟩ := Stars.get 0 h7 rfl
  obtain ⟨k1, l1, c1⟩ := Stars.get 1 h7 rfl
  obtain ⟨k2, l2, c2⟩ := Stars.get 2 h7 rfl
  obtain ⟨k3, l3, c3⟩ := Stars.get 3 h7 rfl
  have hIn := Ints_spec Au Av cu cv xs xs I7 (Vec.sliceOf (l0.trans hm7) c0) (Vec.sliceOf (l1.trans hm7) c1)
  rw [decide_eq_true rfl] at hIn
  have hIm := Ints_spec Ax Ay cx cy ys' ys' I7 (Vec.sliceOf (l2.trans hm7) c2) (Vec.sliceOf (l3.trans hm7) c3)
  rw [decide_eq_true rfl] at hIm
  repeat' first
    | ((with_reducible refine Nx.is_wp ?_); first | refine Nx.wo ?_ | refine Nx.zp (fun hc => ?_) (fun hc => ?_))
    | (refine Nx.zo ?_; first | refine Nx.opr rfl rfl ?_ | refine Nx.callv rfl rfl rfl (by kernel_rfl) rfl hIn ?_ | refine Nx.callv rfl rfl rfl (by kernel_rfl) rfl hIm ?_ | refine Nx.callv rfl rfl rfl (by kernel_rfl) rfl (awakeA_spec _) ?_ | refine Nx.so ?_ | refine Nx.sb (fun bx => ?_) | refine Nx.sa (fun A2 c2 => ?_))
    | ((with_reducible refine Nx.is_at ?_); first | refine Nx.a ?_ | refine Nx.zd ?_ | refine Nx.zs (fun hc => ?_) (fun hc => ?_))
    | ((with_reducible refine Nx.is_mix ?_); first | refine Nx.m ?_ | refine Nx.zm ?_ | refine Nx.zt (fun hc => ?_) (fun hc => ?_))
    | refine Nx.zx ?_ | fail
  exact Nx.imm_le ((hle0.trans hI3).trans (hI6.trans hI7)) (Nx.ret_fn rfl [] ⟨rfl, rfl⟩ (by (exact Ent.auto)))
end Go.Proofs.YtcmdemfhbekabaaGreat
/- Contracts of functions of the given program, and lemmas about plain lists and numbers: what the laws of this seat lean on. -/
namespace Go.Proofs.YtcmdemfhbekabaaGreat
open Go.Eng Go.Sol
attribute [local irreducible] opK wpList Code.wp Exit.then Exit.inBlock fnPost bodyPost Nx Calls Oper.wp Rd Rds Wr Ent Stars Blk Again Vec FnSpec wpMix QRun Stop Upto wpAt
/-! The law of answers on the attacker -/
set_option maxRecDepth 10000 in
set_option maxHeartbeats 16000000 in
theorem aa_tail (w : World) (F : Res) (b b12 : Nat) (A B At As : Option Addr) (c c' ct ca : Nat) (L s t : List Int) (k1 : Nat) (rs : List Rel) (most cell what by' : Int) (hmost : I64 most) (hcell : I64 cell) (hwh : I64 what) (hby : I64 by') (I0 I : PH) (hle0 : PH.le I0 I)
    (hL : CodesOk I A c L) (hk1 : k1 ≤ L.length) (hz : Ints I B c' s) (hs : Sizes s) (ht : Ints I At ct t) (hTb : Table s t) (hrs : Rels I As ca rs) (hw : ∀ x ∈ rs, Viewed s x.v) (h9 : rs.length ≤ 1000) :
    Nx ⟨Tryz.prog, 234, w⟩ [(1, .int .i64 most), (2, .int .i64 cell), (3, .int .i64 what), (4, .int .i64 by'), (11, .pointer (some ⟨b, 0, none⟩)), (12, .pointer (some ⟨b12, 0, none⟩)), (13, .slice At t.length ct), (14, .slice As rs.length ca)] I [Blk b12 27 [.slice B s.length c'], CodesR b A c L k1, F]
      (Code.wp Tryz.prog (cr (cr (cr (cr (bodyOf Tryz.f7))))) (fnPost Tryz.prog Tryz.f7 I0 F w (fun v R' => v = .bool true ∧ R' = []))) := by
  repeat' first
    | ((with_reducible refine Nx.is_wp ?_); first | refine Nx.p_stopr 14 rfl ?_ | refine Nx.wo ?_ | refine Nx.zp (fun hc => ?_) (fun hc => ?_))
    | (refine Nx.zo ?_; first | refine Nx.opr rfl rfl ?_ | (refine Nx.call rfl rfl rfl (by kernel_rfl) rfl (View_made b A B c c' _ s k1 I hL hk1 hz hs) (by (exact Ent.auto)) ?_; rintro _ _ ⟨Av, cv, v, k3, rfl, hw3, hk3, rfl⟩) | refine Nx.so ?_ | refine Nx.sb (fun bx => ?_) | refine Nx.sa (fun A2 c2 => ?_))
    | ((with_reducible refine Nx.is_at ?_); first | refine Nx.a ?_ | refine Nx.zd ?_ | refine Nx.zs (fun hc => ?_) (fun hc => ?_))
    | ((with_reducible refine Nx.is_mix ?_); first | refine Nx.m ?_ | refine Nx.zm ?_ | refine Nx.zt (fun hc => ?_) (fun hc => ?_))
    | refine Nx.zx ?_ | fail
  refine Nx.unstop ?_
  revert bx; intro b16
  refine Nx.ent (R' := [ViewR Av cv v, Blk b12 27 [.slice B s.length c'], Blk b16 60 [.slice Av v.length cv], F]) (by (exact Ent.auto)) ?_
  refine Nx.freezeAt 0 rfl fun I3 m3 hI3 hm3 h3 => ?_
  have hv : RowsOf I3 Av cv v := ViewR.rows hm3 h3
  replace hz := hz.mono hI3
  replace ht := ht.mono hI3
  replace hrs := hrs.mono hI3
  have hPb := RPublish_spec B Av At c' cv ct s t v I3 hz hs hv hw3 ht hTb
  have hszs := hw3.sizes hs
  have hpr := hszs.bound (k := (szs v).length) (Nat.le_refl _)
  rw [List.take_length] at hpr
  have hpc := hszs.cells
  have hsl := sums_len (pubOf s v) t (prod (szs v)).toNat t.length
  generalize sums (pubOf s v) t (prod (szs v)).toNat t.length = z0 at hsl hPb
  generalize (prod (szs v)).toNat = P at hsl hPb
  repeat' first
    | ((with_reducible refine Nx.is_wp ?_); first | refine Nx.p_stopr 15 rfl ?_ | refine Nx.wo ?_ | refine Nx.zp (fun hc => ?_) (fun hc => ?_))
    | (refine Nx.zo ?_; first | refine Nx.opr rfl rfl ?_ | (refine Nx.call (Rpre := []) rfl rfl rfl (by kernel_rfl) rfl hPb (Ent.refl _) ?_; rintro _ _ ⟨Ap, rfl, rfl⟩) | refine Nx.so ?_ | refine Nx.sb (fun bx => ?_) | refine Nx.sa (fun A2 c2 => ?_))
    | ((with_reducible refine Nx.is_at ?_); first | refine Nx.a ?_ | refine Nx.zd ?_ | refine Nx.zs (fun hc => ?_) (fun hc => ?_))
    | ((with_reducible refine Nx.is_mix ?_); first | refine Nx.m ?_ | refine Nx.zm ?_ | refine Nx.zt (fun hc => ?_) (fun hc => ?_))
    | refine Nx.zx ?_ | fail
  refine Nx.unstop ?_
  refine Nx.freezeAt 0 rfl fun I4 m4 hI4 hm4 h4 => ?_
  subst hsl
  have hpz : Ints I4 Ap z0.length z0 := Vec.sliceOf hm4 h4
  have hle4 := hI3.trans hI4
  replace hz := hz.mono hI4
  replace hrs := hrs.mono hI4
  replace hv := hv.mono hI4
  have hM5 := ModI_spec what 5 hwh (by omega) I4
  have hM9 := ModI_spec by' 9 hby (by omega) I4
  generalize what % 5 = d at hM5
  generalize by' % 9 = z9 at hM9
  by_cases hd : d = 4
  · subst hd
    repeat' first
      | ((with_reducible refine Nx.is_wp ?_); first | refine Nx.p_stops 18 rfl ?_ | refine Nx.wo ?_ | refine Nx.zp (fun hc => ?_) (fun hc => ?_))
      | (refine Nx.zo ?_; first | refine Nx.opr rfl rfl ?_ | refine Nx.callv rfl rfl rfl (by kernel_rfl) rfl hM5 ?_ | refine Nx.callv rfl rfl rfl (by kernel_rfl) rfl hM9 ?_ | refine Nx.so ?_ | refine Nx.sb (fun bx => ?_) | refine Nx.sa (fun A2 c2 => ?_))
      | ((with_reducible refine Nx.is_at ?_); first | refine Nx.a ?_ | refine Nx.zd ?_ | refine Nx.zs (fun hc => ?_) (fun hc => ?_))
      | ((with_reducible refine Nx.is_mix ?_); first | refine Nx.m ?_ | refine Nx.zm ?_ | refine Nx.zt (fun hc => ?_) (fun hc => ?_))
      | refine Nx.zx ?_ | fail
    exact Nx.unstop (Nx.weak (by exact ⟨rfl, rfl, rfl, rfl, rfl, trivial⟩) (by (exact Ent.auto)) (aa_rest w F b12 _ B As c' ca s rs ⟨z9, Av, cv, v, (Ap, z0.length, z0)⟩ most cell hmost hcell I0 I4 (hle0.trans hle4) hz hs hrs hw h9 hv hpz hw3))
  · repeat' first
      | ((with_reducible refine Nx.is_wp ?_); first | refine Nx.p_stops 18 rfl ?_ | refine Nx.wo ?_ | refine Nx.zp (fun hc => ?_) (fun hc => ?_))
      | (refine Nx.zo ?_; first | refine Nx.opr rfl rfl ?_ | refine Nx.callv rfl rfl rfl (by kernel_rfl) rfl hM5 ?_ | refine Nx.so ?_ | refine Nx.sb (fun bx => ?_) | refine Nx.sa (fun A2 c2 => ?_))
      | ((with_reducible refine Nx.is_at ?_); first | refine Nx.a ?_ | refine Nx.zd ?_ | refine Nx.zs (fun hc => ?_) (fun hc => ?_))
      | ((with_reducible refine Nx.is_mix ?_); first | refine Nx.m ?_ | refine Nx.zm ?_ | refine Nx.zt (fun hc => ?_) (fun hc => ?_))
      | refine Nx.zx ?_ | fail
    exact Nx.unstop (Nx.weak (by exact ⟨rfl, rfl, rfl, rfl, rfl, trivial⟩) (by (exact Ent.auto)) (aa_rest w F b12 _ B As c' ca s rs ⟨(rs.length : Int), Av, cv, v, (Ap, z0.length, z0)⟩ most cell hmost hcell I0 I4 (hle0.trans hle4) hz hs hrs hw h9 hv hpz hw3))
end Go.Proofs.YtcmdemfhbekabaaGreat
/- Contracts of functions of the given program, and lemmas about plain lists and numbers: what the laws of this seat lean on. -/
namespace Go.Proofs.YtcmdemfhbekabaaGreat
open Go.Eng Go.Sol
attribute [local irreducible] opK wpList Code.wp Exit.then Exit.inBlock fnPost bodyPost Nx Calls Oper.wp Rd Rds Wr Ent Stars Blk Again Vec FnSpec wpMix QRun Stop Upto wpAt
/-! The law of answers on the attacker: what is changed -/
/-- Frozen views and values of releases. -/
def SeenR (I : PH) (rs : List Rel) : Prop := ∀ r ∈ rs, RowsOf I r.va r.vc r.v ∧ Ints I r.val.1 r.val.2.1 r.val.2.2
theorem SeenR.mono {I I' : PH} {rs : List Rel} (hle : PH.le I I') (h : SeenR I rs) : SeenR I' rs := fun r hr => ⟨(h r hr).1.mono hle, (h r hr).2.mono hle⟩
theorem seen_of {rs : List Rel} {m I' : PH} (hm : PH.le m I') (h2 : Stars (rs.map relR) m) : SeenR I' rs := fun r hr => by
  obtain ⟨k, hk, he⟩ := List.mem_iff_getElem.1 hr
  obtain ⟨m3, h3le, h3⟩ := Stars.get k (r := relR r) h2 (by rw [nthL_eq, List.getElem?_map, List.getElem?_eq_getElem hk, he]; rfl)
  obtain ⟨m4, h4le, h4⟩ := Stars.get 0 h3 rfl
  obtain ⟨m5, h5le, h5⟩ := Stars.get 1 h3 rfl
  exact ⟨ViewR.rows (h4le.trans (h3le.trans hm)) h4, Vec.sliceOf (h5le.trans (h3le.trans hm)) h5⟩
theorem seen_rels {I I' m : PH} {A : Option Addr} {c : Nat} {rs : List Rel} (h : SeenR I rs) (hle : PH.le I I') (hm : PH.le m I') (hv : Vec 62 3 A rs.length c (rs.flatMap relC) m) : Rels I' A c rs :=
  ⟨Vec.sliceN hm hv fun x _ => relC_len x, fun r hr => (h r hr).1.mono hle, fun r hr => (h r hr).2.mono hle⟩
theorem seenR_set {I : PH} {rs : List Rel} {k : Nat} {r : Rel} (h : SeenR I rs) (h1 : RowsOf I r.va r.vc r.v) (h2 : Ints I r.val.1 r.val.2.1 r.val.2.2) : SeenR I (rs.set k r) := fun x hx => by
  rcases mem_setR hx with rfl | h3
  · exact ⟨h1, h2⟩
  · exact h x h3
set_option maxHeartbeats 8000000 in
/-- One release is changed: its number or its values. -/
theorem aa_end (w : World) (F : Res) (b b12 : Nat) (A B At As A5 : Option Addr) (c c' ct ca c5 : Nat) (L s t xs : List Int) (k1 : Nat) (rs : List Rel) (kk : Nat) (r : Rel) (most cell what by' : Int) (hmost : I64 most) (hcell : I64 cell) (hwh : I64 what) (hby : I64 by') (I0 I : PH) (hle0 : PH.le I0 I)
    (hL : CodesOk I A c L) (hk1 : k1 ≤ L.length) (hz : Ints I B c' s) (hs : Sizes s) (ht : Ints I At ct t) (hTb : Table s t) (hse : SeenR I rs) (hw : ∀ x ∈ rs, Viewed s x.v) (h9 : rs.length ≤ 1000) (hkk : kk < rs.length) (hva : r.va = (rs.getD kk default).va) (hvc : r.vc = (rs.getD kk default).vc) (hvv : r.v = (rs.getD kk default).v)
    (hrow : ∀ I', Ints I' A5 c5 xs → Ints I' r.val.1 r.val.2.1 r.val.2.2) :
    Nx ⟨Tryz.prog, 234, w⟩ [(1, .int .i64 most), (2, .int .i64 cell), (3, .int .i64 what), (4, .int .i64 by'), (11, .pointer (some ⟨b, 0, none⟩)), (12, .pointer (some ⟨b12, 0, none⟩)), (13, .slice At t.length ct), (14, .slice As rs.length ca)] I [iR A5 c5 xs, Vec 62 3 As rs.length ca ((rs.set kk r).flatMap relC), Blk b12 27 [.slice B s.length c'], CodesR b A c L k1, F]
      (Code.wp Tryz.prog (cr (cr (cr (cr (bodyOf Tryz.f7))))) (fnPost Tryz.prog Tryz.f7 I0 F w (fun v R' => v = .bool true ∧ R' = []))) := by
  refine Nx.freezeAt 0 rfl fun I1 m1 hI1 hm1 h1 => ?_
  refine Nx.freezeAt 0 rfl fun I2 m2 hI2 hm2 h2 => ?_
  have hle := hI1.trans hI2
  have hrl : (rs.set kk r).length = rs.length := List.length_set
  have hvw := (hse _ (getD_memR hkk)).1
  rw [← hva, ← hvc, ← hvv] at hvw
  have hR := seen_rels (A := As) (c := ca) (seenR_set (k := kk) (hse.mono hI1) (hvw.mono hI1) (hrow I1 (Vec.sliceOf hm1 h1))) hI2 hm2 (by rw [hrl]; exact h2)
  have := aa_tail w F b b12 A B At As c c' ct ca L s t k1 (rs.set kk r) most cell what by' hmost hcell hwh hby I0 I2 (hle0.trans hle) (hL.mono hle) hk1 (hz.mono hle) hs (ht.mono hle) hTb hR (fun x hx => (mem_setR hx).elim (fun h => by rw [h, hvv]; exact hw _ (getD_memR hkk)) fun h => hw x h) (by rw [hrl]; exact h9)
  rw [hrl] at this
  exact this
set_option maxRecDepth 10000 in
set_option maxHeartbeats 32000000 in
theorem AttackerAnswers_spec (A : Option Addr) (c : Nat) (l : List Int) (most cell what by' : Int) (I : PH) (hl : Bytes I A c l) (hx : ∀ x ∈ l, 0 ≤ x ∧ x < 256) (hmost : I64 most) (hcell : I64 cell) (hwh : I64 what) (hby : I64 by') :
    FnSpec Tryz.prog 7 [.slice A l.length c, .int .i64 most, .int .i64 cell, .int .i64 what, .int .i64 by'] I [] (fun v R' => v = .bool true ∧ R' = []) := by
  have hL := bytes_take hl hx
  refine FnSpec.enterP Tryz.func7 rfl Tryz.ntmps7 rfl fun w F => ?_
  repeat' first
    | ((with_reducible refine Nx.is_wp ?_); first | refine Nx.p_stopr 3 rfl ?_ | refine Nx.wo ?_ | refine Nx.zp (fun hc => ?_) (fun hc => ?_))
    | (refine Nx.zo ?_; first | refine Nx.opr rfl rfl ?_ | (refine Nx.call (Rpre := []) rfl rfl rfl (by kernel_rfl) rfl (New_codes A c l I hl) (Ent.refl _) ?_; rintro _ _ ⟨b, rfl, rfl⟩) | (refine Nx.call rfl rfl rfl (by kernel_rfl) rfl (Told_made b A c _ 0 2 3 I hL (Nat.zero_le _) (by omega) (by omega)) (by (exact Ent.auto)) ?_; rintro _ _ ⟨B, c', s, At, ct, t, As, ca, rs, k1, rfl, hs, hT, hrn, hro, hk1, rfl⟩) | refine Nx.so ?_ | refine Nx.sb (fun bx => ?_) | refine Nx.sa (fun A2 c2 => ?_))
    | ((with_reducible refine Nx.is_at ?_); first | refine Nx.a ?_ | refine Nx.zd ?_ | refine Nx.zs (fun hc => ?_) (fun hc => ?_))
    | ((with_reducible refine Nx.is_mix ?_); first | refine Nx.m ?_ | refine Nx.zm ?_ | refine Nx.zt (fun hc => ?_) (fun hc => ?_))
    | refine Nx.zx ?_ | fail
  refine Nx.unstop ?_
  revert bx; intro b12
  refine Nx.ent (R' := [Stars [iR B c' s, iR At ct t, Stars (rs.map relR)], Vec 62 3 As rs.length ca (rs.flatMap relC), Blk b12 27 [.slice B s.length c'], CodesR b A c (l.take 400) k1, F]) (Ent.trans (R' := [iR B c' s, iR At ct t, Stars (rs.map relR)] ++ [Vec 62 3 As rs.length ca (rs.flatMap relC), Blk b12 27 [.slice B s.length c'], CodesR b A c (l.take 400) k1, F]) (by unfold toldR; (exact Ent.auto)) Ent.stars) ?_
  refine Nx.freezeAt 0 rfl fun I1 m1 hI1 hm1 h1 => ?_
  obtain ⟨q0, z0, y0⟩ := Stars.get 0 h1 rfl
  obtain ⟨q1, z1, y1⟩ := Stars.get 1 h1 rfl
  obtain ⟨q2, z2, y2⟩ := Stars.get 2 h1 rfl
  have hz : Ints I1 B c' s := Vec.sliceOf (z0.trans hm1) y0
  have ht : Ints I1 At ct t := Vec.sliceOf (z1.trans hm1) y1
  have hse : SeenR I1 rs := seen_of (z2.trans hm1) y2
  replace hL := hL.mono hI1
  have hTb : Table s t := ⟨hT.1, fun j hj => by have := hT.2 j hj; omega⟩
  have hwv := views_of hro
  by_cases h0 : rs.length = 0
  · repeat' first
      | ((with_reducible refine Nx.is_wp ?_); first | refine Nx.p_stopr 13 rfl ?_ | refine Nx.wo ?_ | refine Nx.zp (fun hc => ?_) (fun hc => ?_))
      | (refine Nx.zo ?_; first | refine Nx.opr rfl rfl ?_ | refine Nx.so ?_ | refine Nx.sb (fun bx => ?_) | refine Nx.sa (fun A2 c2 => ?_))
      | ((with_reducible refine Nx.is_at ?_); first | refine Nx.a ?_ | refine Nx.zd ?_ | refine Nx.zs (fun hc => ?_) (fun hc => ?_))
      | ((with_reducible refine Nx.is_mix ?_); first | refine Nx.m ?_ | refine Nx.zm ?_ | refine Nx.zt (fun hc => ?_) (fun hc => ?_))
      | refine Nx.zx ?_ | fail
    refine Nx.unstop ?_
    refine Nx.ent (R' := [Vec 62 3 As rs.length ca (rs.flatMap relC), Blk b12 27 [.slice B s.length c'], CodesR b A c (l.take 400) k1, F]) (by (exact Ent.auto)) ?_
    refine Nx.freezeAt 0 rfl fun I2 m2 hI2 hm2 h2 => ?_
    exact Nx.weak (by exact ⟨rfl, rfl, rfl, rfl, rfl, rfl, rfl, rfl, trivial⟩) (by (exact Ent.auto)) (aa_tail w F b b12 A B At As c c' ct ca (l.take 400) s t k1 rs most cell what by' hmost hcell hwh hby I I2 (hI1.trans hI2) (hL.mono hI2) hk1 (hz.mono hI2) hs (ht.mono hI2) hTb (seen_rels hse hI2 hm2 h2) hwv (by omega))
  have hMk := ModI_spec by' rs.length hby (by omega) I1
  obtain ⟨kk, hkk, hkl⟩ : ∃ kk : Nat, by' % (rs.length : Int) = kk ∧ kk < rs.length := by
    have h1 := Int.emod_nonneg by' (show (rs.length : Int) ≠ 0 by omega)
    have h2 := Int.emod_lt_of_pos by' (show (0 : Int) < rs.length by omega)
    exact ⟨(by' % (rs.length : Int)).toNat, by omega, by omega⟩
  rw [hkk] at hMk
  refine Nx.vec_fact fun _ _ _ hA3 => ?_
  have hA3 := hA3 (by omega)
  obtain ⟨hrk, hnk⟩ := hro.each kk hkl
  have hvk := (hse _ (getD_memR hkl)).2
  have hvlen : 0 < (rs.getD kk default).val.2.2.length ∧ (rs.getD kk default).val.2.2.length ≤ 4096 := by
    have h1 := hrk.len
    have h2 := (hrk.view.sizes hs).bound (k := (szs (rs.getD kk default).v).length) (Nat.le_refl _)
    rw [List.take_length] at h2
    have h3 : prod (szs (rs.getD kk default).v) ≤ 4096 := h2.2
    constructor <;> omega
  obtain ⟨r0, hr0⟩ : ∃ r0, r0 = rs.getD kk default := ⟨_, rfl⟩
  have hva : r0.va = (rs.getD kk default).va := by rw [hr0]
  have hvc : r0.vc = (rs.getD kk default).vc := by rw [hr0]
  have hvv : r0.v = (rs.getD kk default).v := by rw [hr0]
  rw [← hr0] at hvk hvlen
  obtain ⟨num, va, vc, v, D, cd, vs⟩ := r0
  dsimp only at hva hvc hvv hvk hvlen
  have hdl := hvk.len
  have hfl : ∀ A5 c5, (rs.flatMap relC).set (kk * 3 + 2) (.slice A5 vs.length c5) = (rs.set kk ⟨num, va, vc, v, (A5, c5, vs)⟩).flatMap relC := fun A5 c5 => flat_set relC_len hkl (by decide) (by rw [← hr0]; rfl)
  repeat' first
    | ((with_reducible refine Nx.is_wp ?_); first | refine Nx.p_stopr 6 rfl ?_ | refine Nx.wo ?_ | refine Nx.zp (fun hc => ?_) (fun hc => ?_))
    | (refine Nx.zo ?_; first | (refine Nx.quietly rfl rfl (QRun.fld (A := (ad As).add (kk * 3)) rfl rfl) ?_) | refine Nx.opr rfl rfl ?_ | refine Nx.callv rfl rfl rfl (by kernel_rfl) rfl hMk ?_ | refine Nx.indexAddr_nat (A := As) (i := kk) (sz := 3) rfl rfl rfl rfl rfl hkl hA3 ?_ | refine Nx.load rfl rfl rfl (Rd.vecFld (v := .slice D vs.length cd) 1 relC_len rfl hkl 2 (by rw [← hr0]; rfl)) ?_ | (refine Nx.blk_vec 0 0 1 rfl rfl (by omega) ?_; refine Nx.append rfl rfl rfl rfl (by kernel_rfl) rfl (Src.arr hvk.arr (by simp) (by omega) (fun u hu => by obtain ⟨z, _, rfl⟩ := List.mem_map.1 hu; rfl)) (by omega) fun A5 c5 => ?_; rw [Nat.zero_add, List.nil_append]) | (refine Nx.store_fld 1 (A := As) (i := kk) (j := 2) rfl rfl rfl rfl rfl rfl (by omega) ?_; rw [hfl]) | refine Nx.so ?_ | refine Nx.sb (fun bx => ?_) | refine Nx.sa (fun A2 c2 => ?_))
    | ((with_reducible refine Nx.is_at ?_); first | refine Nx.a ?_ | refine Nx.zd ?_ | refine Nx.zs (fun hc => ?_) (fun hc => ?_))
    | ((with_reducible refine Nx.is_mix ?_); first | refine Nx.m ?_ | refine Nx.zm ?_ | refine Nx.zt (fun hc => ?_) (fun hc => ?_))
    | refine Nx.zx ?_ | fail
  refine Nx.unstop ?_
  refine Nx.ent (R' := [iR A5 c5 vs, Vec 62 3 As rs.length ca ((rs.set kk ⟨num, va, vc, v, (A5, c5, vs)⟩).flatMap relC), Blk b12 27 [.slice B s.length c'], CodesR b A c (l.take 400) k1, F]) (by (exact Ent.auto)) ?_
  refine Nx.vec_fact fun _ hc5 hm5 hA5 => ?_
  have hA5 := hA5 (by omega)
  have hM7w := ModI_spec what 7 hwh (by omega) I1
  have hM30 := ModI_spec by' 30 hby (by omega) I1
  have hM7 := ModI_spec by' 7 hby (by omega) I1
  have hd8 := Int.emod_nonneg what (show (7 : Int) ≠ 0 by decide)
  have hb30 := Int.emod_nonneg by' (show (30 : Int) ≠ 0 by decide)
  have hb30' := Int.emod_lt_of_pos by' (show (0 : Int) < 30 by decide)
  have hb7 := Int.emod_nonneg by' (show (7 : Int) ≠ 0 by decide)
  have hb7' := Int.emod_lt_of_pos by' (show (0 : Int) < 7 by decide)
  generalize what % 7 = d at hM7w hd8
  generalize by' % 30 = z30 at hM30 hb30 hb30'
  generalize by' % 7 = z7 at hM7 hb7 hb7'
  have hset : ∀ r, (rs.set kk ⟨num, va, vc, v, (A5, c5, vs)⟩).set kk r = rs.set kk r := fun r => List.set_set ..
  have hsl : (rs.set kk ⟨num, va, vc, v, (A5, c5, vs)⟩).length = rs.length := List.length_set
  have hsg : (rs.set kk ⟨num, va, vc, v, (A5, c5, vs)⟩).getD kk default = ⟨num, va, vc, v, (A5, c5, vs)⟩ := by rw [List.getD_eq_getElem?_getD, List.getElem?_set_self hkl]; rfl
  have hend := fun (A6 : Option Addr) (c6 : Nat) (xs : List Int) (r : Rel) (e1 : r.va = va) (e2 : r.vc = vc) (e3 : r.v = v) (hrow : ∀ I', Ints I' A6 c6 xs → Ints I' r.val.1 r.val.2.1 r.val.2.2) => aa_end w F b b12 A B At As A6 c c' ct ca c6 (l.take 400) s t xs k1 rs kk r most cell what by' hmost hcell hwh hby I I1 hI1 hL hk1 hz hs ht hTb hse hwv (by omega) hkl (e1.trans hva) (e2.trans hvc) (e3.trans hvv) hrow
  by_cases d0 : d = 0
  · subst d0
    have hf0 : ((rs.set kk ⟨num, va, vc, v, (A5, c5, vs)⟩).flatMap relC).set (kk * 3 + 0) (.int .i64 (z30 - 2)) = (rs.set kk ⟨z30 - 2, va, vc, v, (A5, c5, vs)⟩).flatMap relC := by
      rw [flat_set (x' := ⟨z30 - 2, va, vc, v, (A5, c5, vs)⟩) relC_len (by omega) (by decide) (by rw [hsg]; rfl), hset]
    repeat' first
      | ((with_reducible refine Nx.is_wp ?_); first | refine Nx.p_stopr 13 rfl ?_ | refine Nx.wo ?_ | refine Nx.zp (fun hc => ?_) (fun hc => ?_))
      | (refine Nx.zo ?_; first | (refine Nx.quietly rfl rfl (QRun.fld (A := (ad As).add (kk * 3)) rfl rfl) ?_) | refine Nx.opr rfl rfl ?_ | refine Nx.callv rfl rfl rfl (by kernel_rfl) rfl hM7w ?_ | refine Nx.callv rfl rfl rfl (by kernel_rfl) rfl hM30 ?_ | refine Nx.indexAddr_nat (A := As) (i := kk) (sz := 3) rfl rfl rfl rfl rfl hkl hA3 ?_ | (refine Nx.store_fld 1 (A := As) (i := kk) (j := 0) rfl rfl rfl rfl rfl rfl (by omega) ?_; rw [hf0]) | refine Nx.so ?_ | refine Nx.sb (fun bx => ?_) | refine Nx.sa (fun A2 c2 => ?_))
      | ((with_reducible refine Nx.is_at ?_); first | refine Nx.a ?_ | refine Nx.zd ?_ | refine Nx.zs (fun hc => ?_) (fun hc => ?_))
      | ((with_reducible refine Nx.is_mix ?_); first | refine Nx.m ?_ | refine Nx.zm ?_ | refine Nx.zt (fun hc => ?_) (fun hc => ?_))
      | refine Nx.zx ?_ | fail
    exact Nx.unstop (Nx.weak (by exact ⟨rfl, rfl, rfl, rfl, rfl, rfl, rfl, rfl, trivial⟩) (by (exact Ent.auto)) (hend A5 c5 vs ⟨z30 - 2, va, vc, v, (A5, c5, vs)⟩ rfl rfl rfl fun _ h => h))
  by_cases d1 : d = 1
  · subst d1
    have hf1 : (rs.set kk ⟨num, va, vc, v, (A5, c5, vs)⟩).flatMap relC = (rs.set kk ⟨num, va, vc, v, (A5, c5, vs.set 0 (z7 - 2))⟩).flatMap relC := by
      rw [List.flatMap_def, List.flatMap_def, List.map_set, List.map_set]
      unfold relC rowV
      dsimp only
      rw [List.length_set]
    repeat' first
      | ((with_reducible refine Nx.is_wp ?_); first | refine Nx.p_stopr 13 rfl ?_ | refine Nx.wo ?_ | refine Nx.p_drawF (id := 10) rfl [0, 1, 2, 3, 4, 5, 6, 7, 8] [6] [9] _ rfl rfl (by kernel_rfl) (by kernel_rfl) rfl (by repeat first | exact PanicOk.fn | refine PanicOk.then_ ?_ | refine PanicOk.inB ?_) (Ent.refl _) ?_ | refine Nx.zp (fun hc => ?_) (fun hc => ?_))
      | (refine Nx.zo ?_; first | refine Nx.opr rfl rfl ?_ | refine Nx.callv rfl rfl rfl (by kernel_rfl) rfl hM7w ?_ | refine Nx.callv rfl rfl rfl (by kernel_rfl) rfl hM7 ?_ | refine Nx.store_ints 0 (A := A5) (i := 0) (l := vs) rfl rfl rfl rfl (by omega) ?_ | refine Nx.so ?_ | refine Nx.sb (fun bx => ?_) | refine Nx.sa (fun A2 c2 => ?_))
      | ((with_reducible refine Nx.is_at ?_); first | refine Nx.a ?_ | refine Nx.zd ?_ | refine Nx.zs (fun hc => ?_) (fun hc => ?_))
      | ((with_reducible refine Nx.is_mix ?_); first | refine Nx.m_quiet rfl rfl rfl rfl rfl (by first | exact QRun.fld (A := (ad As).add (kk * 3)) rfl rfl | exact QRun.opr rfl | exact QRun.idx (A := As) (i := kk) (sz := 3) rfl rfl rfl rfl hkl hA3 | exact QRun.idx (A := A5) (i := 0) (sz := 1) rfl rfl rfl rfl (by omega) hA5 | exact QRun.load rfl rfl (Rd.vecFld (v := .slice A5 vs.length c5) 1 relC_len rfl (by omega) 2 (by rw [hsg]; rfl))) ?_ | refine Nx.m_quiet_do rfl rfl rfl rfl rfl rfl rfl (by first | exact QRun.fld (A := (ad As).add (kk * 3)) rfl rfl | exact QRun.opr rfl | exact QRun.idx (A := As) (i := kk) (sz := 3) rfl rfl rfl rfl hkl hA3 | exact QRun.idx (A := A5) (i := 0) (sz := 1) rfl rfl rfl rfl (by omega) hA5 | exact QRun.load rfl rfl (Rd.vecFld (v := .slice A5 vs.length c5) 1 relC_len rfl (by omega) 2 (by rw [hsg]; rfl))) ?_ | refine Nx.m ?_ | refine Nx.zm ?_ | refine Nx.zt (fun hc => ?_) (fun hc => ?_))
      | refine Nx.zx ?_ | fail
    exact Nx.unstop (Nx.weak (by exact ⟨rfl, rfl, rfl, rfl, rfl, rfl, rfl, rfl, trivial⟩) (by unfold iR; rw [List.length_set, ← hf1]; (exact Ent.auto)) (hend A5 c5 (vs.set 0 (z7 - 2)) ⟨num, va, vc, v, (A5, c5, vs.set 0 (z7 - 2))⟩ rfl rfl rfl fun _ h => h))
  by_cases d2 : d = 2
  · subst d2
    have hf2 : ((rs.set kk ⟨num, va, vc, v, (A5, c5, vs)⟩).flatMap relC).set (kk * 3 + 2) (.slice (offA A5 c5 1 1) (vs.length - 1) (c5 - 1)) = (rs.set kk ⟨num, va, vc, v, (offA A5 c5 1 1, c5 - 1, vs.drop 1)⟩).flatMap relC := by
      rw [flat_set (x' := ⟨num, va, vc, v, (offA A5 c5 1 1, c5 - 1, vs.drop 1)⟩) relC_len (by omega) (by decide) (by rw [hsg]; unfold relC rowV; dsimp only; rw [List.length_drop]; rfl), hset]
    repeat' first
      | ((with_reducible refine Nx.is_wp ?_); first | refine Nx.p_stopr 13 rfl ?_ | refine Nx.wo ?_ | refine Nx.zp (fun hc => ?_) (fun hc => ?_))
      | (refine Nx.zo ?_; first | (refine Nx.quietly rfl rfl (QRun.fld (A := (ad As).add (kk * 3)) rfl rfl) ?_) | refine Nx.opr rfl rfl ?_ | refine Nx.callv rfl rfl rfl (by kernel_rfl) rfl hM7w ?_ | refine Nx.indexAddr_nat (A := As) (i := kk) (sz := 3) rfl rfl rfl rfl rfl hkl hA3 ?_ | refine Nx.load rfl rfl rfl (Rd.vecFld (v := .slice A5 vs.length c5) 1 relC_len rfl (by omega) 2 (by rw [hsg]; rfl)) ?_ | refine Nx.slice_lo (l := 1) rfl rfl rfl rfl rfl (by omega) ?_ | (refine Nx.store_fld 1 (A := As) (i := kk) (j := 2) rfl rfl rfl rfl rfl rfl (by omega) ?_; rw [hf2]) | refine Nx.so ?_ | refine Nx.sb (fun bx => ?_) | refine Nx.sa (fun A2 c2 => ?_))
      | ((with_reducible refine Nx.is_at ?_); first | refine Nx.a ?_ | refine Nx.zd ?_ | refine Nx.zs (fun hc => ?_) (fun hc => ?_))
      | ((with_reducible refine Nx.is_mix ?_); first | refine Nx.m ?_ | refine Nx.zm ?_ | refine Nx.zt (fun hc => ?_) (fun hc => ?_))
      | refine Nx.zx ?_ | fail
    exact Nx.unstop (Nx.weak (by exact ⟨rfl, rfl, rfl, rfl, rfl, rfl, rfl, rfl, trivial⟩) (by (exact Ent.auto)) (hend A5 c5 vs ⟨num, va, vc, v, (offA A5 c5 1 1, c5 - 1, vs.drop 1)⟩ rfl rfl rfl fun _ h => SliceOf.drop h (by omega)))
  repeat' first
    | ((with_reducible refine Nx.is_wp ?_); first | refine Nx.p_stopr 13 rfl ?_ | refine Nx.wo ?_ | refine Nx.zp (fun hc => ?_) (fun hc => ?_))
    | (refine Nx.zo ?_; first | refine Nx.opr rfl rfl ?_ | refine Nx.callv rfl rfl rfl (by kernel_rfl) rfl hM7w ?_ | refine Nx.so ?_ | refine Nx.sb (fun bx => ?_) | refine Nx.sa (fun A2 c2 => ?_))
    | ((with_reducible refine Nx.is_at ?_); first | refine Nx.a ?_ | refine Nx.zd ?_ | refine Nx.zs (fun hc => ?_) (fun hc => ?_))
    | ((with_reducible refine Nx.is_mix ?_); first | refine Nx.m ?_ | refine Nx.zm ?_ | refine Nx.zt (fun hc => ?_) (fun hc => ?_))
    | refine Nx.zx ?_ | fail
  exact Nx.unstop (Nx.weak (by exact ⟨rfl, rfl, rfl, rfl, rfl, rfl, rfl, rfl, trivial⟩) (by (exact Ent.auto)) (hend A5 c5 vs ⟨num, va, vc, v, (A5, c5, vs)⟩ rfl rfl rfl fun _ h => h))
end Go.Proofs.YtcmdemfhbekabaaGreat
