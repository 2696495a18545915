/- Contracts of functions of the given program, and lemmas about plain lists and numbers: what the laws of this seat lean on. -/
import Derived.Test.YtcmdemfhbekabaaGreatSa10
namespace Go.Proofs.YtcmdemfhbekabaaGreat
open Go.Eng Go.Sol
attribute [local irreducible] opK wpList Code.wp Exit.then Exit.inBlock fnPost bodyPost Nx Calls Oper.wp Rd Rds Wr Ent Stars Blk Again Vec FnSpec wpMix QRun Stop Upto wpAt
/-! A release behind others; whether a set protects -/
set_option maxRecDepth 10000 in
set_option maxHeartbeats 8000000 in
theorem behind_spec (A : Option Addr) (c : Nat) (es : List Rel) (r : Rel) (I : PH) (he : SliceN relC 3 I A c es) (h9 : es.length ≤ 1000) :
    FnSpec Tryz.prog 96 [.slice A es.length c, .agg #[.int .i64 r.num, .slice r.va r.v.length r.vc, rowV r.val]] I [] (fun u R' => ∃ (A' : Option Addr) (c' : Nat), u = .slice A' (es ++ [r]).length c' ∧ R' = [rlR A' c' (es ++ [r])]) := by
  have hCl := CloneR_spec A c es I he (by omega)
  have h1 : (es ++ [r]).length = es.length + 1 := by rw [List.length_append]; rfl
  have h2 : (es ++ [r]).flatMap relC = es.flatMap relC ++ [.int .i64 r.num, .slice r.va r.v.length r.vc, rowV r.val] := by rw [List.flatMap_append, List.flatMap_cons, List.flatMap_nil, List.append_nil]; rfl
  obtain ⟨num, va, vc, v, D, cd, vs⟩ := r
  unfold rowV at h2 ⊢
  dsimp only at h2 ⊢
  rw [h1]
  unfold rlR
  rw [h1, h2]
  refine FnSpec.enterP Tryz.func96 rfl Tryz.ntmps96 rfl fun w F => ?_
  repeat' first
    | ((with_reducible refine Nx.is_wp ?_); first | refine Nx.p_stopr 1 rfl ?_ | refine Nx.wo ?_ | refine Nx.zp (fun hc => ?_) (fun hc => ?_))
    | (refine Nx.zo ?_; first | refine Nx.opr rfl rfl ?_ | refine Nx.so ?_ | refine Nx.sb (fun bx => ?_) | refine Nx.sa (fun A2 c2 => ?_))
    | ((with_reducible refine Nx.is_at ?_); first | refine Nx.a ?_ | refine Nx.zd ?_ | refine Nx.zs (fun hc => ?_) (fun hc => ?_))
    | ((with_reducible refine Nx.is_mix ?_); first | refine Nx.m ?_ | refine Nx.zm ?_ | refine Nx.zt (fun hc => ?_) (fun hc => ?_))
    | refine Nx.zx ?_ | fail
  refine Nx.unstop ?_
  revert bx; intro b3
  refine Nx.p_seq rfl ?_
  refine Nx.p_fork (id := 1) rfl [0, 2] [5] [1, 3, 4] [Blk b3 62 [.int .i64 num, .slice va v.length vc, .slice D vs.length cd]] 4 rfl rfl (by kernel_rfl) (by kernel_rfl) (by kernel_rfl) (by repeat first | exact PanicOk.fn | refine PanicOk.then_ ?_ | refine PanicOk.inB ?_) (by (exact Ent.auto)) ?_
  repeat' first
    | ((with_reducible refine Nx.is_wp ?_); first | refine Nx.wo ?_ | refine Nx.zp (fun hc => ?_) (fun hc => ?_))
    | (refine Nx.zo ?_; first | refine Nx.opr rfl rfl ?_ | refine Nx.so ?_ | refine Nx.sb (fun bx => ?_) | refine Nx.sa (fun A2 c2 => ?_))
    | ((with_reducible refine Nx.is_at ?_); first | refine Nx.a ?_ | refine Nx.zd ?_ | refine Nx.zs (fun hc => ?_) (fun hc => ?_))
    | ((with_reducible refine Nx.is_mix ?_); first | refine Nx.m ?_ | refine Nx.zm ?_ | refine Nx.zt (fun hc => ?_) (fun hc => ?_))
    | refine Nx.zx ?_ | fail
  refine Nx.fork2 (i := 1) (j := 3) (by kernel_rfl) rfl rfl rfl rfl ?_ ?_
  · refine Nx.call (Rpre := []) rfl rfl rfl (by kernel_rfl) rfl hCl (Ent.refl _) ?_
    rintro _ _ ⟨A1, c1, rfl, rfl⟩
    refine Nx.mix_S (by (exact Ent.auto)) ?_
    refine Nx.fork1 (i := 3) (by kernel_rfl) rfl rfl ?_
    refine Nx.sb (fun b8 => ?_)
    refine Nx.mix_S (by (exact Ent.auto)) ?_
    refine Nx.fork1 (i := 4) (by kernel_rfl) rfl rfl ?_
    refine Nx.ent (R' := [Blk b8 62 [.int .i64 num, .slice va v.length vc, .slice D vs.length cd], rlR A1 c1 es, Blk b3 62 [.int .i64 num, .slice va v.length vc, .slice D vs.length cd], F]) (by (exact Ent.auto)) ?_
    refine Nx.append_lit 0 rfl rfl rfl rfl (by kernel_rfl) rfl rfl rfl rfl (by omega) fun A2 c2 => ?_
    refine Nx.mix_S (by (exact Ent.auto)) ?_
    refine Nx.fork_fin (by kernel_rfl) rfl ?_
    repeat' first
      | ((with_reducible refine Nx.is_wp ?_); first | refine Nx.wo ?_ | refine Nx.zp (fun hc => ?_) (fun hc => ?_))
      | (refine Nx.zo ?_; first | refine Nx.opr rfl rfl ?_ | refine Nx.so ?_ | refine Nx.sb (fun bx => ?_) | refine Nx.sa (fun A2 c2 => ?_))
      | ((with_reducible refine Nx.is_at ?_); first | refine Nx.a ?_ | refine Nx.zd ?_ | refine Nx.zs (fun hc => ?_) (fun hc => ?_))
      | ((with_reducible refine Nx.is_mix ?_); first | refine Nx.m ?_ | refine Nx.zm ?_ | refine Nx.zt (fun hc => ?_) (fun hc => ?_))
      | refine Nx.zx ?_ | fail
    exact Nx.ret_fn rfl [_] ⟨A2, c2, rfl, rfl⟩ (by (exact Ent.auto))
  · refine Nx.sb (fun b8 => ?_)
    refine Nx.mix_S (by (exact Ent.auto)) ?_
    refine Nx.fork1 (i := 1) (by kernel_rfl) rfl rfl ?_
    refine Nx.call (Rpre := []) rfl rfl rfl (by kernel_rfl) rfl hCl (Ent.refl _) ?_
    rintro _ _ ⟨A1, c1, rfl, rfl⟩
    refine Nx.mix_S (by (exact Ent.auto)) ?_
    refine Nx.fork1 (i := 4) (by kernel_rfl) rfl rfl ?_
    refine Nx.ent (R' := [Blk b8 62 [.int .i64 num, .slice va v.length vc, .slice D vs.length cd], rlR A1 c1 es, Blk b3 62 [.int .i64 num, .slice va v.length vc, .slice D vs.length cd], F]) (by (exact Ent.auto)) ?_
    refine Nx.append_lit 0 rfl rfl rfl rfl (by kernel_rfl) rfl rfl rfl rfl (by omega) fun A2 c2 => ?_
    refine Nx.mix_S (by (exact Ent.auto)) ?_
    refine Nx.fork_fin (by kernel_rfl) rfl ?_
    repeat' first
      | ((with_reducible refine Nx.is_wp ?_); first | refine Nx.wo ?_ | refine Nx.zp (fun hc => ?_) (fun hc => ?_))
      | (refine Nx.zo ?_; first | refine Nx.opr rfl rfl ?_ | refine Nx.so ?_ | refine Nx.sb (fun bx => ?_) | refine Nx.sa (fun A2 c2 => ?_))
      | ((with_reducible refine Nx.is_at ?_); first | refine Nx.a ?_ | refine Nx.zd ?_ | refine Nx.zs (fun hc => ?_) (fun hc => ?_))
      | ((with_reducible refine Nx.is_mix ?_); first | refine Nx.m ?_ | refine Nx.zm ?_ | refine Nx.zt (fun hc => ?_) (fun hc => ?_))
      | refine Nx.zx ?_ | fail
    exact Nx.ret_fn rfl [_] ⟨A2, c2, rfl, rfl⟩ (by (exact Ent.auto))
set_option maxRecDepth 10000 in
set_option maxHeartbeats 8000000 in
theorem Protects_spec (A Ae B Ap : Option Addr) (c ce cb cp : Nat) (l : List Int) (es : List Rel) (r : Rel) (L prot : List Int) (m : Int) (I : PH) (hl : Ints I A c l) (hs : Sizes l) (he : Rels I Ae ce es) (hw : ∀ r ∈ es, Viewed l r.v) (h9 : es.length ≤ 1000)
    (hv : RowsOf I r.va r.vc r.v) (hd : Ints I r.val.1 r.val.2.1 r.val.2.2) (hwr : Viewed l r.v) (hd9 : r.val.2.2.length ≤ 1000) (hB : Ints I B cb L) (hp : Ints I Ap cp prot) (hp9 : prot.length ≤ 1000000) :
    FnSpec Tryz.prog 49 [.agg #[.slice A l.length c], .slice Ae es.length ce, .agg #[.int .i64 r.num, .slice r.va r.v.length r.vc, rowV r.val], .slice B L.length cb, .slice Ap prot.length cp, .int .i64 m] I []
      (fun u R' => u = .tuple #[.bool (protF l es r L prot m).1, .int .i64 (protF l es r L prot m).2] ∧ R' = []) := by
  have hv4 := (hwr.szsOk hs).1
  have hH := HideP_spec B cb L r I hv hd hB (by omega) (fun x hx => by
    obtain ⟨k, hk, rfl⟩ := List.mem_iff_getElem.1 hx
    have h1 := (hwr.each k (by rw [← hwr.len]; exact hk)).1
    have h2 := hs.at (k := k) (by rw [← hwr.len]; exact hk)
    rw [List.getD_eq_getElem?_getD, List.getElem?_eq_getElem hk, Option.getD_some] at h1
    omega) hd9
  unfold HidePost at hH
  unfold protF
  refine FnSpec.enterP Tryz.func49 rfl Tryz.ntmps49 rfl fun w F => ?_
  by_cases h0 : hideE r.val.2.2 L = 0
  case neg =>
    rw [if_pos h0]
    generalize hideE r.val.2.2 L = er at hH h0
    repeat' first
      | ((with_reducible refine Nx.is_wp ?_); first | refine Nx.wo ?_ | refine Nx.zp (fun hc => ?_) (fun hc => ?_))
      | (refine Nx.zo ?_; first | refine Nx.opr rfl rfl ?_ | (refine Nx.call (Rpre := []) rfl rfl rfl (by kernel_rfl) rfl hH (Ent.refl _) ?_; rintro _ _ ⟨r2, rfl, _, _, rfl⟩) | refine Nx.so ?_ | refine Nx.sb (fun bx => ?_) | refine Nx.sa (fun A2 c2 => ?_))
      | ((with_reducible refine Nx.is_at ?_); first | refine Nx.a ?_ | refine Nx.zd ?_ | refine Nx.zs (fun hc => ?_) (fun hc => ?_))
      | ((with_reducible refine Nx.is_mix ?_); first | refine Nx.m ?_ | refine Nx.zm ?_ | refine Nx.zt (fun hc => ?_) (fun hc => ?_))
      | refine Nx.zx ?_ | fail
    exact Nx.ret_fn rfl [] ⟨rfl, rfl⟩ (by (exact Ent.auto))
  rw [if_neg (by omega)]
  rw [h0] at hH
  have hBe := fun r2 : Rel => behind_spec Ae ce es r2 I he.outer h9
  have hSf := fun (A3 : Option Addr) (c3 : Nat) (r2 : Rel) (e1 : r2.num = r.num) (e2 : vStrip r2.v = vStrip r.v) (e3 : r2.val.2.2 = hidL r.val.2.2 L) (m' I' : PH) (hle : PH.le I I') (hm : PH.le m' I') (hv : Stars [rlR A3 c3 (es ++ [r2]), relR r2] m') => (by
    obtain ⟨q0, z0, y0⟩ := Stars.get 0 hv rfl
    obtain ⟨q1, z1, y1⟩ := Stars.get 1 hv rfl
    obtain ⟨q2, z2, y2⟩ := Stars.get 0 y1 rfl
    obtain ⟨q3, z3, y3⟩ := Stars.get 1 y1 rfl
    have hR : Rels I' A3 c3 (es ++ [r2]) := ⟨Vec.sliceN (z0.trans hm) y0 fun x _ => relC_len x, fun x hx => by
      rcases List.mem_append.1 hx with h | h
      · exact (he.view x h).mono hle
      · rw [List.mem_singleton.1 h]; exact ViewR.rows ((z2.trans z1).trans hm) y2, fun x hx => by
      rcases List.mem_append.1 hx with h | h
      · exact (he.val x h).mono hle
      · rw [List.mem_singleton.1 h]; exact Vec.sliceOf ((z3.trans z1).trans hm) y3⟩
    have := Safe_spec A A3 Ap c c3 cp l (es ++ [r2]) prot m I' (hl.mono hle) hs hR (fun x hx => (List.mem_append.1 hx).elim (hw x) fun h => by rw [List.mem_singleton.1 h]; exact viewed_strip e2.symm hwr) (hp.mono hle) hp9
    unfold safeB at this
    rw [prot_same e1 e2 e3] at this
    exact this :
    FnSpec Tryz.prog 17 [.agg #[.slice A l.length c], .slice A3 (es ++ [r2]).length c3, .slice Ap prot.length cp, .int .i64 m] I' [] (fun u R' => u = .tuple #[.bool (safeB l (es ++ [hidR r L]) prot m), .int .i64 (findD l (es ++ [hidR r L]) prot m).2] ∧ R' = []))
  generalize safeB l (es ++ [hidR r L]) prot m = sb at hSf
  generalize (findD l (es ++ [hidR r L]) prot m).2 = se at hSf
  dsimp only
  repeat' first
    | ((with_reducible refine Nx.is_wp ?_); first | refine Nx.wo ?_ | refine Nx.p_draw (id := 4) rfl [0, 1, 2, 4, 5, 3, 6, 7, 8, 9, 10] [3, 6] _ rfl rfl (by kernel_rfl) (by kernel_rfl) rfl (by repeat first | exact PanicOk.fn | refine PanicOk.then_ ?_ | refine PanicOk.inB ?_) (Ent.refl _) ?_ | refine Nx.zp (fun hc => ?_) (fun hc => ?_))
    | (refine Nx.zo ?_; first | refine Nx.opr rfl rfl ?_ | (refine Nx.call (Rpre := []) rfl rfl rfl (by kernel_rfl) rfl hH (Ent.refl _) ?_; rintro _ _ ⟨r2, rfl, hr2, _, rfl⟩; obtain ⟨e1, e2, e3⟩ := hr2 rfl; clear hr2) | (refine Nx.call (Rpre := []) rfl rfl rfl (by kernel_rfl) rfl (hBe r2) (Ent.refl _) ?_; rintro _ _ ⟨A3, c3, rfl, rfl⟩) | (refine Nx.call rfl rfl rfl (by kernel_rfl) rfl (FnSpec.keep [rlR _ _ (es ++ [r2]), relR r2] fun m' I' hle hm' hv => hSf _ _ r2 e1 e2 e3 m' I' hle hm' hv) (by (exact Ent.auto)) ?_; rintro _ _ ⟨_, ⟨rfl, rfl⟩, rfl⟩) | refine Nx.so ?_ | refine Nx.sb (fun bx => ?_) | refine Nx.sa (fun A2 c2 => ?_))
    | ((with_reducible refine Nx.is_at ?_); first | refine Nx.a ?_ | refine Nx.zd ?_ | refine Nx.zs (fun hc => ?_) (fun hc => ?_))
    | ((with_reducible refine Nx.is_mix ?_); first | refine Nx.m ?_ | refine Nx.zm ?_ | refine Nx.zt (fun hc => ?_) (fun hc => ?_))
    | refine Nx.zx ?_ | fail
  exact Nx.ret_fn rfl [] ⟨rfl, rfl⟩ (by (exact Ent.auto))
end Go.Proofs.YtcmdemfhbekabaaGreat
/- Contracts of functions of the given program, and lemmas about plain lists and numbers: what the laws of this seat lean on. -/
namespace Go.Proofs.YtcmdemfhbekabaaGreat
open Go.Eng Go.Sol
attribute [local irreducible] opK wpList Code.wp Exit.then Exit.inBlock fnPost bodyPost Nx Calls Oper.wp Rd Rds Wr Ent Stars Blk Again Vec FnSpec wpMix QRun Stop Upto wpAt
/-! The least set that protects: the program -/
def badW (x : Int) : Bool := decide (x < 0 ∨ 1000 < x)
set_option maxHeartbeats 8000000 in
set_option maxRecDepth 10000 in
theorem badW_spec (x : Int) (I : PH) : FnSpec Tryz.prog 99 [.int .i64 x] I [] (fun u R' => u = .bool (badW x) ∧ R' = []) := by
  unfold badW
  refine FnSpec.enterP Tryz.func99 rfl Tryz.ntmps99 rfl fun w F => ?_
  by_cases h : x < 0
  · rw [decide_eq_true (.inl h)]
    repeat' first
      | ((with_reducible refine Nx.is_wp ?_); first | refine Nx.wo ?_ | refine Nx.zp (fun hc => ?_) (fun hc => ?_))
      | (refine Nx.zo ?_; first | refine Nx.opr rfl rfl ?_ | refine Nx.so ?_ | refine Nx.sb (fun bx => ?_) | refine Nx.sa (fun A2 c2 => ?_))
      | ((with_reducible refine Nx.is_at ?_); first | refine Nx.a ?_ | refine Nx.zd ?_ | refine Nx.zs (fun hc => ?_) (fun hc => ?_))
      | ((with_reducible refine Nx.is_mix ?_); first | refine Nx.m ?_ | refine Nx.zm ?_ | refine Nx.zt (fun hc => ?_) (fun hc => ?_))
      | refine Nx.zx ?_ | fail
    exact Nx.ret_fn rfl [] ⟨rfl, rfl⟩ (by (exact Ent.auto))
  · repeat' first
      | ((with_reducible refine Nx.is_wp ?_); first | refine Nx.wo ?_ | refine Nx.zp (fun hc => ?_) (fun hc => ?_))
      | (refine Nx.zo ?_; first | refine Nx.opr rfl rfl ?_ | refine Nx.so ?_ | refine Nx.sb (fun bx => ?_) | refine Nx.sa (fun A2 c2 => ?_))
      | ((with_reducible refine Nx.is_at ?_); first | refine Nx.a ?_ | refine Nx.zd ?_ | refine Nx.zs (fun hc => ?_) (fun hc => ?_))
      | ((with_reducible refine Nx.is_mix ?_); first | refine Nx.m ?_ | refine Nx.zm ?_ | refine Nx.zt (fun hc => ?_) (fun hc => ?_))
      | refine Nx.zx ?_ | fail
    exact Nx.ret_fn rfl [] ⟨by rw [show decide (x < 0 ∨ 1000 < x) = decide (1000 < x) from decide_eq_decide.2 (by omega)], rfl⟩ (by (exact Ent.auto))
/-- Whether a set of bits protects. -/
def pbF (l : List Int) (es : List Rel) (r : Rel) (n : Nat) (prot : List Int) (m : Int) (s : Nat) : Bool := (protF l es r (bitsL s n) prot m).1 && decide ((protF l es r (bitsL s n) prot m).2 = 0)
/-- The least set: no other one that protects comes before it. -/
def IsLeast (w : List Int) (pb : Nat → Bool) : Option Nat → Prop
  | some s => s < 2 ^ w.length ∧ pb s = true ∧ ∀ t, t < 2 ^ w.length → pb t = true → cfN w w.length s t ≤ 0
  | none => ∀ t, t < 2 ^ w.length → pb t = false
/-- Why there is no search. -/
def lstE (l : List Int) (es : List Rel) (r : Rel) (w prot : List Int) (m : Int) : Int :=
  if 10 < r.val.2.2.length then 1 else if w.length ≠ r.val.2.2.length then 17 else if w.any badW = true then 2 else (findD l (es ++ [r]) prot m).2
def lstR (w : List Int) (e : Int) (res : Option Nat) : List Int × Int × Int :=
  if e ≠ 0 then ([], 0, e) else match res with
  | some s => (bitsL s w.length, wSum w (bitsL s w.length), 0)
  | none => ([], 0, 51)
theorem lstR_some (w : List Int) (s : Nat) : lstR w 0 (some s) = (bitsL s w.length, wSum w (bitsL s w.length), 0) := rfl
theorem least_at {w : List Int} {pb : Nat → Bool} {L : List (Sb w.length)} {q : Nat} (hpm : L.Perm (allS w.length)) (hps : L.Pairwise (fun x y => ltOf (fun a b : Sb w.length => cfN w w.length a.1 b.1) y x = false)) (hq : q < L.length) (hno : ∀ x ∈ L.take q, pb x.1 = false) (hp : pb (L.getD q default).1 = true) : IsLeast w pb (some (L.getD q default).1) := by
  refine ⟨(L.getD q default).2, hp, fun t ht hpt => ?_⟩
  have hm : (⟨t, ht⟩ : Sb w.length) ∈ L := hpm.mem_iff.2 (mem_allS _)
  have he : L.drop q = L.getD q default :: L.drop (q + 1) := by
    rw [List.drop_eq_getElem_cons hq, List.getD_eq_getElem?_getD, List.getElem?_eq_getElem hq]; rfl
  rw [← List.take_append_drop q L, he] at hm
  have hpd := hps.sublist (List.drop_sublist q L)
  rw [he, List.pairwise_cons] at hpd
  have han := (cfN_le w w.length).anti
  rcases List.mem_append.1 hm with h | h
  · have := hno _ h
    dsimp only at this
    rw [hpt] at this; cases this
  · rcases List.mem_cons.1 h with h | h
    · have h2 : t = (L.getD q default).1 := by rw [← h]
      rw [h2]
      have := han (L.getD q default).1 (L.getD q default).1
      omega
    · have h2 := hpd.1 _ h
      unfold ltOf at h2
      rw [decide_eq_false_iff_not] at h2
      have h3 : ¬ cfN w w.length t (L.getD q default).1 < 0 := h2
      have := han (L.getD q default).1 t
      omega
def LeastPost (l : List Int) (es : List Rel) (r : Rel) (w prot : List Int) (m : Int) (u : Value) (R' : List Res) : Prop :=
  ∃ (res : Option Nat) (A' : Option Addr) (c' : Nat), (lstE l es r w prot m = 0 → IsLeast w (pbF l es r w.length prot m) res) ∧ u = .tuple #[.slice A' (lstR w (lstE l es r w prot m) res).1.length c', .int .i64 (lstR w (lstE l es r w prot m) res).2.1, .int .i64 (lstR w (lstE l es r w prot m) res).2.2] ∧ R' = [iR A' c' (lstR w (lstE l es r w prot m) res).1]
set_option maxRecDepth 10000 in
set_option maxHeartbeats 16000000 in
theorem LeastP_spec (A Ae Aw Ap : Option Addr) (c ce cw cp : Nat) (l : List Int) (es : List Rel) (r : Rel) (w prot : List Int) (m : Int) (I : PH) (hl : Ints I A c l) (hs : Sizes l) (he : Rels I Ae ce es) (hw : ∀ r ∈ es, Viewed l r.v) (h9 : es.length ≤ 1000)
    (hv : RowsOf I r.va r.vc r.v) (hd : Ints I r.val.1 r.val.2.1 r.val.2.2) (hwr : Viewed l r.v) (hd6 : r.val.2.2.length ≤ 6) (hW : Ints I Aw cw w) (hp : Ints I Ap cp prot) (hp9 : prot.length ≤ 1000000) :
    FnSpec Tryz.prog 52 [.agg #[.slice A l.length c], .slice Ae es.length ce, .agg #[.int .i64 r.num, .slice r.va r.v.length r.vc, .slice r.val.1 r.val.2.2.length r.val.2.1], .slice Aw w.length cw, .slice Ap prot.length cp, .int .i64 m] I [] (LeastPost l es r w prot m) := by
  have hWl := hW.len
  have hBe := behind_spec Ae ce es r I he.outer h9
  have hCF := ContainsFunc_spec 99 badW Aw cw w I hW (by kernel_rfl) (fun z => badW_spec z I)
  have hSf := fun (A3 : Option Addr) (c3 : Nat) (m' I' : PH) (hle : PH.le I I') (hm : PH.le m' I') (hv' : Stars [rlR A3 c3 (es ++ [r])] m') => (by
    obtain ⟨q0, z0, y0⟩ := Stars.get 0 hv' rfl
    have hR : Rels I' A3 c3 (es ++ [r]) := ⟨Vec.sliceN (z0.trans hm) y0 fun x _ => relC_len x, fun x hx => by
      rcases List.mem_append.1 hx with h | h
      · exact (he.view x h).mono hle
      · rw [List.mem_singleton.1 h]; exact hv.mono hle, fun x hx => by
      rcases List.mem_append.1 hx with h | h
      · exact (he.val x h).mono hle
      · rw [List.mem_singleton.1 h]; exact hd.mono hle⟩
    exact Safe_spec A A3 Ap c c3 cp l (es ++ [r]) prot m I' (hl.mono hle) hs hR (fun x hx => (List.mem_append.1 hx).elim (hw x) fun h => by rw [List.mem_singleton.1 h]; exact hwr) (hp.mono hle) hp9 :
    FnSpec Tryz.prog 17 [.agg #[.slice A l.length c], .slice A3 (es ++ [r]).length c3, .slice Ap prot.length cp, .int .i64 m] I' [] (fun u R' => u = .tuple #[.bool (safeB l (es ++ [r]) prot m), .int .i64 (findD l (es ++ [r]) prot m).2] ∧ R' = []))
  have hPr := fun (B : Option Addr) (cb : Nat) (L : List Int) (I' : PH) (hle : PH.le I I') (hB : Ints I' B cb L) => Protects_spec A Ae B Ap c ce cb cp l es r L prot m I' (hl.mono hle) hs (he.mono hle) hw h9 (hv.mono hle) (hd.mono hle) hwr (by omega) hB (hp.mono hle) hp9
  obtain ⟨pb, hpb⟩ : ∃ pb, pb = pbF l es r w.length prot m := ⟨_, rfl⟩
  unfold LeastPost lstE
  rw [← hpb]
  obtain ⟨num, va, vc, v, D, cd, vs⟩ := r
  dsimp only at hd6 ⊢
  rw [if_neg (c := 10 < vs.length) (by omega)]
  refine FnSpec.enterP Tryz.func52 rfl Tryz.ntmps52 rfl fun w0 F => ?_
  by_cases h1 : w.length = vs.length
  case neg =>
    rw [if_pos h1]
    repeat' first
      | ((with_reducible refine Nx.is_wp ?_); first | refine Nx.wo ?_ | refine Nx.zp (fun hc => ?_) (fun hc => ?_))
      | (refine Nx.zo ?_; first | refine Nx.opr rfl rfl ?_ | refine Nx.so ?_ | refine Nx.sb (fun bx => ?_) | refine Nx.sa (fun A2 c2 => ?_))
      | ((with_reducible refine Nx.is_at ?_); first | refine Nx.a ?_ | refine Nx.zd ?_ | refine Nx.zs (fun hc => ?_) (fun hc => ?_))
      | ((with_reducible refine Nx.is_mix ?_); first | refine Nx.m ?_ | refine Nx.zm ?_ | refine Nx.zt (fun hc => ?_) (fun hc => ?_))
      | refine Nx.zx ?_ | fail
    exact Nx.ret_fn rfl [_] ⟨none, none, 0, fun h => absurd h (by decide), rfl, rfl⟩ ((Ent.vec_nil 3 1 _).trans (by (exact Ent.auto)))
  rw [if_neg (c := w.length ≠ vs.length) (by omega)]
  cases hb : w.any badW with
  | true =>
    rw [if_pos rfl]
    rw [hb] at hCF
    repeat' first
      | ((with_reducible refine Nx.is_wp ?_); first | refine Nx.wo ?_ | refine Nx.zp (fun hc => ?_) (fun hc => ?_))
      | (refine Nx.zo ?_; first | refine Nx.opr rfl rfl ?_ | refine Nx.callv rfl rfl rfl (by kernel_rfl) rfl hCF ?_ | refine Nx.so ?_ | refine Nx.sb (fun bx => ?_) | refine Nx.sa (fun A2 c2 => ?_))
      | ((with_reducible refine Nx.is_at ?_); first | refine Nx.a ?_ | refine Nx.zd ?_ | refine Nx.zs (fun hc => ?_) (fun hc => ?_))
      | ((with_reducible refine Nx.is_mix ?_); first | refine Nx.m ?_ | refine Nx.zm ?_ | refine Nx.zt (fun hc => ?_) (fun hc => ?_))
      | refine Nx.zx ?_ | fail
    exact Nx.ret_fn rfl [_] ⟨none, none, 0, fun h => absurd h (by decide), rfl, rfl⟩ ((Ent.vec_nil 3 1 _).trans (by (exact Ent.auto)))
  | false =>
  rw [if_neg (by decide)]
  rw [hb] at hCF
  have hWok : WOk w := fun x hx => by
    have : ¬ badW x = true := fun h => by
      have := List.any_eq_true.2 ⟨x, hx, h⟩
      rw [hb] at this; cases this
    unfold badW at this
    rw [decide_eq_true_eq] at this
    omega
  have hw6 : w.length ≤ 6 := by omega
  generalize safeB l (es ++ [⟨num, va, vc, v, (D, cd, vs)⟩]) prot m = sb at hSf
  generalize (findD l (es ++ [⟨num, va, vc, v, (D, cd, vs)⟩]) prot m).2 = er at hSf
  by_cases h0 : er = 0
  case neg =>
    repeat' first
      | ((with_reducible refine Nx.is_wp ?_); first | refine Nx.wo ?_ | refine Nx.p_draw (id := 7) rfl [0, 1, 2, 4, 5, 3, 6, 7, 8, 9, 10, 11] [3, 6] _ rfl rfl (by kernel_rfl) (by kernel_rfl) rfl (by repeat first | exact PanicOk.fn | refine PanicOk.then_ ?_ | refine PanicOk.inB ?_) (Ent.refl _) ?_ | refine Nx.p_draw (id := 13) rfl [0, 1, 2, 3, 5, 6, 4, 7, 8, 9, 10, 11, 12] [4, 7] _ rfl rfl (by kernel_rfl) (by kernel_rfl) rfl (by repeat first | exact PanicOk.fn | refine PanicOk.then_ ?_ | refine PanicOk.inB ?_) (Ent.refl _) ?_ | refine Nx.zp (fun hc => ?_) (fun hc => ?_))
      | (refine Nx.zo ?_; first | refine Nx.opr rfl rfl ?_ | refine Nx.callv rfl rfl rfl (by kernel_rfl) rfl hCF ?_ | (refine Nx.call (Rpre := []) rfl rfl rfl (by kernel_rfl) rfl hBe (Ent.refl _) ?_; rintro _ _ ⟨A3, c3, rfl, rfl⟩) | (refine Nx.call rfl rfl rfl (by kernel_rfl) rfl (FnSpec.keep [rlR _ _ (es ++ [⟨num, va, vc, v, (D, cd, vs)⟩])] fun m' I' hle hm' hv => hSf _ _ m' I' hle hm' hv) (by (exact Ent.auto)) ?_; rintro _ _ ⟨_, ⟨rfl, rfl⟩, rfl⟩) | refine Nx.so ?_ | refine Nx.sb (fun bx => ?_) | refine Nx.sa (fun A2 c2 => ?_))
      | ((with_reducible refine Nx.is_at ?_); first | refine Nx.a ?_ | refine Nx.zd ?_ | refine Nx.zs (fun hc => ?_) (fun hc => ?_))
      | ((with_reducible refine Nx.is_mix ?_); first | refine Nx.m ?_ | refine Nx.zm ?_ | refine Nx.zt (fun hc => ?_) (fun hc => ?_))
      | refine Nx.zx ?_ | fail
    exact Nx.ret_fn rfl [_] ⟨none, none, 0, fun h => absurd h h0, by unfold lstR; rw [if_pos h0]; rfl, rfl⟩ (by unfold lstR; rw [if_pos h0]; exact (Ent.vec_nil 3 1 _).trans (by (exact Ent.auto)))
  subst h0
  have hOr := ordered_spec Aw cw w I hW hWok hw6
  repeat' first
    | ((with_reducible refine Nx.is_wp ?_); first | refine Nx.wo ?_ | refine Nx.p_draw (id := 7) rfl [0, 1, 2, 4, 5, 3, 6, 7, 8, 9, 10, 11] [3, 6] _ rfl rfl (by kernel_rfl) (by kernel_rfl) rfl (by repeat first | exact PanicOk.fn | refine PanicOk.then_ ?_ | refine PanicOk.inB ?_) (Ent.refl _) ?_ | refine Nx.p_draw (id := 13) rfl [0, 1, 2, 3, 5, 6, 4, 7, 8, 9, 10, 11, 12] [4, 7] _ rfl rfl (by kernel_rfl) (by kernel_rfl) rfl (by repeat first | exact PanicOk.fn | refine PanicOk.then_ ?_ | refine PanicOk.inB ?_) (Ent.refl _) ?_ | refine Nx.zp (fun hc => ?_) (fun hc => ?_))
    | (refine Nx.zo ?_; first | refine Nx.opr rfl rfl ?_ | refine Nx.callv rfl rfl rfl (by kernel_rfl) rfl hCF ?_ | (refine Nx.call (Rpre := []) rfl rfl rfl (by kernel_rfl) rfl hBe (Ent.refl _) ?_; rintro _ _ ⟨A3, c3, rfl, rfl⟩) | (refine Nx.call rfl rfl rfl (by kernel_rfl) rfl (FnSpec.keep [rlR _ _ (es ++ [⟨num, va, vc, v, (D, cd, vs)⟩])] fun m' I' hle hm' hv => hSf _ _ m' I' hle hm' hv) (by (exact Ent.auto)) ?_; rintro _ _ ⟨_, ⟨rfl, rfl⟩, rfl⟩) | (refine Nx.call (Rpre := []) rfl rfl rfl (by kernel_rfl) rfl hOr (Ent.refl _) ?_; rintro _ _ ⟨A4, c4, L, rfl, hpm, hps, rfl⟩) | refine Nx.so ?_ | refine Nx.sb (fun bx => ?_) | refine Nx.sa (fun A2 c2 => ?_))
    | ((with_reducible refine Nx.is_at ?_); first | refine Nx.a ?_ | refine Nx.zd ?_ | refine Nx.zs (fun hc => ?_) (fun hc => ?_))
    | ((with_reducible refine Nx.is_mix ?_); first | refine Nx.m ?_ | refine Nx.zm ?_ | refine Nx.zt (fun hc => ?_) (fun hc => ?_))
    | refine Nx.zx ?_ | fail
  rename_i b6
  revert bx; intro b8
  refine Nx.freezeAt 0 rfl fun I2 m2 hI2 hm2 h2 => ?_
  have hS4 : Ints I2 A4 c4 (setsI L) := Vec.sliceOf hm2 h2
  have hsl := setsI_len L
  have hLl : L.length ≤ 64 := by rw [hpm.length_eq, allS_len]; have := Nat.pow_le_pow_right (n := 2) (by decide) hw6; simpa using this
  have hW2 := hW.mono hI2
  replace hPr := fun (B : Option Addr) (cb : Nat) (L : List Int) (I' : PH) (hle : PH.le I2 I') (hB : Ints I' B cb L) => hPr B cb L I' (hI2.trans hle) hB
  dsimp only at hPr
  refine Nx.p_loop (σ := Nat) (fun q => [(1, .slice Ae es.length ce), (3, .slice Aw w.length cw), (4, .slice Ap prot.length cp), (5, .int .i64 m), (6, .pointer (some ⟨b6, 0, none⟩)), (8, .pointer (some ⟨b8, 0, none⟩)), (50, .slice A4 (setsI L).length c4), (51, .int .i64 ((setsI L).length : Int)), (52, .int .i64 (q : Int))])
    (fun _ => [Blk b8 62 [.int .i64 num, .slice va v.length vc, .slice D vs.length cd], Blk b6 27 [.slice A l.length c], F]) (fun q => q ≤ L.length ∧ ∀ x ∈ L.take q, pb x.1 = false) (fun q => L.length - q) 0 rfl ⟨Nat.zero_le _, by simp⟩ ⟨rfl, rfl, rfl, rfl, rfl, rfl, rfl, rfl, rfl, trivial⟩ (by (exact Ent.auto)) ?_
  rintro q ⟨hq, hno⟩
  by_cases hql : q < L.length
  case neg =>
    rw [List.take_of_length_le (by omega)] at hno
    repeat' first
      | ((with_reducible refine Nx.is_wp ?_); first | refine Nx.wo ?_ | refine Nx.zp (fun hc => ?_) (fun hc => ?_))
      | (refine Nx.zo ?_; first | refine Nx.opr rfl rfl ?_ | refine Nx.so ?_ | refine Nx.sb (fun bx => ?_) | refine Nx.sa (fun A2 c2 => ?_))
      | ((with_reducible refine Nx.is_at ?_); first | refine Nx.a ?_ | refine Nx.zd ?_ | refine Nx.zs (fun hc => ?_) (fun hc => ?_))
      | ((with_reducible refine Nx.is_mix ?_); first | refine Nx.m ?_ | refine Nx.zm ?_ | refine Nx.zt (fun hc => ?_) (fun hc => ?_))
      | refine Nx.zx ?_ | fail
    exact Nx.imm_le hI2 (Nx.ret_fn rfl [_] ⟨none, none, 0, fun _ t ht => hno ⟨t, ht⟩ (hpm.mem_iff.2 (mem_allS _)), rfl, rfl⟩ ((Ent.vec_nil 3 1 _).trans (by (exact Ent.auto))))
  have htk : L.take (q + 1) = L.take q ++ [L.getD q default] := by rw [List.take_succ_eq_append_getElem hql, List.getD_eq_getElem?_getD, List.getElem?_eq_getElem hql]; rfl
  have hla := fun hp => least_at (pb := pb) hpm hps hql hno hp
  have hrd : ∀ (W : World) (R : List Res), Rd W I2 R ((ad A4).add (q * 1)) (.int .i64 ((L.getD q default).1 : Int)) := fun W R => by
    have := hS4.rd (W := W) (R := R) (k := q) (by omega)
    have e : (setsI L).getD q default = ((L.getD q default).1 : Int) := by
      unfold setsI
      rw [List.getD_eq_getElem?_getD, List.getElem?_map, List.getElem?_eq_getElem hql, List.getD_eq_getElem?_getD, List.getElem?_eq_getElem hql]; rfl
    rw [e] at this
    exact this
  have hs2 := (L.getD q default).2
  have hno2 : pb (L.getD q default).1 = false → ∀ x ∈ L.take (q + 1), pb x.1 = false := fun h x hx => by
    rw [htk] at hx
    rcases List.mem_append.1 hx with hx | hx
    · exact hno x hx
    · rw [List.mem_singleton.1 hx]; exact h
  generalize (L.getD q default).1 = s at hla hrd hs2 hno2
  clear htk
  have hs64 : s < 64 := Nat.lt_of_lt_of_le hs2 (by have := Nat.pow_le_pow_right (n := 2) (by decide) hw6; simpa using this)
  have h6 := bitsL_same hs2 (6 - w.length)
  rw [show w.length + (6 - w.length) = 6 by omega] at h6
  have hLs := list_spec s hs64 I2
  rw [h6] at hLs
  have hSm := sum_spec Aw cw w s I2 hW2 hWok hw6 hs2
  have hPs := fun (B : Option Addr) (cb : Nat) (m' I' : PH) (hle : PH.le I2 I') (hm : PH.le m' I') (hv' : Stars [iR B cb (bitsL s w.length)] m') => hPr B cb (bitsL s w.length) I' hle (by
    obtain ⟨q0, z0, y0⟩ := Stars.get 0 hv' rfl
    exact Vec.sliceOf (z0.trans hm) y0)
  have hpbs : pb s = ((protF l es ⟨num, va, vc, v, (D, cd, vs)⟩ (bitsL s w.length) prot m).1 && decide ((protF l es ⟨num, va, vc, v, (D, cd, vs)⟩ (bitsL s w.length) prot m).2 = 0)) := by rw [hpb]; rfl
  generalize protF l es ⟨num, va, vc, v, (D, cd, vs)⟩ (bitsL s w.length) prot m = fp at hPs hpbs
  obtain ⟨ok, e⟩ := fp
  dsimp only at hPs hpbs
  unfold rowV at hPs
  dsimp only at hPs
  by_cases hok : ok = true ∧ e = 0
  · obtain ⟨rfl, rfl⟩ := hok
    have hil := hla hpbs
    repeat' first
      | ((with_reducible refine Nx.is_wp ?_); first | refine Nx.wo ?_ | refine Nx.p_draw (id := 7) rfl [0, 1, 2, 4, 5, 3, 6, 7, 8, 9, 10, 11] [3, 6] _ rfl rfl (by kernel_rfl) (by kernel_rfl) rfl (by repeat first | exact PanicOk.fn | refine PanicOk.then_ ?_ | refine PanicOk.inB ?_) (Ent.refl _) ?_ | refine Nx.p_draw (id := 13) rfl [0, 1, 2, 3, 5, 6, 4, 7, 8, 9, 10, 11, 12] [4, 7] _ rfl rfl (by kernel_rfl) (by kernel_rfl) rfl (by repeat first | exact PanicOk.fn | refine PanicOk.then_ ?_ | refine PanicOk.inB ?_) (Ent.refl _) ?_ | refine Nx.zp (fun hc => ?_) (fun hc => ?_))
      | (refine Nx.zo ?_; first | refine Nx.opr rfl rfl ?_ | refine Nx.indexAddr_nat (A := A4) (i := q) (sz := 1) rfl rfl rfl rfl rfl (by omega) (hS4.isSome (by omega)) ?_ | refine Nx.load rfl rfl rfl (hrd _ _) ?_ | (refine Nx.call (Rpre := []) rfl rfl rfl (by kernel_rfl) rfl hLs (Ent.refl _) ?_; rintro _ _ ⟨A5, c5, rfl, rfl⟩) | (refine Nx.call rfl rfl rfl (by kernel_rfl) rfl (FnSpec.keep [iR _ _ (bitsL s w.length)] fun m' I' hle hm' hv => hPs _ _ m' I' hle hm' hv) (by (exact Ent.auto)) ?_; rintro _ _ ⟨_, ⟨rfl, rfl⟩, rfl⟩) | refine Nx.callv rfl rfl rfl (by kernel_rfl) rfl hSm ?_ | refine Nx.so ?_ | refine Nx.sb (fun bx => ?_) | refine Nx.sa (fun A2 c2 => ?_))
      | ((with_reducible refine Nx.is_at ?_); first | refine Nx.a ?_ | refine Nx.zd ?_ | refine Nx.zs (fun hc => ?_) (fun hc => ?_))
      | ((with_reducible refine Nx.is_mix ?_); first | refine Nx.m ?_ | refine Nx.zm ?_ | refine Nx.zt (fun hc => ?_) (fun hc => ?_))
      | refine Nx.zx ?_ | fail
    exact Nx.imm_le hI2 (Nx.ret_fn rfl [_] ⟨some s, A5, c5, fun _ => hil, rfl, rfl⟩ (by rw [lstR_some]; (exact Ent.auto)))
  · have hf : pb s = false := by
      rw [hpbs]
      cases ok with
      | false => rfl
      | true => rw [Bool.true_and]; exact decide_eq_false fun h => hok ⟨rfl, h⟩
    have hn2 := hno2 hf
    cases ok with
    | false =>
      repeat' first
        | ((with_reducible refine Nx.is_wp ?_); first | refine Nx.wo ?_ | refine Nx.p_draw (id := 7) rfl [0, 1, 2, 4, 5, 3, 6, 7, 8, 9, 10, 11] [3, 6] _ rfl rfl (by kernel_rfl) (by kernel_rfl) rfl (by repeat first | exact PanicOk.fn | refine PanicOk.then_ ?_ | refine PanicOk.inB ?_) (Ent.refl _) ?_ | refine Nx.p_draw (id := 13) rfl [0, 1, 2, 3, 5, 6, 4, 7, 8, 9, 10, 11, 12] [4, 7] _ rfl rfl (by kernel_rfl) (by kernel_rfl) rfl (by repeat first | exact PanicOk.fn | refine PanicOk.then_ ?_ | refine PanicOk.inB ?_) (Ent.refl _) ?_ | refine Nx.zp (fun hc => ?_) (fun hc => ?_))
        | (refine Nx.zo ?_; first | refine Nx.opr rfl rfl ?_ | refine Nx.indexAddr_nat (A := A4) (i := q) (sz := 1) rfl rfl rfl rfl rfl (by omega) (hS4.isSome (by omega)) ?_ | refine Nx.load rfl rfl rfl (hrd _ _) ?_ | (refine Nx.call (Rpre := []) rfl rfl rfl (by kernel_rfl) rfl hLs (Ent.refl _) ?_; rintro _ _ ⟨A5, c5, rfl, rfl⟩) | (refine Nx.call rfl rfl rfl (by kernel_rfl) rfl (FnSpec.keep [iR _ _ (bitsL s w.length)] fun m' I' hle hm' hv => hPs _ _ m' I' hle hm' hv) (by (exact Ent.auto)) ?_; rintro _ _ ⟨_, ⟨rfl, rfl⟩, rfl⟩) | refine Nx.so ?_ | refine Nx.sb (fun bx => ?_) | refine Nx.sa (fun A2 c2 => ?_))
        | ((with_reducible refine Nx.is_at ?_); first | refine Nx.a ?_ | refine Nx.zd ?_ | refine Nx.zs (fun hc => ?_) (fun hc => ?_))
        | ((with_reducible refine Nx.is_mix ?_); first | refine Nx.m ?_ | refine Nx.zm ?_ | refine Nx.zt (fun hc => ?_) (fun hc => ?_))
        | refine Nx.zx ?_ | fail
      exact Nx.again (q + 1) ⟨hql, hn2⟩ (by omega) ⟨rfl, rfl, rfl, rfl, rfl, rfl, rfl, rfl, rfl, trivial⟩ (by (exact Ent.auto))
    | true =>
      have he0 : e ≠ 0 := fun h => hok ⟨rfl, h⟩
      repeat' first
        | ((with_reducible refine Nx.is_wp ?_); first | refine Nx.wo ?_ | refine Nx.p_draw (id := 7) rfl [0, 1, 2, 4, 5, 3, 6, 7, 8, 9, 10, 11] [3, 6] _ rfl rfl (by kernel_rfl) (by kernel_rfl) rfl (by repeat first | exact PanicOk.fn | refine PanicOk.then_ ?_ | refine PanicOk.inB ?_) (Ent.refl _) ?_ | refine Nx.p_draw (id := 13) rfl [0, 1, 2, 3, 5, 6, 4, 7, 8, 9, 10, 11, 12] [4, 7] _ rfl rfl (by kernel_rfl) (by kernel_rfl) rfl (by repeat first | exact PanicOk.fn | refine PanicOk.then_ ?_ | refine PanicOk.inB ?_) (Ent.refl _) ?_ | refine Nx.zp (fun hc => ?_) (fun hc => ?_))
        | (refine Nx.zo ?_; first | refine Nx.opr rfl rfl ?_ | refine Nx.indexAddr_nat (A := A4) (i := q) (sz := 1) rfl rfl rfl rfl rfl (by omega) (hS4.isSome (by omega)) ?_ | refine Nx.load rfl rfl rfl (hrd _ _) ?_ | (refine Nx.call (Rpre := []) rfl rfl rfl (by kernel_rfl) rfl hLs (Ent.refl _) ?_; rintro _ _ ⟨A5, c5, rfl, rfl⟩) | (refine Nx.call rfl rfl rfl (by kernel_rfl) rfl (FnSpec.keep [iR _ _ (bitsL s w.length)] fun m' I' hle hm' hv => hPs _ _ m' I' hle hm' hv) (by (exact Ent.auto)) ?_; rintro _ _ ⟨_, ⟨rfl, rfl⟩, rfl⟩) | refine Nx.so ?_ | refine Nx.sb (fun bx => ?_) | refine Nx.sa (fun A2 c2 => ?_))
        | ((with_reducible refine Nx.is_at ?_); first | refine Nx.a ?_ | refine Nx.zd ?_ | refine Nx.zs (fun hc => ?_) (fun hc => ?_))
        | ((with_reducible refine Nx.is_mix ?_); first | refine Nx.m ?_ | refine Nx.zm ?_ | refine Nx.zt (fun hc => ?_) (fun hc => ?_))
        | refine Nx.zx ?_ | fail
      exact Nx.again (q + 1) ⟨hql, hn2⟩ (by omega) ⟨rfl, rfl, rfl, rfl, rfl, rfl, rfl, rfl, rfl, trivial⟩ (by (exact Ent.auto))
end Go.Proofs.YtcmdemfhbekabaaGreat
/- Contracts of functions of the given program, and lemmas about plain lists and numbers: what the laws of this seat lean on. -/
namespace Go.Proofs.YtcmdemfhbekabaaGreat
open Go.Eng Go.Sol
/-! Views whose groups are thrown together in place -/
theorem row_get {o : List Row} {i : Nat} (hi : i < o.length) : (o.map rowR)[i]? = some (rowR (o.getD i default)) := by
  rw [List.getElem?_map, List.getElem?_eq_getElem hi, List.getD_eq_getElem?_getD, List.getElem?_eq_getElem hi]; rfl
theorem row_rd {W : World} {I : PH} {R : List Res} (k : Nat) {o : List Row} (hk : nthL R k = some (Stars (o.map rowR))) {i j : Nat} (hi : i < o.length) (hj : j < (o.getD i default).2.2.length) : Rd W I R ((ad (o.getD i default).1).add (j * 1)) (.int .i64 ((o.getD i default).2.2.getD j default)) :=
  Rd.ent ((Ent.pull k R _ (nthL_eq.symm.trans hk)).trans (Ent.takeOut i (row_get hi))) (Rd.vecEl 0 (f := Value.int .i64) rfl hj)
/-- The list of a row is another one, as long. -/
def setG (v : List Row) (i : Nat) (g : List Int) : List Row := v.set i ((v.getD i default).1, (v.getD i default).2.1, g)
theorem setG_len (v : List Row) (i : Nat) (g : List Int) : (setG v i g).length = v.length := by unfold setG; rw [List.length_set]
theorem setG_at {v : List Row} {i : Nat} {g : List Int} (hi : i < v.length) : (setG v i g).getD i default = ((v.getD i default).1, (v.getD i default).2.1, g) := by
  unfold setG
  rw [List.getD_eq_getElem?_getD, List.getElem?_set_self hi]; rfl
theorem setG_ne {v : List Row} {i j : Nat} {g : List Int} (h : i ≠ j) : (setG v i g).getD j default = v.getD j default := by
  unfold setG
  rw [List.getD_eq_getElem?_getD, List.getElem?_set_ne h, ← List.getD_eq_getElem?_getD]
theorem setG_setG {v : List Row} {i : Nat} {g h : List Int} (hi : i < v.length) : setG (setG v i g) i h = setG v i h := by
  have h1 := setG_at (g := g) hi
  unfold setG at h1 ⊢
  rw [h1, List.set_set]
theorem setG_self {v : List Row} {i : Nat} (hi : i < v.length) : setG v i (v.getD i default).2.2 = v := by
  unfold setG
  rw [List.getD_eq_getElem?_getD, List.getElem?_eq_getElem hi]
  exact List.set_getElem_self hi
theorem setG_outer {v : List Row} {i : Nat} {g : List Int} (hi : i < v.length) (hg : g.length = (v.getD i default).2.2.length) : (setG v i g).map rowV = v.map rowV := by
  have e : rowV ((v.getD i default).1, (v.getD i default).2.1, g) = (v.map rowV)[i]'(by rw [List.length_map]; exact hi) := by
    rw [List.getElem_map, show v.getD i default = v[i] by rw [List.getD_eq_getElem?_getD, List.getElem?_eq_getElem hi]; rfl]
    rw [show v.getD i default = v[i] by rw [List.getD_eq_getElem?_getD, List.getElem?_eq_getElem hi]; rfl] at hg
    unfold rowV
    dsimp only
    rw [hg]
  unfold setG
  rw [List.map_set, e, List.set_getElem_self]
/-- A number of an owned row is changed. -/
theorem Nx.store_rowG {C : Cx} {e : Env} {I : PH} {R : List Res} {K : Act → World → Prop} {Q : Exit → Act → World → Prop} {t ty : TypeId} {pos : String} {after : Array Edge} {g : Option (Nat × Bool)} {x y : Operand} (k : Nat) {o : List Row} {i j : Nat} {z : Int} (hx : evo e x = some (.pointer (some ((ad (o.getD i default).1).add (j * 1))))) (hy : evo e y = some (.int .i64 z)) (hn : Go.Eng.cellsIn C.P t = some 1) (hk : nthL R k = some (Stars (o.map rowR))) (hi : i < o.length) (hj : j < (o.getD i default).2.2.length)
    (h : Nx C e I (Stars ((setG o i ((o.getD i default).2.2.set j z)).map rowR) :: R.eraseIdx k) K) : Nx C e I R (opK C.P ⟨none, .store t x y, ty, pos, after, g⟩ K Q) := by
  refine Nx.ent ((Ent.pull k R _ (nthL_eq.symm.trans hk)).trans (Ent.takeOut i (row_get hi))) ?_
  refine Nx.store_of 0 (Value.int .i64) hx hy rfl rfl hn rfl hj ?_
  refine Nx.ent ?_ h
  have h1 := Ent.putIn i (B := o.map rowR) (R := R.eraseIdx k) (r := rowR ((o.getD i default).1, (o.getD i default).2.1, (o.getD i default).2.2.set j z)) (by rw [List.length_map]; exact hi)
  have h2 : (setG o i ((o.getD i default).2.2.set j z)).map rowR = (o.map rowR).set i (rowR ((o.getD i default).1, (o.getD i default).2.1, (o.getD i default).2.2.set j z)) := List.map_set
  rw [h2]
  refine Ent.trans ?_ h1
  unfold rowR
  dsimp only
  rw [List.length_set]
  exact Ent.refl _
theorem Nx.row_fact {C : Cx} {e : Env} {I : PH} {R : List Res} {K : Act → World → Prop} {o : List Row} {i : Nat} (hi : i < o.length) (h : (0 < (o.getD i default).2.2.length → (o.getD i default).1.isSome = true) → Nx C e I (Stars (o.map rowR) :: R) K) : Nx C e I (Stars (o.map rowR) :: R) K := by
  refine Nx.ent (Ent.takeOut i (row_get hi)) ?_
  refine Nx.vec_fact fun _ _ _ hA => ?_
  refine Nx.ent ?_ (h hA)
  have h1 := Ent.putIn i (B := o.map rowR) (R := R) (r := rowR (o.getD i default)) (by rw [List.length_map]; exact hi)
  have h2 : (o.map rowR).set i (rowR (o.getD i default)) = o.map rowR := by
    have : rowR (o.getD i default) = (o.map rowR)[i]'(by rw [List.length_map]; exact hi) := by
      rw [List.getElem_map, List.getD_eq_getElem?_getD, List.getElem?_eq_getElem hi]; rfl
    rw [this, List.set_getElem_self]
  rw [h2] at h1
  exact h1
def minK (g : List Int) (k : Nat) : List Int := (g.take k).map (min 0) ++ g.drop k
theorem minK_zero (g : List Int) : minK g 0 = g := by unfold minK; simp
theorem minK_end (g : List Int) : minK g g.length = g.map (min 0) := by unfold minK; rw [List.take_length, List.drop_length, List.append_nil]
theorem minK_len (g : List Int) (k : Nat) (hk : k ≤ g.length) : (minK g k).length = g.length := by
  unfold minK
  rw [List.length_append, List.length_map, List.length_take, List.length_drop]
  omega
theorem minK_at {g : List Int} {k : Nat} (hk : k < g.length) : (minK g k).getD k default = g.getD k default := by
  unfold minK
  have : ((g.take k).map (min 0)).length = k := by rw [List.length_map, List.length_take]; omega
  rw [List.getD_eq_getElem?_getD, List.getElem?_append_right (by omega), this, Nat.sub_self, List.getElem?_drop, Nat.add_zero, List.getD_eq_getElem?_getD]
theorem minK_set {g : List Int} {k : Nat} (hk : k < g.length) : (minK g k).set k (min 0 (g.getD k default)) = minK g (k + 1) := by
  unfold minK
  have hl : ((g.take k).map (min 0)).length = k := by rw [List.length_map, List.length_take]; omega
  rw [List.set_append_right _ _ (by omega), hl, Nat.sub_self, List.drop_eq_getElem_cons hk, List.set_cons_zero, List.take_succ_eq_append_getElem hk, List.map_append, List.append_assoc, List.getD_eq_getElem?_getD, List.getElem?_eq_getElem hk]
  rfl
theorem numb_min : ∀ (l : List Int) (n m : Int), 0 ≤ n → numb l n = some m → numb (l.map (min 0)) (min n 1) = some (min m 1)
  | [], n, m, _, h => by
    rw [numb] at h
    cases h
    rfl
  | g :: r, n, m, hn, h => by
    rw [numb] at h
    split at h
    · cases h
    rename_i hg
    rw [List.map_cons, numb, if_neg (by omega)]
    have ih := numb_min r _ m (by split <;> omega) h
    rw [← ih]
    congr 1
    split <;> split <;> omega
theorem numbB_min {l : List Int} (h : numbB l = true) : numbB (l.map (min 0)) = true := by
  unfold numbB at h ⊢
  split at h
  · rename_i n hn
    have h0 : 0 < n := of_decide_eq_true h
    have := numb_min l 0 n (by omega) hn
    rw [show min (0 : Int) 1 = 0 by omega] at this
    rw [this]
    exact decide_eq_true (by omega)
  · cases h
theorem maxL_min {g : List Int} (h : numbB g = true) : maxL (g.map (min 0)) (g.length - 1) = 0 := by
  have h1 := grouped_of (numbB_min h)
  have h2 := h1.max
  rw [List.length_map] at h2
  have hp := h1.pos
  rw [List.length_map] at hp
  obtain ⟨j, hj, he⟩ := maxL_at (g.map (min 0)) (g.length - 1)
  have hle : maxL (g.map (min 0)) (g.length - 1) ≤ 0 := by
    rw [he, List.getD_eq_getElem?_getD, List.getElem?_map]
    cases hg : g[j]? with
    | none => exact Int.le_refl _
    | some x => show min 0 x ≤ 0; omega
  omega
theorem viewed_set {l : List Int} {v : List Row} {i : Nat} (hw : Viewed l v) (hi : i < v.length) : Viewed l (setG v i ((v.getD i default).2.2.map (min 0))) := by
  refine ⟨by rw [setG_len]; exact hw.len, fun k hk => ?_⟩
  by_cases hik : i = k
  · subst hik
    rw [setG_at hi]
    dsimp only
    rw [List.length_map]
    exact ⟨(hw.each i hk).1, numbB_min (hw.each i hk).2⟩
  · rw [setG_ne hik]; exact hw.each k hk
def grp (v : List Row) (i : Nat) : Int := maxL (v.getD i default).2.2 ((v.getD i default).2.2.length - 1)
theorem prod_ones : ∀ l : List Int, (∀ x ∈ l, x = 1) → prod l = 1
  | [], _ => rfl
  | x :: l, h => by
    have hx := h x List.mem_cons_self
    subst hx
    have ih := prod_ones l fun y hy => h y (List.mem_cons_of_mem _ hy)
    unfold prod at ih ⊢
    rw [List.foldl_cons]
    exact ih
theorem szs_ones {v : List Row} (h : ∀ i, i < v.length → grp v i = 0) : prod (szs v) = 1 := by
  refine prod_ones _ fun x hx => ?_
  unfold szs at hx
  obtain ⟨r, hr, rfl⟩ := List.mem_map.1 hx
  obtain ⟨i, hi, he⟩ := List.mem_iff_getElem.1 hr
  have := h i hi
  unfold grp at this
  rw [List.getD_eq_getElem?_getD, List.getElem?_eq_getElem hi, Option.getD_some, he] at this
  omega
section
variable {C : Cx} {e : Env} {I : PH} {R : List Res} {v1 v2 v3 v4 v5 : Value}
theorem Nx.ret5 {fn : Func} {F : Res} {Post : Value → List Res → Prop} {r1 r2 r3 r4 r5 : ResultVar} (hres : fn.results.toList = [r1, r2, r3, r4, r5]) (h1 : ROne C e I R r1 v1) (h2 : ROne C e I R r2 v2) (h3 : ROne C e I R r3 v3) (h4 : ROne C e I R r4 v4) (h5 : ROne C e I R r5 v5) (R' : List Res) (hp : Post (.tuple #[v1, v2, v3, v4, v5]) R') (hR : Ent R (R' ++ [F])) : Nx C e I R (fnPost C.P fn I F C.W Post .ret) :=
  fun a w ha hw => ⟨ha.defers, _, by
    have hr : fn.results = #[r1, r2, r3, r4, r5] := by
      have : fn.results = [r1, r2, r3, r4, r5].toArray := by rw [← hres]
      simpa using this
    have e1 := h1 a w ha hw
    have e2 := h2 a w ha hw
    have e3 := h3 a w ha hw
    have e4 := h4 a w ha hw
    have e5 := h5 a w ha hw
    rw [results_eq, hr]
    simp [e1, e2, e3, e4, e5], _, R', rfl, hp, hw.ent hR⟩
end
end Go.Proofs.YtcmdemfhbekabaaGreat
/- Contracts of functions of the given program, and lemmas about plain lists and numbers: what the laws of this seat lean on. -/
namespace Go.Proofs.YtcmdemfhbekabaaGreat
open Go.Eng Go.Sol
attribute [local irreducible] opK wpList Code.wp Exit.then Exit.inBlock fnPost bodyPost Nx Calls Oper.wp Rd Rds Wr Ent Stars Blk Again Vec FnSpec wpMix QRun Stop Upto wpAt
/-! What the laws of suppression begin with -/
theorem Nx.store_rowA {C : Cx} {e : Env} {I : PH} {R : List Res} {K : Act → World → Prop} {Q : Exit → Act → World → Prop} {t ty : TypeId} {pos : String} {after : Array Edge} {g : Option (Nat × Bool)} {x y : Operand} (k : Nat) {o : List Row} {i j : Nat} {z : Int} {a : Option Addr} (ha : (o.getD i default).1 = a) (hx : evo e x = some (.pointer (some ((ad a).add (j * 1))))) (hy : evo e y = some (.int .i64 z)) (hn : Go.Eng.cellsIn C.P t = some 1) (hk : nthL R k = some (Stars (o.map rowR))) (hi : i < o.length) (hj : j < (o.getD i default).2.2.length)
    (h : Nx C e I (Stars ((setG o i ((o.getD i default).2.2.set j z)).map rowR) :: R.eraseIdx k) K) : Nx C e I R (opK C.P ⟨none, .store t x y, ty, pos, after, g⟩ K Q) := by
  subst ha
  exact Nx.store_rowG k hx hy hn hk hi hj h
structure StoryOk (s t : List Int) (es : List Rel) (r : Rel) (w p : List Int) : Prop where
  sizes : Sizes s
  tab : tabOk s t 2
  few : es.length ≤ 1
  rels : RelsOk s t es
  rel : RelOk s t r
  num : r.num = es.length
  six : r.val.2.2.length ≤ 6
  wlen : w.length = r.val.2.2.length
  weights : ∀ x ∈ w, 0 ≤ x ∧ x < 6
  asc : p.Pairwise (· < ·)
  inp : ∀ x ∈ p, 0 ≤ x ∧ x < prod s
  plen : p.length ≤ 48
def StoryPost (b : Nat) (A : Option Addr) (c : Nat) (L : List Int) (u : Value) (R' : List Res) : Prop :=
  ∃ (B : Option Addr) (c' : Nat) (s : List Int) (At : Option Addr) (ct : Nat) (t : List Int) (As : Option Addr) (ca : Nat) (es : List Rel) (r : Rel) (Aw : Option Addr) (cw : Nat) (w : List Int) (Bp : Option Addr) (cp : Nat) (p : List Int) (k' : Nat),
    u = .tuple #[.agg #[.slice B s.length c'], .slice As es.length ca, .agg #[.int .i64 r.num, .slice r.va r.v.length r.vc, .slice r.val.1 r.val.2.2.length r.val.2.1], .slice Aw w.length cw, .slice Bp p.length cp] ∧ StoryOk s t es r w p ∧ k' ≤ L.length ∧ R' = [Stars (toldR B c' s At ct t As ca es), relR r, iR Aw cw w, iR Bp cp p, CodesR b A c L k']
set_option maxRecDepth 10000 in
set_option maxHeartbeats 16000000 in
theorem Story_made (b : Nat) (A : Option Addr) (c : Nat) (L : List Int) (k : Nat) (I : PH) (hL : CodesOk I A c L) (hk : k ≤ L.length) :
    FnSpec Tryz.prog 45 [.pointer (some ⟨b, 0, none⟩)] I [CodesR b A c L k] (StoryPost b A c L) := by
  unfold StoryPost
  refine FnSpec.enterP Tryz.func45 rfl Tryz.ntmps45 rfl fun w0 F => ?_
  repeat' first
    | ((with_reducible refine Nx.is_wp ?_); first | refine Nx.p_stopr 2 rfl ?_ | refine Nx.wo ?_ | refine Nx.zp (fun hc => ?_) (fun hc => ?_))
    | (refine Nx.zo ?_; first | refine Nx.opr rfl rfl ?_ | (refine Nx.call rfl rfl rfl (by kernel_rfl) rfl (Told_made b A c L k 2 1 I hL hk (by omega) (by omega)) (by (exact Ent.auto)) ?_; rintro _ _ ⟨B, c', s, At, ct, t, As, ca, es, k1, rfl, hs, hT, hrn, hro, hk1, rfl⟩) | refine Nx.so ?_ | refine Nx.sb (fun bx => ?_) | refine Nx.sa (fun A2 c2 => ?_))
    | ((with_reducible refine Nx.is_at ?_); first | refine Nx.a ?_ | refine Nx.zd ?_ | refine Nx.zs (fun hc => ?_) (fun hc => ?_))
    | ((with_reducible refine Nx.is_mix ?_); first | refine Nx.m ?_ | refine Nx.zm ?_ | refine Nx.zt (fun hc => ?_) (fun hc => ?_))
    | refine Nx.zx ?_ | fail
  refine Nx.unstop ?_
  rename_i b2 b4
  revert bx; intro b7
  refine Nx.ent (R' := [Stars (toldR B c' s At ct t As ca es), CodesR b A c L k1, Blk b7 27 [.slice B s.length c'], Blk b4 62 [.int .i64 0, .slice none 0 0, .slice none 0 0], Blk b2 27 [.slice none 0 0], F]) (by refine Ent.trans ?_ Ent.stars; unfold toldR; (exact Ent.auto)) ?_
  have hTb : Table s t := ⟨hT.1, fun j hj => by have := hT.2 j hj; omega⟩
  have hzs := size_ok hs
  have hz0 : ∀ (m' I' : PH) (X : List Res), PH.le m' I' → Stars (Stars (toldR B c' s At ct t As ca es) :: X) m' → Ints I' B c' s ∧ Ints I' At ct t := fun m' I' X hm hv => by
    obtain ⟨q0, z0, y0⟩ := Stars.get 0 hv rfl
    obtain ⟨q1, z1, y1⟩ := Stars.get 0 y0 rfl
    obtain ⟨q2, z2, y2⟩ := Stars.get 1 y0 rfl
    exact ⟨Vec.sliceOf ((z1.trans z0).trans hm) y1, Vec.sliceOf ((z2.trans z0).trans hm) y2⟩
  have hPb := fun (Av : Option Addr) (cv : Nat) (v : List Row) (hw : Viewed s v) (m' I' : PH) (hle : PH.le I I') (hm : PH.le m' I') (hv : Stars [Stars (toldR B c' s At ct t As ca es), ViewR Av cv v] m') => RPublish_spec B Av At c' cv ct s t v I' (hz0 _ _ _ hm hv).1 hs (by
    obtain ⟨q0, z0, y0⟩ := Stars.get 1 hv rfl
    exact ViewR.rows (z0.trans hm) y0) hw (hz0 _ _ _ hm hv).2 hTb
  have hVm := fun (m' I' : PH) (hle : PH.le I I') (hm : PH.le m' I') (hv : Stars [Stars (toldR B c' s At ct t As ca es)] m') => View_made b A B c c' L s k1 I' (hL.mono hle) hk1 (hz0 _ _ _ hm hv).1 hs
  repeat' first
    | ((with_reducible refine Nx.is_wp ?_); first | refine Nx.wo ?_ | refine Nx.zp (fun hc => ?_) (fun hc => ?_))
    | (refine Nx.zo ?_; first | refine Nx.opr rfl rfl ?_ | (refine Nx.call rfl rfl rfl (by kernel_rfl) rfl (FnSpec.keep [Stars (toldR B c' s At ct t As ca es)] fun m' I' hle hm' hv => hVm m' I' hle hm' hv) (by (exact Ent.auto)) ?_; rintro _ _ ⟨_, ⟨Av, cv, v, k2, rfl, hw, hk2, rfl⟩, rfl⟩) | (refine Nx.call rfl rfl rfl (by kernel_rfl) rfl (FnSpec.keep [Stars (toldR B c' s At ct t As ca es), ViewR Av cv v] fun m' I' hle hm' hv => hPb Av cv v hw m' I' hle hm' hv) (by (exact Ent.auto)) ?_; rintro _ _ ⟨_, ⟨Ap, rfl, rfl⟩, rfl⟩) | refine Nx.so ?_ | refine Nx.sb (fun bx => ?_) | refine Nx.sa (fun A2 c2 => ?_))
    | ((with_reducible refine Nx.is_at ?_); first | refine Nx.a ?_ | refine Nx.zd ?_ | refine Nx.zs (fun hc => ?_) (fun hc => ?_))
    | ((with_reducible refine Nx.is_mix ?_); first | refine Nx.m ?_ | refine Nx.zm ?_ | refine Nx.zt (fun hc => ?_) (fun hc => ?_))
    | refine Nx.zx ?_ | fail
  revert bx; intro b10
  obtain ⟨n, hn⟩ : ∃ n, n = v.length := ⟨_, rfl⟩
  have hn4 : n ≤ 4 := by rw [hn]; exact (hw.szsOk hs).1
  rw [← hn]
  have hpv : ∀ v', Viewed s v' → (prod (szs v')).toNat ≤ 48 ∧ (sums (pubOf s v') t (prod (szs v')).toNat t.length).length = (prod (szs v')).toNat ∧ ∀ j, j < (prod (szs v')).toNat → (sums (pubOf s v') t (prod (szs v')).toNat t.length).getD j default = sumAt (pubOf s v') t (j : Int) t.length := fun v' hw' => by
    have h1 := (hw'.sizes hs).cells
    have h2 := sums_len (pubOf s v') t (prod (szs v')).toNat t.length
    exact ⟨by omega, h2, fun j hj => sums_at _ _ _ _ _ hj⟩
  have hwn : v.length = n := hn.symm
  clear hn
  refine Nx.p_loop (σ := Nat × List Row × Option Addr) (fun q => [(0, .pointer (some ⟨b, 0, none⟩)), (2, .pointer (some ⟨b2, 0, none⟩)), (4, .pointer (some ⟨b4, 0, none⟩)), (7, .pointer (some ⟨b7, 0, none⟩)), (8, .slice At t.length ct), (9, .slice As es.length ca), (10, .pointer (some ⟨b10, 0, none⟩)), (11, .slice q.2.2 (prod (szs q.2.1)).toNat (prod (szs q.2.1)).toNat)])
    (fun q => [Vec 25 1 Av n cv (q.2.1.map rowV), Stars (q.2.1.map rowR), Stars (toldR B c' s At ct t As ca es), Vec 3 1 q.2.2 (prod (szs q.2.1)).toNat (prod (szs q.2.1)).toNat ((sums (pubOf s q.2.1) t (prod (szs q.2.1)).toNat t.length).map (Value.int .i64)), Blk b10 60 [.slice Av n cv], CodesR b A c L k2, Blk b7 27 [.slice B s.length c'], Blk b4 62 [.int .i64 0, .slice none 0 0, .slice none 0 0], Blk b2 27 [.slice none 0 0], F])
    (fun q => Viewed s q.2.1 ∧ q.2.1.length = n ∧ q.1 ≤ n ∧ ∀ j, j < q.1 → grp q.2.1 j = 0) (fun q => n - q.1) (0, v, Ap) rfl ⟨hw, hwn, Nat.zero_le _, fun j hj => absurd hj (Nat.not_lt_zero _)⟩ ⟨rfl, rfl, rfl, rfl, rfl, rfl, rfl, rfl, trivial⟩ (Ent.trans (R' := ViewR Av cv v :: [Stars (toldR B c' s At ct t As ca es), Vec 3 1 Ap (prod (szs v)).toNat (prod (szs v)).toNat ((sums (pubOf s v) t (prod (szs v)).toNat t.length).map (Value.int .i64)), Blk b10 60 [.slice Av n cv], CodesR b A c L k2, Blk b7 27 [.slice B s.length c'], Blk b4 62 [.int .i64 0, .slice none 0 0, .slice none 0 0], Blk b2 27 [.slice none 0 0], F]) (by (exact Ent.auto)) (by unfold ViewR; rw [hwn]; exact Ent.unstars)) ?_
  clear hVm hw hwn v Ap
  rintro ⟨d, v, Ap⟩ ⟨hw, hvn, hd, hgr⟩
  dsimp only at hw hvn hd hgr ⊢
  obtain ⟨hP48, hzl, hzat⟩ := hpv v hw
  have hones := szs_ones (v := v)
  obtain ⟨P, hP⟩ : ∃ P, P = (prod (szs v)).toNat := ⟨_, rfl⟩
  rw [← hP] at hP48 hzl hzat ⊢
  by_cases hP6 : P ≤ 6
  case neg =>
    repeat' first
      | ((with_reducible refine Nx.is_wp ?_); first | refine Nx.wo ?_ | refine Nx.zp (fun hc => ?_) (fun hc => ?_))
      | (refine Nx.zo ?_; first | refine Nx.opr rfl rfl ?_ | refine Nx.so ?_ | refine Nx.sb (fun bx => ?_) | refine Nx.sa (fun A2 c2 => ?_))
      | ((with_reducible refine Nx.is_at ?_); first | refine Nx.a ?_ | refine Nx.zd ?_ | refine Nx.zs (fun hc => ?_) (fun hc => ?_))
      | ((with_reducible refine Nx.is_mix ?_); first | refine Nx.m ?_ | refine Nx.zm ?_ | refine Nx.zt (fun hc => ?_) (fun hc => ?_))
      | refine Nx.zx ?_ | fail
    refine Nx.p_loop (σ := Nat) (fun i => [(0, .pointer (some ⟨b, 0, none⟩)), (2, .pointer (some ⟨b2, 0, none⟩)), (4, .pointer (some ⟨b4, 0, none⟩)), (7, .pointer (some ⟨b7, 0, none⟩)), (8, .slice At t.length ct), (9, .slice As es.length ca), (10, .pointer (some ⟨b10, 0, none⟩)), (36, .slice Av n cv), (37, .int .i64 (n : Int)), (38, .int .i64 (i : Int))])
      (fun _ => [Vec 25 1 Av n cv (v.map rowV), Stars (v.map rowR), Stars (toldR B c' s At ct t As ca es), Blk b10 60 [.slice Av n cv], CodesR b A c L k2, Blk b7 27 [.slice B s.length c'], Blk b4 62 [.int .i64 0, .slice none 0 0, .slice none 0 0], Blk b2 27 [.slice none 0 0], F])
      (fun i => i ≤ n ∧ ∀ j, j < i → grp v j = 0) (fun i => n - i) 0 rfl ⟨Nat.zero_le _, fun j hj => absurd hj (Nat.not_lt_zero _)⟩ ⟨rfl, rfl, rfl, rfl, rfl, rfl, rfl, rfl, rfl, rfl, trivial⟩ (by (exact Ent.auto)) ?_
    rintro i ⟨hi, hgi⟩
    by_cases hin : i < n
    case neg =>
      exfalso
      have := hones fun j hj => hgi j (by omega)
      rw [this] at hP
      omega
    have hiv : i < v.length := by omega
    have hil : i < s.length := by rw [← hw.len]; exact hiv
    have hea := hw.each i hil
    have hsa := hs.at hil
    have hgg := grouped_of hea.2
    obtain ⟨r, hr⟩ : ∃ r, r = v.getD i default := ⟨_, rfl⟩
    have hgrp : grp v i = maxL r.2.2 (r.2.2.length - 1) := by rw [hr]; rfl
    rw [← hr] at hea hgg
    obtain ⟨a, cc, g⟩ := r
    dsimp only at hea hgg hgrp
    have hg8 : g.length ≤ 8 := by omega
    have hvr : ∀ (k : Nat) (W : World) (R : List Res), nthL R k = some (Vec 25 1 Av n cv (v.map rowV)) → Rd W I R ((ad Av).add (i * 1)) (.slice a g.length cc) := fun k W R h => by
      have := Rd.vecEl (W := W) (I := I) k (f := rowV) (l := v) h hiv
      rw [← hr] at this
      exact this
    have hGs := fun (m' I' : PH) (hle : PH.le I I') (hm : PH.le m' I') (hv : Stars [Stars (v.map rowR)] m') => Groups_spec a cc g I' (by
      obtain ⟨q0, z0, y0⟩ := Stars.get 0 hv rfl
      obtain ⟨q1, z1, y1⟩ := Stars.get i (r := rowR (v.getD i default)) y0 (by rw [nthL_eq]; exact row_get hiv)
      rw [← hr] at y1
      exact Vec.sliceOf ((z1.trans z0).trans hm) y1) hgg (by omega)
    refine Nx.vec_fact fun _ _ _ hAv => ?_
    have hAv := hAv (by omega)
    by_cases hg0 : grp v i = 0
    · rw [← hgrp, hg0] at hGs
      repeat' first
        | ((with_reducible refine Nx.is_wp ?_); first | refine Nx.wo ?_ | refine Nx.zp (fun hc => ?_) (fun hc => ?_))
        | (refine Nx.zo ?_; first | refine Nx.opr rfl rfl ?_ | refine Nx.indexAddr_nat (A := Av) (i := i) (sz := 1) rfl rfl rfl rfl rfl (by omega) hAv ?_ | refine Nx.load rfl rfl rfl (hvr 0 _ _ rfl) ?_ | (refine Nx.call rfl rfl rfl (by kernel_rfl) rfl (FnSpec.keep [Stars (v.map rowR)] fun m' I' hle hm' hv => hGs m' I' hle hm' hv) (by (exact Ent.auto)) ?_; rintro _ _ ⟨_, ⟨rfl, rfl⟩, rfl⟩) | refine Nx.so ?_ | refine Nx.sb (fun bx => ?_) | refine Nx.sa (fun A2 c2 => ?_))
        | ((with_reducible refine Nx.is_at ?_); first | refine Nx.a ?_ | refine Nx.zd ?_ | refine Nx.zs (fun hc => ?_) (fun hc => ?_))
        | ((with_reducible refine Nx.is_mix ?_); first | refine Nx.m ?_ | refine Nx.zm ?_ | refine Nx.zt (fun hc => ?_) (fun hc => ?_))
        | refine Nx.zx ?_ | fail
      exact Nx.again (i + 1) ⟨hin, fun j hj => by
        rcases Nat.lt_or_ge j i with h | h
        · exact hgi j h
        · rw [show j = i by omega]; exact hg0⟩ (by omega) ⟨rfl, rfl, rfl, rfl, rfl, rfl, rfl, rfl, rfl, rfl, trivial⟩ (by (exact Ent.auto))
    have hg1 : 0 < grp v i := by have := hgg.max; omega
    rw [← hgrp] at hGs
    repeat' first
      | ((with_reducible refine Nx.is_wp ?_); first | refine Nx.wo ?_ | refine Nx.zp (fun hc => ?_) (fun hc => ?_))
      | (refine Nx.zo ?_; first | refine Nx.opr rfl rfl ?_ | refine Nx.indexAddr_nat (A := Av) (i := i) (sz := 1) rfl rfl rfl rfl rfl (by omega) hAv ?_ | refine Nx.load rfl rfl rfl (hvr 0 _ _ rfl) ?_ | refine Nx.load rfl rfl rfl (hvr 1 _ _ rfl) ?_ | (refine Nx.call rfl rfl rfl (by kernel_rfl) rfl (FnSpec.keep [Stars (v.map rowR)] fun m' I' hle hm' hv => hGs m' I' hle hm' hv) (by (exact Ent.auto)) ?_; rintro _ _ ⟨_, ⟨rfl, rfl⟩, rfl⟩) | refine Nx.so ?_ | refine Nx.sb (fun bx => ?_) | refine Nx.sa (fun A2 c2 => ?_))
      | ((with_reducible refine Nx.is_at ?_); first | refine Nx.a ?_ | refine Nx.zd ?_ | refine Nx.zs (fun hc => ?_) (fun hc => ?_))
      | ((with_reducible refine Nx.is_mix ?_); first | refine Nx.m ?_ | refine Nx.zm ?_ | refine Nx.zt (fun hc => ?_) (fun hc => ?_))
      | refine Nx.zx ?_ | fail
    refine Nx.p_loop (σ := Nat) (fun kk => [(0, .pointer (some ⟨b, 0, none⟩)), (2, .pointer (some ⟨b2, 0, none⟩)), (4, .pointer (some ⟨b4, 0, none⟩)), (7, .pointer (some ⟨b7, 0, none⟩)), (8, .slice At t.length ct), (9, .slice As es.length ca), (10, .pointer (some ⟨b10, 0, none⟩)), (13, .int .i64 (i : Int)), (53, .int .i64 (g.length : Int)), (54, .int .i64 (kk : Int))])
      (fun kk => [Vec 25 1 Av n cv (v.map rowV), Stars ((setG v i (minK g kk)).map rowR), Stars (toldR B c' s At ct t As ca es), Blk b10 60 [.slice Av n cv], CodesR b A c L k2, Blk b7 27 [.slice B s.length c'], Blk b4 62 [.int .i64 0, .slice none 0 0, .slice none 0 0], Blk b2 27 [.slice none 0 0], F])
      (fun kk => kk ≤ g.length) (fun kk => g.length - kk) 0 rfl (Nat.zero_le _) ⟨rfl, rfl, rfl, rfl, rfl, rfl, rfl, rfl, rfl, rfl, trivial⟩ (by
        have h0 : setG v i (minK g 0) = v := by
          rw [minK_zero]
          have := setG_self (v := v) hiv
          rw [← hr] at this
          exact this
        dsimp only
        rw [h0]; (exact Ent.auto)) ?_
    intro kk hkk
    have hkk : kk ≤ g.length := hkk
    have hsl := setG_len v i (minK g kk)
    have hsa2 := setG_at (g := minK g kk) hiv
    rw [← hr] at hsa2
    dsimp only at hsa2
    have hml := minK_len g kk hkk
    by_cases hkg : kk < g.length
    · have hx0 := hgg.each kk hkg
      have hset : setG (setG v i (minK g kk)) i ((minK g kk).set kk (min 0 (g.getD kk default))) = setG v i (minK g (kk + 1)) := by rw [setG_setG hiv, minK_set hkg]
      have hrr : ∀ (k : Nat) (W : World) (R : List Res), nthL R k = some (Stars ((setG v i (minK g kk)).map rowR)) → Rd W I R ((ad a).add (kk * 1)) (.int .i64 (g.getD kk default)) := fun k W R h => by
        have := row_rd (W := W) (I := I) k h (i := i) (j := kk) (by omega) (by rw [hsa2]; dsimp only; omega)
        rw [hsa2] at this
        dsimp only at this
        rw [minK_at hkg] at this
        exact this
      generalize g.getD kk default = x at hx0 hset hrr
      generalize hov : setG v i (minK g kk) = o at hsl hsa2 hset hrr
      have ha1 : (o.getD i default).1 = a := by rw [hsa2]
      have ha2 : (o.getD i default).2.2 = minK g kk := by rw [hsa2]
      refine Nx.ent (R' := [Stars (o.map rowR), Vec 25 1 Av n cv (v.map rowV), Stars (toldR B c' s At ct t As ca es), Blk b10 60 [.slice Av n cv], CodesR b A c L k2, Blk b7 27 [.slice B s.length c'], Blk b4 62 [.int .i64 0, .slice none 0 0, .slice none 0 0], Blk b2 27 [.slice none 0 0], F]) (by rw [← hov]; (exact Ent.auto)) ?_
      refine Nx.row_fact (i := i) (by omega) fun hsome => ?_
      have hsome := hsome (by rw [ha2]; omega)
      rw [ha1] at hsome
      repeat' first
        | ((with_reducible refine Nx.is_wp ?_); first | refine Nx.wo ?_ | refine Nx.p_drawF (id := 12) rfl [0, 1, 2, 3, 4, 5, 6, 7, 8, 9, 10, 11, 12, 13, 14, 15] [] [16] _ rfl rfl (by kernel_rfl) (by kernel_rfl) rfl (by repeat first | exact PanicOk.fn | refine PanicOk.then_ ?_ | refine PanicOk.inB ?_) (Ent.refl _) ?_ | refine Nx.p_drawF (id := 21) rfl [0, 1, 2, 3, 4, 5, 6, 7, 8, 9, 10, 11, 12, 13, 14, 15, 16] [10, 11, 12, 14] [] _ rfl rfl (by kernel_rfl) (by kernel_rfl) rfl (by repeat first | exact PanicOk.fn | refine PanicOk.then_ ?_ | refine PanicOk.inB ?_) (Ent.refl _) ?_ | refine Nx.zp (fun hc => ?_) (fun hc => ?_))
        | (refine Nx.zo ?_; first | refine Nx.opr rfl rfl ?_ | refine Nx.store_rowA 0 (o := o) (i := i) (j := kk) ha1 rfl rfl rfl rfl (by omega) (by rw [ha2]; omega) ?_ | refine Nx.so ?_ | refine Nx.sb (fun bx => ?_) | refine Nx.sa (fun A2 c2 => ?_))
        | ((with_reducible refine Nx.is_at ?_); first | refine Nx.a ?_ | refine Nx.zd ?_ | refine Nx.zs (fun hc => ?_) (fun hc => ?_))
        | ((with_reducible refine Nx.is_mix ?_); first | refine Nx.m_quiet rfl rfl rfl rfl rfl (by first | exact QRun.opr rfl | exact QRun.idx (A := Av) (i := i) (sz := 1) rfl rfl rfl rfl (by omega) hAv | exact QRun.load rfl rfl (hvr 1 _ _ rfl) | exact QRun.load rfl rfl (hrr 0 _ _ rfl) | exact QRun.idx (A := a) (i := kk) (sz := 1) rfl rfl rfl rfl (by omega) hsome) ?_ | refine Nx.m_quiet_do rfl rfl rfl rfl rfl rfl rfl (by first | exact QRun.opr rfl | exact QRun.idx (A := Av) (i := i) (sz := 1) rfl rfl rfl rfl (by omega) hAv | exact QRun.load rfl rfl (hvr 1 _ _ rfl) | exact QRun.load rfl rfl (hrr 0 _ _ rfl) | exact QRun.idx (A := a) (i := kk) (sz := 1) rfl rfl rfl rfl (by omega) hsome) ?_ | refine Nx.m ?_ | refine Nx.zm ?_ | refine Nx.zt (fun hc => ?_) (fun hc => ?_))
        | refine Nx.zx ?_ | fail
      refine Nx.again (kk + 1) hkg (by omega) ⟨rfl, rfl, rfl, rfl, rfl, rfl, rfl, rfl, rfl, rfl, trivial⟩ ?_
      rw [ha2, hset]
      exact (by (exact Ent.auto))
    obtain rfl : kk = g.length := by omega
    rw [minK_end] at hsa2 ⊢
    clear hml hsl
    have hw2 := viewed_set hw hiv
    rw [← hr] at hw2
    dsimp only at hw2
    have hou : (setG v i (g.map (min 0))).map rowV = v.map rowV := setG_outer hiv (by rw [← hr]; dsimp only; rw [List.length_map])
    have hgz : grp (setG v i (g.map (min 0))) i = 0 := by
      unfold grp
      rw [hsa2]
      dsimp only
      rw [List.length_map]
      exact maxL_min hea.2
    have hgo : ∀ j, j < i → grp (setG v i (g.map (min 0))) j = 0 := fun j hj => by
      unfold grp
      rw [setG_ne (by omega)]
      exact hgi j hj
    rw [← hou]
    have hvl2 : (setG v i (g.map (min 0))).length = n := by rw [setG_len]; exact hvn
    generalize setG v i (g.map (min 0)) = v2 at hw2 hgz hgo hvl2
    refine Nx.ent (R' := [ViewR Av cv v2, Stars (toldR B c' s At ct t As ca es), Blk b10 60 [.slice Av n cv], CodesR b A c L k2, Blk b7 27 [.slice B s.length c'], Blk b4 62 [.int .i64 0, .slice none 0 0, .slice none 0 0], Blk b2 27 [.slice none 0 0], F]) (by unfold ViewR; rw [hvl2]; exact Ent.pack2) ?_
    have hPb2 := hPb Av cv v2 hw2
    rw [hvl2] at hPb2
    repeat' first
      | ((with_reducible refine Nx.is_wp ?_); first | refine Nx.wo ?_ | refine Nx.zp (fun hc => ?_) (fun hc => ?_))
      | (refine Nx.zo ?_; first | refine Nx.opr rfl rfl ?_ | (refine Nx.call rfl rfl rfl (by kernel_rfl) rfl (FnSpec.keep [Stars (toldR B c' s At ct t As ca es), ViewR Av cv v2] fun m' I' hle hm' hv => hPb2 m' I' hle hm' hv) (by (exact Ent.auto)) ?_; rintro _ _ ⟨_, ⟨Ap2, rfl, rfl⟩, rfl⟩) | refine Nx.so ?_ | refine Nx.sb (fun bx => ?_) | refine Nx.sa (fun A2 c2 => ?_))
      | ((with_reducible refine Nx.is_at ?_); first | refine Nx.a ?_ | refine Nx.zd ?_ | refine Nx.zs (fun hc => ?_) (fun hc => ?_))
      | ((with_reducible refine Nx.is_mix ?_); first | refine Nx.m ?_ | refine Nx.zm ?_ | refine Nx.zt (fun hc => ?_) (fun hc => ?_))
      | refine Nx.zx ?_ | fail
    have hdi : d ≤ i := by
      rcases Nat.lt_or_ge i d with h | h
      · exact absurd (hgr i h) hg0
      · exact h
    refine Nx.again (i + 1, v2, Ap2) ⟨hw2, hvl2, hin, fun j hj => ?_⟩ (by dsimp only; omega) ⟨rfl, rfl, rfl, rfl, rfl, rfl, rfl, rfl, trivial⟩ (Ent.trans (R' := ViewR Av cv v2 :: [Stars (toldR B c' s At ct t As ca es), Vec 3 1 Ap2 (prod (szs v2)).toNat (prod (szs v2)).toNat ((sums (pubOf s v2) t (prod (szs v2)).toNat t.length).map (Value.int .i64)), Blk b10 60 [.slice Av n cv], CodesR b A c L k2, Blk b7 27 [.slice B s.length c'], Blk b4 62 [.int .i64 0, .slice none 0 0, .slice none 0 0], Blk b2 27 [.slice none 0 0], F]) (by (exact Ent.auto)) (by unfold ViewR; rw [hvl2]; exact Ent.unstars))
    dsimp only at hj ⊢
    rcases Nat.lt_or_ge j i with h | h
    · exact hgo j h
    · rw [show j = i by omega]; exact hgz
  obtain ⟨z, hz⟩ : ∃ z, z = sums (pubOf s v) t P t.length := ⟨_, rfl⟩
  rw [← hz] at hzl hzat ⊢
  have hRel : RelOk s t ⟨(es.length : Int), Av, cv, v, (Ap, P, z)⟩ := ⟨hw, by rw [← hP]; exact hzl, fun j hj => .inr (hzat j (by rw [← hzl]; exact hj))⟩
  clear hpv hPb hones
  repeat' first
    | ((with_reducible refine Nx.is_wp ?_); first | refine Nx.wo ?_ | refine Nx.zp (fun hc => ?_) (fun hc => ?_))
    | (refine Nx.zo ?_; first | refine Nx.opr rfl rfl ?_ | refine Nx.so ?_ | refine Nx.sb (fun bx => ?_) | refine Nx.sa (fun A2 c2 => ?_))
    | ((with_reducible refine Nx.is_at ?_); first | refine Nx.a ?_ | refine Nx.zd ?_ | refine Nx.zs (fun hc => ?_) (fun hc => ?_))
    | ((with_reducible refine Nx.is_mix ?_); first | refine Nx.m ?_ | refine Nx.zm ?_ | refine Nx.zt (fun hc => ?_) (fun hc => ?_))
    | refine Nx.zx ?_ | fail
  refine Nx.p_loop (σ := Nat × Nat × Option Addr × Nat × List Int) (fun q => [(0, .pointer (some ⟨b, 0, none⟩)), (2, .pointer (some ⟨b2, 0, none⟩)), (4, .pointer (some ⟨b4, 0, none⟩)), (7, .pointer (some ⟨b7, 0, none⟩)), (9, .slice As es.length ca), (10, .pointer (some ⟨b10, 0, none⟩)), (11, .slice Ap P P), (15, .slice q.2.2.1 q.2.2.2.2.length q.2.2.2.1), (82, .slice Ap P P), (83, .int .i64 (P : Int)), (84, .int .i64 (q.1 : Int))])
    (fun q => [iR q.2.2.1 q.2.2.2.1 q.2.2.2.2, CodesR b A c L q.2.1, Vec 25 1 Av n cv (v.map rowV), Stars (v.map rowR), Stars (toldR B c' s At ct t As ca es), Vec 3 1 Ap P P (z.map (Value.int .i64)), Blk b10 60 [.slice Av n cv], Blk b7 27 [.slice B s.length c'], Blk b4 62 [.int .i64 0, .slice none 0 0, .slice none 0 0], Blk b2 27 [.slice none 0 0], F])
    (fun q => q.1 ≤ P ∧ q.2.1 ≤ L.length ∧ q.2.2.2.2.length = q.1 ∧ ∀ x ∈ q.2.2.2.2, 0 ≤ x ∧ x < 6) (fun q => P - q.1) (0, k2, none, 0, []) rfl ⟨Nat.zero_le _, hk2, rfl, by simp⟩ ⟨rfl, rfl, rfl, rfl, rfl, rfl, rfl, rfl, rfl, rfl, rfl, trivial⟩ ((Ent.vec_nil 3 1 _).trans (by (exact Ent.auto))) ?_
  rintro ⟨j, kc, Aw, cw, w⟩ ⟨hj, hkc, hwl, hwx⟩
  dsimp only at hj hkc hwl hwx ⊢
  by_cases hjP : j < P
  · repeat' first
      | ((with_reducible refine Nx.is_wp ?_); first | refine Nx.wo ?_ | refine Nx.zp (fun hc => ?_) (fun hc => ?_))
      | (refine Nx.zo ?_; first | refine Nx.opr rfl rfl ?_ | (refine Nx.call rfl rfl rfl (by kernel_rfl) rfl (Next_any b A c L kc 6 I hL hkc (by omega)) (by (exact Ent.auto)) ?_; rintro _ _ ⟨r, k3, rfl, hr, hk3, rfl⟩) | refine Nx.so ?_ | refine Nx.sb (fun bx => ?_) | refine Nx.sa (fun A2 c2 => ?_))
      | ((with_reducible refine Nx.is_at ?_); first | refine Nx.a ?_ | refine Nx.zd ?_ | refine Nx.zs (fun hc => ?_) (fun hc => ?_))
      | ((with_reducible refine Nx.is_mix ?_); first | refine Nx.m ?_ | refine Nx.zm ?_ | refine Nx.zt (fun hc => ?_) (fun hc => ?_))
      | refine Nx.zx ?_ | fail
    exact Nx.again (j + 1, k3, A2, c2, w ++ [r]) ⟨hjP, hk3, by dsimp only; rw [List.length_append, List.length_singleton]; omega, fun x hx => by
      dsimp only at hx
      rcases List.mem_append.1 hx with h | h
      · exact hwx x h
      · rw [List.mem_singleton.1 h]; omega⟩ (by dsimp only; omega) ⟨rfl, rfl, rfl, rfl, rfl, rfl, rfl, by dsimp only; rw [List.length_append]; rfl, rfl, rfl, rfl, trivial⟩ (by dsimp only; unfold iR; rw [List.length_append, List.map_append]; (exact Ent.auto))
  obtain rfl : j = P := by omega
  have hCt := fun (m' I' : PH) (hle : PH.le I I') (hm : PH.le m' I') (hv : Stars [Stars (toldR B c' s At ct t As ca es)] m') => (by
    have := RCount_spec B c' s I' (hz0 _ _ _ hm hv).1 hs
    rw [← hzs.2.2] at this
    exact this : FnSpec Tryz.prog 16 [.agg #[.slice B s.length c']] I' [] (fun u R' => u = .int .i64 ((prod s).toNat : Int) ∧ R' = []))
  subst hzl
  refine Nx.ent (R' := [relR ⟨(es.length : Int), Av, cv, v, (Ap, z.length, z)⟩, Stars (toldR B c' s At ct t As ca es), CodesR b A c L kc, Blk b10 60 [.slice Av n cv], Blk b7 27 [.slice B s.length c'], Blk b4 62 [.int .i64 0, .slice none 0 0, .slice none 0 0], Blk b2 27 [.slice none 0 0], iR Aw cw w, F]) (Ent.trans (R' := [Vec 25 1 Av n cv (v.map rowV), Stars (v.map rowR), rowR (Ap, z.length, z), Stars (toldR B c' s At ct t As ca es), CodesR b A c L kc, Blk b10 60 [.slice Av n cv], Blk b7 27 [.slice B s.length c'], Blk b4 62 [.int .i64 0, .slice none 0 0, .slice none 0 0], Blk b2 27 [.slice none 0 0], iR Aw cw w, F]) (by unfold rowR; (exact Ent.auto)) (by rw [← hvn]; exact Ent.pack2.trans Ent.pack2)) ?_
  repeat' first
    | ((with_reducible refine Nx.is_wp ?_); first | refine Nx.p_draw (id := 21) rfl [0, 1, 2, 3, 4, 5, 6, 7, 8, 9, 10, 11, 12, 13, 14, 15, 16] [10, 11, 12, 14] [Blk b10 60 [.slice Av n cv], Blk b7 27 [.slice B s.length c']] rfl rfl (by kernel_rfl) (by kernel_rfl) rfl (by repeat first | exact PanicOk.fn | refine PanicOk.then_ ?_ | refine PanicOk.inB ?_) (by (exact Ent.auto)) ?_ | refine Nx.wo ?_ | refine Nx.zp (fun hc => ?_) (fun hc => ?_))
    | (refine Nx.zo ?_; first | refine Nx.opr rfl rfl ?_ | (refine Nx.call rfl rfl rfl (by kernel_rfl) rfl (FnSpec.keep [Stars (toldR B c' s At ct t As ca es)] fun m' I' hle hm' hv => hCt m' I' hle hm' hv) (by (exact Ent.auto)) ?_; rintro _ _ ⟨_, ⟨rfl, rfl⟩, rfl⟩) | (refine Nx.call rfl rfl rfl (by kernel_rfl) rfl (Protected_made b A c _ kc (prod s).toNat I hL hkc (by omega)) (by (exact Ent.auto)) ?_; rintro _ _ ⟨Bp, cp, p, k4, rfl, hpl, ⟨hpa, hpb⟩, hk4, rfl⟩) | refine Nx.so ?_ | refine Nx.sb (fun bx => ?_) | refine Nx.sa (fun A2 c2 => ?_))
    | ((with_reducible refine Nx.is_at ?_); first | refine Nx.a ?_ | refine Nx.zd ?_ | refine Nx.zs (fun hc => ?_) (fun hc => ?_))
    | ((with_reducible refine Nx.is_mix ?_); first | refine Nx.m ?_ | refine Nx.zm ?_ | refine Nx.zt (fun hc => ?_) (fun hc => ?_))
    | refine Nx.zx ?_ | fail
  refine Nx.ent (R' := [Blk b4 62 [.int .i64 es.length, .slice Av n cv, .slice Ap z.length z.length], Blk b2 27 [.slice B s.length c'], Stars (toldR B c' s At ct t As ca es), relR ⟨(es.length : Int), Av, cv, v, (Ap, z.length, z)⟩, iR Aw cw w, iR Bp cp p, CodesR b A c L k4, F]) (by (exact Ent.auto)) ?_
  exact Nx.ret5 rfl (ROne.cell 1 rfl rfl rfl rfl rfl) (ROne.tmp rfl) (ROne.cell 0 rfl rfl rfl rfl rfl) (ROne.tmp rfl) (ROne.tmp rfl) [_, _, _, _, _] ⟨B, c', s, At, ct, t, As, ca, es, ⟨(es.length : Int), Av, cv, v, (Ap, z.length, z)⟩, Aw, cw, w, Bp, cp, p, k4, by dsimp only; rw [hvn], ⟨hs, hT, hrn, hro, hRel, rfl, hP6, hwl, hwx, hpa, fun x hx => by have := hpb x hx; omega, by omega⟩, hk4, rfl⟩ (by (exact Ent.auto))
end Go.Proofs.YtcmdemfhbekabaaGreat
/- Contracts of functions of the given program, and lemmas about plain lists and numbers: what the laws of this seat lean on. -/
namespace Go.Proofs.YtcmdemfhbekabaaGreat
open Go.Eng Go.Sol
attribute [local irreducible] opK wpList Code.wp Exit.then Exit.inBlock fnPost bodyPost Nx Calls Oper.wp Rd Rds Wr Ent Stars Blk Again Vec FnSpec wpMix QRun Stop Upto wpAt
/-! The example of the chapter on suppression -/
def exEs (v1 g1 x1 : Nat) : List Rel := [⟨0, some ⟨v1, 0, none⟩, 1, [(some ⟨g1, 0, none⟩, 3, [0, 0, 0])], (some ⟨x1, 0, none⟩, 1, [10])⟩]
def exRs (v2 g2 x2 : Nat) : Rel := ⟨1, some ⟨v2, 0, none⟩, 1, [(some ⟨g2, 0, none⟩, 3, [0, 1, 2])], (some ⟨x2, 0, none⟩, 3, [1, 5, 4])⟩
theorem exP0 (v1 g1 x1 v2 g2 x2 : Nat) : pbF [3] (exEs v1 g1 x1) (exRs v2 g2 x2) 3 [0] 1 0 = false := by kernel_rfl
theorem exP1 (v1 g1 x1 v2 g2 x2 : Nat) : protF [3] (exEs v1 g1 x1) (exRs v2 g2 x2) [0] [0] 1 = (false, 0) := by kernel_rfl
theorem exP2 (v1 g1 x1 v2 g2 x2 : Nat) : pbF [3] (exEs v1 g1 x1) (exRs v2 g2 x2) 3 [0] 1 2 = false := by kernel_rfl
theorem exP4 (v1 g1 x1 v2 g2 x2 : Nat) : pbF [3] (exEs v1 g1 x1) (exRs v2 g2 x2) 3 [0] 1 4 = false := by kernel_rfl
theorem exP5 (v1 g1 x1 v2 g2 x2 : Nat) : pbF [3] (exEs v1 g1 x1) (exRs v2 g2 x2) 3 [0] 1 5 = true := by kernel_rfl
theorem exE0 (v1 g1 x1 v2 g2 x2 : Nat) : lstE [3] (exEs v1 g1 x1) (exRs v2 g2 x2) [1, 5, 4] [0] 1 = 0 := by kernel_rfl
theorem exLeast {v1 g1 x1 v2 g2 x2 : Nat} {res : Option Nat} (h : IsLeast [1, 5, 4] (pbF [3] (exEs v1 g1 x1) (exRs v2 g2 x2) 3 [0] 1) res) : res = some 5 := by
  cases res with
  | none =>
    have := h 5 (by decide)
    rw [exP5] at this; cases this
  | some s =>
    obtain ⟨h1, h2, h3⟩ := h
    have h3 := h3 5 (by decide) (exP5 _ _ _ _ _ _)
    have h1 : s < 8 := h1
    have h4 : s = 0 ∨ s = 1 ∨ s = 2 ∨ s = 3 ∨ s = 4 ∨ s = 5 ∨ s = 6 ∨ s = 7 := by omega
    rcases h4 with rfl | rfl | rfl | rfl | rfl | rfl | rfl | rfl
    · rw [exP0] at h2; cases h2
    · have h5 : pbF [3] (exEs v1 g1 x1) (exRs v2 g2 x2) 3 [0] 1 1 = ((protF [3] (exEs v1 g1 x1) (exRs v2 g2 x2) [0] [0] 1).1 && decide ((protF [3] (exEs v1 g1 x1) (exRs v2 g2 x2) [0] [0] 1).2 = 0)) := rfl
      rw [h5, exP1] at h2; cases h2
    · rw [exP2] at h2; cases h2
    · exact absurd h3 (by decide)
    · rw [exP4] at h2; cases h2
    · rfl
    · exact absurd h3 (by decide)
    · exact absurd h3 (by decide)
set_option maxRecDepth 10000 in
set_option maxHeartbeats 16000000 in
theorem awakeS_spec (I : PH) : FnSpec Tryz.prog 44 [] I [] (fun v R' => v = .bool true ∧ R' = []) := by
  refine FnSpec.enterP Tryz.func44 rfl Tryz.ntmps44 rfl fun w F => ?_
  repeat' first
    | ((with_reducible refine Nx.is_wp ?_); first | refine Nx.p_stopr 4 rfl ?_ | refine Nx.wo ?_ | refine Nx.zp (fun hc => ?_) (fun hc => ?_))
    | (refine Nx.zo ?_; first | refine Nx.opr rfl rfl ?_ | refine Nx.so ?_ | refine Nx.sb (fun bx => ?_) | refine Nx.sa (fun A2 c2 => ?_))
    | ((with_reducible refine Nx.is_at ?_); first | refine Nx.a ?_ | refine Nx.zd ?_ | refine Nx.zs (fun hc => ?_) (fun hc => ?_))
    | ((with_reducible refine Nx.is_mix ?_); first | refine Nx.m ?_ | refine Nx.zm ?_ | refine Nx.zt (fun hc => ?_) (fun hc => ?_))
    | refine Nx.zx ?_ | fail
  refine Nx.unstop ?_
  rename_i bsz b1 g1 v1 x1 brl g2 v2 x2
  revert bx; intro b3
  refine Nx.ent (R' := Stars [Blk brl 62 [.int .i64 0, .slice (some ⟨v1, 0, none⟩) 1 1, .slice (some ⟨x1, 0, none⟩) 1 1], Blk x2 3 [.int .i64 1, .int .i64 5, .int .i64 4], Blk v2 25 [.slice (some ⟨g2, 0, none⟩) 3 3], Blk g2 3 [.int .i64 0, .int .i64 1, .int .i64 2], Blk x1 3 [.int .i64 10], Blk v1 25 [.slice (some ⟨g1, 0, none⟩) 3 3], Blk g1 3 [.int .i64 0, .int .i64 0, .int .i64 0], Blk bsz 3 [.int .i64 3]] :: [Blk b3 62 [.int .i64 1, .slice (some ⟨v2, 0, none⟩) 1 1, .slice (some ⟨x2, 0, none⟩) 3 3], Blk b1 27 [.slice (some ⟨bsz, 0, none⟩) 1 1], F]) (Ent.trans (R' := [Blk brl 62 [.int .i64 0, .slice (some ⟨v1, 0, none⟩) 1 1, .slice (some ⟨x1, 0, none⟩) 1 1], Blk x2 3 [.int .i64 1, .int .i64 5, .int .i64 4], Blk v2 25 [.slice (some ⟨g2, 0, none⟩) 3 3], Blk g2 3 [.int .i64 0, .int .i64 1, .int .i64 2], Blk x1 3 [.int .i64 10], Blk v1 25 [.slice (some ⟨g1, 0, none⟩) 3 3], Blk g1 3 [.int .i64 0, .int .i64 0, .int .i64 0], Blk bsz 3 [.int .i64 3]] ++ [Blk b3 62 [.int .i64 1, .slice (some ⟨v2, 0, none⟩) 1 1, .slice (some ⟨x2, 0, none⟩) 3 3], Blk b1 27 [.slice (some ⟨bsz, 0, none⟩) 1 1], F]) (by (exact Ent.auto)) Ent.stars) ?_
  refine Nx.freezeAt 0 rfl fun I1 m1 hI1 hm1 h1 => ?_
  obtain ⟨k0, l0, c0⟩ := Stars.get 0 h1 rfl
  obtain ⟨k1, l1, c1⟩ := Stars.get 1 h1 rfl
  obtain ⟨k2, l2, c2⟩ := Stars.get 2 h1 rfl
  obtain ⟨k3, l3, c3⟩ := Stars.get 3 h1 rfl
  obtain ⟨k4, l4, c4⟩ := Stars.get 4 h1 rfl
  obtain ⟨k5, l5, c5⟩ := Stars.get 5 h1 rfl
  obtain ⟨k6, l6, c6⟩ := Stars.get 6 h1 rfl
  obtain ⟨k7, l7, c7⟩ := Stars.get 7 h1 rfl
  have hsz : Ints I1 (some ⟨bsz, 0, none⟩) 1 [3] := Blk.sliceOf (t := 3) (l := [3]) (l7.trans hm1) c7 (by decide)
  have hG1 : Ints I1 (some ⟨g1, 0, none⟩) 3 [0, 0, 0] := Blk.sliceOf (t := 3) (l := [0, 0, 0]) (l6.trans hm1) c6 (by decide)
  have hG2 : Ints I1 (some ⟨g2, 0, none⟩) 3 [0, 1, 2] := Blk.sliceOf (t := 3) (l := [0, 1, 2]) (l3.trans hm1) c3 (by decide)
  have hR1 : RowsOf I1 (some ⟨v1, 0, none⟩) 1 [(some ⟨g1, 0, none⟩, 3, [0, 0, 0])] := ⟨Blk.sliceOf (t := 25) (l := [((some ⟨g1, 0, none⟩, 3, [0, 0, 0]) : Row)]) (l5.trans hm1) c5 (by unfold maxLen; simp), fun r hr => by rw [List.mem_singleton.1 hr]; exact hG1⟩
  have hR2 : RowsOf I1 (some ⟨v2, 0, none⟩) 1 [(some ⟨g2, 0, none⟩, 3, [0, 1, 2])] := ⟨Blk.sliceOf (t := 25) (l := [((some ⟨g2, 0, none⟩, 3, [0, 1, 2]) : Row)]) (l2.trans hm1) c2 (by unfold maxLen; simp), fun r hr => by rw [List.mem_singleton.1 hr]; exact hG2⟩
  have hX1 : Ints I1 (some ⟨x1, 0, none⟩) 1 [10] := Blk.sliceOf (t := 3) (l := [10]) (l4.trans hm1) c4 (by decide)
  have hX2 : Ints I1 (some ⟨x2, 0, none⟩) 3 [1, 5, 4] := Blk.sliceOf (t := 3) (l := [1, 5, 4]) (l1.trans hm1) c1 (by decide)
  have hRs : Rels I1 (some ⟨brl, 0, none⟩) 1 (exEs v1 g1 x1) := ⟨Blk.sliceN (t := 62) (l := exEs v1 g1 x1) (l0.trans hm1) c0 (fun _ _ => rfl) (by unfold maxLen exEs; simp), fun r hr => by
      rw [List.mem_singleton.1 hr]
      exact hR1, fun r hr => by
      rw [List.mem_singleton.1 hr]
      exact hX1⟩
  have hw1 : Viewed [3] [(some ⟨g1, 0, none⟩, 3, [0, 0, 0])] := ⟨rfl, fun k hk => by
    obtain rfl : k = 0 := by simpa using hk
    exact ⟨rfl, rfl⟩⟩
  have hw2 : Viewed [3] [(some ⟨g2, 0, none⟩, 3, [0, 1, 2])] := ⟨rfl, fun k hk => by
    obtain rfl : k = 0 := by simpa using hk
    exact ⟨rfl, rfl⟩⟩
  have hw : ∀ r ∈ exEs v1 g1 x1, Viewed [3] r.v := fun r hr => by
    rw [List.mem_singleton.1 hr]
    exact hw1
  have hh1 : (exEs v1 g1 x1).length ≤ 1000 := show 1 ≤ 1000 by decide
  have hh2 : ∀ {n : Nat}, 3 ≤ n → (exRs v2 g2 x2).val.2.2.length ≤ n := fun h => h
  have hLe := fun (bw bp : Nat) (m I' : PH) (hle : PH.le I1 I') (hm : PH.le m I') (hv : Stars [Blk bw 3 [.int .i64 1, .int .i64 5, .int .i64 4], Blk bp 3 [.int .i64 0]] m) => (by
    obtain ⟨q1, z1, y1⟩ := Stars.get 0 hv rfl
    obtain ⟨q2, z2, y2⟩ := Stars.get 1 hv rfl
    have h := LeastP_spec (some ⟨bsz, 0, none⟩) (some ⟨brl, 0, none⟩) (some ⟨bw, 0, none⟩) (some ⟨bp, 0, none⟩) 1 1 3 1 [3] (exEs v1 g1 x1) (exRs v2 g2 x2) [1, 5, 4] [0] 1 I' (hsz.mono hle) exS3 (hRs.mono hle) hw hh1 (hR2.mono hle) (hX2.mono hle) hw2 (hh2 (by decide)) (Blk.sliceOf (t := 3) (l := [1, 5, 4]) (z1.trans hm) y1 (by decide)) (Blk.sliceOf (t := 3) (l := [0]) (z2.trans hm) y2 (by decide)) (by decide)
    refine FnSpec.mono h fun u R' hu => ?_
    obtain ⟨res, A', c', hil, rfl, rfl⟩ := hu
    have hres := exLeast (hil (exE0 _ _ _ _ _ _))
    rw [exE0, hres]
    exact ⟨A', c', rfl, rfl⟩ :
    FnSpec Tryz.prog 52 [.agg #[.slice (some ⟨bsz, 0, none⟩) 1 1], .slice (some ⟨brl, 0, none⟩) 1 1, .agg #[.int .i64 1, .slice (some ⟨v2, 0, none⟩) 1 1, .slice (some ⟨x2, 0, none⟩) 3 3], .slice (some ⟨bw, 0, none⟩) 3 3, .slice (some ⟨bp, 0, none⟩) 1 1, .int .i64 1] I' [] (fun u R' => ∃ (A' : Option Addr) (c' : Nat), u = .tuple #[.slice A' 2 c', .int .i64 5, .int .i64 0] ∧ R' = [iR A' c' [0, 2]]))
  have hPr := fun (bw bp : Nat) (m I' : PH) (hle : PH.le I1 I') (hm : PH.le m I') (hv : Stars [Blk bw 3 [.int .i64 0], Blk bp 3 [.int .i64 0]] m) => (by
    obtain ⟨q1, z1, y1⟩ := Stars.get 0 hv rfl
    obtain ⟨q2, z2, y2⟩ := Stars.get 1 hv rfl
    have h := Protects_spec (some ⟨bsz, 0, none⟩) (some ⟨brl, 0, none⟩) (some ⟨bw, 0, none⟩) (some ⟨bp, 0, none⟩) 1 1 1 1 [3] (exEs v1 g1 x1) (exRs v2 g2 x2) [0] [0] 1 I' (hsz.mono hle) exS3 (hRs.mono hle) hw hh1 (hR2.mono hle) (hX2.mono hle) hw2 (hh2 (by decide)) (Blk.sliceOf (t := 3) (l := [0]) (z1.trans hm) y1 (by decide)) (Blk.sliceOf (t := 3) (l := [0]) (z2.trans hm) y2 (by decide)) (by decide)
    rw [exP1] at h
    exact h :
    FnSpec Tryz.prog 49 [.agg #[.slice (some ⟨bsz, 0, none⟩) 1 1], .slice (some ⟨brl, 0, none⟩) 1 1, .agg #[.int .i64 1, .slice (some ⟨v2, 0, none⟩) 1 1, .slice (some ⟨x2, 0, none⟩) 3 3], .slice (some ⟨bw, 0, none⟩) 1 1, .slice (some ⟨bp, 0, none⟩) 1 1, .int .i64 1] I' [] (fun u R' => u = .tuple #[.bool false, .int .i64 0] ∧ R' = []))
  have hIn := fun (A' : Option Addr) (c' bq : Nat) (m I' : PH) (hle : PH.le I1 I') (hm : PH.le m I') (hv : Stars [iR A' c' [0, 2], Blk bq 3 [.int .i64 0, .int .i64 2]] m) => (by
    obtain ⟨q1, z1, y1⟩ := Stars.get 0 hv rfl
    obtain ⟨q2, z2, y2⟩ := Stars.get 1 hv rfl
    have h := Ints_spec A' (some ⟨bq, 0, none⟩) c' 2 [0, 2] [0, 2] I' (Vec.sliceOf (z1.trans hm) y1) (Blk.sliceOf (t := 3) (l := [0, 2]) (z2.trans hm) y2 (by decide))
    rw [decide_eq_true rfl] at h
    exact h :
    FnSpec Tryz.prog 34 [.slice A' 2 c', .slice (some ⟨bq, 0, none⟩) 2 2] I' [] (fun u R' => u = .bool true ∧ R' = []))
  repeat' first
    | ((with_reducible refine Nx.is_wp ?_); first | refine Nx.wo ?_ | refine Nx.zp (fun hc => ?_) (fun hc => ?_))
    | (refine Nx.zo ?_; first | refine Nx.opr rfl rfl ?_ | (refine Nx.call rfl rfl rfl (by kernel_rfl) rfl (FnSpec.keep [Blk _ 3 [.int .i64 1, .int .i64 5, .int .i64 4], Blk _ 3 [.int .i64 0]] fun m I' hle hm' hv => hLe _ _ m I' hle hm' hv) (by (exact Ent.auto)) ?_; rintro _ _ ⟨_, ⟨Ax, cx, rfl, rfl⟩, rfl⟩) | (refine Nx.call rfl rfl rfl (by kernel_rfl) rfl (FnSpec.keep [Blk _ 3 [.int .i64 0], Blk _ 3 [.int .i64 0]] fun m I' hle hm' hv => hPr _ _ m I' hle hm' hv) (by (exact Ent.auto)) ?_; rintro _ _ ⟨_, ⟨rfl, rfl⟩, rfl⟩) | (refine Nx.call rfl rfl rfl (by kernel_rfl) rfl (FnSpec.keep [iR _ _ [0, 2], Blk _ 3 [.int .i64 0, .int .i64 2]] fun m I' hle hm' hv => hIn _ _ _ m I' hle hm' hv) (by (exact Ent.auto)) ?_; rintro _ _ ⟨_, ⟨rfl, rfl⟩, rfl⟩) | refine Nx.so ?_ | refine Nx.sb (fun bx => ?_) | refine Nx.sa (fun A2 c2 => ?_))
    | ((with_reducible refine Nx.is_at ?_); first | refine Nx.a ?_ | refine Nx.zd ?_ | refine Nx.zs (fun hc => ?_) (fun hc => ?_))
    | ((with_reducible refine Nx.is_mix ?_); first | refine Nx.m ?_ | refine Nx.zm ?_ | refine Nx.zt (fun hc => ?_) (fun hc => ?_))
    | refine Nx.zx ?_ | fail
  exact Nx.imm_le hI1 (Nx.ret_fn rfl [] ⟨rfl, rfl⟩ (by (exact Ent.auto)))
end Go.Proofs.YtcmdemfhbekabaaGreat
/- Contracts of functions of the given program, and lemmas about plain lists and numbers: what the laws of this seat lean on. -/
namespace Go.Proofs.YtcmdemfhbekabaaGreat
open Go.Eng Go.Sol
/-! Suppression of made releases: plain facts -/
/-- What Least answers, of a made story. -/
def LQ (l : List Int) (es : List Rel) (r : Rel) (w p : List Int) (m : Int) (x : List Int × Int × Int) : Prop := ∃ res, (lstE l es r w p m = 0 → IsLeast w (pbF l es r w.length p m) res) ∧ x = lstR w (lstE l es r w p m) res
/-! The list of more cells -/
end Go.Proofs.YtcmdemfhbekabaaGreat
/- Contracts of functions of the given program, and lemmas about plain lists and numbers: what the laws of this seat lean on. -/
namespace Go.Proofs.YtcmdemfhbekabaaGreat
open Go.Eng Go.Sol
attribute [local irreducible] opK wpList Code.wp Exit.then Exit.inBlock fnPost bodyPost Nx Calls Oper.wp Rd Rds Wr Ent Stars Blk Again Vec FnSpec wpMix QRun Stop Upto wpAt
/-! The law: a greater margin or more protected cells -/
structure Given (I : PH) (B As Aw Bp : Option Addr) (c' ca cw cp : Nat) (s : List Int) (es : List Rel) (r : Rel) (w p : List Int) : Prop where
  z : Ints I B c' s
  es : Rels I As ca es
  v : RowsOf I r.va r.vc r.v
  d : Ints I r.val.1 r.val.2.1 r.val.2.2
  w : Ints I Aw cw w
  p : Ints I Bp cp p
theorem Given.mono {I I' : PH} {B As Aw Bp : Option Addr} {c' ca cw cp : Nat} {s : List Int} {es : List Rel} {r : Rel} {w p : List Int} (h : Given I B As Aw Bp c' ca cw cp s es r w p) (hle : PH.le I I') : Given I' B As Aw Bp c' ca cw cp s es r w p :=
  ⟨h.z.mono hle, h.es.mono hle, h.v.mono hle, h.d.mono hle, h.w.mono hle, h.p.mono hle⟩
end Go.Proofs.YtcmdemfhbekabaaGreat
/- Contracts of functions of the given program, and lemmas about plain lists and numbers: what the laws of this seat lean on. -/
namespace Go.Proofs.YtcmdemfhbekabaaGreat
open Go.Eng Go.Sol
attribute [local irreducible] opK wpList Code.wp Exit.then Exit.inBlock fnPost bodyPost Nx Calls Oper.wp Rd Rds Wr Ent Stars Blk Again Vec FnSpec wpMix QRun Stop Upto wpAt
/-! A release behind earlier ones, in the reference and the laws: allocations in any order (written by mkU14.py) -/
set_option maxRecDepth 10000 in
set_option maxHeartbeats 8000000 in
theorem protects4 (B As Ap va D : Option Addr) (c' ca cp sn pn bS bR vn vc dn cd : Nat) (num : Int) (es : List Rel) (m : Int) (sb : Bool) (se : Int) (I : PH) (hes : SliceN relC 3 I As ca es) (h9 : es.length ≤ 1000) (w : World) (X F : Res) (Q : Exit → Act → World → Prop) (hQ : PanicOk Q)
    (spec : ∀ A3 c3 q I', PH.le I I' → PH.le q I' → Stars [Vec 62 3 A3 (es.length + 1) c3 (es.flatMap relC ++ [.int .i64 num, .slice va vn vc, .slice D dn cd])] q → FnSpec Tryz.prog 29 [.agg #[.slice B sn c'], .slice A3 (es.length + 1) c3, .slice Ap pn cp, .int .i64 m] I' [] (fun u R' => u = .tuple #[.bool sb, .int .i64 se] ∧ R' = []))
    (h : Nx ⟨Tryz.prog, 37, w⟩ [(12, .bool sb), (13, .int .i64 se), (6, .pointer (some ⟨bS, 0, none⟩)), (1, .slice As es.length ca), (14, .pointer (some ⟨bR, 0, none⟩)), (4, .slice Ap pn cp), (5, .int .i64 m)] I [Blk bS 27 [.slice B sn c'], Blk bR 62 [.int .i64 num, .slice va vn vc, .slice D dn cd], X, F] (Q .normal)) :
    Nx ⟨Tryz.prog, 37, w⟩ [(6, .pointer (some ⟨bS, 0, none⟩)), (1, .slice As es.length ca), (14, .pointer (some ⟨bR, 0, none⟩)), (4, .slice Ap pn cp), (5, .int .i64 m)] I [Blk bS 27 [.slice B sn c'], Blk bR 62 [.int .i64 num, .slice va vn vc, .slice D dn cd], X, F] (Code.wp Tryz.prog (cl (cr (cr (cr (bodyOf Tryz.f50))))) Q) := by
  have hcap := hes.cap
  refine Nx.p_fork (id := 4) rfl [0, 2, 4, 7, 8] [10, 11, 12, 13] [1, 3, 5, 6, 9] [Blk bS 27 [.slice B sn c'], Blk bR 62 [.int .i64 num, .slice va vn vc, .slice D dn cd]] 9 rfl rfl (by kernel_rfl) (by kernel_rfl) (by kernel_rfl) hQ (by (exact Ent.auto)) ?_
  repeat' first
    | ((with_reducible refine Nx.is_wp ?_); first | refine Nx.wo ?_ | refine Nx.zp (fun hc => ?_) (fun hc => ?_))
    | (refine Nx.zo ?_; first | refine Nx.opr rfl rfl ?_ | refine Nx.so ?_ | refine Nx.sb (fun bx => ?_) | refine Nx.sa (fun A2 c2 => ?_))
    | ((with_reducible refine Nx.is_at ?_); first | refine Nx.a ?_ | refine Nx.zd ?_ | refine Nx.zs (fun hc => ?_) (fun hc => ?_))
    | ((with_reducible refine Nx.is_mix ?_); first | refine Nx.m ?_ | refine Nx.zm ?_ | refine Nx.zt (fun hc => ?_) (fun hc => ?_))
    | refine Nx.zx ?_ | fail
  refine Nx.fork2 (i := 1) (j := 5) (by kernel_rfl) rfl rfl rfl rfl ?_ ?_
  · refine Nx.sb (fun b1 => ?_)
    refine Nx.mix_S (by (exact Ent.auto)) ?_
    refine Nx.fork2 (i := 3) (j := 5) (by kernel_rfl) rfl rfl rfl rfl ?_ ?_
    · refine Nx.blk_vec 0 0 3 rfl rfl (by omega) ?_
      refine Nx.append rfl rfl rfl rfl (by kernel_rfl) rfl (Src.arr hes.arr (flat_len relC_len es) (by omega) (rel_one es)) (by omega) fun A2 c2 => ?_
      rw [Nat.zero_add, List.nil_append]
      refine Nx.mix_S (by (exact Ent.auto)) ?_
      refine Nx.fork1 (i := 5) (by kernel_rfl) rfl rfl ?_
      refine Nx.sb (fun b5 => ?_)
      refine Nx.mix_S (by (exact Ent.auto)) ?_
      refine Nx.fork1 (i := 6) (by kernel_rfl) rfl rfl ?_
      refine Nx.ent (R' := [Blk b5 62 [.int .i64 num, .slice va vn vc, .slice D dn cd], Vec 62 3 A2 es.length c2 (es.flatMap relC), Blk bS 27 [.slice B sn c'], Blk bR 62 [.int .i64 num, .slice va vn vc, .slice D dn cd], X, F]) (by (exact Ent.auto)) ?_
      refine Nx.append_lit 0 rfl rfl rfl rfl (by kernel_rfl) rfl rfl rfl rfl (by omega) fun A3 c3 => ?_
      refine Nx.mix_S (by (exact Ent.auto)) ?_
      refine Nx.fork1 (i := 9) (by kernel_rfl) rfl rfl ?_
      refine Nx.call rfl rfl rfl (by kernel_rfl) rfl (FnSpec.keep [Vec 62 3 A3 (es.length + 1) c3 (es.flatMap relC ++ [.int .i64 num, .slice va vn vc, .slice D dn cd])] (spec A3 c3)) (by (exact Ent.auto)) ?_
      rintro _ _ ⟨_, ⟨rfl, rfl⟩, rfl⟩
      refine Nx.mix_S (by (exact Ent.auto)) ?_
      refine Nx.fork_fin (by kernel_rfl) rfl ?_
      repeat' first
        | ((with_reducible refine Nx.is_wp ?_); first | refine Nx.wo ?_ | refine Nx.zp (fun hc => ?_) (fun hc => ?_))
        | (refine Nx.zo ?_; first | refine Nx.opr rfl rfl ?_ | refine Nx.so ?_ | refine Nx.sb (fun bx => ?_) | refine Nx.sa (fun A2 c2 => ?_))
        | ((with_reducible refine Nx.is_at ?_); first | refine Nx.a ?_ | refine Nx.zd ?_ | refine Nx.zs (fun hc => ?_) (fun hc => ?_))
        | ((with_reducible refine Nx.is_mix ?_); first | refine Nx.m ?_ | refine Nx.zm ?_ | refine Nx.zt (fun hc => ?_) (fun hc => ?_))
        | refine Nx.zx ?_ | fail
      refine Nx.weak ?_ ?_ h
      · exact ⟨rfl, rfl, rfl, rfl, rfl, rfl, rfl, trivial⟩
      · (exact Ent.auto)
    · refine Nx.sb (fun b5 => ?_)
      refine Nx.mix_S (by (exact Ent.auto)) ?_
      refine Nx.fork1 (i := 3) (by kernel_rfl) rfl rfl ?_
      refine Nx.blk_vec 1 0 3 rfl rfl (by omega) ?_
      refine Nx.append rfl rfl rfl rfl (by kernel_rfl) rfl (Src.arr hes.arr (flat_len relC_len es) (by omega) (rel_one es)) (by omega) fun A2 c2 => ?_
      rw [Nat.zero_add, List.nil_append]
      refine Nx.mix_S (by (exact Ent.auto)) ?_
      refine Nx.fork1 (i := 6) (by kernel_rfl) rfl rfl ?_
      refine Nx.ent (R' := [Blk b5 62 [.int .i64 num, .slice va vn vc, .slice D dn cd], Vec 62 3 A2 es.length c2 (es.flatMap relC), Blk bS 27 [.slice B sn c'], Blk bR 62 [.int .i64 num, .slice va vn vc, .slice D dn cd], X, F]) (by (exact Ent.auto)) ?_
      refine Nx.append_lit 0 rfl rfl rfl rfl (by kernel_rfl) rfl rfl rfl rfl (by omega) fun A3 c3 => ?_
      refine Nx.mix_S (by (exact Ent.auto)) ?_
      refine Nx.fork1 (i := 9) (by kernel_rfl) rfl rfl ?_
      refine Nx.call rfl rfl rfl (by kernel_rfl) rfl (FnSpec.keep [Vec 62 3 A3 (es.length + 1) c3 (es.flatMap relC ++ [.int .i64 num, .slice va vn vc, .slice D dn cd])] (spec A3 c3)) (by (exact Ent.auto)) ?_
      rintro _ _ ⟨_, ⟨rfl, rfl⟩, rfl⟩
      refine Nx.mix_S (by (exact Ent.auto)) ?_
      refine Nx.fork_fin (by kernel_rfl) rfl ?_
      repeat' first
        | ((with_reducible refine Nx.is_wp ?_); first | refine Nx.wo ?_ | refine Nx.zp (fun hc => ?_) (fun hc => ?_))
        | (refine Nx.zo ?_; first | refine Nx.opr rfl rfl ?_ | refine Nx.so ?_ | refine Nx.sb (fun bx => ?_) | refine Nx.sa (fun A2 c2 => ?_))
        | ((with_reducible refine Nx.is_at ?_); first | refine Nx.a ?_ | refine Nx.zd ?_ | refine Nx.zs (fun hc => ?_) (fun hc => ?_))
        | ((with_reducible refine Nx.is_mix ?_); first | refine Nx.m ?_ | refine Nx.zm ?_ | refine Nx.zt (fun hc => ?_) (fun hc => ?_))
        | refine Nx.zx ?_ | fail
      refine Nx.weak ?_ ?_ h
      · exact ⟨rfl, rfl, rfl, rfl, rfl, rfl, rfl, trivial⟩
      · (exact Ent.auto)
  · refine Nx.sb (fun b5 => ?_)
    refine Nx.mix_S (by (exact Ent.auto)) ?_
    refine Nx.fork1 (i := 1) (by kernel_rfl) rfl rfl ?_
    refine Nx.sb (fun b1 => ?_)
    refine Nx.mix_S (by (exact Ent.auto)) ?_
    refine Nx.fork1 (i := 3) (by kernel_rfl) rfl rfl ?_
    refine Nx.blk_vec 0 0 3 rfl rfl (by omega) ?_
    refine Nx.append rfl rfl rfl rfl (by kernel_rfl) rfl (Src.arr hes.arr (flat_len relC_len es) (by omega) (rel_one es)) (by omega) fun A2 c2 => ?_
    rw [Nat.zero_add, List.nil_append]
    refine Nx.mix_S (by (exact Ent.auto)) ?_
    refine Nx.fork1 (i := 6) (by kernel_rfl) rfl rfl ?_
    refine Nx.ent (R' := [Blk b5 62 [.int .i64 num, .slice va vn vc, .slice D dn cd], Vec 62 3 A2 es.length c2 (es.flatMap relC), Blk bS 27 [.slice B sn c'], Blk bR 62 [.int .i64 num, .slice va vn vc, .slice D dn cd], X, F]) (by (exact Ent.auto)) ?_
    refine Nx.append_lit 0 rfl rfl rfl rfl (by kernel_rfl) rfl rfl rfl rfl (by omega) fun A3 c3 => ?_
    refine Nx.mix_S (by (exact Ent.auto)) ?_
    refine Nx.fork1 (i := 9) (by kernel_rfl) rfl rfl ?_
    refine Nx.call rfl rfl rfl (by kernel_rfl) rfl (FnSpec.keep [Vec 62 3 A3 (es.length + 1) c3 (es.flatMap relC ++ [.int .i64 num, .slice va vn vc, .slice D dn cd])] (spec A3 c3)) (by (exact Ent.auto)) ?_
    rintro _ _ ⟨_, ⟨rfl, rfl⟩, rfl⟩
    refine Nx.mix_S (by (exact Ent.auto)) ?_
    refine Nx.fork_fin (by kernel_rfl) rfl ?_
    repeat' first
      | ((with_reducible refine Nx.is_wp ?_); first | refine Nx.wo ?_ | refine Nx.zp (fun hc => ?_) (fun hc => ?_))
      | (refine Nx.zo ?_; first | refine Nx.opr rfl rfl ?_ | refine Nx.so ?_ | refine Nx.sb (fun bx => ?_) | refine Nx.sa (fun A2 c2 => ?_))
      | ((with_reducible refine Nx.is_at ?_); first | refine Nx.a ?_ | refine Nx.zd ?_ | refine Nx.zs (fun hc => ?_) (fun hc => ?_))
      | ((with_reducible refine Nx.is_mix ?_); first | refine Nx.m ?_ | refine Nx.zm ?_ | refine Nx.zt (fun hc => ?_) (fun hc => ?_))
      | refine Nx.zx ?_ | fail
    refine Nx.weak ?_ ?_ h
    · exact ⟨rfl, rfl, rfl, rfl, rfl, rfl, rfl, trivial⟩
    · (exact Ent.auto)
end Go.Proofs.YtcmdemfhbekabaaGreat
/- Contracts of functions of the given program, and lemmas about plain lists and numbers: what the laws of this seat lean on. -/
namespace Go.Proofs.YtcmdemfhbekabaaGreat
open Go.Eng Go.Sol
attribute [local irreducible] opK wpList Code.wp Exit.then Exit.inBlock fnPost bodyPost Nx Calls Oper.wp Rd Rds Wr Ent Stars Blk Again Vec FnSpec wpMix QRun Stop Upto wpAt
theorem rels_app {I I' q : PH} {As A3 : Option Addr} {ca c3 : Nat} {rs : List Rel} {r : Rel} (hr : Rels I As ca rs) (hle : PH.le I I') (hq : PH.le q I') (hv : Stars [Vec 62 3 A3 (rs.length + 1) c3 (rs.flatMap relC ++ relC r)] q) (h1 : RowsOf I r.va r.vc r.v) (h2 : Ints I r.val.1 r.val.2.1 r.val.2.2) : Rels I' A3 c3 (rs ++ [r]) := by
  obtain ⟨a0, ha0, b0⟩ := Stars.get 0 hv rfl
  refine ⟨?_, fun x hx => ?_, fun x hx => ?_⟩
  · have hl : (rs ++ [r]).length = rs.length + 1 := by rw [List.length_append]; rfl
    have hf : (rs ++ [r]).flatMap relC = rs.flatMap relC ++ relC r := by rw [List.flatMap_append, List.flatMap_cons, List.flatMap_nil, List.append_nil]
    refine Vec.sliceN (ha0.trans hq) (t := 62) ?_ fun x _ => relC_len x
    rw [hl, hf]; exact b0
  · rcases List.mem_append.1 hx with h | h
    · exact (hr.view x h).mono hle
    · rw [List.mem_singleton.1 h]; exact h1.mono hle
  · rcases List.mem_append.1 hx with h | h
    · exact (hr.val x h).mono hle
    · rw [List.mem_singleton.1 h]; exact h2.mono hle
end Go.Proofs.YtcmdemfhbekabaaGreat
/- Contracts of functions of the given program, and lemmas about plain lists and numbers: what the laws of this seat lean on. -/
namespace Go.Proofs.YtcmdemfhbekabaaGreat
open Go.Eng Go.Sol
attribute [local irreducible] opK wpList Code.wp Exit.then Exit.inBlock fnPost bodyPost Nx Calls Oper.wp Rd Rds Wr Ent Stars Blk Again Vec FnSpec wpMix QRun Stop Upto wpAt
/-! The law of margins -/
theorem run_boolne2 {P : Program} {t : TypeId} {x y : Operand} (ht : P.underlying t = some .bool) (b c r : Bool) (h : (!(b == c)) = r) (w : World) : (do eqGuard .neq t x y (.bool b) (.bool c); binOp .neq t (.bool b) (.bool c)).run P w = .ok (.bool r) w := by subst h; exact run_boolne ht b c w
end Go.Proofs.YtcmdemfhbekabaaGreat
/- Contracts of functions of the given program, and lemmas about plain lists and numbers: what the laws of this seat lean on. -/
namespace Go.Proofs.YtcmdemfhbekabaaGreat
open Go.Eng Go.Sol
attribute [local irreducible] opK wpList Code.wp Exit.then Exit.inBlock fnPost bodyPost Nx Calls Oper.wp Rd Rds Wr Ent Stars Blk Again Vec FnSpec wpMix QRun Stop Upto wpAt
/-! Hiding: the reference -/
def HideRPost (r : Rel) (L : List Int) (u : Value) (R' : List Res) : Prop :=
  ∃ r' : Rel, u = .tuple #[.agg (relC r').toArray, .int .i64 (hideE r.val.2.2 L)] ∧ (hideE r.val.2.2 L = 0 → r'.num = r.num ∧ r'.va = r.va ∧ r'.vc = r.vc ∧ r'.v = r.v ∧ r'.val.2.2 = hidL r.val.2.2 L) ∧ (hideE r.val.2.2 L ≠ 0 → r' = default) ∧ R' = [rowR r'.val]
theorem rowR_nil (R : List Res) : Ent R (rowR (default : Rel).val :: R) := Ent.vec_nil 3 1 R
set_option maxRecDepth 10000 in
set_option maxHeartbeats 16000000 in
theorem HideR_spec (B : Option Addr) (cb : Nat) (L : List Int) (r : Rel) (I : PH) (hd : Ints I r.val.1 r.val.2.1 r.val.2.2) (hB : Ints I B cb L) (hd9 : r.val.2.2.length ≤ 1000) :
    FnSpec Tryz.prog 48 [.agg #[.int .i64 r.num, .slice r.va r.v.length r.vc, .slice r.val.1 r.val.2.2.length r.val.2.1], .slice B L.length cb] I [] (HideRPost r L) := by
  obtain ⟨num, va, vc, v, D, cd, vs⟩ := r
  unfold HideRPost
  dsimp only at hd hd9 ⊢
  have hBl := hB.len
  refine FnSpec.enterP Tryz.func48 rfl Tryz.ntmps48 rfl fun w F => ?_
  repeat' first
    | ((with_reducible refine Nx.is_wp ?_); first | refine Nx.wo ?_ | refine Nx.zp (fun hc => ?_) (fun hc => ?_))
    | (refine Nx.zo ?_; first | refine Nx.opr rfl rfl ?_ | refine Nx.so ?_ | refine Nx.sb (fun bx => ?_) | refine Nx.sa (fun A2 c2 => ?_))
    | ((with_reducible refine Nx.is_at ?_); first | refine Nx.a ?_ | refine Nx.zd ?_ | refine Nx.zs (fun hc => ?_) (fun hc => ?_))
    | ((with_reducible refine Nx.is_mix ?_); first | refine Nx.m ?_ | refine Nx.zm ?_ | refine Nx.zt (fun hc => ?_) (fun hc => ?_))
    | refine Nx.zx ?_ | fail
  rename_i b2
  revert bx; intro b4
  refine Nx.p_loop (σ := Nat) (fun i => [(1, .slice B L.length cb), (2, .pointer (some ⟨b2, 0, none⟩)), (4, .pointer (some ⟨b4, 0, none⟩)), (5, .int .i64 0), (6, .int .i64 ((i + 1 : Nat) : Int))])
    (fun _ => [Blk b4 62 [.int .i64 0, .slice none 0 0, .slice none 0 0], Blk b2 62 [.int .i64 num, .slice va v.length vc, .slice D vs.length cd], F]) (fun i => i ≤ L.length ∧ ∀ j, j < i → j + 1 < L.length → L.getD j default < L.getD (j + 1) default) (fun i => L.length - i) 0 rfl ⟨Nat.zero_le _, fun j hj => absurd hj (Nat.not_lt_zero _)⟩ ⟨rfl, rfl, rfl, rfl, rfl, trivial⟩ (by (exact Ent.auto)) ?_
  rintro i ⟨hi, hall⟩
  by_cases hlt : i + 1 < L.length
  · have hnp := not_pw hlt
    have r1 := fun (W : World) (R : List Res) => hB.rd (W := W) (R := R) (k := i) (by omega)
    have r2 := fun (W : World) (R : List Res) => hB.rd (W := W) (R := R) hlt
    have hnx : ∀ j, j < i + 1 → L.getD i default < L.getD (i + 1) default → j + 1 < L.length → L.getD j default < L.getD (j + 1) default := fun j hj hx h => by
      rcases Nat.lt_or_ge j i with h' | h'
      · exact hall j h' h
      · rw [show j = i by omega]; exact hx
    generalize L.getD i default = x at hnp r1 hnx
    generalize L.getD (i + 1) default = y at hnp r2 hnx
    have hi1 : (((i + 1 : Nat) : Int) - 1).toNat = i := by omega
    have r1' : ∀ (W : World) (R : List Res), Rd W I R ((ad B).add ((((i + 1 : Nat) : Int) - 1).toNat * 1)) (.int .i64 x) := fun W R => by rw [hi1]; exact r1 W R
    by_cases hxy : x < y
    · repeat' first
        | ((with_reducible refine Nx.is_wp ?_); first | refine Nx.wo ?_ | refine Nx.p_draw (id := 4) rfl [0, 1, 2, 3, 4, 5, 6, 7, 8, 9] [] _ rfl rfl (by kernel_rfl) (by kernel_rfl) rfl (by repeat first | exact PanicOk.fn | refine PanicOk.then_ ?_ | refine PanicOk.inB ?_) (Ent.refl _) ?_ | refine Nx.zp (fun hc => ?_) (fun hc => ?_))
        | (refine Nx.zo ?_; first | refine Nx.opr rfl rfl ?_ | refine Nx.so ?_ | refine Nx.sb (fun bx => ?_) | refine Nx.sa (fun A2 c2 => ?_))
        | ((with_reducible refine Nx.is_at ?_); first | refine Nx.a ?_ | refine Nx.zd ?_ | refine Nx.zs (fun hc => ?_) (fun hc => ?_))
        | ((with_reducible refine Nx.is_mix ?_); first | refine Nx.m_quiet rfl rfl rfl rfl rfl (by first | exact QRun.opr rfl | exact QRun.idxi (A := B) (i := ((i + 1 : Nat) : Int) - 1) (sz := 1) rfl rfl rfl rfl (by omega) (by omega) (hB.isSome (by omega)) | exact QRun.idx (A := B) (i := i + 1) (sz := 1) rfl rfl rfl rfl (by omega) (hB.isSome (by omega)) | exact QRun.load rfl rfl (r1' _ _) | exact QRun.load rfl rfl (r2 _ _)) ?_ | refine Nx.m_quiet_do rfl rfl rfl rfl rfl rfl rfl (by first | exact QRun.opr rfl | exact QRun.idxi (A := B) (i := ((i + 1 : Nat) : Int) - 1) (sz := 1) rfl rfl rfl rfl (by omega) (by omega) (hB.isSome (by omega)) | exact QRun.idx (A := B) (i := i + 1) (sz := 1) rfl rfl rfl rfl (by omega) (hB.isSome (by omega)) | exact QRun.load rfl rfl (r1' _ _) | exact QRun.load rfl rfl (r2 _ _)) ?_ | refine Nx.m ?_ | refine Nx.zm ?_ | refine Nx.zt (fun hc => ?_) (fun hc => ?_))
        | refine Nx.zx ?_ | fail
      exact Nx.again (i + 1) ⟨by omega, fun j hj h => hnx j hj hxy h⟩ (by omega) ⟨rfl, rfl, rfl, rfl, rfl, trivial⟩ (by (exact Ent.auto))
    · have he : hideE vs L = 11 := if_neg (hnp hxy)
      rw [he]
      repeat' first
        | ((with_reducible refine Nx.is_wp ?_); first | refine Nx.wo ?_ | refine Nx.p_draw (id := 4) rfl [0, 1, 2, 3, 4, 5, 6, 7, 8, 9] [] _ rfl rfl (by kernel_rfl) (by kernel_rfl) rfl (by repeat first | exact PanicOk.fn | refine PanicOk.then_ ?_ | refine PanicOk.inB ?_) (Ent.refl _) ?_ | refine Nx.zp (fun hc => ?_) (fun hc => ?_))
        | (refine Nx.zo ?_; first | refine Nx.opr rfl rfl ?_ | refine Nx.so ?_ | refine Nx.sb (fun bx => ?_) | refine Nx.sa (fun A2 c2 => ?_))
        | ((with_reducible refine Nx.is_at ?_); first | refine Nx.a ?_ | refine Nx.zd ?_ | refine Nx.zs (fun hc => ?_) (fun hc => ?_))
        | ((with_reducible refine Nx.is_mix ?_); first | refine Nx.m_quiet rfl rfl rfl rfl rfl (by first | exact QRun.opr rfl | exact QRun.idxi (A := B) (i := ((i + 1 : Nat) : Int) - 1) (sz := 1) rfl rfl rfl rfl (by omega) (by omega) (hB.isSome (by omega)) | exact QRun.idx (A := B) (i := i + 1) (sz := 1) rfl rfl rfl rfl (by omega) (hB.isSome (by omega)) | exact QRun.load rfl rfl (r1' _ _) | exact QRun.load rfl rfl (r2 _ _)) ?_ | refine Nx.m_quiet_do rfl rfl rfl rfl rfl rfl rfl (by first | exact QRun.opr rfl | exact QRun.idxi (A := B) (i := ((i + 1 : Nat) : Int) - 1) (sz := 1) rfl rfl rfl rfl (by omega) (by omega) (hB.isSome (by omega)) | exact QRun.idx (A := B) (i := i + 1) (sz := 1) rfl rfl rfl rfl (by omega) (hB.isSome (by omega)) | exact QRun.load rfl rfl (r1' _ _) | exact QRun.load rfl rfl (r2 _ _)) ?_ | refine Nx.m ?_ | refine Nx.zm ?_ | refine Nx.zt (fun hc => ?_) (fun hc => ?_))
        | refine Nx.zx ?_ | fail
      exact Nx.ret2 rfl (ROne.cell 0 rfl rfl rfl rfl rfl) (ROne.tmp rfl) [_] ⟨default, rfl, fun h => absurd h (by decide), fun _ => rfl, rfl⟩ ((rowR_nil _).trans (by (exact Ent.auto)))
  have hpw : L.Pairwise (· < ·) := pairwise_adj fun j hj => hall j (by omega) hj
  repeat' first
    | ((with_reducible refine Nx.is_wp ?_); first | refine Nx.wo ?_ | refine Nx.zp (fun hc => ?_) (fun hc => ?_))
    | (refine Nx.zo ?_; first | refine Nx.opr rfl rfl ?_ | refine Nx.so ?_ | refine Nx.sb (fun bx => ?_) | refine Nx.sa (fun A2 c2 => ?_))
    | ((with_reducible refine Nx.is_at ?_); first | refine Nx.a ?_ | refine Nx.zd ?_ | refine Nx.zs (fun hc => ?_) (fun hc => ?_))
    | ((with_reducible refine Nx.is_mix ?_); first | refine Nx.m ?_ | refine Nx.zm ?_ | refine Nx.zt (fun hc => ?_) (fun hc => ?_))
    | refine Nx.zx ?_ | fail
  refine Nx.p_loop (σ := Nat) (fun q => [(1, .slice B L.length cb), (2, .pointer (some ⟨b2, 0, none⟩)), (4, .pointer (some ⟨b4, 0, none⟩)), (5, .int .i64 0), (29, .slice B L.length cb), (30, .int .i64 L.length), (31, .int .i64 (q : Int))])
    (fun _ => [Blk b4 62 [.int .i64 0, .slice none 0 0, .slice none 0 0], Blk b2 62 [.int .i64 num, .slice va v.length vc, .slice D vs.length cd], F])
    (fun q => q ≤ L.length ∧ ∀ k ∈ L.take q, inB vs.length k = true) (fun q => L.length - q) 0 rfl ⟨Nat.zero_le _, by simp⟩ ⟨rfl, rfl, rfl, rfl, rfl, rfl, rfl, trivial⟩ (by (exact Ent.auto)) ?_
  rintro q ⟨hq2, hin⟩
  by_cases hql : q < L.length
  · have htk := take_snocJ hql
    have hrd : ∀ (W : World) (R : List Res), Rd W I R ((ad B).add (q * 1)) (.int .i64 (L.getD q default)) := fun W R => hB.rd hql
    have hbad : ¬ inB vs.length (L.getD q default) = true → hideE vs L = 2 := fun h => by
      unfold hideE
      rw [if_pos hpw, if_neg]
      intro hall
      exact h (List.all_eq_true.1 hall _ (getD_memI hql))
    generalize L.getD q default = x at htk hrd hbad
    by_cases hx : 0 ≤ x ∧ x < vs.length
    · repeat' first
        | ((with_reducible refine Nx.is_wp ?_); first | refine Nx.wo ?_ | refine Nx.zp (fun hc => ?_) (fun hc => ?_))
        | (refine Nx.zo ?_; first | refine Nx.opr rfl rfl ?_ | refine Nx.indexAddr_nat (A := B) (i := q) (sz := 1) rfl rfl rfl rfl rfl hql (hB.isSome (by omega)) ?_ | refine Nx.load rfl rfl rfl (hrd _ _) ?_ | refine Nx.so ?_ | refine Nx.sb (fun bx => ?_) | refine Nx.sa (fun A2 c2 => ?_))
        | ((with_reducible refine Nx.is_at ?_); first | refine Nx.a ?_ | refine Nx.zd ?_ | refine Nx.zs (fun hc => ?_) (fun hc => ?_))
        | ((with_reducible refine Nx.is_mix ?_); first | refine Nx.m ?_ | refine Nx.zm ?_ | refine Nx.zt (fun hc => ?_) (fun hc => ?_))
        | refine Nx.zx ?_ | fail
      exact Nx.again (q + 1) ⟨hql, by rw [htk]; intro k hk; rcases List.mem_append.1 hk with h | h; exact hin k h; rw [List.mem_singleton.1 h]; exact decide_eq_true hx⟩ (by omega) ⟨rfl, rfl, rfl, rfl, rfl, rfl, rfl, trivial⟩ (by (exact Ent.auto))
    · rw [hbad (by unfold inB; rw [decide_eq_true_eq]; exact hx)]
      by_cases hx0 : x < 0
      · repeat' first
          | ((with_reducible refine Nx.is_wp ?_); first | refine Nx.wo ?_ | refine Nx.zp (fun hc => ?_) (fun hc => ?_))
          | (refine Nx.zo ?_; first | refine Nx.opr rfl rfl ?_ | refine Nx.indexAddr_nat (A := B) (i := q) (sz := 1) rfl rfl rfl rfl rfl hql (hB.isSome (by omega)) ?_ | refine Nx.load rfl rfl rfl (hrd _ _) ?_ | refine Nx.so ?_ | refine Nx.sb (fun bx => ?_) | refine Nx.sa (fun A2 c2 => ?_))
          | ((with_reducible refine Nx.is_at ?_); first | refine Nx.a ?_ | refine Nx.zd ?_ | refine Nx.zs (fun hc => ?_) (fun hc => ?_))
          | ((with_reducible refine Nx.is_mix ?_); first | refine Nx.m ?_ | refine Nx.zm ?_ | refine Nx.zt (fun hc => ?_) (fun hc => ?_))
          | refine Nx.zx ?_ | fail
        exact Nx.ret2 rfl (ROne.cell 0 rfl rfl rfl rfl rfl) (ROne.tmp rfl) [_] ⟨default, rfl, fun h => absurd h (by decide), fun _ => rfl, rfl⟩ ((rowR_nil _).trans (by (exact Ent.auto)))
      · repeat' first
          | ((with_reducible refine Nx.is_wp ?_); first | refine Nx.wo ?_ | refine Nx.zp (fun hc => ?_) (fun hc => ?_))
          | (refine Nx.zo ?_; first | refine Nx.opr rfl rfl ?_ | refine Nx.indexAddr_nat (A := B) (i := q) (sz := 1) rfl rfl rfl rfl rfl hql (hB.isSome (by omega)) ?_ | refine Nx.load rfl rfl rfl (hrd _ _) ?_ | refine Nx.so ?_ | refine Nx.sb (fun bx => ?_) | refine Nx.sa (fun A2 c2 => ?_))
          | ((with_reducible refine Nx.is_at ?_); first | refine Nx.a ?_ | refine Nx.zd ?_ | refine Nx.zs (fun hc => ?_) (fun hc => ?_))
          | ((with_reducible refine Nx.is_mix ?_); first | refine Nx.m ?_ | refine Nx.zm ?_ | refine Nx.zt (fun hc => ?_) (fun hc => ?_))
          | refine Nx.zx ?_ | fail
        exact Nx.ret2 rfl (ROne.cell 0 rfl rfl rfl rfl rfl) (ROne.tmp rfl) [_] ⟨default, rfl, fun h => absurd h (by decide), fun _ => rfl, rfl⟩ ((rowR_nil _).trans (by (exact Ent.auto)))
  rw [List.take_of_length_le (by omega)] at hin
  have he : hideE vs L = 0 := by unfold hideE; rw [if_pos hpw, if_pos (List.all_eq_true.2 hin)]
  rw [he]
  have hLin : ∀ k ∈ L, 0 ≤ k ∧ k < vs.length := fun k hk => by
    have := hin k hk
    unfold inB at this
    exact of_decide_eq_true this
  refine Nx.ent (R' := [Blk b2 62 [.int .i64 num, .slice va v.length vc, .slice D vs.length cd], Blk b4 62 [.int .i64 0, .slice none 0 0, .slice none 0 0], F]) (by (exact Ent.auto)) ?_
  repeat' first
    | ((with_reducible refine Nx.is_wp ?_); first | refine Nx.p_stopr 13 rfl ?_ | refine Nx.wo ?_ | refine Nx.p_drawF (id := 4) rfl [0, 1, 2, 3, 4, 5, 6, 7, 8, 9] [] [] _ rfl rfl (by kernel_rfl) (by kernel_rfl) rfl (by repeat first | exact PanicOk.fn | refine PanicOk.then_ ?_ | refine PanicOk.inB ?_) (Ent.refl _) ?_ | refine Nx.p_poolF (id := 12) rfl [0, 1, 2, 3, 5, 6, 4, 7, 8] [4, 7] [] [10] [10] [⟨9, 9, 62, _⟩] rfl rfl (by kernel_rfl) (by kernel_rfl) (by decide) (PoolFit.cons ⟨⟨_, _, _, rfl⟩, rfl, rfl⟩ PoolFit.nil) (by repeat first | exact PanicOk.fn | refine PanicOk.then_ ?_ | refine PanicOk.inB ?_) (Ent.refl _) ?_ | refine Nx.zp (fun hc => ?_) (fun hc => ?_))
    | ((first | refine Nx.at_op rfl rfl ?_ | refine Nx.m_loud rfl rfl rfl ?_ | refine Nx.at_do rfl rfl rfl rfl ?_ | refine Nx.m_loud_do rfl rfl rfl rfl rfl ?_ | refine GoodF.loud_ rfl rfl rfl rfl (fun ex X => ?_)); first | refine Nx.opr rfl rfl ?_ | (refine Nx.blk_vec 1 0 1 rfl rfl (by omega) ?_; refine Nx.append rfl rfl rfl rfl (by kernel_rfl) rfl (Src.arr hd.arr (by simp) (by omega) (fun u hu => by obtain ⟨z, _, rfl⟩ := List.mem_map.1 hu; rfl)) (by omega) fun D2 cd2 => ?_; rw [Nat.zero_add, List.nil_append]) | refine Nx.so ?_ | refine Nx.sb (fun bx => ?_) | refine Nx.sa (fun A2 c2 => ?_))
    | ((with_reducible refine Nx.is_at ?_); first | refine Nx.a ?_ | refine Nx.zd ?_ | refine Nx.zs (fun hc => ?_) (fun hc => ?_))
    | ((with_reducible refine Nx.is_mix ?_); first | refine Nx.m_quiet rfl rfl rfl rfl rfl (by first | exact QRun.opr rfl | exact QRun.loads rfl rfl rfl (Rds.cut 0 1 rfl rfl) rfl) ?_ | refine Nx.m_quiet_do rfl rfl rfl rfl rfl rfl rfl (by first | exact QRun.opr rfl | exact QRun.loads rfl rfl rfl (Rds.cut 0 1 rfl rfl) rfl) ?_ | refine Nx.m ?_ | refine Nx.zm ?_ | refine Nx.zt (fun hc => ?_) (fun hc => ?_))
    | ((with_reducible refine GoodF.is ?_); first | refine GoodF.quiet rfl rfl rfl rfl rfl rfl (by first | exact QRun.opr rfl | exact QRun.loads rfl rfl rfl (Rds.cut 0 1 rfl rfl) rfl |  exact QRun.std) ?_ | refine GoodF.done1 rfl (fun bx => ?_) | refine GoodF.done2 rfl (fun bx by_ => ?_) | refine GoodF.done3 rfl (fun bx by_ bz => ?_))
    | ((fail_if_success (with_reducible refine Nx.is_at ?_)); (fail_if_success (with_reducible refine Nx.is_wp ?_)); (fail_if_success (with_reducible refine Nx.is_mix ?_)); first | refine Nx.ex ?_ | refine Nx.pool_nextF 0 rfl (by exact Ent.auto) ?_ | refine Nx.pool_nextF 1 rfl (by exact Ent.auto) ?_ | refine Nx.pool_nextF 2 rfl (by exact Ent.auto) ?_ | refine Nx.pool_nextF 3 rfl (by exact Ent.auto) ?_)
  refine Nx.unstop ?_
  revert bx; intro b9
  refine Nx.weak (e' := [(1, .slice B L.length cb), (2, .pointer (some ⟨b2, 0, none⟩)), (4, .pointer (some ⟨b4, 0, none⟩)), (5, .int .i64 0), (9, .pointer (some ⟨b9, 0, none⟩))]) (R' := [Blk b9 62 [.int .i64 num, .slice va v.length vc, .slice D2 vs.length cd2], iR D2 cd2 vs, Blk b2 62 [.int .i64 num, .slice va v.length vc, .slice D vs.length cd], Blk b4 62 [.int .i64 0, .slice none 0 0, .slice none 0 0], F]) ⟨rfl, rfl, rfl, rfl, rfl, trivial⟩ (by (exact Ent.auto)) ?_
  repeat' first
    | ((with_reducible refine Nx.is_wp ?_); first | refine Nx.wo ?_ | refine Nx.zp (fun hc => ?_) (fun hc => ?_))
    | (refine Nx.zo ?_; first | refine Nx.opr rfl rfl ?_ | refine Nx.so ?_ | refine Nx.sb (fun bx => ?_) | refine Nx.sa (fun A2 c2 => ?_))
    | ((with_reducible refine Nx.is_at ?_); first | refine Nx.a ?_ | refine Nx.zd ?_ | refine Nx.zs (fun hc => ?_) (fun hc => ?_))
    | ((with_reducible refine Nx.is_mix ?_); first | refine Nx.m ?_ | refine Nx.zm ?_ | refine Nx.zt (fun hc => ?_) (fun hc => ?_))
    | refine Nx.zx ?_ | fail
  refine Nx.p_loop (σ := Nat) (fun q => [(2, .pointer (some ⟨b2, 0, none⟩)), (4, .pointer (some ⟨b4, 0, none⟩)), (5, .int .i64 0), (9, .pointer (some ⟨b9, 0, none⟩)), (55, .slice B L.length cb), (56, .int .i64 L.length), (57, .int .i64 (q : Int))])
    (fun q => [Vec 3 1 D2 vs.length cd2 ((hidL vs (L.take q)).map (Value.int .i64)), Blk b9 62 [.int .i64 num, .slice va v.length vc, .slice D2 vs.length cd2], Blk b2 62 [.int .i64 num, .slice va v.length vc, .slice D vs.length cd], Blk b4 62 [.int .i64 0, .slice none 0 0, .slice none 0 0], F])
    (fun q => q ≤ L.length) (fun q => L.length - q) 0 rfl (Nat.zero_le _) ⟨rfl, rfl, rfl, rfl, rfl, rfl, rfl, trivial⟩ (by (exact Ent.auto)) ?_
  intro q hq2
  have hhl := hidL_len (L.take q) vs
  by_cases hql : q < L.length
  case neg =>
    rw [List.take_of_length_le (by omega)] at hhl ⊢
    repeat' first
      | ((with_reducible refine Nx.is_wp ?_); first | refine Nx.wo ?_ | refine Nx.zp (fun hc => ?_) (fun hc => ?_))
      | (refine Nx.zo ?_; first | refine Nx.opr rfl rfl ?_ | refine Nx.so ?_ | refine Nx.sb (fun bx => ?_) | refine Nx.sa (fun A2 c2 => ?_))
      | ((with_reducible refine Nx.is_at ?_); first | refine Nx.a ?_ | refine Nx.zd ?_ | refine Nx.zs (fun hc => ?_) (fun hc => ?_))
      | ((with_reducible refine Nx.is_mix ?_); first | refine Nx.m ?_ | refine Nx.zm ?_ | refine Nx.zt (fun hc => ?_) (fun hc => ?_))
      | refine Nx.zx ?_ | fail
    refine Nx.ret2 rfl (ROne.cell 0 rfl rfl rfl rfl rfl) (ROne.tmp rfl) [rowR (D2, cd2, hidL vs L)] ⟨⟨num, va, vc, v, (D2, cd2, hidL vs L)⟩, by unfold relC rowV; dsimp only; rw [hidL_len], fun _ => ⟨rfl, rfl, rfl, rfl, rfl⟩, fun h => absurd rfl h, rfl⟩ ?_
    unfold rowR; dsimp only; rw [hidL_len]; (exact Ent.auto)
  have htk := take_snocJ hql
  have hrd : ∀ (W : World) (R : List Res), Rd W I R ((ad B).add (q * 1)) (.int .i64 (L.getD q default)) := fun W R => hB.rd hql
  have hx := hLin _ (getD_memI hql)
  have hsn := hidL_snoc vs (L.take q) (L.getD q default)
  rw [← htk] at hsn
  generalize L.getD q default = x at htk hrd hx hsn
  obtain ⟨y, rfl⟩ : ∃ y : Nat, x = y := ⟨x.toNat, by omega⟩
  rw [Int.toNat_natCast] at hsn
  have hyl : y < vs.length := by omega
  refine Nx.vec_fact fun _ _ _ hD2 => ?_
  have hD2 := hD2 (by omega)
  repeat' first
    | ((with_reducible refine Nx.is_wp ?_); first | refine Nx.wo ?_ | refine Nx.zp (fun hc => ?_) (fun hc => ?_))
    | (refine Nx.zo ?_; first | refine Nx.opr rfl rfl ?_ | refine Nx.indexAddr_nat (A := B) (i := q) (sz := 1) rfl rfl rfl rfl rfl hql (hB.isSome (by omega)) ?_ | refine Nx.load rfl rfl rfl (hrd _ _) ?_ | refine Nx.indexAddr_nat (A := D2) (i := y) (sz := 1) rfl rfl rfl rfl rfl hyl hD2 ?_ | refine Nx.store_ints 0 (A := D2) (i := y) (l := hidL vs (L.take q)) rfl rfl rfl rfl (by omega) ?_ | refine Nx.so ?_ | refine Nx.sb (fun bx => ?_) | refine Nx.sa (fun A2 c2 => ?_))
    | ((with_reducible refine Nx.is_at ?_); first | refine Nx.a ?_ | refine Nx.zd ?_ | refine Nx.zs (fun hc => ?_) (fun hc => ?_))
    | ((with_reducible refine Nx.is_mix ?_); first | refine Nx.m ?_ | refine Nx.zm ?_ | refine Nx.zt (fun hc => ?_) (fun hc => ?_))
    | refine Nx.zx ?_ | fail
  exact Nx.again (q + 1) hql (by omega) ⟨rfl, rfl, rfl, rfl, rfl, rfl, rfl, trivial⟩ (by rw [hsn]; (exact Ent.auto))
end Go.Proofs.YtcmdemfhbekabaaGreat
/- Contracts of functions of the given program, and lemmas about plain lists and numbers: what the laws of this seat lean on. -/
namespace Go.Proofs.YtcmdemfhbekabaaGreat
open Go.Eng Go.Sol
attribute [local irreducible] opK wpList Code.wp Exit.then Exit.inBlock fnPost bodyPost Nx Calls Oper.wp Rd Rds Wr Ent Stars Blk Again Vec FnSpec wpMix QRun Stop Upto wpAt
/-! The reference: which set comes first; whether a set protects -/
def cfL (w a b : List Int) : Int := if cmpI (wSum w a) (wSum w b) ≠ 0 then cmpI (wSum w a) (wSum w b) else if cmpI (a.length : Int) (b.length : Int) ≠ 0 then cmpI (a.length : Int) (b.length : Int) else cmpL a b
theorem cmpI_ne {a b : Int} (h : a ≠ b) : cmpI a b ≠ 0 := fun h0 => h (cmpI_zero h0)
theorem cmpI_self (a : Int) : cmpI a a = 0 := by unfold cmpI; rw [if_neg (by omega), if_neg (by omega)]
theorem cmpI_neg {a b : Int} : cmpI a b < 0 ↔ a < b := by
  unfold cmpI
  split
  · constructor <;> intro <;> omega
  · split <;> constructor <;> intro <;> omega
set_option maxRecDepth 10000 in
set_option maxHeartbeats 8000000 in
theorem Less_spec (Aw A B : Option Addr) (cw ca cb : Nat) (w a b : List Int) (I : PH) (hW : Ints I Aw cw w) (hA : Ints I A ca a) (hB : Ints I B cb b) (hw : WOk w) (ha : ∀ k ∈ a, 0 ≤ k ∧ k < w.length) (hb : ∀ k ∈ b, 0 ≤ k ∧ k < w.length) (ha9 : a.length ≤ 1000) (hb9 : b.length ≤ 1000) :
    FnSpec Tryz.prog 103 [.slice Aw w.length cw, .slice A a.length ca, .slice B b.length cb] I [] (fun u R' => u = .bool (decide (cfL w a b < 0)) ∧ R' = []) := by
  have hWa := Weight_spec Aw A cw ca w a I hW hA hw ha ha9
  have hWb := Weight_spec Aw B cw cb w b I hW hB hw hb hb9
  unfold cfL
  generalize wSum w a = x at hWa
  generalize wSum w b = y at hWb
  refine FnSpec.enterP Tryz.func103 rfl Tryz.ntmps103 rfl fun w0 F => ?_
  by_cases hxy : x = y
  case neg =>
    rw [if_pos (cmpI_ne hxy), show decide (cmpI x y < 0) = decide (x < y) from decide_eq_decide.2 cmpI_neg]
    repeat' first
      | ((with_reducible refine Nx.is_wp ?_); first | refine Nx.wo ?_ | refine Nx.zp (fun hc => ?_) (fun hc => ?_))
      | (refine Nx.zo ?_; first | refine Nx.opr rfl rfl ?_ | refine Nx.callv rfl rfl rfl (by kernel_rfl) rfl hWa ?_ | refine Nx.callv rfl rfl rfl (by kernel_rfl) rfl hWb ?_ | refine Nx.so ?_ | refine Nx.sb (fun bx => ?_) | refine Nx.sa (fun A2 c2 => ?_))
      | ((with_reducible refine Nx.is_at ?_); first | refine Nx.a ?_ | refine Nx.zd ?_ | refine Nx.zs (fun hc => ?_) (fun hc => ?_))
      | ((with_reducible refine Nx.is_mix ?_); first | refine Nx.m ?_ | refine Nx.zm ?_ | refine Nx.zt (fun hc => ?_) (fun hc => ?_))
      | refine Nx.zx ?_ | fail
    exact Nx.ret_fn rfl [] ⟨rfl, rfl⟩ (by (exact Ent.auto))
  subst hxy
  rw [if_neg (fun h => h (cmpI_self x))]
  by_cases hab : a.length = b.length
  case neg =>
    rw [if_pos (cmpI_ne (by omega)), show decide (cmpI (a.length : Int) (b.length : Int) < 0) = decide ((a.length : Int) < b.length) from decide_eq_decide.2 cmpI_neg]
    repeat' first
      | ((with_reducible refine Nx.is_wp ?_); first | refine Nx.wo ?_ | refine Nx.zp (fun hc => ?_) (fun hc => ?_))
      | (refine Nx.zo ?_; first | refine Nx.opr rfl rfl ?_ | refine Nx.callv rfl rfl rfl (by kernel_rfl) rfl hWa ?_ | refine Nx.callv rfl rfl rfl (by kernel_rfl) rfl hWb ?_ | refine Nx.so ?_ | refine Nx.sb (fun bx => ?_) | refine Nx.sa (fun A2 c2 => ?_))
      | ((with_reducible refine Nx.is_at ?_); first | refine Nx.a ?_ | refine Nx.zd ?_ | refine Nx.zs (fun hc => ?_) (fun hc => ?_))
      | ((with_reducible refine Nx.is_mix ?_); first | refine Nx.m ?_ | refine Nx.zm ?_ | refine Nx.zt (fun hc => ?_) (fun hc => ?_))
      | refine Nx.zx ?_ | fail
    exact Nx.ret_fn rfl [] ⟨rfl, rfl⟩ (by (exact Ent.auto))
  have hz0 : cmpI (a.length : Int) (b.length : Int) = 0 := by rw [hab]; exact cmpI_self _
  rw [if_neg (fun h => h hz0)]
  obtain ⟨z, hz⟩ : ∃ z, z = cmpL a b := ⟨_, rfl⟩
  rw [← hz]
  repeat' first
    | ((with_reducible refine Nx.is_wp ?_); first | refine Nx.wo ?_ | refine Nx.zp (fun hc => ?_) (fun hc => ?_))
    | (refine Nx.zo ?_; first | refine Nx.opr rfl rfl ?_ | refine Nx.callv rfl rfl rfl (by kernel_rfl) rfl hWa ?_ | refine Nx.callv rfl rfl rfl (by kernel_rfl) rfl hWb ?_ | refine Nx.so ?_ | refine Nx.sb (fun bx => ?_) | refine Nx.sa (fun A2 c2 => ?_))
    | ((with_reducible refine Nx.is_at ?_); first | refine Nx.a ?_ | refine Nx.zd ?_ | refine Nx.zs (fun hc => ?_) (fun hc => ?_))
    | ((with_reducible refine Nx.is_mix ?_); first | refine Nx.m ?_ | refine Nx.zm ?_ | refine Nx.zt (fun hc => ?_) (fun hc => ?_))
    | refine Nx.zx ?_ | fail
  refine Nx.p_loop (σ := Nat) (fun q => [(1, .slice A a.length ca), (2, .slice B b.length cb), (33, .int .i64 b.length), (34, .int .i64 (q : Int))])
    (fun _ => [F]) (fun q => q ≤ b.length ∧ z = cmpL (a.drop q) (b.drop q)) (fun q => b.length - q) 0 rfl ⟨Nat.zero_le _, hz⟩ ⟨rfl, rfl, by rw [← hab]; rfl, rfl, trivial⟩ (by (exact Ent.auto)) ?_
  rintro q ⟨hq, he⟩
  by_cases hql : q < b.length
  case neg =>
    have h1 : a.drop q = [] := List.drop_eq_nil_of_le (by omega)
    have h2 : b.drop q = [] := List.drop_eq_nil_of_le (by omega)
    rw [h1, h2, cmpL] at he
    rw [he]
    repeat' first
      | ((with_reducible refine Nx.is_wp ?_); first | refine Nx.wo ?_ | refine Nx.zp (fun hc => ?_) (fun hc => ?_))
      | (refine Nx.zo ?_; first | refine Nx.opr rfl rfl ?_ | refine Nx.so ?_ | refine Nx.sb (fun bx => ?_) | refine Nx.sa (fun A2 c2 => ?_))
      | ((with_reducible refine Nx.is_at ?_); first | refine Nx.a ?_ | refine Nx.zd ?_ | refine Nx.zs (fun hc => ?_) (fun hc => ?_))
      | ((with_reducible refine Nx.is_mix ?_); first | refine Nx.m ?_ | refine Nx.zm ?_ | refine Nx.zt (fun hc => ?_) (fun hc => ?_))
      | refine Nx.zx ?_ | fail
    exact Nx.ret_fn rfl [] ⟨rfl, rfl⟩ (by (exact Ent.auto))
  have hqa : q < a.length := by omega
  rw [drop_atI hqa, drop_atI hql, cmpL_cons] at he
  have r1 : ∀ (W : World) (R : List Res), Rd W I R ((ad A).add (q * 1)) (.int .i64 (a.getD q default)) := fun W R => hA.rd hqa
  have r2 : ∀ (W : World) (R : List Res), Rd W I R ((ad B).add (q * 1)) (.int .i64 (b.getD q default)) := fun W R => hB.rd hql
  generalize a.getD q default = u at he r1
  generalize b.getD q default = v at he r2
  by_cases huv : u = v
  · subst huv
    rw [if_neg (fun h => h (cmpI_self u))] at he
    repeat' first
      | ((with_reducible refine Nx.is_wp ?_); first | refine Nx.wo ?_ | refine Nx.p_draw (id := 9) rfl [0, 1, 2, 3, 4, 5, 6, 7, 8] [] _ rfl rfl (by kernel_rfl) (by kernel_rfl) rfl (by repeat first | exact PanicOk.fn | refine PanicOk.then_ ?_ | refine PanicOk.inB ?_) (Ent.refl _) ?_ | refine Nx.p_draw (id := 10) rfl [0, 1, 2, 3, 4, 5, 6, 7, 8, 9] [] _ rfl rfl (by kernel_rfl) (by kernel_rfl) rfl (by repeat first | exact PanicOk.fn | refine PanicOk.then_ ?_ | refine PanicOk.inB ?_) (Ent.refl _) ?_ | refine Nx.zp (fun hc => ?_) (fun hc => ?_))
      | (refine Nx.zo ?_; first | refine Nx.opr rfl rfl ?_ | refine Nx.so ?_ | refine Nx.sb (fun bx => ?_) | refine Nx.sa (fun A2 c2 => ?_))
      | ((with_reducible refine Nx.is_at ?_); first | refine Nx.a ?_ | refine Nx.zd ?_ | refine Nx.zs (fun hc => ?_) (fun hc => ?_))
      | ((with_reducible refine Nx.is_mix ?_); first | refine Nx.m_quiet rfl rfl rfl rfl rfl (by first | exact QRun.opr rfl | exact QRun.idx (A := A) (i := q) (sz := 1) rfl rfl rfl rfl (by omega) (hA.isSome (by omega)) | exact QRun.idx (A := B) (i := q) (sz := 1) rfl rfl rfl rfl (by omega) (hB.isSome (by omega)) | exact QRun.load rfl rfl (r1 _ _) | exact QRun.load rfl rfl (r2 _ _)) ?_ | refine Nx.m_quiet_do rfl rfl rfl rfl rfl rfl rfl (by first | exact QRun.opr rfl | exact QRun.idx (A := A) (i := q) (sz := 1) rfl rfl rfl rfl (by omega) (hA.isSome (by omega)) | exact QRun.idx (A := B) (i := q) (sz := 1) rfl rfl rfl rfl (by omega) (hB.isSome (by omega)) | exact QRun.load rfl rfl (r1 _ _) | exact QRun.load rfl rfl (r2 _ _)) ?_ | refine Nx.m ?_ | refine Nx.zm ?_ | refine Nx.zt (fun hc => ?_) (fun hc => ?_))
      | refine Nx.zx ?_ | fail
    exact Nx.again (q + 1) ⟨hql, he⟩ (by omega) ⟨rfl, rfl, rfl, rfl, trivial⟩ (by (exact Ent.auto))
  · rw [if_pos (cmpI_ne huv)] at he
    rw [he, show decide (cmpI u v < 0) = decide (u < v) from decide_eq_decide.2 cmpI_neg]
    repeat' first
      | ((with_reducible refine Nx.is_wp ?_); first | refine Nx.wo ?_ | refine Nx.p_draw (id := 9) rfl [0, 1, 2, 3, 4, 5, 6, 7, 8] [] _ rfl rfl (by kernel_rfl) (by kernel_rfl) rfl (by repeat first | exact PanicOk.fn | refine PanicOk.then_ ?_ | refine PanicOk.inB ?_) (Ent.refl _) ?_ | refine Nx.p_draw (id := 10) rfl [0, 1, 2, 3, 4, 5, 6, 7, 8, 9] [] _ rfl rfl (by kernel_rfl) (by kernel_rfl) rfl (by repeat first | exact PanicOk.fn | refine PanicOk.then_ ?_ | refine PanicOk.inB ?_) (Ent.refl _) ?_ | refine Nx.zp (fun hc => ?_) (fun hc => ?_))
      | (refine Nx.zo ?_; first | refine Nx.opr rfl rfl ?_ | refine Nx.so ?_ | refine Nx.sb (fun bx => ?_) | refine Nx.sa (fun A2 c2 => ?_))
      | ((with_reducible refine Nx.is_at ?_); first | refine Nx.a ?_ | refine Nx.zd ?_ | refine Nx.zs (fun hc => ?_) (fun hc => ?_))
      | ((with_reducible refine Nx.is_mix ?_); first | refine Nx.m_quiet rfl rfl rfl rfl rfl (by first | exact QRun.opr rfl | exact QRun.idx (A := A) (i := q) (sz := 1) rfl rfl rfl rfl (by omega) (hA.isSome (by omega)) | exact QRun.idx (A := B) (i := q) (sz := 1) rfl rfl rfl rfl (by omega) (hB.isSome (by omega)) | exact QRun.load rfl rfl (r1 _ _) | exact QRun.load rfl rfl (r2 _ _)) ?_ | refine Nx.m_quiet_do rfl rfl rfl rfl rfl rfl rfl (by first | exact QRun.opr rfl | exact QRun.idx (A := A) (i := q) (sz := 1) rfl rfl rfl rfl (by omega) (hA.isSome (by omega)) | exact QRun.idx (A := B) (i := q) (sz := 1) rfl rfl rfl rfl (by omega) (hB.isSome (by omega)) | exact QRun.load rfl rfl (r1 _ _) | exact QRun.load rfl rfl (r2 _ _)) ?_ | refine Nx.m ?_ | refine Nx.zm ?_ | refine Nx.zt (fun hc => ?_) (fun hc => ?_))
      | refine Nx.zx ?_ | fail
    exact Nx.ret_fn rfl [] ⟨rfl, rfl⟩ (by (exact Ent.auto))
end Go.Proofs.YtcmdemfhbekabaaGreat
