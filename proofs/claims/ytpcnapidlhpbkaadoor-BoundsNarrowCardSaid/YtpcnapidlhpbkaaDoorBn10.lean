/- Contracts of functions of the given program, and lemmas about plain lists and numbers: what the laws of this seat lean on. -/
import Derived.Test.YtpcnapidlhpbkaaDoorRows
import Derived.Test.YtpcnapidlhpbkaaDoorChecked
import Derived.WalkKit
import Derived.ProofKit
import Derived.OpenShut
import Derived.LaidHandle
import Derived.LaidLaws
import Derived.Lib.LaidTab
import Derived.Stop.LaidErr
import Derived.Test.YtpcnapidlhpbkaaDoorBn9
namespace Go.Proofs.YtpcnapidlhpbkaaDoor
open Go.Eng Go.Sol
theorem Rds.sub {W : World} {I : PH} {R : List Res} {A : Addr} {vs us : List Value} (h : Rds W I R A vs) (o : Nat) (hs : ∀ j u, us[j]? = some u → vs[o + j]? = some u) : Rds W I R (A.add o) us := fun j u hj => by
  have := h (o + j) u (hs j u hj)
  rwa [← Addr.add_add] at this
theorem iv_lowC {W : World} {I I' : PH} {R : List Res} {A : Option Addr} {c : Nat} {L : List IvR} {k : Nat} {lo hi : Rat} {op : Bool} (h : SliceN ivC 5 I A c L) (hk : k < L.length) (he : L.getD k default = (lo, hi, op)) (hle : PH.le I I') : Rds W I' R (((ad A).add (k * 5)).add 0) (ratC lo) := by
  have := Rds.sub (us := ratC (L.getD k default).1) ((h.mono hle).rds (W := W) (R := R) hk) 0 fun j u hj => by
    match j, hj with
    | 0, hj => exact hj
    | 1, hj => exact hj
    | j + 2, hj => cases hj
  rwa [he] at this
theorem iv_highC {W : World} {I I' : PH} {R : List Res} {A : Option Addr} {c : Nat} {L : List IvR} {k : Nat} {lo hi : Rat} {op : Bool} (h : SliceN ivC 5 I A c L) (hk : k < L.length) (he : L.getD k default = (lo, hi, op)) (hle : PH.le I I') : Rds W I' R (((ad A).add (k * 5)).add 2) (ratC hi) := by
  have := Rds.sub (us := ratC (L.getD k default).2.1) ((h.mono hle).rds (W := W) (R := R) hk) 2 fun j u hj => by
    match j, hj with
    | 0, hj => exact hj
    | 1, hj => exact hj
    | j + 2, hj => cases hj
  rwa [he] at this
theorem iv_openC {W : World} {I I' : PH} {R : List Res} {A : Option Addr} {c : Nat} {L : List IvR} {k : Nat} {lo hi : Rat} {op : Bool} (h : SliceN ivC 5 I A c L) (hk : k < L.length) (he : L.getD k default = (lo, hi, op)) (hle : PH.le I I') : Rd W I' R (((ad A).add (k * 5)).add 4) (.bool op) := by
  have := (h.mono hle).rds (W := W) (R := R) hk 4 (.bool (L.getD k default).2.2) rfl
  rwa [he] at this
attribute [local irreducible] opK wpList Code.wp Exit.then Exit.inBlock fnPost bodyPost Nx Calls Oper.wp Rd Rds Wr Ent Stars Blk Again Vec FnSpec wpMix QRun Stop Upto wpAt
/-! Fewer equations -/
theorem EqsOk.take {N : Nat} {t : List Int} {most : Int} {qs : List EqR} (h : EqsOk N t most qs) (k : Nat) : EqsOk N t most (qs.take k) :=
  ⟨h.n, h.len, h.tab, by have := h.few; rw [List.length_take]; omega, fun q hq => h.good q (List.mem_of_mem_take hq), fun q hq => h.sum q (List.mem_of_mem_take hq)⟩
theorem Eqs.take {I : PH} {A : Option Addr} {c : Nat} {l : List EqR} (h : Eqs I A c l) (k : Nat) : Eqs I A c (l.take k) := by
  refine ⟨⟨fun j u hj => ?_, by have := h.outer.cap; rw [List.length_take]; omega, h.outer.max, fun x hx => h.outer.cells x (List.mem_of_mem_take hx)⟩, fun q hq => h.inner q (List.mem_of_mem_take hq)⟩
  refine h.outer.arr j u ?_
  have e : l.flatMap eqC = (l.take k).flatMap eqC ++ (l.drop k).flatMap eqC := by rw [← List.flatMap_append, List.take_append_drop]
  rw [e, List.getElem?_append_left (List.getElem?_eq_some_iff.1 hj).1]
  exact hj
theorem take_at {α : Type} [Inhabited α] (l : List α) {n i : Nat} (h : i < n) : (l.take n).getD i default = l.getD i default := by
  rw [List.getD_eq_getElem?_getD, List.getD_eq_getElem?_getD, List.getElem?_take_of_lt h]
theorem toQ_sub {N : Nat} (qs : List EqR) {n n' : Nat} (hn : n ≤ n') (hl : n' ≤ qs.length) : ∀ i, i < (toQ N (qs.take n)).m → i < (toQ N (qs.take n')).m ∧ (toQ N (qs.take n')).cell i = (toQ N (qs.take n)).cell i ∧ (toQ N (qs.take n')).val i = (toQ N (qs.take n)).val i := fun i hi => by
  have hi : i < (qs.take n).length := hi
  have h1 : (qs.take n).length = n := by rw [List.length_take]; omega
  have h2 : (qs.take n').length = n' := by rw [List.length_take]; omega
  have e : (qs.take n').getD i default = (qs.take n).getD i default := by rw [take_at qs (by omega), take_at qs (by omega)]
  refine ⟨show i < (qs.take n').length by omega, funext fun k => ?_, ?_⟩
  · show decide ((k : Int) ∈ ((qs.take n').getD i default).1.2.2) = _
    rw [e]; rfl
  · show ((qs.take n').getD i default).2 = _
    rw [e]; rfl
theorem feas_sub {N : Nat} (qs : List EqR) {n n' : Nat} (hn : n ≤ n') (hl : n' ≤ qs.length) : ∀ x, Bl.Feas (toQ N (qs.take n')) x → Bl.Feas (toQ N (qs.take n)) x := fun _ hx =>
  Bl.Feas.sub (q := toQ N (qs.take n)) (q' := toQ N (qs.take n')) rfl (fun i hi => ⟨i, toQ_sub qs hn hl i hi⟩) hx
theorem unb_sub {N : Nat} (qs : List EqR) {n n' : Nat} (hn : n ≤ n') (hl : n' ≤ qs.length) {k : Nat} (h : Unb (toQ N (qs.take n')) k) : Unb (toQ N (qs.take n)) k := fun i hi => by
  obtain ⟨h1, h2, _⟩ := toQ_sub (N := N) qs hn hl i hi
  rw [← h2]
  exact h i h1
set_option maxRecDepth 10000 in
set_option maxHeartbeats 32000000 in
theorem BoundsNarrow_spec (A : Option Addr) (c : Nat) (l : List Int) (I : PH) (hl : Bytes I A c l) (hx : ∀ x ∈ l, 0 ≤ x ∧ x < 256) (hT : TabI I) :
    FnSpec Tryd.prog 3 [.slice A l.length c] I [] (fun v R' => v = .bool true ∧ R' = []) := by
  have hL := bytes_take hl hx
  refine FnSpec.enterP Tryd.func3 rfl Tryd.ntmps3 rfl fun w F => ?_
  repeat' first
    | ((with_reducible refine Nx.is_wp ?_); first | refine Nx.p_stopr 3 rfl ?_ | refine Nx.wo ?_ | refine Nx.zp (fun hc => ?_) (fun hc => ?_))
    | (refine Nx.zo ?_; first | refine Nx.opr rfl rfl ?_ | (refine Nx.call (Rpre := []) rfl rfl rfl (by kernel_rfl) rfl (New_codes A c l I hl) (Ent.refl _) ?_; rintro _ _ ⟨b, rfl, rfl⟩) | (refine Nx.call rfl rfl rfl (by kernel_rfl) rfl (Equations_made8 b A c _ 0 4 I hL (Nat.zero_le _) (by omega)) (by (exact Ent.auto)) ?_; rintro _ _ ⟨N, At, ct, t, Aq, cq, qs, k1, rfl, ⟨hE, hN8⟩, hk1, rfl⟩) | refine Nx.so ?_ | refine Nx.sb (fun bx => ?_) | refine Nx.sa (fun A2 c2 => ?_))
    | ((with_reducible refine Nx.is_at ?_); first | refine Nx.a ?_ | refine Nx.zd ?_ | refine Nx.zs (fun hc => ?_) (fun hc => ?_))
    | ((with_reducible refine Nx.is_mix ?_); first | refine Nx.m ?_ | refine Nx.zm ?_ | refine Nx.zt (fun hc => ?_) (fun hc => ?_))
    | refine Nx.zx ?_ | fail
  refine Nx.unstop ?_
  refine Nx.giveEq30 (At := At) (ct := ct) (t := t) (A := Aq) (c := cq) (qs := qs) (RR := [F]) (by refine Ent.trans ?_ Ent.stars; unfold eqsR; (exact Ent.auto)) fun I1 hI1 ht hq => ?_
  have hcap := hq.outer.cap
  have hN := hE.n
  have hfew := hE.few
  have hT1 := tab_mono hI1 hT
  repeat' first
    | ((with_reducible refine Nx.is_wp ?_); first | refine Nx.wo ?_ | refine Nx.zp (fun hc => ?_) (fun hc => ?_))
    | (refine Nx.zo ?_; first | refine Nx.opr rfl rfl ?_ | refine Nx.so ?_ | refine Nx.sb (fun bx => ?_) | refine Nx.sa (fun A2 c2 => ?_))
    | ((with_reducible refine Nx.is_at ?_); first | refine Nx.a ?_ | refine Nx.zd ?_ | refine Nx.zs (fun hc => ?_) (fun hc => ?_))
    | ((with_reducible refine Nx.is_mix ?_); first | refine Nx.m ?_ | refine Nx.zm ?_ | refine Nx.zt (fun hc => ?_) (fun hc => ?_))
    | refine Nx.zx ?_ | fail
  refine Nx.p_loop (σ := Nat) (fun n => [(4, .int .i64 (N : Int)), (6, .slice Aq qs.length cq), (21, .slice Aq qs.length cq), (22, .int .i64 qs.length), (23, .int .i64 (n : Int))])
    (fun _ => [F]) (fun n => n ≤ qs.length) (fun n => qs.length - n) 0 rfl (Nat.zero_le _) ⟨rfl, rfl, rfl, rfl, rfl, trivial⟩ (by (exact Ent.auto)) ?_
  intro n hn
  have hn : n ≤ qs.length := hn
  by_cases hlt : n < qs.length
  case neg =>
    repeat' first
      | ((with_reducible refine Nx.is_wp ?_); first | refine Nx.wo ?_ | refine Nx.zp (fun hc => ?_) (fun hc => ?_))
      | (refine Nx.zo ?_; first | refine Nx.opr rfl rfl ?_ | refine Nx.callv rfl rfl rfl (by kernel_rfl) rfl (awakeB_spec _ hT1) ?_ | refine Nx.so ?_ | refine Nx.sb (fun bx => ?_) | refine Nx.sa (fun A2 c2 => ?_))
      | ((with_reducible refine Nx.is_at ?_); first | refine Nx.a ?_ | refine Nx.zd ?_ | refine Nx.zs (fun hc => ?_) (fun hc => ?_))
      | ((with_reducible refine Nx.is_mix ?_); first | refine Nx.m ?_ | refine Nx.zm ?_ | refine Nx.zt (fun hc => ?_) (fun hc => ?_))
      | refine Nx.zx ?_ | fail
    exact Nx.imm_le hI1 (Nx.ret_fn rfl [] ⟨rfl, rfl⟩ (by (exact Ent.auto)))
  have hl1 : (qs.take n).length = n := by rw [List.length_take]; omega
  have hl2 : (qs.take (n + 1)).length = n + 1 := by rw [List.length_take]; omega
  have hB1 := bBounds_made (hE.take n) hN8 (by omega) (by omega) Aq cq I1 (Eqs.take hq n) hT1
  have hB2 := bBounds_made (hE.take (n + 1)) hN8 (by omega) (by omega) Aq cq I1 (Eqs.take hq (n + 1)) hT1
  rw [hl1] at hB1
  rw [hl2] at hB2
  have hsub := feas_sub (N := N) qs (n := n) (n' := n + 1) (by omega) (by omega)
  have husub := fun k => unb_sub (N := N) (k := k) qs (n := n) (n' := n + 1) (by omega) (by omega)
  repeat' first
    | ((with_reducible refine Nx.is_wp ?_); first | refine Nx.p_stop 8 rfl ?_ | refine Nx.wo ?_ | refine Nx.zp (fun hc => ?_) (fun hc => ?_))
    | (refine Nx.zo ?_; first | refine Nx.opr rfl rfl ?_ | refine Nx.slice_hi (h := n) rfl rfl rfl rfl rfl (by omega) ?_ | refine Nx.slice_hi (h := n + 1) rfl rfl rfl rfl rfl (by omega) ?_ | (refine Nx.call (Rpre := []) rfl rfl rfl (by kernel_rfl) rfl hB1 (Ent.refl _) ?_; rintro _ _ ⟨Ax, cx, La, hLa, hoka, rfl, rfl⟩) | (refine Nx.call (Rpre := []) rfl rfl rfl (by kernel_rfl) rfl hB2 (Ent.refl _) ?_; rintro _ _ ⟨Ay, cy, Lb, hLb, hokb, rfl, rfl⟩) | refine Nx.so ?_ | refine Nx.sb (fun bx => ?_) | refine Nx.sa (fun A2 c2 => ?_))
    | ((with_reducible refine Nx.is_at ?_); first | refine Nx.a ?_ | refine Nx.zd ?_ | refine Nx.zs (fun hc => ?_) (fun hc => ?_))
    | ((with_reducible refine Nx.is_mix ?_); first | refine Nx.m ?_ | refine Nx.zm ?_ | refine Nx.zt (fun hc => ?_) (fun hc => ?_))
    | refine Nx.zx ?_ | fail
  refine Nx.unstop ?_
  refine Nx.ent (R' := [Vec 37 5 Ax La.length cx (La.flatMap ivC), Vec 37 5 Ay Lb.length cy (Lb.flatMap ivC), F]) (by (exact Ent.auto)) ?_
  refine Nx.freezeAt 0 rfl fun I3 m3 hI3 hm3 h3 => ?_
  refine Nx.freezeAt 0 rfl fun I4 m4 hI4 hm4 h4 => ?_
  have hRa : SliceN ivC 5 I4 Ax cx La := Vec.sliceN (t := 37) (hm3.trans hI4) h3 fun _ _ => rfl
  have hRb : SliceN ivC 5 I4 Ay cy Lb := Vec.sliceN (t := 37) hm4 h4 fun _ _ => rfl
  have hI14 := hI3.trans hI4
  have hLaN : (La.length : Int) = (N : Int) := by omega
  have hLbN : (Lb.length : Int) = (N : Int) := by omega
  repeat' first
    | ((with_reducible refine Nx.is_wp ?_); first | refine Nx.wo ?_ | refine Nx.zp (fun hc => ?_) (fun hc => ?_))
    | (refine Nx.zo ?_; first | refine Nx.opr rfl rfl ?_ | refine Nx.so ?_ | refine Nx.sb (fun bx => ?_) | refine Nx.sa (fun A2 c2 => ?_))
    | ((with_reducible refine Nx.is_at ?_); first | refine Nx.a ?_ | refine Nx.zd ?_ | refine Nx.zs (fun hc => ?_) (fun hc => ?_))
    | ((with_reducible refine Nx.is_mix ?_); first | refine Nx.m ?_ | refine Nx.zm ?_ | refine Nx.zt (fun hc => ?_) (fun hc => ?_))
    | refine Nx.zx ?_ | fail
  refine Nx.p_loop (σ := Nat) (fun x => [(4, .int .i64 (N : Int)), (6, .slice Aq qs.length cq), (8, .slice Ax La.length cx), (10, .slice Ay Lb.length cy), (21, .slice Aq qs.length cq), (22, .int .i64 qs.length), (23, .int .i64 (n : Int)), (61, .slice Ax La.length cx), (62, .int .i64 La.length), (63, .int .i64 (x : Int))])
    (fun _ => [F]) (fun x => x ≤ La.length) (fun x => La.length - x) 0 rfl (Nat.zero_le _) ⟨rfl, rfl, rfl, rfl, rfl, rfl, rfl, rfl, rfl, rfl, trivial⟩ (by (exact Ent.auto)) ?_
  intro x hx
  have hx : x ≤ La.length := hx
  by_cases hxa : x < La.length
  case neg =>
    repeat' first
      | ((with_reducible refine Nx.is_wp ?_); first | refine Nx.wo ?_ | refine Nx.zp (fun hc => ?_) (fun hc => ?_))
      | (refine Nx.zo ?_; first | refine Nx.opr rfl rfl ?_ | refine Nx.so ?_ | refine Nx.sb (fun bx => ?_) | refine Nx.sa (fun A2 c2 => ?_))
      | ((with_reducible refine Nx.is_at ?_); first | refine Nx.a ?_ | refine Nx.zd ?_ | refine Nx.zs (fun hc => ?_) (fun hc => ?_))
      | ((with_reducible refine Nx.is_mix ?_); first | refine Nx.m ?_ | refine Nx.zm ?_ | refine Nx.zt (fun hc => ?_) (fun hc => ?_))
      | refine Nx.zx ?_ | fail
    exact Nx.imm_le hI14 (Nx.again (n + 1) hlt (by omega) ⟨rfl, rfl, rfl, rfl, rfl, trivial⟩ (by (exact Ent.auto)))
  have hxb : x < Lb.length := by omega
  have hoa := hoka x (by omega)
  have hob := hokb x (by omega)
  have hlow := hoa.low.narrow_low hob.low hsub
  have hAx := hRa.isSome (by omega) (by omega)
  have hAy := hRb.isSome (by omega) (by omega)
  generalize hea : La.getD x default = pa at hoa hlow
  generalize heb : Lb.getD x default = pb at hob hlow
  obtain ⟨alo, ahi, ao⟩ := pa
  obtain ⟨blo, bhi, bo⟩ := pb
  dsimp only at hlow
  have a0 := fun (W : World) (R : List Res) => iv_lowC (W := W) (R := R) hRa hxa hea (PH.le_refl _)
  have a1 := fun (W : World) (R : List Res) => iv_highC (W := W) (R := R) hRa hxa hea (PH.le_refl _)
  have a2 := fun (W : World) (R : List Res) => iv_openC (W := W) (R := R) hRa hxa hea (PH.le_refl _)
  have b0 := fun (W : World) (R : List Res) => iv_lowC (W := W) (R := R) hRb hxb heb (PH.le_refl _)
  have b1 := fun (W : World) (R : List Res) => iv_highC (W := W) (R := R) hRb hxb heb (PH.le_refl _)
  have b2 := fun (W : World) (R : List Res) => iv_openC (W := W) (R := R) hRb hxb heb (PH.le_refl _)
  have hLs1 := rLess_rat blo alo hob.rlow hoa.rlow I4
  rw [decide_eq_false (Rat.not_lt.2 hlow)] at hLs1
  cases ao with
  | true =>
    repeat' first
      | ((with_reducible refine Nx.is_wp ?_); first | refine Nx.wo ?_ | refine Nx.p_drawF (id := 13) rfl [0, 1, 2, 3, 4, 5, 6, 7, 8, 9, 10, 11, 12, 13, 14, 15, 16, 17, 18, 19, 20, 21, 22, 23, 24, 25, 26, 27, 28, 29, 30, 31, 32, 33, 34] [10] [35, 36, 37, 38] _ rfl rfl (by kernel_rfl) (by kernel_rfl) rfl (by repeat first | exact PanicOk.fn | refine PanicOk.then_ ?_ | refine PanicOk.inB ?_) (Ent.refl _) ?_ | refine Nx.zp (fun hc => ?_) (fun hc => ?_))
      | (refine Nx.zo ?_; first | refine Nx.opr rfl rfl ?_ | refine Nx.callv rfl rfl rfl (by kernel_rfl) rfl hLs1 ?_ | refine Nx.so ?_ | refine Nx.sb (fun bx => ?_) | refine Nx.sa (fun A2 c2 => ?_))
      | ((with_reducible refine Nx.is_at ?_); first | refine Nx.a ?_ | refine Nx.zd ?_ | refine Nx.zs (fun hc => ?_) (fun hc => ?_))
      | ((with_reducible refine Nx.is_mix ?_); first | refine Nx.m_quiet rfl rfl rfl rfl rfl (by first | exact QRun.fld (A := (ad Ax).add (x * 5)) rfl rfl | exact QRun.fld (A := (ad Ay).add (x * 5)) rfl rfl | exact QRun.opr rfl | exact QRun.idx (A := Ax) (i := x) (sz := 5) rfl rfl rfl rfl hxa hAx | exact QRun.idx (A := Ay) (i := x) (sz := 5) rfl rfl rfl rfl hxb hAy | exact QRun.loads rfl rfl rfl (a0 _ _) rfl | exact QRun.loads rfl rfl rfl (b0 _ _) rfl | exact QRun.load rfl rfl (a2 _ _)) ?_ | refine Nx.m_quiet_do rfl rfl rfl rfl rfl rfl rfl (by first | exact QRun.fld (A := (ad Ax).add (x * 5)) rfl rfl | exact QRun.fld (A := (ad Ay).add (x * 5)) rfl rfl | exact QRun.opr rfl | exact QRun.idx (A := Ax) (i := x) (sz := 5) rfl rfl rfl rfl hxa hAx | exact QRun.idx (A := Ay) (i := x) (sz := 5) rfl rfl rfl rfl hxb hAy | exact QRun.loads rfl rfl rfl (a0 _ _) rfl | exact QRun.loads rfl rfl rfl (b0 _ _) rfl | exact QRun.load rfl rfl (a2 _ _)) ?_ | refine Nx.m ?_ | refine Nx.zm ?_ | refine Nx.zt (fun hc => ?_) (fun hc => ?_))
      | refine Nx.zx ?_ | fail
    exact Nx.again (x + 1) hxa (by omega) ⟨rfl, rfl, rfl, rfl, rfl, rfl, rfl, rfl, rfl, rfl, trivial⟩ (by (exact Ent.auto))
  | false =>
    have hbo : bo = false := by
      cases bo with
      | false => rfl
      | true => exact Bool.noConfusion (hoa.opn.2 (husub x (hob.opn.1 rfl)))
    subst hbo
    have hhigh : bhi ≤ ahi := (hoa.high rfl).narrow_high (hob.high rfl) hsub
    have hLs2 := rLess_rat ahi bhi hoa.rhigh hob.rhigh I4
    rw [decide_eq_false (Rat.not_lt.2 hhigh)] at hLs2
    repeat' first
      | ((with_reducible refine Nx.is_wp ?_); first | refine Nx.wo ?_ | refine Nx.p_drawF (id := 13) rfl [0, 1, 2, 3, 4, 5, 6, 7, 8, 9, 10, 11, 12, 13, 14, 15, 16, 17, 18, 19, 20, 21, 22, 23, 24, 25, 26, 27, 28, 29, 30, 31, 32, 33, 34] [10] [35, 36, 37, 38] _ rfl rfl (by kernel_rfl) (by kernel_rfl) rfl (by repeat first | exact PanicOk.fn | refine PanicOk.then_ ?_ | refine PanicOk.inB ?_) (Ent.refl _) ?_ | refine Nx.zp (fun hc => ?_) (fun hc => ?_))
      | (refine Nx.zo ?_; first | refine Nx.opr rfl rfl ?_ | refine Nx.callv rfl rfl rfl (by kernel_rfl) rfl hLs1 ?_ | refine Nx.callv rfl rfl rfl (by kernel_rfl) rfl hLs2 ?_ | refine Nx.so ?_ | refine Nx.sb (fun bx => ?_) | refine Nx.sa (fun A2 c2 => ?_))
      | ((with_reducible refine Nx.is_at ?_); first | refine Nx.a ?_ | refine Nx.zd ?_ | refine Nx.zs (fun hc => ?_) (fun hc => ?_))
      | ((with_reducible refine Nx.is_mix ?_); first | refine Nx.m_quiet rfl rfl rfl rfl rfl (by first | exact QRun.fld (A := (ad Ax).add (x * 5)) rfl rfl | exact QRun.fld (A := (ad Ay).add (x * 5)) rfl rfl | exact QRun.opr rfl | exact QRun.idx (A := Ax) (i := x) (sz := 5) rfl rfl rfl rfl hxa hAx | exact QRun.idx (A := Ay) (i := x) (sz := 5) rfl rfl rfl rfl hxb hAy | exact QRun.loads rfl rfl rfl (a0 _ _) rfl | exact QRun.loads rfl rfl rfl (b0 _ _) rfl | exact QRun.load rfl rfl (a2 _ _) | exact QRun.load rfl rfl (b2 _ _) | exact QRun.loads rfl rfl rfl (a1 _ _) rfl | exact QRun.loads rfl rfl rfl (b1 _ _) rfl) ?_ | refine Nx.m_quiet_do rfl rfl rfl rfl rfl rfl rfl (by first | exact QRun.fld (A := (ad Ax).add (x * 5)) rfl rfl | exact QRun.fld (A := (ad Ay).add (x * 5)) rfl rfl | exact QRun.opr rfl | exact QRun.idx (A := Ax) (i := x) (sz := 5) rfl rfl rfl rfl hxa hAx | exact QRun.idx (A := Ay) (i := x) (sz := 5) rfl rfl rfl rfl hxb hAy | exact QRun.loads rfl rfl rfl (a0 _ _) rfl | exact QRun.loads rfl rfl rfl (b0 _ _) rfl | exact QRun.load rfl rfl (a2 _ _) | exact QRun.load rfl rfl (b2 _ _) | exact QRun.loads rfl rfl rfl (a1 _ _) rfl | exact QRun.loads rfl rfl rfl (b1 _ _) rfl) ?_ | refine Nx.m ?_ | refine Nx.zm ?_ | refine Nx.zt (fun hc => ?_) (fun hc => ?_))
      | refine Nx.zx ?_ | fail
    exact Nx.again (x + 1) hxa (by omega) ⟨rfl, rfl, rfl, rfl, rfl, rfl, rfl, rfl, rfl, rfl, trivial⟩ (by (exact Ent.auto))
end Go.Proofs.YtpcnapidlhpbkaaDoor
/- Contracts of functions of the given program, and lemmas about plain lists and numbers: what the laws of this seat lean on. -/
namespace Go.Proofs.YtpcnapidlhpbkaaDoor
open Go.Eng
/-! The table that the program reads -/
theorem g64 : Tryd.prog.globalNamed  "math/bits.deBruijn64tab" = some 0 := by kernel_rfl
theorem g64T : (Tryd.prog.globals[0]?).map (·.type) = some 141 := by kernel_rfl
theorem c5 : Tryd.prog.cellsOf 5 = 1 := by kernel_rfl
theorem c79 : Tryd.prog.cellsOf 141 = 64 := by kernel_rfl
abbrev laid1 : List (String × DataW Unit) := [("math/bits.deBruijn64tab", Rows.laid_math_bits_deBruijn64tab)]
def setBlk (cs : List Value) : Obj → Obj
  | .cells _ t frozen => .cells cs.toArray t frozen
  | o => o
/-- The settled world, the table holding what its initialiser lays: the witness. -/
noncomputable def laidWorld (os : Os) : World :=
  { World.holding Tryd.prog os ⟨#[], #[], []⟩ with heap := (World.holding Tryd.prog os ⟨#[], #[], []⟩).heap.modify 0 (setBlk (Lib.deBruijn64tab.map fun z : Nat => Value.int .u8 z)) }
theorem laidWorld_met (os : Os) (args : Array Value) : laidMetH Tryd.prog laid1 ((laidWorld os).forCall (fun _ _ => 0) ⟨#[], args, []⟩).memory :=
  laidMetH_of_parts (laidMet_of_run' 8 (by kernel_rfl) (by kernel_rfl)) (by kernel_rfl)
theorem heap_keep {W w0 w : World} {R : List Res} (h : St w0 (fun i => W.heap[i]?) R w) {i : Nat} {o : Obj} (ho : W.heap[i]? = some o) : w.heap[i]? = some o := by
  obtain ⟨m, _, hs⟩ := h.mem
  exact hs.imm i o ho
theorem var_keep {W w0 w : World} {R : List Res} (h : St w0 (fun i => W.heap[i]?) R w) {P : Program} {name : String} {k : IntKind} {zs : List Int} (ht : Lib.TabIs P W name k zs) : Lib.TabIs P w name k zs := by
  unfold Lib.TabIs World.var? at *
  cases hg : P.globalNamed name with
  | none => simp [hg] at ht
  | some g =>
    simp only [hg, Option.bind_some] at ht ⊢
    cases ho : W.heap[g]? with
    | none => rw [ho] at ht; simp at ht
    | some o => rw [heap_keep h ho]; rw [ho] at ht; exact ht
theorem tab_of {W : World} (h : laidMetH Tryd.prog laid1 W) : TabI (fun i => W.heap[i]?) := fun _ _ _ hst j hj => by
  have h1 : Lib.TabIs Tryd.prog W  "math/bits.deBruijn64tab" .u8 (Lib.deBruijn64tab.map fun z : Nat => (z : Int)) := Lib.tabIs_of_head g64 g64T Tryd.underlying141 Tryd.underlying5 c5 c79 (h : laidMet Tryd.prog laid1 W)
  have h2 := (var_keep hst h1).cell g64 j (by rw [List.length_map]; exact hj)
  rw [show (Lib.deBruijn64tab.map fun z : Nat => (z : Int)).getD j 0 = ((Lib.deBruijn64tab.getD j 0 : Nat) : Int) by
    rw [List.getD_eq_getElem?_getD, List.getD_eq_getElem?_getD, List.getElem?_map]
    cases Lib.deBruijn64tab[j]? <;> rfl] at h2
  exact h2
end Go.Proofs.YtpcnapidlhpbkaaDoor
